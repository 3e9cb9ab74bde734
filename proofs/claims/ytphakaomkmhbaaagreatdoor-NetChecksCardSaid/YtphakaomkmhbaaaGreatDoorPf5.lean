/- Laws and contracts that the card of this claim stands on, part 6. No condition of ours. -/
import Derived.Test.YtphakaomkmhbaaaGreatDoorPf0
import Derived.Test.YtphakaomkmhbaaaGreatDoorPf1
import Derived.Test.YtphakaomkmhbaaaGreatDoorPf2
import Derived.Test.YtphakaomkmhbaaaGreatDoorPf3
import Derived.Test.YtphakaomkmhbaaaGreatDoorPf4
set_option maxRecDepth 100000
set_option maxHeartbeats 4000000
namespace Go.Proofs.YtphakaomkmhbaaaGreatDoor
open Go.RowKit
open Go.RowKit Go.Shelf
theorem ln_one {h:Hp}{ts:List LV}{ls:List Lay}(r:RNetL h ts ls):∀ t∈ts,(lvc t).all (·.oneCell')=true:=fun t ht=>by
  obtain ⟨i,hi,e⟩:=List.mem_iff_getElem.1 ht
  obtain ⟨_,⟨A,c,us,e1,_⟩,⟨B,d,rs,e2,_⟩⟩:=r.at_ i (by rw[←r.len];exact hi)
  have e3:ts.getD i lvd=t:=by simp[hi,e]
  rw[e3] at e1 e2
  unfold lvc;rw[e1,e2];rfl
theorem rv_one {h:Hp}{us:List Value}{W:List (List Rat)}(r:RVs h us W):∀ v∈us,(vc v).all (·.oneCell')=true:=fun v hv=>by
  obtain ⟨i,hi,e⟩:=List.mem_iff_getElem.1 hv
  obtain ⟨A,c,ts,e1,_⟩:=r.at_ i (by rw[←r.len];exact hi)
  have e3:us.getD i undef=v:=by simp[hi,e]
  rw[e3] at e1
  unfold vc;rw[e1];rfl
structure LayS4 (L:Lay):Prop where
  rl:L.W.length≤4
  rls:∀ i,(L.W.getD i []).length≤4
  bl:L.B.length≤4
  w:∀ i j,LQ 1 ((L.W.getD i []).getD j 0)
  b:∀ i,LQ 1 (L.B.getD i 0)
theorem LayS4.sz {L:Lay}(h:LayS4 L):LaySz L:=⟨by have:=h.rl;omega,fun i=>by have:=h.rls i;omega,by have:=h.bl;omega,h.w,h.b⟩
theorem sz_set {ls:List Lay}(h:∀ i,LaySz (ls.getD i lay0)){k:Nat}{L:Lay}(hL:LaySz L):∀ i,LaySz ((ls.set k L).getD i lay0):=fun i=>by
  rcases Nat.lt_or_ge k ls.length with hk|hk
  · rw[getD_set_ hk];split
    · exact hL
    · exact h i
  · rw[List.set_eq_of_length_le hk];exact h i
theorem sz_app {a b:List Lay}(h:∀ i,LaySz (a.getD i lay0))(h2:∀ i,LaySz (b.getD i lay0)):∀ i,LaySz ((a++b).getD i lay0):=fun i=>by
  rw[getD_app_];split
  · exact h i
  · exact h2 _
theorem lay_wide {L:Lay}(z:LayS4 L){r:List Rat}(hl:r.length≤8)(hq:∀ i,LQ 1 (r.getD i 0)):LaySz ⟨L.k,L.W++[r],L.B⟩:=by
  refine ⟨by show (L.W++[r]).length≤8;rw[List.length_append,List.length_singleton];have:=z.rl;omega,fun i=>?_,z.sz.bl,fun i j=>?_,z.b⟩
  · show ((L.W++[r]).getD i []).length≤8
    rw[getD_snoc];split
    · exact z.sz.rls i
    · split
      · exact hl
      · exact Nat.zero_le _
  · show LQ 1 (((L.W++[r]).getD i []).getD j 0)
    rw[getD_snoc];split
    · exact z.w i j
    · split
      · exact hq j
      · exact lq0'
theorem lq_rep {n:Nat}(i:Nat):LQ 1 ((List.replicate n ((1:Int):Rat)).getD i 0):=by
  rw[List.getD_eq_getElem?_getD,List.getElem?_replicate];split
  · exact LQ.lit (z:=1) kD
  · exact lq0'
theorem mUnit (n:Nat)(hn:n≤1000000)(w:World)(h:Hp)(g:G w h) :
    Calls Tryz.prog 99 #[.int .i64 (n:Nat)] w (Ret w h fun v h1=>∃ A c ts,v=.slice A (ts:List RT).length c∧ts.length≤c∧SlO 3 rqc rqd h1 A ts∧RTs h1 ts (List.replicate n ((1:Int):Rat))):=by
 have hs:=SS.start g
 refine go Tryz.func99 [(0,.int .i64 (n:Nat))] rfl ?_
 refine cSL (lL hs [.v 2 (.slice none 0 0)] (lNS (lL hs [.v 3 (.slice none 0 0)] (lN (CG.seq (cSL (lL hs [.v 4 (.int .i64 0)] (lN (CG.block ?_)))))))))
 replace hs:=hs.nil 86 3
 refine cTo [(0,.int .i64 (n:Nat)),(2,.slice none 0 0),(4,.int .i64 0),(3,.slice none 0 0)] ?_
 replace hs:=hs.add (K:=fun h_=>RTs h_ ([]) (List.replicate 0 ((1:Int):Rat))) (RTs.nil)
 refine CG.loop (fun μ_ Γ w_=>∃ (k:Nat) (sA:Option Addr) (sc:Nat) (tl:List RT) (h_:Hp),μ_=n-k∧Γ=[(0,.int .i64 (n:Nat)),(2,.slice none 0 0),(4,.int .i64 (k:Nat)),(3,.slice sA ((tl).length) sc)]∧SS w h w_ h_ [] [⟨86,3,sA,sc,(tl).length,(tl).flatMap rqc⟩] [fun h_=>RTs h_ tl (List.replicate k ((1:Int):Rat))]∧(k≤n)) _ ⟨0,none,0,[],h,rfl,rfl,hs.to _ _,Nat.zero_le _⟩ ?_
 rintro _ _ w1 ⟨k,sA,sc,tl,h2,hm3,rfl,hs,hk⟩
 have hlT:=(hs.f.1).len
 rw[List.length_replicate] at hlT
 refine CG.seq (cSL (lL hs [.m 5 4,.m 6 0] ?_))
 cases hb4:(decide (((k:Nat):Int)<((n:Nat):Int)))
 ·
  have phb4:=oF hb4
  refine lB 7 hb4 ?_
  refine lN (cIF (CG.exit ?_))
  show CG _ _ _ _ _ _ _ _
  refine cSL (lL hs [.m 14 3,.m 2 14] (lN (CG.ret ?_)))
  have hkn:k=n:=by omega
  obtain ⟨h5,hs,hc6⟩:=hs.pubr 0 (A:=sA) (c:=sc) (l:=tl) (f:=rqc) (ty:=86) (sz:=3) rqd (fun _=>rfl)
  exact hs.ret [] (.slice sA ((tl).length) sc) (by rw[←hkn];exact ⟨_,_,tl,rfl,hc6,(hs.f.1),(hs.f.2.1)⟩)
 have phb4:=oT hb4
 refine lB 7 hb4 ?_
 refine lN (cIT (CG.skipN (CG.seq (CG.block (CG.listed (lL hs [.m 10 3] (lC 11 hs (rOf 1 oM oM _ _ hs.g) ?_)))))))
 rintro _ w16 h17 hs ⟨A8,c9,A12,c13,rfl,hc10,hc14,hA11,hA15⟩
 replace hs:=((hs.a_SlO hA11).a_SlO hA15)
 refine lR 12 86 1 ([.bool (ineg ((1:Int):Rat).num),.slice A8 ((lim (iabs ((1:Int):Rat).num)).length) c9,.slice A12 ((lim ((1:Int):Rat).den).length) c13]) hs (fun b18 w19 h20 hs=>?_)
 refine lY 13 0 86 3 sc sA tl rqc ((ineg ((1:Int):Rat).num,.slice A8 ((lim (iabs ((1:Int):Rat).num)).length) c9,.slice A12 ((lim ((1:Int):Rat).den).length) c13):RT) 56 b18 (.agg #[.bool false,.slice none 0 0,.slice none 0 0]) hs (hs.f.1) (fun A22 c23 w24 h25 hs=>?_)
 refine lL hs [.m 3 13] (lN (CG.listed (lL hs [.m 8 4] (lIn 9 ((k:Nat)+1) (k+1) ?_))))
 refine lL hs [.m 4 9] (lD ?_)
 intro a_ ka
 have q27:RTs h25 (tl++[((ineg ((1:Int):Rat).num,.slice A8 ((lim (iabs ((1:Int):Rat).num)).length) c9,.slice A12 ((lim ((1:Int):Rat).den).length) c13):RT)]) (List.replicate (k+1) ((1:Int):Rat)):=(by rw[List.replicate_succ'];exact RTs.snoc (hs.f.2.2.2.1) (rqOk hc10 hc14 (hs.f.2.2.1) (hs.f.2.1)))
 have q28:(k+1)≤n:=by omega
 replace hs:=(hs.tl.tl.tl.tl.add (K:=fun h_=>RTs h_ (tl++[((ineg ((1:Int):Rat).num,.slice A8 ((lim (iabs ((1:Int):Rat).num)).length) c9,.slice A12 ((lim ((1:Int):Rat).den).length) c13):RT)]) (List.replicate (k+1) ((1:Int):Rat))) q27)
 refine ⟨_,_,?_,⟨k+1,A22,c23,tl++[((ineg ((1:Int):Rat).num,.slice A8 ((lim (iabs ((1:Int):Rat).num)).length) c9,.slice A12 ((lim ((1:Int):Rat).den).length) c13):RT)],h25,rfl,rfl,hs.to _ _,q28⟩,ka.to [(0,.int .i64 (n:Nat)),(2,.slice none 0 0),(4,.int .i64 ((k+1):Nat)),(3,.slice A22 (((tl++[((ineg ((1:Int):Rat).num,.slice A8 ((lim (iabs ((1:Int):Rat).num)).length) c9,.slice A12 ((lim ((1:Int):Rat).den).length) c13):RT)])).length) c23)] kR⟩
 omega
theorem mSpoiltN (A:Option Addr)(cap:Nat)(ts:List LV)(ls:List Lay)(hne:0<ls.length)(hl2:ls.length≤2)(hZ:∀ i,LayS4 (ls.getD i lay0))(hp:∀ i,i<ls.length→0<(ls.getD i lay0).W.length∧0<(ls.getD i lay0).B.length)(way at_ by_:Int)(w:World)(h:Hp)(g:G w h)(hA:SlO 3 lvc lvd h A ts)(hN:RNetL h ts ls) :
    Calls Tryz.prog 23 #[.agg #[.slice A ts.length cap],.int .i64 way,.int .i64 at_,.int .i64 by_] w (Ret w h fun v h1=>∃ A c,∃ ts2:List LV,∃ ls2:List Lay,v=.agg #[.slice A ts2.length c]∧ts2.length≤c∧SlO 3 lvc lvd h1 A ts2∧RNetL h1 ts2 ls2∧ls2.length≤4∧∀ i,LaySz (ls2.getD i lay0)):=by
 have hs:=SS.start g
 replace hs:=((hs.a_SlO hA).add (K:=fun h_=>RNetL h_ ts ls) hN)
 have hlt:=(hs.f.1).len
 refine go Tryz.func23 [(0,.agg #[.slice A ts.length cap]),(1,.int .i64 way),(2,.int .i64 at_),(3,.int .i64 by_)] rfl ?_
 refine cSL (lA 4 49 ([.slice A ts.length cap]) hs (fun b1 w2 h3 hs=>?_))
 refine lA 8 49 ([.slice none 0 0]) hs (fun b4 w5 h6 hs=>?_)
 refine lNS (lR 10 168 0 ([]) hs (fun b7 w8 h9 hs=>?_))
 refine lL hs [.v 11 (.pointer (some ⟨b1,0,none⟩)),.o 12 (.slice A ts.length cap) 1 0 1] (lYz 13 168 3 lvc lvd b7 A ts cap 56 (.agg #[.int .i64 0,.slice none 0 0,.slice none 0 0]) hs (hs.f.2.2.1) oM (ln_one (hs.f.2.1)) (fun A11 c12 w13 h14 hs=>?_))
 refine lL hs [.v 14 (.pointer (some ⟨b1,0,none⟩))] (lP 1 0 ([.slice A11 ((ts).length) c12]) hs (fun w16 hs=>?_))
 refine lN (CG.seq (cR 8 [] mixed hs al_nil ?_))
 refine eV 0 15 (.pointer (some ⟨b1,0,none⟩)) ?_
 refine eO 1 16 [(1,0,1)] (.slice A11 ((ts).length) c12) hs ?_
 refine eV 2 17 (.int .i64 at_) ?_
 refine eV 3 18 (.pointer (some ⟨b1,0,none⟩)) ?_
 refine eO 4 19 [(1,0,1)] (.slice A11 ((ts).length) c12) hs ?_
 refine eV 5 20 (.int .i64 ((ts).length:Nat)) ?_
 refine eC 6 21 hs (fun _ _ hs=>hPick (at_) ((ts).length) oM oM _ _ hs.g) ?_
 rintro _ _ _ w17 h18 hs rfl
 have lp0:=pick_lt (at_) ((ts).length) oM
 obtain ⟨bR19,hbR20⟩:=hs.rowA 0 (A:=A11) (c:=c12) (m:=(ts).length) (ty:=168) (sz:=3) (cs:=(ts).flatMap lvc) oM
 subst hbR20
 refine eX 7 22 (some ⟨bR19,0,none⟩) ((ts).length) c12 3 (pick (at_) ((ts).length):Nat) (pick (at_) ((ts).length):Nat) rfl ?_
 refine eD0 hs (fun w21 h22 hs=>?_)
 refine tV 8 9 (.pointer (some ⟨bR19,0+(pick (at_) ((ts).length):Nat)*3,none⟩)) ?_
 refine tN (CG.seq (cSL (lL hs [.m 23 1] (lC 24 hs (hPick (way) 10 oM oM _ _ hs.g) ?_))))
 rintro _ w23 h24 hs rfl
 have lp1:=pick_lt (way) 10 oM
 refine lN (CG.block (cSL ?_))
 cases hb25:(((pick (way) 10:Nat):Int) == (0:Int))
 ·
  have phb25:=neOfBeq hb25
  refine lB 26 hb25 ?_
  refine lL hs [.m 25 26] (lN (cIF (cSL ?_)))
  cases hb26:(((pick (way) 10:Nat):Int) == (1:Int))
  ·
   have phb26:=neOfBeq hb26
   refine lB 34 hb26 ?_
   refine lL hs [.m 33 34] (lN (cIF (cSL ?_)))
   cases hb27:(((pick (way) 10:Nat):Int) == (2:Int))
   ·
    have phb27:=neOfBeq hb27
    refine lB 44 hb27 ?_
    refine lL hs [.m 43 44] (lN (cIF (cSL ?_)))
    cases hb28:(((pick (way) 10:Nat):Int) == (3:Int))
    ·
     have phb28:=neOfBeq hb28
     refine lB 54 hb28 ?_
     refine lL hs [.m 53 54] (lN (cIF (cSL ?_)))
     cases hb29:(((pick (way) 10:Nat):Int) == (4:Int))
     ·
      have phb29:=neOfBeq hb29
      refine lB 76 hb29 ?_
      refine lL hs [.m 75 76] (lN (cIF (cSL ?_)))
      cases hb30:(((pick (way) 10:Nat):Int) == (5:Int))
      ·
       have phb30:=neOfBeq hb30
       refine lB 82 hb30 ?_
       refine lL hs [.m 81 82] (lN (cIF (CG.skipN (cSL ?_))))
       obtain ⟨h31,hs,hc32⟩:=hs.pubr 0 (A:=some ⟨bR19,0,none⟩) (c:=c12) (l:=ts) (f:=lvc) (ty:=168) (sz:=3) lvd (fun _=>rfl)
       refine lL hs [.o 89 (.agg #[.slice (some ⟨bR19,0,none⟩) ((ts).length) c12]) 1 0 1] (lP 0 0 ([.slice (some ⟨bR19,0,none⟩) ((ts).length) c12]) hs (fun w34 hs=>?_))
       exact lN (CG.ret (hs.ret [(0,0,1)] (.agg #[.slice (some ⟨bR19,0,none⟩) ((ts).length) c12]) (⟨_,_,ts,ls,rfl,hc32,(hs.f.1),(hs.f.2.2.1),by omega,fun i=>(hZ i).sz⟩)))
      have phb30:=eq_of_beq hb30
      refine lB 82 hb30 ?_
      refine lL hs [.m 81 82] (lN (cIT (CG.listed (lL hs [.v 83 (.pointer (some ⟨b1,0,none⟩)),.o 84 (.slice (some ⟨bR19,0,none⟩) ((ts).length) c12) 1 0 1,.v 85 (.pointer (some ⟨b1,0,none⟩)),.o 86 (.slice (some ⟨bR19,0,none⟩) ((ts).length) c12) 1 0 1] (lYse 87 0 168 3 c12 bR19 ts lvc 56 (.agg #[.int .i64 0,.slice none 0 0,.slice none 0 0]) hs oM (ln_one (hs.f.2.1)) (fun A35 c36 w37 h38 hs=>?_))))))
      refine lL hs [.v 88 (.pointer (some ⟨b1,0,none⟩))] (lP 1 0 ([.slice A35 ((ts++ts).length) c36]) hs (fun w40 hs=>?_))
      refine lNS ?_
      obtain ⟨h41,hs,hc42⟩:=hs.pubr 0 (A:=A35) (c:=c36) (l:=ts++ts) (f:=lvc) (ty:=168) (sz:=3) lvd (fun _=>rfl)
      refine lL hs [.o 89 (.agg #[.slice A35 ((ts++ts).length) c36]) 1 0 1] (lP 0 0 ([.slice A35 ((ts++ts).length) c36]) hs (fun w44 hs=>?_))
      refine lN (cTo [(8,.pointer (some ⟨b4,0,none⟩))] ?_)
      exact CG.ret (hs.ret [(0,0,1)] (.agg #[.slice A35 ((ts++ts).length) c36]) (⟨_,_,ts++ts,ls++ls,rfl,hc42,(hs.f.1),rnet_app (hs.f.2.2.1) (hs.f.2.2.1),by rw[List.length_append];omega,sz_app (fun i=>(hZ i).sz) (fun i=>(hZ i).sz)⟩))
     have phb29:=eq_of_beq hb29
     refine lB 76 hb29 ?_
     refine lL hs [.m 75 76] (lN (cIT (CG.listed (lL hs [.v 77 (.pointer (some ⟨b1,0,none⟩)),.o 78 (.slice (some ⟨bR19,0,none⟩) ((ts).length) c12) 1 0 1] ?_))))
     obtain ⟨h45,hs,hc46⟩:=hs.pubr 0 (A:=some ⟨bR19,0,none⟩) (c:=c12) (l:=ts) (f:=lvc) (ty:=168) (sz:=3) lvd (fun _=>rfl)
     refine lF 79 (some ⟨bR19,0,none⟩) ((ts).length) c12 3 1 1 ?_
     refine lL hs [.v 80 (.pointer (some ⟨b1,0,none⟩))] (lP 1 0 ([.slice (if c12=1 then some ⟨bR19,0,none⟩ else (some ⟨bR19,0,none⟩:Option Addr).map (·.add (1*3))) ((ts).length-1) (c12-1)]) hs (fun w48 hs=>?_))
     refine lNS (lL hs [.o 89 (.agg #[.slice (if c12=1 then some ⟨bR19,0,none⟩ else (some ⟨bR19,0,none⟩:Option Addr).map (·.add (1*3))) ((ts).length-1) (c12-1)]) 1 0 1] (lP 0 0 ([.slice (if c12=1 then some ⟨bR19,0,none⟩ else (some ⟨bR19,0,none⟩:Option Addr).map (·.add (1*3))) ((ts).length-1) (c12-1)]) hs (fun w49 hs=>?_)))
     exact lN (CG.ret (hs.ret [(0,0,1)] (.agg #[.slice (if c12=1 then some ⟨bR19,0,none⟩ else (some ⟨bR19,0,none⟩:Option Addr).map (·.add (1*3))) ((ts).length-1) (c12-1)]) (⟨_,_,ts.drop 1,ls.drop 1,by rw[List.length_drop],by rw[List.length_drop];omega,((hs.f.1).drop 1 c12 hc46),rnet_drop (hs.f.2.2.1),by rw[List.length_drop];omega,fun i=>by rw[getD_drop_];exact (hZ _).sz⟩)))
    have phb28:=eq_of_beq hb28
    refine lB 54 hb28 ?_
    refine lL hs [.m 53 54] (lN (cIT ?_))
    obtain ⟨K_,hK_⟩:∃ K_,K_=w23.heap.size+1:=⟨_,rfl⟩
    have hKs:w23.heap.size≤K_:=by omega
    have hdr_:w23.drew.heap.size=w23.heap.size:=rfl
    refine cRa ⟨[K_],none⟩ 18 mixed ?_
    replace hs:=hs.drew
    refine aV 0 55 (.pointer (some ⟨bR19,0+(pick (at_) ((ts).length):Nat)*3,none⟩)) ?_
    refine aV 2 57 (.pointer (some ⟨bR19,0+(pick (at_) ((ts).length):Nat)*3,none⟩)) ?_
    refine aV 3 58 (.pointer (some ⟨bR19,0+(pick (at_) ((ts).length):Nat)*3,none⟩)) ?_
    refine aV 4 59 (.pointer (some ⟨bR19,0+(pick (at_) ((ts).length):Nat)*3+1,none⟩)) ?_
    obtain ⟨ekx,⟨AWx,cWx,usx,eWx,hcWx,hAWx,hTWx⟩,⟨ABx,cBx,rsx,eBx,hcBx,hABx,hTBx⟩⟩:=(hs.f.2.1).at_ (pick (at_) ((ts).length):Nat) oM
    have lux:=hTWx.len;have lbx:=hTBx.len;have hpx:=hp (pick (at_) ((ts).length):Nat) oM;have hz1:=(hZ (pick (at_) ((ts).length):Nat)).rl;have hz2:=(hZ (pick (at_) ((ts).length):Nat)).rls 0;have hz3:=(hZ (pick (at_) ((ts).length):Nat)).bl
    replace hs:=((((hs.a_SlO hAWx).add (K:=fun h_=>RVs h_ usx (ls.getD (pick (at_) ((ts).length):Nat) lay0).W) hTWx).a_SlO hABx).add (K:=fun h_=>RTs h_ rsx (ls.getD (pick (at_) ((ts).length):Nat) lay0).B) hTBx)
    refine fRq (ty:=168) (sz:=3) (c:=c12) (m:=(ts).length) (b:=bR19) (cs:=(ts).flatMap lvc) 5 60 0 (.slice AWx usx.length cWx) ([.slice AWx usx.length cWx]) hs hKs ((row_part (f:=lvc) (sz:=3) (fun _=>rfl) lvd ts (pick (at_) ((ts).length):Nat) oM 1 1 kD).trans (by show [(ts.getD (pick (at_) ((ts).length):Nat) lvd).2.1]=_;rw[eWx])) ?_
    refine aV 7 62 (.pointer (some ⟨bR19,0+(pick (at_) ((ts).length):Nat)*3,none⟩)) ?_
    refine aV 8 63 (.pointer (some ⟨bR19,0+(pick (at_) ((ts).length):Nat)*3,none⟩)) ?_
    refine aV 9 64 (.pointer (some ⟨bR19,0+(pick (at_) ((ts).length):Nat)*3+1,none⟩)) ?_
    refine fRq (ty:=168) (sz:=3) (c:=c12) (m:=(ts).length) (b:=bR19) (cs:=(ts).flatMap lvc) 10 65 0 (.slice AWx usx.length cWx) ([.slice AWx usx.length cWx]) hs hKs ((row_part (f:=lvc) (sz:=3) (fun _=>rfl) lvd ts (pick (at_) ((ts).length):Nat) oM 1 1 kD).trans (by show [(ts.getD (pick (at_) ((ts).length):Nat) lvd).2.1]=_;rw[eWx])) ?_
    refine aX 11 66 AWx usx.length cWx 1 0 0 ((hs.f.2.2.2.1).ok oM) ?_
    obtain ⟨Arq,crq,trq,erq,hcrq,hRrq,hTrq⟩:=(hs.f.2.2.1).at_ 0 oM
    have hlrq:=hTrq.len
    replace hs:=((hs.a_SlO hRrq).add (K:=fun h_=>RTs h_ trq (((ls.getD (pick (at_) ts.length) lay0).W).getD 0 [])) hTrq)
    refine fHe 12 67 (usx.getD 0 undef) hs hKs ((hs.f.2.2.2.2.2.1).el 0 oM) erq ?_
    refine aV 13 68 (.int .i64 (trq.length:Nat)) ?_
    refine aV 14 69 (.int .i64 (trq.length+1:Nat)) ?_ (hv:=fun _=>rint (n:=IntKind.wrap .i64 ((trq.length:Nat)+1)) kR ((wr64 oM oM).trans oM))
    refine fR 1 56 27 0 ([]) hs (fun b50 w51 h52 hzb50 hs=>?_)
    refine fYz 6 61 27 1 vc undef b50 AWx usx cWx 24 (.slice none 0 0) hs (hs.f.2.2.2.2.2.2.1) oM (rv_one (hs.f.2.2.2.2.2.1)) (fun A54 c55 w56 h57 hbn hs=>?_)
    refine aCu 15 70 (mUnit ((trq.length+1)) oM _ _ hs.g) ?_
    rintro _ w59 h60 u61 ⟨Au,cu,tu,rfl,hcu,hAu,hTu⟩
    replace hs:=hs.step u61
    replace hs:=((hs.a_SlO hAu).add (K:=fun h_=>RTs h_ tu (List.replicate ((trq.length+1)) ((1:Int):Rat))) hTu)
    refine fR 16 71 27 1 ([.slice Au tu.length cu]) hs (fun b62 w63 h64 hzb62 hs=>?_)
    refine fY 17 72 0 27 1 c55 A54 usx vc (.slice Au tu.length cu:Value) 24 b62 (.slice none 0 0) hs (hs.f.1) (fun b hb=>List.mem_singleton.2 (by have:=hbn b hb;omega)) (fun A66 c67 w68 h69 hs=>?_)
    refine tV 18 73 (.pointer (some ⟨bR19,0+(pick (at_) ((ts).length):Nat)*3,none⟩)) ?_
    refine tV 19 74 (.pointer (some ⟨bR19,0+(pick (at_) ((ts).length):Nat)*3+1,none⟩)) ?_
    obtain ⟨h71,hs,hc72⟩:=hs.pubr 0 (A:=A66) (c:=c67) (l:=usx++[(.slice Au tu.length cu:Value)]) (f:=vc) (ty:=27) (sz:=1) undef (fun _=>rfl)
    refine tRs 20 (ty:=168) (c:=c12) (b:=bR19) 0 (pick (at_) ((ts).length):Nat) 1 ([.slice A66 ((usx++[(.slice Au tu.length cu:Value)]).length) c67]) ts lvc 3 lvd (((ts.getD (pick (at_) ((ts).length):Nat) lvd).1,.slice A66 ((usx++[(.slice Au tu.length cu:Value)]).length) c67,(ts.getD (pick (at_) ((ts).length):Nat) lvd).2.2):LV) hs oM (fun w74 hs=>?_)
    replace hs:=hs.to [⟨b4,49,[.slice none 0 0]⟩,⟨b1,49,[.slice (some ⟨bR19,0,none⟩) ((ts).length) c12]⟩] [⟨168,3,some ⟨bR19,0,none⟩,c12,(ts).length,(ts.set (pick (at_) ((ts).length):Nat) (((ts.getD (pick (at_) ((ts).length):Nat) lvd).1,.slice A66 ((usx++[(.slice Au tu.length cu:Value)]).length) c67,(ts.getD (pick (at_) ((ts).length):Nat) lvd).2.2):LV)).flatMap lvc⟩]
    refine tN (cTo [(4,.pointer (some ⟨b1,0,none⟩)),(8,.pointer (some ⟨b4,0,none⟩))] ?_)
    refine cSL ?_
    replace hs:=hs.rown [⟨168,3,some ⟨bR19,0,none⟩,c12,(ts.set (pick (at_) ((ts).length):Nat) (((ts.getD (pick (at_) ((ts).length):Nat) lvd).1,.slice A66 ((usx++[(.slice Au tu.length cu:Value)]).length) c67,(ts.getD (pick (at_) ((ts).length):Nat) lvd).2.2):LV)).length,(ts.set (pick (at_) ((ts).length):Nat) (((ts.getD (pick (at_) ((ts).length):Nat) lvd).1,.slice A66 ((usx++[(.slice Au tu.length cu:Value)]).length) c67,(ts.getD (pick (at_) ((ts).length):Nat) lvd).2.2):LV)).flatMap lvc⟩] (by simp only[List.length_set])
    obtain ⟨h75,hs,hc76⟩:=hs.pubr 0 (A:=some ⟨bR19,0,none⟩) (c:=c12) (l:=ts.set (pick (at_) ((ts).length):Nat) (((ts.getD (pick (at_) ((ts).length):Nat) lvd).1,.slice A66 ((usx++[(.slice Au tu.length cu:Value)]).length) c67,(ts.getD (pick (at_) ((ts).length):Nat) lvd).2.2):LV)) (f:=lvc) (ty:=168) (sz:=3) lvd (fun _=>rfl)
    refine lL hs [.o 89 (.agg #[.slice (some ⟨bR19,0,none⟩) ((ts).length) c12]) 1 0 1] (lP 0 0 ([.slice (some ⟨bR19,0,none⟩) ((ts).length) c12]) hs (fun w78 hs=>?_))
    refine lN (CG.ret ?_)
    obtain ⟨rowu,hru⟩:∃ r:List Rat,List.replicate (trq.length+1) ((1:Int):Rat)=r:=⟨_,rfl⟩
    have hrl:rowu.length≤8:=by rw[←hru,List.length_replicate];have:=(hZ (pick (at_) ts.length)).rls 0;omega
    have hrq:∀ i,LQ 1 (rowu.getD i 0):=fun i=>by rw[←hru];exact lq_rep i
    exact hs.ret [(0,0,1)] (.agg #[.slice (some ⟨bR19,0,none⟩) ((ts).length) c12]) (⟨_,_,_,ls.set (pick (at_) ts.length) (⟨(ls.getD (pick (at_) ts.length) lay0).k,(ls.getD (pick (at_) ts.length) lay0).W++[rowu],(ls.getD (pick (at_) ts.length) lay0).B⟩:Lay),by rw[List.length_set],hc76,(hs.f.1),rnet_set (hs.f.2.2.2.2.2.2.2.2.2.2.2.2.2.1) (pick (at_) ts.length) oM ⟨((hs.f.2.2.2.2.2.2.2.2.2.2.2.2.2.1).at_ (pick (at_) ts.length) oM).1,⟨_,_,usx++[_],rfl,hc72,(hs.f.2.1),RVs.snoc (hs.f.2.2.2.2.2.2.2.2.2.2.1) ⟨_,_,tu,rfl,hcu,(hs.f.2.2.2.2.1),hru▸(hs.f.2.2.2.1)⟩⟩,((hs.f.2.2.2.2.2.2.2.2.2.2.2.2.2.1).at_ (pick (at_) ts.length) oM).2.2⟩,by rw[List.length_set];omega,sz_set (fun i=>(hZ i).sz) (lay_wide (hZ (pick (at_) ts.length)) hrl hrq)⟩)
   have phb27:=eq_of_beq hb27
   refine lB 44 hb27 ?_
   refine lL hs [.m 43 44] (lN (cIT (CG.listed (lL hs [.m 45 9,.m 46 9,.v 47 (.pointer (some ⟨bR19,0+(pick (at_) ((ts).length):Nat)*3,none⟩)),.v 48 (.pointer (some ⟨bR19,0+(pick (at_) ((ts).length):Nat)*3+1,none⟩))] ?_))))
   obtain ⟨ekx,⟨AWx,cWx,usx,eWx,hcWx,hAWx,hTWx⟩,⟨ABx,cBx,rsx,eBx,hcBx,hABx,hTBx⟩⟩:=(hs.f.2.1).at_ (pick (at_) ((ts).length):Nat) oM
   have lux:=hTWx.len;have lbx:=hTBx.len;have hpx:=hp (pick (at_) ((ts).length):Nat) oM;have hz1:=(hZ (pick (at_) ((ts).length):Nat)).rl;have hz2:=(hZ (pick (at_) ((ts).length):Nat)).rls 0;have hz3:=(hZ (pick (at_) ((ts).length):Nat)).bl
   replace hs:=((((hs.a_SlO hAWx).add (K:=fun h_=>RVs h_ usx (ls.getD (pick (at_) ((ts).length):Nat) lay0).W) hTWx).a_SlO hABx).add (K:=fun h_=>RTs h_ rsx (ls.getD (pick (at_) ((ts).length):Nat) lay0).B) hTBx)
   refine lRq (ty:=168) (sz:=3) (c:=c12) (m:=(ts).length) (b:=bR19) (cs:=(ts).flatMap lvc) 49 0 (.slice AWx usx.length cWx) ([.slice AWx usx.length cWx]) hs ((row_part (f:=lvc) (sz:=3) (fun _=>rfl) lvd ts (pick (at_) ((ts).length):Nat) oM 1 1 kD).trans (by show [(ts.getD (pick (at_) ((ts).length):Nat) lvd).2.1]=_;rw[eWx])) ?_
   refine lF 50 AWx usx.length cWx 1 1 1 ?_
   refine lL hs [.v 51 (.pointer (some ⟨bR19,0+(pick (at_) ((ts).length):Nat)*3,none⟩)),.v 52 (.pointer (some ⟨bR19,0+(pick (at_) ((ts).length):Nat)*3+1,none⟩))] (lRs (ty:=168) (c:=c12) (b:=bR19) 0 (pick (at_) ((ts).length):Nat) 1 ([.slice (if cWx=1 then AWx else AWx.map (·.add (1*1))) (usx.length-1) (cWx-1)]) ts lvc 3 lvd (((ts.getD (pick (at_) ((ts).length):Nat) lvd).1,.slice (if cWx=1 then AWx else AWx.map (·.add (1*1))) (usx.length-1) (cWx-1),(ts.getD (pick (at_) ((ts).length):Nat) lvd).2.2):LV) hs oM (fun w79 hs=>?_))
   replace hs:=hs.to [⟨b4,49,[.slice none 0 0]⟩,⟨b1,49,[.slice (some ⟨bR19,0,none⟩) ((ts).length) c12]⟩] [⟨168,3,some ⟨bR19,0,none⟩,c12,(ts).length,(ts.set (pick (at_) ((ts).length):Nat) (((ts.getD (pick (at_) ((ts).length):Nat) lvd).1,.slice (if cWx=1 then AWx else AWx.map (·.add (1*1))) (usx.length-1) (cWx-1),(ts.getD (pick (at_) ((ts).length):Nat) lvd).2.2):LV)).flatMap lvc⟩]
   refine lNS ?_
   replace hs:=hs.rown [⟨168,3,some ⟨bR19,0,none⟩,c12,(ts.set (pick (at_) ((ts).length):Nat) (((ts.getD (pick (at_) ((ts).length):Nat) lvd).1,.slice (if cWx=1 then AWx else AWx.map (·.add (1*1))) (usx.length-1) (cWx-1),(ts.getD (pick (at_) ((ts).length):Nat) lvd).2.2):LV)).length,(ts.set (pick (at_) ((ts).length):Nat) (((ts.getD (pick (at_) ((ts).length):Nat) lvd).1,.slice (if cWx=1 then AWx else AWx.map (·.add (1*1))) (usx.length-1) (cWx-1),(ts.getD (pick (at_) ((ts).length):Nat) lvd).2.2):LV)).flatMap lvc⟩] (by simp only[List.length_set])
   obtain ⟨h80,hs,hc81⟩:=hs.pubr 0 (A:=some ⟨bR19,0,none⟩) (c:=c12) (l:=ts.set (pick (at_) ((ts).length):Nat) (((ts.getD (pick (at_) ((ts).length):Nat) lvd).1,.slice (if cWx=1 then AWx else AWx.map (·.add (1*1))) (usx.length-1) (cWx-1),(ts.getD (pick (at_) ((ts).length):Nat) lvd).2.2):LV)) (f:=lvc) (ty:=168) (sz:=3) lvd (fun _=>rfl)
   refine lL hs [.o 89 (.agg #[.slice (some ⟨bR19,0,none⟩) ((ts).length) c12]) 1 0 1] (lP 0 0 ([.slice (some ⟨bR19,0,none⟩) ((ts).length) c12]) hs (fun w83 hs=>?_))
   exact lN (CG.ret (hs.ret [(0,0,1)] (.agg #[.slice (some ⟨bR19,0,none⟩) ((ts).length) c12]) (⟨_,_,_,ls.set (pick (at_) ts.length) (⟨(ls.getD (pick (at_) ts.length) lay0).k,(ls.getD (pick (at_) ts.length) lay0).W.drop 1,(ls.getD (pick (at_) ts.length) lay0).B⟩:Lay),by rw[List.length_set],hc81,(hs.f.1),rnet_set (hs.f.2.2.2.2.2.2.1) (pick (at_) ts.length) oM ⟨((hs.f.2.2.2.2.2.2.1).at_ (pick (at_) ts.length) oM).1,⟨_,_,usx.drop 1,by rw[List.length_drop],by rw[List.length_drop];omega,(hs.f.2.2.2.2.1).drop 1 cWx hcWx,rvs_drop (hs.f.2.2.2.1)⟩,((hs.f.2.2.2.2.2.2.1).at_ (pick (at_) ts.length) oM).2.2⟩,by rw[List.length_set];omega,sz_set (fun i=>(hZ i).sz) ⟨by rw[List.length_drop];have:=(hZ (pick (at_) ts.length)).sz.rl;omega,fun i=>by rw[getD_drop_];exact (hZ (pick (at_) ts.length)).sz.rls _,(hZ (pick (at_) ts.length)).sz.bl,fun i j=>by rw[getD_drop_];exact (hZ (pick (at_) ts.length)).sz.w _ j,(hZ (pick (at_) ts.length)).sz.b⟩⟩)))
  have phb26:=eq_of_beq hb26
  refine lB 34 hb26 ?_
  refine lL hs [.m 33 34] (lN (cIT (CG.listed (lL hs [.m 35 9,.m 36 9,.v 37 (.pointer (some ⟨bR19,0+(pick (at_) ((ts).length):Nat)*3,none⟩)),.v 38 (.pointer (some ⟨bR19,0+(pick (at_) ((ts).length):Nat)*3+2,none⟩))] ?_))))
  obtain ⟨ekx,⟨AWx,cWx,usx,eWx,hcWx,hAWx,hTWx⟩,⟨ABx,cBx,rsx,eBx,hcBx,hABx,hTBx⟩⟩:=(hs.f.2.1).at_ (pick (at_) ((ts).length):Nat) oM
  have lux:=hTWx.len;have lbx:=hTBx.len;have hpx:=hp (pick (at_) ((ts).length):Nat) oM;have hz1:=(hZ (pick (at_) ((ts).length):Nat)).rl;have hz2:=(hZ (pick (at_) ((ts).length):Nat)).rls 0;have hz3:=(hZ (pick (at_) ((ts).length):Nat)).bl
  replace hs:=((((hs.a_SlO hAWx).add (K:=fun h_=>RVs h_ usx (ls.getD (pick (at_) ((ts).length):Nat) lay0).W) hTWx).a_SlO hABx).add (K:=fun h_=>RTs h_ rsx (ls.getD (pick (at_) ((ts).length):Nat) lay0).B) hTBx)
  refine lRq (ty:=168) (sz:=3) (c:=c12) (m:=(ts).length) (b:=bR19) (cs:=(ts).flatMap lvc) 39 0 (.slice ABx rsx.length cBx) ([.slice ABx rsx.length cBx]) hs ((row_part (f:=lvc) (sz:=3) (fun _=>rfl) lvd ts (pick (at_) ((ts).length):Nat) oM 2 1 kD).trans (by show [(ts.getD (pick (at_) ((ts).length):Nat) lvd).2.2]=_;rw[eBx])) ?_
  refine lF 40 ABx rsx.length cBx 3 1 1 ?_
  refine lL hs [.v 41 (.pointer (some ⟨bR19,0+(pick (at_) ((ts).length):Nat)*3,none⟩)),.v 42 (.pointer (some ⟨bR19,0+(pick (at_) ((ts).length):Nat)*3+2,none⟩))] (lRs (ty:=168) (c:=c12) (b:=bR19) 0 (pick (at_) ((ts).length):Nat) 2 ([.slice (if cBx=1 then ABx else ABx.map (·.add (1*3))) (rsx.length-1) (cBx-1)]) ts lvc 3 lvd (((ts.getD (pick (at_) ((ts).length):Nat) lvd).1,(ts.getD (pick (at_) ((ts).length):Nat) lvd).2.1,.slice (if cBx=1 then ABx else ABx.map (·.add (1*3))) (rsx.length-1) (cBx-1)):LV) hs oM (fun w84 hs=>?_))
  replace hs:=hs.to [⟨b4,49,[.slice none 0 0]⟩,⟨b1,49,[.slice (some ⟨bR19,0,none⟩) ((ts).length) c12]⟩] [⟨168,3,some ⟨bR19,0,none⟩,c12,(ts).length,(ts.set (pick (at_) ((ts).length):Nat) (((ts.getD (pick (at_) ((ts).length):Nat) lvd).1,(ts.getD (pick (at_) ((ts).length):Nat) lvd).2.1,.slice (if cBx=1 then ABx else ABx.map (·.add (1*3))) (rsx.length-1) (cBx-1)):LV)).flatMap lvc⟩]
  refine lNS ?_
  replace hs:=hs.rown [⟨168,3,some ⟨bR19,0,none⟩,c12,(ts.set (pick (at_) ((ts).length):Nat) (((ts.getD (pick (at_) ((ts).length):Nat) lvd).1,(ts.getD (pick (at_) ((ts).length):Nat) lvd).2.1,.slice (if cBx=1 then ABx else ABx.map (·.add (1*3))) (rsx.length-1) (cBx-1)):LV)).length,(ts.set (pick (at_) ((ts).length):Nat) (((ts.getD (pick (at_) ((ts).length):Nat) lvd).1,(ts.getD (pick (at_) ((ts).length):Nat) lvd).2.1,.slice (if cBx=1 then ABx else ABx.map (·.add (1*3))) (rsx.length-1) (cBx-1)):LV)).flatMap lvc⟩] (by simp only[List.length_set])
  obtain ⟨h85,hs,hc86⟩:=hs.pubr 0 (A:=some ⟨bR19,0,none⟩) (c:=c12) (l:=ts.set (pick (at_) ((ts).length):Nat) (((ts.getD (pick (at_) ((ts).length):Nat) lvd).1,(ts.getD (pick (at_) ((ts).length):Nat) lvd).2.1,.slice (if cBx=1 then ABx else ABx.map (·.add (1*3))) (rsx.length-1) (cBx-1)):LV)) (f:=lvc) (ty:=168) (sz:=3) lvd (fun _=>rfl)
  refine lL hs [.o 89 (.agg #[.slice (some ⟨bR19,0,none⟩) ((ts).length) c12]) 1 0 1] (lP 0 0 ([.slice (some ⟨bR19,0,none⟩) ((ts).length) c12]) hs (fun w88 hs=>?_))
  exact lN (CG.ret (hs.ret [(0,0,1)] (.agg #[.slice (some ⟨bR19,0,none⟩) ((ts).length) c12]) (⟨_,_,_,ls.set (pick (at_) ts.length) (⟨(ls.getD (pick (at_) ts.length) lay0).k,(ls.getD (pick (at_) ts.length) lay0).W,(ls.getD (pick (at_) ts.length) lay0).B.drop 1⟩:Lay),by rw[List.length_set],hc86,(hs.f.1),rnet_set (hs.f.2.2.2.2.2.2.1) (pick (at_) ts.length) oM ⟨((hs.f.2.2.2.2.2.2.1).at_ (pick (at_) ts.length) oM).1,((hs.f.2.2.2.2.2.2.1).at_ (pick (at_) ts.length) oM).2.1,⟨_,_,rsx.drop 1,by rw[List.length_drop],by rw[List.length_drop];omega,(hs.f.2.2.1).drop 1 cBx hcBx,rts_drop (hs.f.2.1)⟩⟩,by rw[List.length_set];omega,sz_set (fun i=>(hZ i).sz) ⟨(hZ (pick (at_) ts.length)).sz.rl,(hZ (pick (at_) ts.length)).sz.rls,by rw[List.length_drop];have:=(hZ (pick (at_) ts.length)).sz.bl;omega,(hZ (pick (at_) ts.length)).sz.w,fun i=>by rw[getD_drop_];exact (hZ (pick (at_) ts.length)).sz.b _⟩⟩)))
 have phb25:=eq_of_beq hb25
 refine lB 26 hb25 ?_
 refine lL hs [.m 25 26] (lN (cIT (CG.listed (lL hs [.m 27 9,.m 28 3] (lC 29 hs (hPick (by_) 6 oM oM _ _ hs.g) ?_)))))
 rintro _ w89 h90 hs rfl
 have lp3:=pick_lt (by_) 6 oM
 refine lI 30 ((pick (by_) 6:Nat)-1) ?_
 refine lL hs [.v 31 (.pointer (some ⟨bR19,0+(pick (at_) ((ts).length):Nat)*3,none⟩)),.v 32 (.pointer (some ⟨bR19,0+(pick (at_) ((ts).length):Nat)*3,none⟩))] (lRs (ty:=168) (c:=c12) (b:=bR19) 0 (pick (at_) ((ts).length):Nat) 0 ([.int .i64 ((pick (by_) 6:Nat)-1)]) ts lvc 3 lvd (((pick (by_) 6:Nat)-1,(ts.getD (pick (at_) ((ts).length):Nat) lvd).2.1,(ts.getD (pick (at_) ((ts).length):Nat) lvd).2.2):LV) hs oM (fun w91 hs=>?_))
 replace hs:=hs.to [⟨b4,49,[.slice none 0 0]⟩,⟨b1,49,[.slice (some ⟨bR19,0,none⟩) ((ts).length) c12]⟩] [⟨168,3,some ⟨bR19,0,none⟩,c12,(ts).length,(ts.set (pick (at_) ((ts).length):Nat) (((pick (by_) 6:Nat)-1,(ts.getD (pick (at_) ((ts).length):Nat) lvd).2.1,(ts.getD (pick (at_) ((ts).length):Nat) lvd).2.2):LV)).flatMap lvc⟩]
 refine lNS ?_
 replace hs:=hs.rown [⟨168,3,some ⟨bR19,0,none⟩,c12,(ts.set (pick (at_) ((ts).length):Nat) (((pick (by_) 6:Nat)-1,(ts.getD (pick (at_) ((ts).length):Nat) lvd).2.1,(ts.getD (pick (at_) ((ts).length):Nat) lvd).2.2):LV)).length,(ts.set (pick (at_) ((ts).length):Nat) (((pick (by_) 6:Nat)-1,(ts.getD (pick (at_) ((ts).length):Nat) lvd).2.1,(ts.getD (pick (at_) ((ts).length):Nat) lvd).2.2):LV)).flatMap lvc⟩] (by simp only[List.length_set])
 obtain ⟨h92,hs,hc93⟩:=hs.pubr 0 (A:=some ⟨bR19,0,none⟩) (c:=c12) (l:=ts.set (pick (at_) ((ts).length):Nat) (((pick (by_) 6:Nat)-1,(ts.getD (pick (at_) ((ts).length):Nat) lvd).2.1,(ts.getD (pick (at_) ((ts).length):Nat) lvd).2.2):LV)) (f:=lvc) (ty:=168) (sz:=3) lvd (fun _=>rfl)
 refine lL hs [.o 89 (.agg #[.slice (some ⟨bR19,0,none⟩) ((ts).length) c12]) 1 0 1] (lP 0 0 ([.slice (some ⟨bR19,0,none⟩) ((ts).length) c12]) hs (fun w95 hs=>?_))
 exact lN (CG.ret (hs.ret [(0,0,1)] (.agg #[.slice (some ⟨bR19,0,none⟩) ((ts).length) c12]) (⟨_,_,_,ls.set (pick (at_) ts.length) (⟨(pick (by_) 6:Nat)-1,(ls.getD (pick (at_) ts.length) lay0).W,(ls.getD (pick (at_) ts.length) lay0).B⟩:Lay),by rw[List.length_set],hc93,(hs.f.1),rnet_set (hs.f.2.2.1) (pick (at_) ts.length) oM ⟨rfl,((hs.f.2.2.1).at_ (pick (at_) ts.length) oM).2.1,((hs.f.2.2.1).at_ (pick (at_) ts.length) oM).2.2⟩,by rw[List.length_set];omega,sz_set (fun i=>(hZ i).sz) ⟨(hZ (pick (at_) ts.length)).sz.rl,(hZ (pick (at_) ts.length)).sz.rls,(hZ (pick (at_) ts.length)).sz.bl,(hZ (pick (at_) ts.length)).sz.w,(hZ (pick (at_) ts.length)).sz.b⟩⟩)))
def flatL (L:Lay):List Rat:=L.W.flatten++L.B
def flatq (ls:List Lay):List Rat:=ls.flatMap flatL
theorem flatq_snoc (ls:List Lay)(L:Lay):flatq (ls++[L])=flatq ls++L.W.flatten++L.B:=by simp[flatq,flatL]
theorem flatq_take {ls:List Lay}{k:Nat}(h:k<ls.length):flatq (ls.take (k+1))=flatq (ls.take k)++(ls.getD k lay0).W.flatten++(ls.getD k lay0).B:=by rw[take_snoc' lay0 h,flatq_snoc]
theorem flat_take {W:List (List Rat)}{i:Nat}(h:i<W.length):(W.take (i+1)).flatten=(W.take i).flatten++W.getD i []:=by rw[take_snoc' [] h];simp
theorem flat_len {c:Nat}:∀ {W:List (List Rat)},(∀ r∈W,r.length=c)→W.flatten.length=W.length*c
  | [],_=>by simp
  | r::W,h=>by
    rw[List.flatten_cons,List.length_append,h r (by simp),flat_len (fun s hs=>h s (by simp[hs])),List.length_cons,Nat.succ_mul];omega
theorem getD_mem' {α:Type}{l:List α}{x d:α}(h:x∈l):∃ i,i<l.length∧l.getD i d=x:=by
  obtain ⟨i,hi,e⟩:=List.mem_iff_getElem.1 h
  exact ⟨i,hi,by simp[hi,e]⟩
theorem Mat.mem {W:List (List Rat)}{r c:Nat}(m:Mat W r c):∀ x∈W,x.length=c:=fun x hx=>by
  obtain ⟨i,hi,e⟩:=getD_mem' (d:=[]) hx
  rw[←e];exact m.row i (by rw[←m.rows];exact hi)
theorem take_flat_len {W:List (List Rat)}{r c:Nat}(m:Mat W r c)(i:Nat)(hi:i≤r):(W.take i).flatten.length=i*c:=by
  rw[flat_len (c:=c) (fun x hx=>m.mem x (List.mem_of_mem_take hx)),List.length_take,m.rows];congr 1;omega
theorem flatq_len {ls:List Lay}{d:Nat→Nat}(o:Net3 ls d)(k:Nat)(hk:k≤ls.length):(flatq (ls.take k)).length≤k*252:=by
  induction k with
  | zero=>simp[flatq]
  | succ k ih =>
    have h1:=ih oM
    obtain ⟨m,hb,h12,_⟩:=o.lay k oM
    have hc:=o.small k oM
    rw[flatq_take oM,List.length_append,List.length_append,flat_len m.mem,m.rows,hb]
    have:d (k+1)*d k≤12*20:=Nat.mul_le_mul h12 hc
    omega
theorem flatq_pos {ls:List Lay}{d:Nat→Nat}(o:Net3 ls d):0<(flatq ls).length:=by
  have h0:=o.len.1
  obtain ⟨m,hb,_,_⟩:=o.lay 0 oM
  cases ls with
  | nil=>simp at h0
  | cons L ls =>
    have hp:0<d 1:=m.rpos
    have hb':L.B.length=d 1:=hb
    have:(flatq (L::ls)).length=(L.W.flatten.length+L.B.length)+(flatq ls).length:=by simp[flatq,flatL];omega
    omega
theorem nflat (A:Option Addr)(cap:Nat)(ts:List LV)(ls:List Lay)(d:Nat→Nat)(hO:Net3 ls d)(w:World)(h:Hp)(g:G w h)(hA:SlO 3 lvc lvd h A ts)(hN:NetL h ts ls) :
    Calls Tryz.prog 128 #[.agg #[.slice A ts.length cap]] w (Ret w h fun v h1=>∃ A c,v=.slice A (flatq ls).length c∧(flatq ls).length≤c∧SlO 5 qc 0 h1 A (flatq ls)):=by
 have hs:=SS.start g
 replace hs:=((hs.a_SlO hA).add (K:=fun h_=>NetL h_ ts ls) hN)
 have hl:=(hs.f.1).len
 obtain ⟨o1,o2⟩:=hO.len
 have o3:=hO.first
 refine go Tryz.func128 [(0,.agg #[.slice A ts.length cap])] rfl ?_
 refine cSL (lA 1 57 ([.slice A ts.length cap]) hs (fun b1 w2 h3 hs=>?_))
 refine lL hs [.v 2 (.slice none 0 0)] (lNS (lL hs [.v 3 (.slice none 0 0)] (lN (CG.seq (cSL (lL hs [.v 8 (.pointer (some ⟨b1,0,none⟩)),.o 9 (.slice A ts.length cap) 0 0 1,.v 10 (.int .i64 (ts.length:Nat)),.v 11 (.int .i64 0)] (lN (CG.block ?_))))))))
 replace hs:=hs.nil 74 5
 refine cTo [(2,.slice none 0 0),(9,.slice A ts.length cap),(10,.int .i64 (ts.length:Nat)),(11,.int .i64 0),(3,.slice none 0 0)] ?_
 refine CG.loop (fun μ_ Γ w_=>∃ (k:Nat) (saA:Option Addr) (sac:Nat) (al:List Rat) (h_:Hp),μ_=ls.length-k∧Γ=[(2,.slice none 0 0),(9,.slice A ts.length cap),(10,.int .i64 (ts.length:Nat)),(11,.int .i64 (k:Nat)),(3,.slice saA ((al).length) sac)]∧SS w h w_ h_ [⟨b1,57,[.slice A ts.length cap]⟩] [⟨74,5,saA,sac,(al).length,(al).flatMap qc⟩] [fun h_=>NetL h_ ts ls,fun h_=>SlO 3 lvc lvd h_ A ts]∧(k≤ls.length)∧(al=flatq (ls.take k))) _ ⟨0,none,0,[],h3,rfl,rfl,hs.to _ _,Nat.zero_le _,rfl⟩ ?_
 rintro _ _ w4 ⟨k,saA,sac,al,h5,hm6,rfl,hs,hk,hal⟩
 have hsm:=fun h0=>hO.small k h0
 have hfl:=flatq_len hO k hk
 rw[←hal] at hfl
 refine cSL ?_
 cases hb7:(decide (((k:Nat):Int)<((ts.length:Nat):Int)))
 ·
  have phb7:=oF hb7
  refine lB 12 hb7 ?_
  refine lN (CG.seq (cIF (CG.exit ?_)))
  show CG _ _ _ _ _ _ _ _
  refine cSL (lL hs [.m 31 3,.m 2 31] (lN (CG.ret ?_)))
  have hkn:k=ls.length:=by omega
  subst hkn
  rw[List.take_length] at hal
  obtain ⟨h8,hs,hc9⟩:=hs.pubr 0 (A:=saA) (c:=sac) (l:=al) (f:=qc) (ty:=74) (sz:=5) 0 (fun _=>rfl)
  exact hs.ret [] (.slice saA ((al).length) sac) (by rw[←hal];exact ⟨_,_,rfl,hc9,(hs.f.1)⟩)
 have phb7:=oT hb7
 refine lB 12 hb7 ?_
 refine lN (CG.seq (cIT (CG.skipN (CG.seq (CG.block (cSL (lX 13 A ts.length cap 3 (k:Nat) k ((hs.f.2.1).ok oM) ?_)))))))
 obtain ⟨ekx,⟨AWx,cWx,usx,eWx,hcWx,hAWx,hUx⟩,⟨ABx,cBx,eBx,hcBx,hABx⟩⟩:=(hs.f.1).at_ k oM
 obtain ⟨mtx,lbx,r12x,kdx⟩:=hO.lay k oM
 have lux:=hUx.len;have mrx:=mtx.rows;have mpx:=mtx.rpos;have mcx:=mtx.cpos;have m0x:=mtx.row 0 oM
 replace hs:=(((hs.a_SlO hAWx).add (K:=fun h_=>QVs h_ usx (ls.getD k lay0).W) hUx).a_SlO hABx)
 refine lHe 14 (.agg #[.int .i64 ((ts.getD k lvd).1),(ts.getD k lvd).2.1,(ts.getD k lvd).2.2]) hs ((hs.f.2.2.2.2.1).el k oM) (by rw[ekx,eWx,eBx]) ?_
 refine lA 5 114 ([.int .i64 0,.slice none 0 0,.slice none 0 0]) hs (fun b11 w12 h13 hs=>?_)
 refine lP 0 0 ([.int .i64 ((ls.getD k lay0).k),.slice AWx usx.length cWx,.slice ABx ((ls.getD k lay0).B.length) cBx]) hs (fun w14 hs=>?_)
 refine lN (CG.seq (cSL (lL hs [.v 15 (.pointer (some ⟨b11,1,none⟩)),.o 16 (.slice AWx usx.length cWx) 0 1 1,.v 17 (.int .i64 (usx.length:Nat)),.v 18 (.int .i64 0)] (lN (CG.block (cTo [(2,.slice none 0 0),(9,.slice A ts.length cap),(10,.int .i64 (ts.length:Nat)),(11,.int .i64 (k:Nat)),(5,.pointer (some ⟨b11,0,none⟩)),(16,.slice AWx usx.length cWx),(17,.int .i64 (usx.length:Nat)),(18,.int .i64 0),(3,.slice saA ((al).length) sac)] ?_))))))
 refine CG.loop (fun μ_ Γ w_=>∃ (i:Nat) (sbA:Option Addr) (sbc:Nat) (bl:List Rat) (h_:Hp),μ_=usx.length-i∧Γ=[(2,.slice none 0 0),(9,.slice A ts.length cap),(10,.int .i64 (ts.length:Nat)),(11,.int .i64 (k:Nat)),(5,.pointer (some ⟨b11,0,none⟩)),(16,.slice AWx usx.length cWx),(17,.int .i64 (usx.length:Nat)),(18,.int .i64 (i:Nat)),(3,.slice sbA ((bl).length) sbc)]∧SS w h w_ h_ [⟨b11,114,[.int .i64 ((ls.getD k lay0).k),.slice AWx usx.length cWx,.slice ABx ((ls.getD k lay0).B.length) cBx]⟩,⟨b1,57,[.slice A ts.length cap]⟩] [⟨74,5,sbA,sbc,(bl).length,(bl).flatMap qc⟩] [fun h_=>SlO 5 qc 0 h_ ABx (ls.getD k lay0).B,fun h_=>QVs h_ usx (ls.getD k lay0).W,fun h_=>SlO 1 vc undef h_ AWx usx,fun h_=>NetL h_ ts ls,fun h_=>SlO 3 lvc lvd h_ A ts]∧(i≤usx.length)∧(bl=al++((ls.getD k lay0).W.take i).flatten)) _ ⟨0,saA,sac,al,h13,rfl,rfl,hs.to _ _,Nat.zero_le _,by simp⟩ ?_
 rintro _ _ w15 ⟨i,sbA,sbc,bl,h16,hm17,rfl,hs,hi,hbl⟩
 have hbn:bl.length≤al.length+i*d k:=by rw[hbl,List.length_append,take_flat_len mtx i oM];exact Nat.le_refl _
 have hid:i*d k≤12*20:=Nat.mul_le_mul oM (hsm oM)
 have hmr:=fun h0=>mtx.row i h0
 refine cSL ?_
 cases hb18:(decide (((i:Nat):Int)<((usx.length:Nat):Int)))
 ·
  have phb18:=oF hb18
  refine lB 19 hb18 ?_
  refine lN (CG.seq (cIF (CG.exit ?_)))
  show CG _ _ _ _ _ _ _ _
  refine CG.listed (lL hs [.m 26 3,.v 27 (.pointer (some ⟨b11,2,none⟩)),.o 28 (.slice ABx ((ls.getD k lay0).B.length) cBx) 0 2 1] (lYs 29 0 74 5 sbc sbA bl qc 0 ABx ((ls.getD k lay0).B) cBx 56 (.agg #[.bool false,.int .u64 0,.string ⟨#[]⟩,.int .u64 0,.string ⟨#[]⟩]) hs (hs.f.1) oM (fun A19 c20 w21 h22 hs=>?_)))
  refine lL hs [.m 3 29] (lN (CG.listed (lIn 30 ((k:Nat)+1) (k+1) ?_)))
  refine lL hs [.m 11 30] (lD ?_)
  intro a_ ka
  have q24:(k+1)≤ls.length:=by omega
  have q25:(bl++((ls.getD k lay0).B))=flatq (ls.take (k+1)):=by rw[flatq_take oM,hbl,List.take_of_length_le oM,hal]
  replace hs:=hs.tl.tl.tl
  replace hs:=hs.drop 1 0
  refine ⟨_,_,?_,⟨k+1,A19,c20,bl++((ls.getD k lay0).B),h22,rfl,rfl,hs.to _ _,q24,q25⟩,ka.to [(2,.slice none 0 0),(9,.slice A ts.length cap),(10,.int .i64 (ts.length:Nat)),(11,.int .i64 ((k+1):Nat)),(3,.slice A19 (((bl++((ls.getD k lay0).B))).length) c20)] kR⟩
  omega
 have phb18:=oT hb18
 refine lB 19 hb18 ?_
 refine lN (CG.seq (cIT (CG.skipN (CG.seq (CG.block (cSL (lX 20 AWx usx.length cWx 1 (i:Nat) i ((hs.f.2.2.1).ok oM) ?_)))))))
 obtain ⟨Arp,crp,erp,hcrp,hRrp⟩:=(hs.f.2.1).at_ i oM
 replace hs:=(hs.a_SlO hRrp)
 refine lHe 21 (usx.getD i undef) hs ((hs.f.2.2.2.1).el i oM) erp ?_
 refine lL hs [.m 7 21] (lN (CG.listed (lL hs [.m 22 3,.m 23 7] (lYs 24 0 74 5 sbc sbA bl qc 0 Arp (((ls.getD k lay0).W).getD i []) crp 56 (.agg #[.bool false,.int .u64 0,.string ⟨#[]⟩,.int .u64 0,.string ⟨#[]⟩]) hs (hs.f.1) oM (fun A26 c27 w28 h29 hs=>?_)))))
 refine lL hs [.m 3 24] (lN (CG.listed (lIn 25 ((i:Nat)+1) (i+1) ?_)))
 refine lL hs [.m 18 25] (lD ?_)
 intro a_ ka
 have q31:(i+1)≤usx.length:=by omega
 have q32:(bl++(((ls.getD k lay0).W).getD i []))=al++((ls.getD k lay0).W.take (i+1)).flatten:=by rw[flat_take oM,hbl,List.append_assoc]
 replace hs:=hs.tl
 refine ⟨_,_,?_,⟨i+1,A26,c27,bl++(((ls.getD k lay0).W).getD i []),h29,rfl,rfl,hs.to _ _,q31,q32⟩,ka.to [(2,.slice none 0 0),(9,.slice A ts.length cap),(10,.int .i64 (ts.length:Nat)),(11,.int .i64 (k:Nat)),(5,.pointer (some ⟨b11,0,none⟩)),(16,.slice AWx usx.length cWx),(17,.int .i64 (usx.length:Nat)),(18,.int .i64 ((i+1):Nat)),(3,.slice A26 (((bl++(((ls.getD k lay0).W).getD i []))).length) c27)] kR⟩
 omega
noncomputable def flatA (ls:List Lay):List Rat:=if chkq ls=0 then flatq ls else []
theorem flatA1 {ls:List Lay}(h:chkq ls≠0):flatA ls=[]:=if_neg h
theorem flatA0 {ls:List Lay}(h:chkq ls=0):flatA ls=flatq ls:=if_pos h
theorem nFlat1 (A:Option Addr)(cap:Nat)(ts:List LV)(ls:List Lay)(hn:ls.length≤1000000)(hF:∀ i,i<ls.length→LayLen (ls.getD i lay0))(h1:chkq ls≠0)(w:World)(h:Hp)(g:G w h)(hA:SlO 3 lvc lvd h A ts)(hN:NetL h ts ls) :
    Calls Tryz.prog 65 #[.agg #[.slice A ts.length cap]] w (Ret w h fun v _=>v=.slice none 0 0):=by
 have hs:=SS.start g
 replace hs:=((hs.a_SlO hA).add (K:=fun h_=>NetL h_ ts ls) hN)
 refine go Tryz.func65 [(0,.agg #[.slice A ts.length cap])] rfl ?_
 refine cSL (lA 1 57 ([.slice A ts.length cap]) hs (fun b1 w2 h3 hs=>?_))
 refine lL hs [.v 2 (.slice none 0 0)] (lN (CG.seq (cSL (lL hs [.o 3 (.agg #[.slice A ts.length cap]) 0 0 1] (lC 4 hs (nCheckG A cap ts ls hn hF _ _ hs.g (hs.f.2.1) (hs.f.1)) ?_)))))
 rintro _ w4 h5 hs rfl
 have hb6:((chkq ls:Int) != (0:Int))=true:=bneT h1
 have phb6:=neOfBne hb6
 refine lB 5 hb6 ?_
 exact lN (cIT (cSL (lL hs [.v 2 (.slice none 0 0)] (lN (CG.ret (hs.ret [] (.slice none 0 0) rfl))))))
theorem nFlat0 (A:Option Addr)(cap:Nat)(ts:List LV)(ls:List Lay)(hn:ls.length≤1000000)(hF:∀ i,i<ls.length→LayLen (ls.getD i lay0))(h1:chkq ls=0)(w:World)(h:Hp)(g:G w h)(hA:SlO 3 lvc lvd h A ts)(hN:NetL h ts ls) :
    Calls Tryz.prog 65 #[.agg #[.slice A ts.length cap]] w (Ret w h fun v h1=>∃ A c,v=.slice A (flatq ls).length c∧(flatq ls).length≤c∧SlO 5 qc 0 h1 A (flatq ls)):=by
 have hs:=SS.start g
 replace hs:=((hs.a_SlO hA).add (K:=fun h_=>NetL h_ ts ls) hN)
 refine go Tryz.func65 [(0,.agg #[.slice A ts.length cap])] rfl ?_
 refine cSL (lA 1 57 ([.slice A ts.length cap]) hs (fun b1 w2 h3 hs=>?_))
 refine lL hs [.v 2 (.slice none 0 0)] (lN (CG.seq (cSL (lL hs [.o 3 (.agg #[.slice A ts.length cap]) 0 0 1] (lC 4 hs (nCheckG A cap ts ls hn hF _ _ hs.g (hs.f.2.1) (hs.f.1)) ?_)))))
 rintro _ w4 h5 hs rfl
 have hb6:((chkq ls:Int) != (0:Int))=false:=bneF' h1
 have phb6:=eqOfBne hb6
 refine lB 5 hb6 ?_
 refine lN (cIF (CG.skipN (cSL (lL hs [.o 6 (.agg #[.slice A ts.length cap]) 0 0 1] (lC 7 hs (nflat A cap ts ls (dOf ls) (chk_net3 h1) _ _ hs.g (hs.f.2.1) (hs.f.1)) ?_)))))
 rintro _ w7 h8 hs ⟨Aq,cq,rfl,hcq,hAq⟩
 replace hs:=(hs.a_SlO hAq)
 exact lL hs [.m 2 7] (lN (CG.ret (hs.ret [] (.slice Aq ((flatq ls).length) cq) (⟨Aq,cq,rfl,hcq,(hs.f.1)⟩))))
theorem nFlatA (A:Option Addr)(cap:Nat)(ts:List LV)(ls:List Lay)(hn:ls.length≤1000000)(hF:∀ i,i<ls.length→LayLen (ls.getD i lay0))(w:World)(h:Hp)(g:G w h)(hA:SlO 3 lvc lvd h A ts)(hN:NetL h ts ls):Calls Tryz.prog 65 #[.agg #[.slice A ts.length cap]] w (Ret w h (fun v h1=>∃ A c,v=.slice A (flatA ls).length c∧(flatA ls).length≤c∧SlO 5 qc 0 h1 A (flatA ls))):=by
  by_cases h1:chkq ls=0
  · rw[flatA0 h1];exact nFlat0 A cap ts ls hn hF h1 w h g hA hN
  · rw[flatA1 h1]
    refine (nFlat1 A cap ts ls hn hF h1 w h g hA hN).mono ?_
    rintro _ w' ⟨_,h',rfl,u,rfl⟩
    exact ⟨_,h',rfl,u,none,0,rfl,Nat.le_refl _,SlO.nil⟩
section fla
variable {P:Program} {n:Nat} {N R:Po} {X:Nat→Po} {ops:Array Oper} {k:Nat} {Γ:Env} {w:World} {h:Hp} {w0:World} {h0:Hp} {B:List Bx} {Rs:List Rw} {F:List (Hp→Prop)}
theorem lYsm {α:Type}(t j:Nat)(ty:TypeId)(sz c:Nat)(A:Option Addr)(l:List α)(f:α→List Value)(d:α)(A2:Option Addr)(m:List α)(c2 bt:Nat)(z:Value)(s:SS w0 h0 w h B Rs F)(so:SlO sz f d h A2 m)(hm0:0<m.length)(h1:∀ x∈m,(f x).all (·.oneCell')=true)
    (H:∀ A' c' w' h',SS w0 h0 w' h' B (Rs.set j ⟨ty,sz,A',c',(l++m).length,(l++m).flatMap f⟩) F→LG P n N R X ops (k+1) ((t,.slice A' (l++m).length c')::Γ) w')
    (hc:cL ops Γ k t n=true:=by kernel_rfl)(he:apE P (ev Γ) (opAt ops k)=some (.slice A l.length c,.slice A2 m.length c2,ty,z,sz,bt):=by kernel_rfl)(hf:∀ x,(f x).length=sz:=by intro _;rfl)(hzs:z.cells.size=sz:=by kernel_rfl)(hpos:0<sz:=by decide)
    (hr:Rs.getD j default=⟨ty,sz,A,c,l.length,l.flatMap f⟩:=by kernel_rfl)(hj:decide (j<Rs.length)=true:=by kernel_rfl)(hm:l.length+m.length≤1099511627776:=by omega)(hb:(l.length+m.length)*bt≤140737488355328:=by omega):LG P n N R X ops k Γ w:=by
  have hj':=oT hj
  have hA:=so.ok hm0
  rw[hA] at he
  refine lYn t j (m.flatMap f) s (seg_newsO s.g (so.flat hf)) (len_flat hf m) (fun u hu=>?_) hj' (rw_get hr hj') hc he hzs hpos hm hb (fun A' c' w' h' s'=>?_)
  · obtain ⟨x,hx',hx⟩:=List.mem_flatMap.1 hu
    exact (List.all_eq_true.1 (h1 x hx')) u hx
  · have e1:l.length+m.length=(l++m).length:=by simp
    rw[flat_row,e1] at s'
    rw[e1]
    exact H A' c' w' h' s'
end fla
theorem slPart {P:Program}{Γ:Env}{o:Oper}{t e:TypeId}{x lo' hi':Operand}{A:Option Addr}{len cap sz:Nat}{i j:Int}(k m:Nat)(ho:o.op=.slice t x (some lo') (some hi') none)(hx:ev Γ x=.slice A len cap)(hl:ev Γ lo'=.int .i64 i)(hh:ev Γ hi'=.int .i64 j)
    (hu:P.underlying t=some (.slice e))(hs:(P.info? e).map (·.size)=some sz)(hk:i=k)(hm:j=m)(hlt:k≤m)(hmc:m≤cap)(w:World) :
    (execOp (ev Γ) o).run P w=.ok (.value (.slice (if cap=k then A else A.map (·.add (k*sz))) (m-k) (cap-k))) w:=by
  subst hk hm
  cases hinf:P.info? e with
  | none=>rw[hinf] at hs;cases hs
  | some inf =>
    rw[hinf] at hs
    simp at hs
    unfold execOp
    simp only[ho,Option.map_none,Option.map_some]
    rw[hx,hl,hh]
    simp[Instr.sliceAt,Instr.slice,Instr.sliceBounds,Instr.sliceBound,run_underlying hu,asIntOf,sizeOf,typeInfo,hinf,Result.andThen,hlt,hmc,hs]
theorem slE_part {P:Program}{Γ:Env}{o:Oper}{A:Option Addr}{len cap sz:Nat}{i j:Int}(k n:Nat)(h:slE P (ev Γ) o=some (.slice A len cap,some (.int .i64 i),some (.int .i64 j),sz))(hk:i=k)(hm:j=(k+n:Nat))(hmc:k+n≤cap)(w:World) :
    (execOp (ev Γ) o).run P w=.ok (.value (.slice (if cap=k then A else A.map (·.add (k*sz))) n (cap-k))) w:=by
  unfold slE at h
  split at h
  · rename_i t x l r ho
    split at h
    · rename_i e hu
      cases hi:P.info? e with
      | none=>rw[hi] at h;cases h
      | some inf =>
        rw[hi] at h
        simp only[Option.map_some,Option.some.injEq,Prod.mk.injEq,Option.map_eq_some_iff] at h
        obtain ⟨h1,⟨y,rfl,h3⟩,⟨z,rfl,h5⟩,h4⟩:=h
        have x:=slPart (P:=P) (sz:=sz) k (k+n) ho h1 h3 h5 hu (by rw[hi];simp[h4]) hk hm oM hmc w
        rw[Nat.add_sub_cancel_left] at x
        exact x
    · cases h
  · cases h
section prt
variable {M:Ms} {P:Program} {n:Nat} {N R:Po} {X:Nat→Po} {ops:Array Oper} {k k0:Nat} {hr:Hp} {AL:List Al} {L:Array Bool} {Γ:Env} {w:World} {h:Hp}
theorem lBt (t:Nat)(A:Option Addr)(len cap sz:Nat)(i i2:Int)(j m:Nat)(H:LG P n N R X ops (k+1) ((t,.slice (if cap=j then A else A.map (·.add (j*sz))) m (cap-j))::Γ) w)(hm:i2=(j+m:Nat))(hlt:j+m≤cap)(hc:cL ops Γ k t n=true:=by kernel_rfl)(he:slE P (ev Γ) (opAt ops k)=some (.slice A len cap,some (.int .i64 i),some (.int .i64 i2),sz):=by kernel_rfl)(hk:i=j:=by omega):LG P n N R X ops k Γ w :=
  LG.val t _ w (cL_1 hc).1 (cL_1 hc).2 (slE_part j m he hk hm hlt w) H
theorem eBt (i t:Nat)(A:Option Addr)(len cap sz:Nat)(x x2:Int)(j m:Nat)(H:EG M P n N R X ops k0 hr AL (L.setIfInBounds i true) ((t,.slice (if cap=j then A else A.map (·.add (j*sz))) m (cap-j))::Γ) w h)(hm:x2=(j+m:Nat))(hlt:j+m≤cap)(hc:cE n ops k0 AL L Γ i t=true:=by kernel_rfl)(he:slE P (ev Γ) (opAt ops i)=some (.slice A len cap,some (.int .i64 x),some (.int .i64 x2),sz):=by kernel_rfl)(hk:x=j:=by omega):EG M P n N R X ops k0 hr AL L Γ w h :=
  Rg.pure i t _ (cE_1 hc).1 (cE_1 hc).2 (slE_part j m he hk hm hlt) H
end prt
theorem RTs.app {h:Hp}{ts us:List RT}{qs ps:List Rat}(r:RTs h ts qs)(s:RTs h us ps):RTs h (ts++us) (qs++ps):=⟨by rw[List.length_append,List.length_append,r.len,s.len],fun i hi=>by
  rw[List.length_append] at hi
  rw[getD_app_,getD_app_,r.len]
  split
  · exact r.at_ i aM
  · exact s.at_ _ oM⟩
theorem rt_one {h:Hp}{ts:List RT}{qs:List Rat}(r:RTs h ts qs):∀ t∈ts,(rqc t).all (·.oneCell')=true:=fun t ht=>by
  obtain ⟨i,hi,e⟩:=List.mem_iff_getElem.1 ht
  obtain ⟨A,c,D,d,e1,_⟩:=r.at_ i (by rw[←r.len];exact hi)
  have e3:ts.getD i rqd=t:=by simp[hi,e]
  rw[e3] at e1
  unfold rqc
  obtain ⟨x,y,z⟩:=t
  simp only[rtv] at e1
  injection e1 with e1
  simp at e1
  obtain ⟨_,e4,e5⟩:=e1
  rw[e4,e5];rfl
theorem nSizes1 (A:Option Addr)(cap:Nat)(ts:List LV)(ls:List Lay)(hn:ls.length≤1000000)(hF:∀ i,i<ls.length→LayLen (ls.getD i lay0))(h1:chkq ls≠0)(w:World)(h:Hp)(g:G w h)(hA:SlO 3 lvc lvd h A ts)(hN:NetL h ts ls) :
    Calls Tryz.prog 61 #[.agg #[.slice A ts.length cap]] w (Ret w h fun v _=>v=.slice none 0 0):=by
 have hs:=SS.start g
 replace hs:=((hs.a_SlO hA).add (K:=fun h_=>NetL h_ ts ls) hN)
 refine go Tryz.func61 [(0,.agg #[.slice A ts.length cap])] rfl ?_
 refine cSL (lA 1 57 ([.slice A ts.length cap]) hs (fun b1 w2 h3 hs=>?_))
 refine lL hs [.v 2 (.slice none 0 0)] (lN (CG.seq (cSL (lL hs [.o 6 (.agg #[.slice A ts.length cap]) 0 0 1] (lC 7 hs (nCheckG A cap ts ls hn hF _ _ hs.g (hs.f.2.1) (hs.f.1)) ?_)))))
 rintro _ w4 h5 hs rfl
 have hb6:((chkq ls:Int) != (0:Int))=true:=bneT h1
 have phb6:=neOfBne hb6
 refine lB 8 hb6 ?_
 exact lN (cIT (cSL (lL hs [.v 2 (.slice none 0 0)] (lN (CG.ret (hs.ret [] (.slice none 0 0) rfl))))))
theorem nSizes0 (A:Option Addr)(cap:Nat)(ts:List LV)(ls:List Lay)(hn:ls.length≤1000000)(hF:∀ i,i<ls.length→LayLen (ls.getD i lay0))(hO:Net3 ls (dOf ls))(h1:chkq ls=0)(w:World)(h:Hp)(g:G w h)(hA:SlO 3 lvc lvd h A ts)(hN:NetL h ts ls) :
    Calls Tryz.prog 61 #[.agg #[.slice A ts.length cap]] w (Ret w h fun v h1=>∃ A c,v=.slice A (sizesq ls).length c∧(sizesq ls).length≤c∧SlO 1 natc 0 h1 A (sizesq ls)):=by
 have hs:=SS.start g
 replace hs:=((hs.a_SlO hA).add (K:=fun h_=>NetL h_ ts ls) hN)
 have hl:=(hs.f.1).len
 obtain ⟨o1,o2⟩:=hO.len
 have o3:=hO.first
 refine go Tryz.func61 [(0,.agg #[.slice A ts.length cap])] rfl ?_
 refine cSL (lA 1 57 ([.slice A ts.length cap]) hs (fun b1 w2 h3 hs=>?_))
 refine lL hs [.v 2 (.slice none 0 0)] (lN (CG.seq (cSL (lL hs [.o 6 (.agg #[.slice A ts.length cap]) 0 0 1] (lC 7 hs (nCheckG A cap ts ls hn hF _ _ hs.g (hs.f.2.1) (hs.f.1)) ?_)))))
 rintro _ w4 h5 hs rfl
 have hb6:((chkq ls:Int) != (0:Int))=false:=bneF' h1
 have phb6:=eqOfBne hb6
 refine lB 8 hb6 ?_
 refine lN (cIF (CG.skipN (cSL (lL hs [.v 9 (.pointer (some ⟨b1,0,none⟩)),.o 10 (.slice A ts.length cap) 0 0 1] (lX 11 A ts.length cap 3 0 0 ((hs.f.2.1).ok oM) ?_)))))
 refine lL hs [.v 12 (.pointer (some ⟨(aB A),aO A+0*3+1,none⟩))] ?_
 obtain ⟨ekx,⟨AWx,cWx,usx,eWx,hcWx,hAWx,hUx⟩,⟨ABx,cBx,eBx,hcBx,hABx⟩⟩:=(hs.f.1).at_ 0 oM
 obtain ⟨mtx,lbx,r12x,kdx⟩:=hO.lay 0 oM
 have lux:=hUx.len;have mrx:=mtx.rows;have mpx:=mtx.rpos;have mcx:=mtx.cpos;have m0x:=mtx.row 0 oM
 replace hs:=(((hs.a_SlO hAWx).add (K:=fun h_=>QVs h_ usx (ls.getD 0 lay0).W) hUx).a_SlO hABx)
 refine lHe 13 ((ts.getD 0 lvd).2.1) hs (((hs.f.2.2.2.2.1).el 0 oM).part 1 1) eWx ?_
 refine lX 14 AWx usx.length cWx 1 0 0 ((hs.f.2.2.1).ok oM) ?_
 obtain ⟨Arp,crp,erp,hcrp,hRrp⟩:=(hs.f.2.1).at_ 0 oM
 replace hs:=(hs.a_SlO hRrp)
 refine lHe 15 (usx.getD 0 undef) hs ((hs.f.2.2.2.1).el 0 oM) erp ?_
 refine lL hs [.v 16 (.int .i64 ((((ls.getD 0 lay0).W).getD 0 []).length:Nat))] (lRw 17 3 1 natc ([((((ls.getD 0 lay0).W).getD 0 []).length:Nat)]:List Nat) hs (fun b7 w8 h9 hs=>?_))
 refine lL hs [.m 3 17] (lN (CG.seq (cSL (lL hs [.v 18 (.pointer (some ⟨b1,0,none⟩)),.o 19 (.slice A ts.length cap) 0 0 1,.v 20 (.int .i64 (ts.length:Nat)),.v 21 (.int .i64 0)] (lN (CG.block (cTo [(2,.slice none 0 0),(19,.slice A ts.length cap),(20,.int .i64 (ts.length:Nat)),(21,.int .i64 0),(3,.slice (some ⟨b7,0,none⟩) ((([((((ls.getD 0 lay0).W).getD 0 []).length:Nat)]:List Nat)).length) ((([((((ls.getD 0 lay0).W).getD 0 []).length:Nat)]:List Nat)).length))] ?_)))))))
 refine CG.loop (fun μ_ Γ w_=>∃ (k:Nat) (sA:Option Addr) (sc:Nat) (zl:List Nat) (h_:Hp),μ_=ls.length-k∧Γ=[(2,.slice none 0 0),(19,.slice A ts.length cap),(20,.int .i64 (ts.length:Nat)),(21,.int .i64 (k:Nat)),(3,.slice sA ((zl).length) sc)]∧SS w h w_ h_ [⟨b1,57,[.slice A ts.length cap]⟩] [⟨3,1,sA,sc,(zl).length,(zl).flatMap natc⟩] [fun h_=>SlO 5 qc 0 h_ Arp (((ls.getD 0 lay0).W).getD 0 []),fun h_=>SlO 5 qc 0 h_ ABx (ls.getD 0 lay0).B,fun h_=>QVs h_ usx (ls.getD 0 lay0).W,fun h_=>SlO 1 vc undef h_ AWx usx,fun h_=>NetL h_ ts ls,fun h_=>SlO 3 lvc lvd h_ A ts]∧(k≤ls.length)∧(zl=dOf ls 0::(ls.take k).map (·.W.length))) _ ⟨0,some ⟨b7,0,none⟩,(([((((ls.getD 0 lay0).W).getD 0 []).length:Nat)]:List Nat)).length,([((((ls.getD 0 lay0).W).getD 0 []).length:Nat)]:List Nat),h9,rfl,rfl,hs.to _ _,Nat.zero_le _,rfl⟩ ?_
 rintro _ _ w12 ⟨k,sA,sc,zl,h13,hm14,rfl,hs,hk,hzl⟩
 have hzz:zl.length=k+1:=by rw[hzl];simp;omega
 refine cSL ?_
 cases hb15:(decide (((k:Nat):Int)<((ts.length:Nat):Int)))
 ·
  have phb15:=oF hb15
  refine lB 22 hb15 ?_
  refine lN (CG.seq (cIF (CG.exit ?_)))
  show CG _ _ _ _ _ _ _ _
  refine cSL (lL hs [.m 32 3,.m 2 32] (lN (CG.ret ?_)))
  have hkn:k=ls.length:=by omega
  have hzs:zl=sizesq ls:=by rw[hzl,hkn,List.take_length];rfl
  obtain ⟨h16,hs,hc17⟩:=hs.pubr 0 (A:=sA) (c:=sc) (l:=zl) (f:=natc) (ty:=3) (sz:=1) 0 (fun _=>rfl)
  exact hs.ret [] (.slice sA ((zl).length) sc) (by rw[←hzs];exact ⟨_,_,rfl,hc17,(hs.f.1)⟩)
 have phb15:=oT hb15
 refine lB 22 hb15 ?_
 refine lN (CG.seq (cIT (CG.skipN (CG.seq (CG.block (cSL (lX 23 A ts.length cap 3 (k:Nat) k ((hs.f.2.2.2.2.2.1).ok oM) ?_)))))))
 obtain ⟨eky,⟨AWy,cWy,usy,eWy,hcWy,hAWy,hUy⟩,⟨ABy,cBy,eBy,hcBy,hABy⟩⟩:=(hs.f.2.2.2.2.1).at_ k oM
 obtain ⟨mty,lby,r12y,kdy⟩:=hO.lay k oM
 have luy:=hUy.len;have mry:=mty.rows;have mpy:=mty.rpos;have mcy:=mty.cpos;have m0y:=mty.row 0 oM
 replace hs:=(((hs.a_SlO hAWy).add (K:=fun h_=>QVs h_ usy (ls.getD k lay0).W) hUy).a_SlO hABy)
 refine lHe 24 (.agg #[.int .i64 ((ts.getD k lvd).1),(ts.getD k lvd).2.1,(ts.getD k lvd).2.2]) hs ((hs.f.2.2.2.2.2.2.2.2.1).el k oM) (by rw[eky,eWy,eBy]) ?_
 refine lA 5 114 ([.int .i64 0,.slice none 0 0,.slice none 0 0]) hs (fun b19 w20 h21 hs=>?_)
 refine lP 0 0 ([.int .i64 ((ls.getD k lay0).k),.slice AWy usy.length cWy,.slice ABy ((ls.getD k lay0).B.length) cBy]) hs (fun w22 hs=>?_)
 refine lN (CG.listed (lL hs [.m 25 3,.v 26 (.pointer (some ⟨b19,1,none⟩)),.o 27 (.slice AWy usy.length cWy) 0 1 1,.v 28 (.int .i64 (usy.length:Nat))] (lR 29 3 1 ([.int .i64 (usy.length:Nat)]) hs (fun b23 w24 h25 hs=>?_))))
 refine lY 30 0 3 1 sc sA zl natc usy.length 8 b23 (.int .i64 0) hs (hs.f.1) (fun A27 c28 w29 h30 hs=>?_)
 refine lL hs [.m 3 30] (lN (CG.listed (lIn 31 ((k:Nat)+1) (k+1) ?_)))
 refine lL hs [.m 21 31] (lD ?_)
 intro a_ ka
 have q32:(k+1)≤ls.length:=by omega
 have q33:(zl++[usy.length])=dOf ls 0::(ls.take (k+1)).map (·.W.length):=(by rw[take_snoc' lay0 oM,List.map_append,hzl,luy];rfl)
 replace hs:=hs.tl.tl.tl.tl
 replace hs:=hs.drop 1 0
 refine ⟨_,_,?_,⟨k+1,A27,c28,zl++[usy.length],h30,rfl,rfl,hs.to _ _,q32,q33⟩,ka.to [(2,.slice none 0 0),(19,.slice A ts.length cap),(20,.int .i64 (ts.length:Nat)),(21,.int .i64 ((k+1):Nat)),(3,.slice A27 (((zl++[usy.length])).length) c28)] kR⟩
 omega
theorem rFlat (A:Option Addr)(cap:Nat)(ts:List LV)(ls:List Lay)(d:Nat→Nat)(hO:Net3 ls d)(w:World)(h:Hp)(g:G w h)(hA:SlO 3 lvc lvd h A ts)(hN:RNetL h ts ls) :
    Calls Tryz.prog 69 #[.agg #[.slice A ts.length cap]] w (Ret w h fun v h1=>∃ A c ts,v=.slice A (ts:List RT).length c∧ts.length≤c∧SlO 3 rqc rqd h1 A ts∧RTs h1 ts (flatq ls)):=by
 have hs:=SS.start g
 replace hs:=((hs.a_SlO hA).add (K:=fun h_=>RNetL h_ ts ls) hN)
 have hl:=(hs.f.1).len
 obtain ⟨o1,o2⟩:=hO.len
 have o3:=hO.first
 refine go Tryz.func69 [(0,.agg #[.slice A ts.length cap])] rfl ?_
 refine cSL (lA 1 49 ([.slice A ts.length cap]) hs (fun b1 w2 h3 hs=>?_))
 refine lL hs [.v 2 (.slice none 0 0)] (lNS (lL hs [.v 3 (.slice none 0 0)] (lN (CG.seq (cSL (lL hs [.v 4 (.int .i64 0)] (lN (CG.block ?_))))))))
 replace hs:=hs.nil 86 3
 refine cTo [(1,.pointer (some ⟨b1,0,none⟩)),(2,.slice none 0 0),(4,.int .i64 0),(3,.slice none 0 0)] ?_
 replace hs:=hs.add (K:=fun h_=>RTs h_ ([]) ([])) (RTs.nil)
 refine CG.loop (fun μ_ Γ w_=>∃ (k:Nat) (saA:Option Addr) (sac:Nat) (at_:List RT) (al:List Rat) (h_:Hp),μ_=ls.length-k∧Γ=[(1,.pointer (some ⟨b1,0,none⟩)),(2,.slice none 0 0),(4,.int .i64 (k:Nat)),(3,.slice saA ((at_).length) sac)]∧SS w h w_ h_ [⟨b1,49,[.slice A ts.length cap]⟩] [⟨86,3,saA,sac,(at_).length,(at_).flatMap rqc⟩] [fun h_=>RTs h_ at_ al,fun h_=>RNetL h_ ts ls,fun h_=>SlO 3 lvc lvd h_ A ts]∧(k≤ls.length)∧(al=flatq (ls.take k))) _ ⟨0,none,0,[],[],h3,rfl,rfl,hs.to _ _,Nat.zero_le _,rfl⟩ ?_
 rintro _ _ w4 ⟨k,saA,sac,at_,al,h5,hm6,rfl,hs,hk,hal⟩
 have hsm:=fun h0=>hO.small k h0
 have hfl:=flatq_len hO k hk
 rw[←hal] at hfl
 have hlat:=(hs.f.1).len
 refine CG.seq (cSL (lL hs [.m 6 4,.v 7 (.pointer (some ⟨b1,0,none⟩)),.o 8 (.slice A ts.length cap) 0 0 1,.v 9 (.int .i64 (ts.length:Nat))] ?_))
 cases hb7:(decide (((k:Nat):Int)<((ts.length:Nat):Int)))
 ·
  have phb7:=oF hb7
  refine lB 10 hb7 ?_
  refine lN (cIF (CG.exit ?_))
  show CG _ _ _ _ _ _ _ _
  refine cSL (lL hs [.m 43 3,.m 2 43] (lN (CG.ret ?_)))
  have hkn:k=ls.length:=by omega
  subst hkn
  rw[List.take_length] at hal
  obtain ⟨h8,hs,hc9⟩:=hs.pubr 0 (A:=saA) (c:=sac) (l:=at_) (f:=rqc) (ty:=86) (sz:=3) rqd (fun _=>rfl)
  exact hs.ret [] (.slice saA ((at_).length) sac) (by rw[←hal];exact ⟨_,_,_,rfl,hc9,(hs.f.1),(hs.f.2.1)⟩)
 have phb7:=oT hb7
 refine lB 10 hb7 ?_
 refine lN (cIT (CG.skipN (CG.seq (CG.block (CG.seq (cSL ?_))))))
 obtain ⟨mtx,lbx,r12x,kdx⟩:=hO.lay k oM
 have mrx:=mtx.rows
 have mpx:=mtx.rpos
 have mcx:=mtx.cpos
 refine lL hs [.v 5 (.int .i64 0)] (lN (CG.block (cTo [(1,.pointer (some ⟨b1,0,none⟩)),(2,.slice none 0 0),(4,.int .i64 (k:Nat)),(5,.int .i64 0),(3,.slice saA ((at_).length) sac)] ?_)))
 replace hs:=hs.add (K:=fun h_=>RTs h_ at_ al) ((hs.f.1))
 refine CG.loop (fun μ_ Γ w_=>∃ (i:Nat) (sbA:Option Addr) (sbc:Nat) (bt:List RT) (bl:List Rat) (h_:Hp),μ_=(ls.getD k lay0).W.length-i∧Γ=[(1,.pointer (some ⟨b1,0,none⟩)),(2,.slice none 0 0),(4,.int .i64 (k:Nat)),(5,.int .i64 (i:Nat)),(3,.slice sbA ((bt).length) sbc)]∧SS w h w_ h_ [⟨b1,49,[.slice A ts.length cap]⟩] [⟨86,3,sbA,sbc,(bt).length,(bt).flatMap rqc⟩] [fun h_=>RTs h_ bt bl,fun h_=>RTs h_ at_ al,fun h_=>RNetL h_ ts ls,fun h_=>SlO 3 lvc lvd h_ A ts]∧(i≤(ls.getD k lay0).W.length)∧(bl=al++((ls.getD k lay0).W.take i).flatten)) _ ⟨0,saA,sac,at_,al,h5,rfl,rfl,hs.to _ _,Nat.zero_le _,by simp⟩ ?_
 rintro _ _ w11 ⟨i,sbA,sbc,bt,bl,h12,hm13,rfl,hs,hi,hbl⟩
 have hbn:bl.length≤al.length+i*d k:=by rw[hbl,List.length_append,take_flat_len mtx i oM];exact Nat.le_refl _
 have hid:i*d k≤12*20:=Nat.mul_le_mul oM (hsm oM)
 have hmr:=fun h0=>mtx.row i h0
 have hlbt:=(hs.f.1).len
 refine CG.seq (cSL (lL hs [.m 13 5,.v 14 (.pointer (some ⟨b1,0,none⟩)),.o 15 (.slice A ts.length cap) 0 0 1,.m 16 4] (lX 17 A ts.length cap 3 (k:Nat) k ((hs.f.2.2.2.1).ok oM) ?_)))
 refine lL hs [.v 18 (.pointer (some ⟨(aB A),aO A+k*3+1,none⟩))] ?_
 obtain ⟨ekx,⟨AWx,cWx,usx,eWx,hcWx,hAWx,hTWx⟩,⟨ABx,cBx,rsx,eBx,hcBx,hABx,hTBx⟩⟩:=(hs.f.2.2.1).at_ k oM
 replace hs:=((((hs.a_SlO hAWx).add (K:=fun h_=>RVs h_ usx (ls.getD k lay0).W) hTWx).a_SlO hABx).add (K:=fun h_=>RTs h_ rsx (ls.getD k lay0).B) hTBx)
 refine lHe 19 ((ts.getD k lvd).2.1) hs (((hs.f.2.2.2.2.2.2.2.1).el k oM).part 1 1) eWx ?_
 have lux:=(hs.f.2.2.1).len;have lb2x:=(hs.f.1).len
 refine lL hs [.v 20 (.int .i64 (usx.length:Nat))] ?_
 cases hb14:(decide (((i:Nat):Int)<((usx.length:Nat):Int)))
 ·
  have phb14:=oF hb14
  refine lB 21 hb14 ?_
  refine lN (cIF (CG.exit ?_))
  show CG _ _ _ _ _ _ _ _
  refine CG.listed (lL hs [.m 35 3,.v 36 (.pointer (some ⟨b1,0,none⟩)),.o 37 (.slice A ts.length cap) 0 0 1,.m 38 4] (lX 39 A ts.length cap 3 (k:Nat) k ((hs.f.2.2.2.2.2.2.2.1).ok oM) ?_))
  refine lL hs [.v 40 (.pointer (some ⟨(aB A),aO A+k*3+2,none⟩))] (lHe 41 ((ts.getD k lvd).2.2) hs (((hs.f.2.2.2.2.2.2.2.1).el k oM).part 2 1) eBx ?_)
  refine lYsm 42 0 86 3 sbc sbA bt rqc rqd ABx rsx cBx 56 (.agg #[.bool false,.slice none 0 0,.slice none 0 0]) hs (hs.f.2.1) oM (rt_one (hs.f.1)) (fun A15 c16 w17 h18 hs=>?_)
  refine lL hs [.m 3 42] (lN (CG.listed (lL hs [.m 11 4] (lIn 12 ((k:Nat)+1) (k+1) ?_))))
  refine lL hs [.m 4 12] (lD ?_)
  intro a_ ka
  have q20:RTs h18 (bt++rsx) (bl++(ls.getD k lay0).B):=((hs.f.2.2.2.2.1).app (hs.f.1))
  have q21:(k+1)≤ls.length:=by omega
  have q22:(bl++(ls.getD k lay0).B)=flatq (ls.take (k+1)):=by rw[flatq_take oM,hbl,List.take_of_length_le oM];simp[hal]
  replace hs:=(hs.tl.tl.tl.tl.tl.tl.add (K:=fun h_=>RTs h_ (bt++rsx) (bl++(ls.getD k lay0).B)) q20)
  refine ⟨_,_,?_,⟨k+1,A15,c16,bt++rsx,bl++(ls.getD k lay0).B,h18,rfl,rfl,hs.to _ _,q21,q22⟩,ka.to [(1,.pointer (some ⟨b1,0,none⟩)),(2,.slice none 0 0),(4,.int .i64 ((k+1):Nat)),(3,.slice A15 (((bt++rsx)).length) c16)] kR⟩
  omega
 have phb14:=oT hb14
 refine lB 21 hb14 ?_
 refine lN (cIT (CG.skipN (CG.seq (CG.block (CG.listed (lL hs [.m 24 3,.v 25 (.pointer (some ⟨b1,0,none⟩)),.o 26 (.slice A ts.length cap) 0 0 1,.m 27 4] (lX 28 A ts.length cap 3 (k:Nat) k ((hs.f.2.2.2.2.2.2.2.1).ok oM) ?_)))))))
 refine lL hs [.v 29 (.pointer (some ⟨(aB A),aO A+k*3+1,none⟩))] (lHe 30 ((ts.getD k lvd).2.1) hs (((hs.f.2.2.2.2.2.2.2.1).el k oM).part 1 1) eWx ?_)
 refine lL hs [.m 31 5] (lX 32 AWx usx.length cWx 1 (i:Nat) i ((hs.f.2.2.2.1).ok oM) ?_)
 obtain ⟨Arp,crp,trp,erp,hcrp,hRrp,hTrp⟩:=(hs.f.2.2.1).at_ i oM
 have hlrp:=hTrp.len
 replace hs:=((hs.a_SlO hRrp).add (K:=fun h_=>RTs h_ trp (((ls.getD k lay0).W).getD i [])) hTrp)
 refine lHe 33 (usx.getD i undef) hs ((hs.f.2.2.2.2.2.1).el i oM) erp ?_
 refine lYsm 34 0 86 3 sbc sbA bt rqc rqd Arp trp crp 56 (.agg #[.bool false,.slice none 0 0,.slice none 0 0]) hs (hs.f.2.1) oM (rt_one (hs.f.1)) (fun A23 c24 w25 h26 hs=>?_)
 refine lL hs [.m 3 34] (lN (CG.listed (lL hs [.m 22 5] (lIn 23 ((i:Nat)+1) (i+1) ?_))))
 refine lL hs [.m 5 23] (lD ?_)
 intro a_ ka
 have q28:RTs h26 (bt++trp) (bl++(ls.getD k lay0).W.getD i []):=((hs.f.2.2.2.2.2.2.1).app (hs.f.1))
 have q29:(i+1)≤(ls.getD k lay0).W.length:=by omega
 have q30:(bl++(ls.getD k lay0).W.getD i [])=al++((ls.getD k lay0).W.take (i+1)).flatten:=by rw[flat_take oM,hbl,List.append_assoc]
 replace hs:=(hs.tl.tl.tl.tl.tl.tl.tl.add (K:=fun h_=>RTs h_ (bt++trp) (bl++(ls.getD k lay0).W.getD i [])) q28)
 refine ⟨_,_,?_,⟨i+1,A23,c24,bt++trp,bl++(ls.getD k lay0).W.getD i [],h26,rfl,rfl,hs.to _ _,q29,q30⟩,ka.to [(1,.pointer (some ⟨b1,0,none⟩)),(2,.slice none 0 0),(4,.int .i64 (k:Nat)),(5,.int .i64 ((i+1):Nat)),(3,.slice A23 (((bt++trp)).length) c24)] kR⟩
 omega
theorem sClone0 (b o c:Nat)(l:List Rat)(hpos:0<l.length)(hl:l.length≤1000000)(w:World)(h:Hp)(g:G w h)(hA:SlO 5 qc 0 h (some ⟨b,o,none⟩) l) :
    Calls Tryz.prog 85 #[.slice (some ⟨b,o,none⟩) l.length c] w (Ret w h fun v h1=>SlN h.size 74 qc h1 v l):=by
 have hs:=SS.start g
 replace hs:=(hs.a_SlO hA)
 have hnil:([]:List Rat).length=0:=rfl
 refine go Tryz.func85 [(0,.slice (some ⟨b,o,none⟩) l.length c)] rfl ?_
 refine cSL (lL hs [.v 2 (.slice none 0 0)] (lN (CG.seq (cSL (lL hs [.m 3 0,.v 4 (.bool false)] (lN (cIF (CG.skipN (cSL (lRw 5 74 5 qc ([]:List Rat) hs (fun b1 w2 h3 hs=>?_)))))))))))
 refine lL hs [.m 6 0] (lYs 7 0 74 5 ((([]:List Rat)).length) (some ⟨b1,0,none⟩) ([]:List Rat) qc 0 (some ⟨b,o,none⟩) l c 56 (.agg #[.bool false,.int .u64 0,.string ⟨#[]⟩,.int .u64 0,.string ⟨#[]⟩]) hs (hs.f.1) oM (fun A6 c7 w8 h9 hs=>?_))
 refine lL hs [.m 2 7] (lN (CG.ret ?_))
 obtain ⟨hq,bq,spq,hs,hbq,hcq⟩:=hs.pubn 0 (A:=A6) (c:=c7) (ty:=74) (sz:=5) (l:=([]:List Rat)++l) (f:=qc) (by simpa using hpos)
 subst hbq
 exact hs.ret [] (.slice (some ⟨bq,0,none⟩) l.length c7) (⟨bq,_,spq,rfl,hcq,hs.f.1⟩)
theorem sClone (A:Option Addr)(n c:Nat)(l:List Rat)(hn:l.length=n)(hpos:0<n)(hl:n≤1000000)(w:World)(h:Hp)(g:G w h)(hA:SlO 5 qc 0 h A l):Calls Tryz.prog 85 #[.slice A n c] w (Ret w h fun v h1=>SlN h.size 74 qc h1 v l):=by
  subst hn
  have e:=hA.ok hpos
  rw[e] at hA ⊢
  exact sClone0 _ _ c l hpos hl w h g hA
theorem nNext (m rb c:Nat)(A:Option Addr)(l:List Rat)(hm0:0<m)(hm:m≤l.length)(hl:l.length≤1000000)(hc:l.length≤c)(w:World)(h:Hp)(g:G w h)(ho:Own w rb 35 [.slice A l.length c])(hj:h[rb]?=some junk)(hA:SlO 5 qc 0 h A l) :
    Calls Tryz.prog 217 #[.int .i64 (m:Nat),.pointer (some ⟨rb,0,none⟩)] w (RetM rb w h fun v w' h1=>SlN h.size 74 qc h1 v (l.take m)∧∃ A2 c2,Own w' rb 35 [.slice A2 (l.drop m).length c2]∧(l.drop m).length≤c2∧SlO 5 qc 0 h1 A2 (l.drop m)):=by
 have hmo:UpM [rb] w h w h:=UpM.refl g
 obtain ⟨wz,hz,hs⟩:=SS.at_ g ho hj
 replace hs:=(hs.a_SlO hA)
 refine go Tryz.func217 [(0,.int .i64 (m:Nat)),(1,.pointer (some ⟨rb,0,none⟩))] rfl ?_
 refine cSL (lL hs [.v 3 (.slice none 0 0)] (lNS (lL hs [.o 5 (.slice A l.length c) 0 0 1,.m 6 0] (lT 7 A l.length c 5 (m:Nat) m ?_))))
 have hsz:=hmo.gr.size
 refine lCu 8 (sClone A m c (l.take m) (by rw[List.length_take];omega) hm0 oM _ _ hs.g ((hs.f.1).take m)) ?_
 rintro _ w1 h2 u3 ⟨bq,cq,spq,rfl,hcq,hNq⟩
 replace hmo:=hmo.trans (u3.m _)
 replace hs:=hs.step u3
 replace hNq:=hNq.mono hsz
 replace hs:=(hs.add (K:=fun h_=>Nw h.size h_ bq 74 ((l.take m).flatMap qc++spq)) hNq)
 refine lL hs [.m 4 8] (lNS (lL hs [.o 9 (.slice A l.length c) 0 0 1,.m 10 0] (lF 11 A l.length c 5 (m:Nat) m ?_)))
 refine lPu 0 0 ([.slice (if c=m then A else A.map (·.add (m*5))) (l.length-m) (c-m)]) hs (fun w4 pu hs=>?_)
 replace hmo:=hmo.put pu (List.mem_singleton.2 rfl) hs.g
 exact lNS (lL hs [.m 12 4,.m 3 12] (lN (CG.ret (hs.retM hmo [] (.slice (some ⟨bq,0,none⟩) ((l.take m).length) cq) ⟨⟨bq,cq,spq,rfl,hcq,(hs.f.1)⟩,_,_,by rw[List.length_drop];exact hs.own 0,by rw[List.length_drop];omega,(hs.f.2.1).drop m c hc⟩))))
def QNs (K:Nat)(h:Hp)(us:List Value)(W:List (List Rat)):Prop:=∀ j,j<W.length→SlN K 74 qc h (us.getD j undef) (W.getD j [])
theorem QNs.gw {K:Nat}{h h':Hp}{us:List Value}{W:List (List Rat)}(x:QNs K h us W)(u:Gw h h'):QNs K h' us W:=fun j hj=>(x j hj).gw u
theorem QNs.nil {K:Nat}{h:Hp}{us:List Value}:QNs K h us []:=fun j hj=>by simp at hj
theorem QNs.snoc {K:Nat}{h:Hp}{us:List Value}{W:List (List Rat)}{v:Value}{l:List Rat}{i:Nat}(x:QNs K h us W)(hi:W.length=i)(hl:i<us.length)(hv:SlN K 74 qc h v l):QNs K h (us.set i v) (W++[l]):=by
  subst hi
  intro j hj
  rw[List.length_append,List.length_singleton] at hj
  rw[getD_snoc]
  by_cases e:j=W.length
  · subst e
    rw[if_neg oM,if_pos rfl,List.getD_eq_getElem?_getD,List.getElem?_set_self hl]
    exact hv
  · rw[if_pos oM,List.getD_eq_getElem?_getD,List.getElem?_set_ne (Ne.symm e),←List.getD_eq_getElem?_getD]
    exact x j oM
def LNew (K:Nat)(h:Hp)(t:LV)(L:Lay):Prop:=t.1=L.k∧(∃ us,SlN K 35 vc h t.2.1 us∧us.length=L.W.length∧QNs K h us L.W)∧SlN K 74 qc h t.2.2 L.B
theorem LNew.gw {K:Nat}{h h':Hp}{t:LV}{L:Lay}(x:LNew K h t L)(u:Gw h h'):LNew K h' t L:=by
  obtain ⟨h1,⟨us,h2,h3,h4⟩,h5⟩:=x
  exact ⟨h1,⟨us,h2.gw u,h3,h4.gw u⟩,h5.gw u⟩
structure NNew (K:Nat) (h:Hp) (ts:List LV) (ls:List Lay):Prop where
  len:ts.length=ls.length
  at_:∀ i,i<ls.length→LNew K h (ts.getD i lvd) (ls.getD i lay0)
theorem NNew.gw {K:Nat}{h h':Hp}{ts:List LV}{ls:List Lay}(x:NNew K h ts ls)(u:Gw h h'):NNew K h' ts ls:=⟨x.len,fun i hi=>(x.at_ i hi).gw u⟩
theorem NNew.nil {K:Nat}{h:Hp}:NNew K h [] []:=⟨rfl,fun i hi=>by simp at hi⟩
theorem NNew.snoc {K:Nat}{h:Hp}{ts:List LV}{ls:List Lay}{t:LV}{L:Lay}(x:NNew K h ts ls)(hx:LNew K h t L):NNew K h (ts++[t]) (ls++[L]):=by
  have hl:=x.len
  refine ⟨by simp[hl],fun i hi=>?_⟩
  rw[List.length_append,List.length_singleton] at hi
  rw[getD_snoc,getD_snoc,hl]
  by_cases e:i<ls.length
  · rw[if_pos e,if_pos e];exact x.at_ i e
  · rw[if_neg e,if_neg e,if_pos oM,if_pos oM];exact hx
theorem NNew.mono {K K':Nat}{h:Hp}{ts:List LV}{ls:List Lay}(x:NNew K' h ts ls)(k:K≤K'):NNew K h ts ls:=⟨x.len,fun i hi=>by
  obtain ⟨h1,⟨us,h2,h3,h4⟩,h5⟩:=x.at_ i hi
  exact ⟨h1,⟨us,h2.mono k,h3,fun j hj=>(h4 j hj).mono k⟩,h5.mono k⟩⟩
def nums (d:Nat→Nat):Nat→Nat
  | 0=>0
  | k+1=>nums d k+d (k+1)*d k+d (k+1)
theorem nums_mono (d:Nat→Nat){k n:Nat}(h:k≤n):nums d k≤nums d n:=by
  induction h with
  | refl=>exact Nat.le_refl _
  | step _ ih=>exact Nat.le_trans ih (by show nums d _≤nums d _+_+_;omega)
def Shp (d:Nat→Nat)(zs:List Lay):Prop:=∀ i,i<zs.length→Mat (zs.getD i lay0).W (d (i+1)) (d i)∧(zs.getD i lay0).B.length=d (i+1)
theorem net_shp {ls:List Lay}{d:Nat→Nat}(o:Net3 ls d):Shp d ls:=fun i hi=>⟨(o.lay i hi).1,(o.lay i hi).2.1⟩
theorem Shp.take {d:Nat→Nat}{zs:List Lay}(s:Shp d zs)(k:Nat)(hk:k≤zs.length):(flatq (zs.take k)).length=nums d k:=by
  induction k with
  | zero=>simp[flatq,nums]
  | succ k ih =>
    obtain ⟨m,hb⟩:=s k oM
    rw[flatq_take oM,List.length_append,List.length_append,ih oM,flat_len m.mem,m.rows,hb];rfl
theorem Shp.size {d:Nat→Nat}{zs:List Lay}(s:Shp d zs):(flatq zs).length=nums d zs.length:=by
  have:=s.take zs.length (Nat.le_refl _)
  rwa [List.take_length] at this
theorem Shp.nil {d:Nat→Nat}:Shp d []:=fun i hi=>by simp at hi
theorem Shp.snoc {d:Nat→Nat}{zs:List Lay}{L:Lay}(s:Shp d zs)(m:Mat L.W (d (zs.length+1)) (d zs.length))(hb:L.B.length=d (zs.length+1)):Shp d (zs++[L]):=fun i hi=>by
  rw[List.length_append,List.length_singleton] at hi
  rw[getD_snoc]
  by_cases e:i<zs.length
  · rw[if_pos e];exact s i e
  · have:i=zs.length:=by omega
    subst this
    rw[if_neg e,if_pos rfl];exact ⟨m,hb⟩
theorem fill_end {d:Nat→Nat}{zs:List Lay}{xs rs:List Rat}(s:Shp d zs)(h:flatq zs++rs=xs)(hx:xs.length=nums d zs.length):flatq zs=xs:=by
  have h1:=s.size
  have h2:=congrArg List.length h
  rw[List.length_append] at h2
  have:rs=[]:=List.eq_nil_of_length_eq_zero oM
  rw[←h,this,List.append_nil]
theorem rest_len {d:Nat→Nat}{zs:List Lay}{W:List (List Rat)}{xs rs:List Rat}(s:Shp d zs)(hW:∀ r∈W,r.length=d zs.length)(h:flatq zs++W.flatten++rs=xs):rs.length+(nums d zs.length+W.length*d zs.length)=xs.length:=by
  have h1:=s.size
  have h2:=congrArg List.length h
  rw[List.length_append,List.length_append,flat_len hW] at h2
  omega
theorem mat_of {W:List (List Rat)}{r c:Nat}(h:W.length=r)(hr:0<r)(hc:0<c)(hW:∀ x∈W,x.length=c):Mat W r c:=⟨h,hr,hc,fun i hi=>hW _ (by
  rw[List.getD_eq_getElem?_getD,List.getElem?_eq_getElem oM];exact List.getElem_mem _)⟩
theorem rows_snoc' {W:List (List Rat)}{n:Nat}(h:∀ r∈W,r.length=n){q:List Rat}(hl:q.length=n):∀ r∈W++[q],r.length=n:=fun r hr=>by
  rcases List.mem_append.1 hr with hr|hr
  · exact h r hr
  · rw[List.mem_singleton.1 hr];exact hl
theorem kind_snoc {zs ls:List Lay}{L:Lay}(h:∀ i,i<zs.length→(zs.getD i lay0).k=(ls.getD i lay0).k)(hL:L.k=(ls.getD zs.length lay0).k):∀ i,i<(zs++[L]).length→((zs++[L]).getD i lay0).k=(ls.getD i lay0).k:=fun i hi=>by
  rw[List.length_append,List.length_singleton] at hi
  rw[getD_snoc]
  by_cases e:i<zs.length
  · rw[if_pos e];exact h i e
  · have:i=zs.length:=by omega
    subst this
    rw[if_neg e,if_pos rfl];exact hL
theorem take_cut {a l:List Rat}{m:Nat}:a++l.take m++l.drop m=a++l:=by rw[List.append_assoc,List.take_append_drop]
theorem nFilled (A:Option Addr)(cap:Nat)(ts:List LV)(ls:List Lay)(d:Nat→Nat)(hO:Net3 ls d)(X:Option Addr)(c0:Nat)(xs:List Rat)(hx:xs.length=(flatq ls).length)(hc0:xs.length≤c0)(w:World)(h:Hp)(g:G w h)(hA:SlO 3 lvc lvd h A ts)(hN:NetL h ts ls)(hX:SlO 5 qc 0 h X xs) :
    Calls Tryz.prog 151 #[.agg #[.slice A ts.length cap],.slice X xs.length c0] w (Ret w h fun v h1=>∃ zs,zs.length=ls.length∧Net3 zs d∧(∀ i,i<ls.length→(zs.getD i lay0).k=(ls.getD i lay0).k)∧flatq zs=xs∧∃ bL c sp,∃ us:List LV,v=.agg #[.slice (some ⟨bL,0,none⟩) us.length c]∧us.length≤c∧Nw h.size h1 bL 114 (us.flatMap lvc++sp)∧NNew h.size h1 us zs):=by
 have hs:=SS.start g
 replace hs:=(((hs.a_SlO hA).add (K:=fun h_=>NetL h_ ts ls) hN).a_SlO hX)
 have hl:=(hs.f.2.1).len
 obtain ⟨o1,o2⟩:=hO.len
 have o3:=hO.first
 have hfq:=flatq_len hO ls.length (Nat.le_refl _)
 rw[List.take_length] at hfq
 refine go Tryz.func151 [(0,.agg #[.slice A ts.length cap]),(1,.slice X xs.length c0)] rfl ?_
 refine cSL (lA 2 57 ([.slice A ts.length cap]) hs (fun b1 w2 h3 hs=>?_))
 refine lA 3 35 ([.slice X xs.length c0]) hs (fun b4 w5 h6 hs=>?_)
 refine lA 4 57 ([.slice none 0 0]) hs (fun b7 w8 h9 hs=>?_)
 refine lNS (lL hs [.v 12 (.func (.func 217) #[] #[.pointer (some ⟨b4,0,none⟩)]),.m 5 12] (lNS (lA 6 57 ([.slice none 0 0]) hs (fun b10 w11 h12 hs=>?_))))
 refine lN (CG.seq (cSL (lL hs [.v 13 (.pointer (some ⟨b1,0,none⟩)),.o 14 (.slice A ts.length cap) 3 0 1,.v 15 (.int .i64 (ts.length:Nat)),.v 16 (.int .i64 0)] (lN (CG.block ?_)))))
 replace hs:=hs.nil 114 3
 refine cTo [(4,.pointer (some ⟨b7,0,none⟩)),(5,.func (.func 217) #[] #[.pointer (some ⟨b4,0,none⟩)]),(6,.pointer (some ⟨b10,0,none⟩)),(14,.slice A ts.length cap),(15,.int .i64 (ts.length:Nat)),(16,.int .i64 0)] ?_
 replace hs:=hs.add (K:=fun h_=>NNew h.size h_ ([]) ([])) (NNew.nil)
 replace hs:=hs.add (K:=fun h_=>SlO 5 qc 0 h_ X xs) ((hs.f.2.1))
 refine CG.loop (fun μ_ Γ w_=>∃ (k:Nat) (sA:Option Addr) (sc:Nat) (us:List LV) (zs:List Lay) (rs:List Rat) (Ar:Option Addr) (cr:Nat) (h_:Hp),μ_=ls.length-k∧Γ=[(4,.pointer (some ⟨b7,0,none⟩)),(5,.func (.func 217) #[] #[.pointer (some ⟨b4,0,none⟩)]),(6,.pointer (some ⟨b10,0,none⟩)),(14,.slice A ts.length cap),(15,.int .i64 (ts.length:Nat)),(16,.int .i64 (k:Nat))]∧SS w h w_ h_ [⟨b10,57,[.slice sA ((us).length) sc]⟩,⟨b7,57,[.slice none 0 0]⟩,⟨b4,35,[.slice Ar rs.length cr]⟩,⟨b1,57,[.slice A ts.length cap]⟩] [⟨114,3,sA,sc,(us).length,(us).flatMap lvc⟩] [fun h_=>SlO 5 qc 0 h_ Ar rs,fun h_=>NNew h.size h_ us zs,fun h_=>SlO 5 qc 0 h_ X xs,fun h_=>NetL h_ ts ls,fun h_=>SlO 3 lvc lvd h_ A ts]∧(k≤ls.length)∧(zs.length=k)∧(Shp d zs)∧(∀ i,i<zs.length→(zs.getD i lay0).k=(ls.getD i lay0).k)∧(flatq zs++rs=xs)∧(rs.length≤cr)∧(us.length=k)) _ ⟨0,none,0,[],[],xs,X,c0,h12,rfl,rfl,hs.to _ _,Nat.zero_le _,rfl,Shp.nil,fun i hi=>by simp at hi,rfl,hc0,rfl⟩ ?_
 rintro _ _ w13 ⟨k,sA,sc,us,zs,rs,Ar,cr,h14,hm15,rfl,hs,hk,hzl,hZs,hZk,hflat,hcr0,hul⟩
 have hsm:=fun h0=>hO.small k h0
 have hnm:=fun h0=>nums_mono d (show k+1≤ls.length from h0)
 have hxn:xs.length=nums d ls.length:=by rw[hx,(net_shp hO).size]
 have hnk:nums d (k+1)=nums d k+d (k+1)*d k+d (k+1):=rfl
 refine cSL ?_
 cases hb16:(decide (((k:Nat):Int)<((ts.length:Nat):Int)))
 ·
  have phb16:=oF hb16
  refine lB 17 hb16 ?_
  refine lN (CG.seq (cIF (CG.exit ?_)))
  show CG _ _ _ _ _ _ _ _
  refine cSL (lL hs [.o 57 (.agg #[.slice sA ((us).length) sc]) 0 0 1] (lP 1 0 ([.slice sA ((us).length) sc]) hs (fun w17 hs=>?_)))
  refine lN (CG.ret ?_)
  have hkn:k=ls.length:=by omega
  subst hkn
  obtain ⟨hq,bq,spq,hs,hbq,hcq⟩:=hs.pubn 0 (A:=sA) (c:=sc) (ty:=114) (sz:=3) (l:=us) (f:=lvc) oM
  subst hbq
  exact hs.ret [(1,0,1)] (.agg #[.slice (some ⟨bq,0,none⟩) us.length sc]) ⟨zs,hzl,⟨⟨by omega,by omega⟩,o3,fun i hi=>by have h1:=hZs i hi;have h2:=hZk i oM;have h3:=hO.lay i oM;exact ⟨h1.1,h1.2,h3.2.2.1,by rw[h2];exact h3.2.2.2⟩⟩,fun i hi=>hZk i oM,fill_end hZs hflat (by rw[hx,(net_shp hO).size,hzl]),bq,_,spq,us,rfl,hcq,(hs.f.1),(hs.f.2.2.1)⟩
 have phb16:=oT hb16
 refine lB 17 hb16 ?_
 refine lN (CG.seq (cIT (CG.skipN (CG.seq (CG.block (cSL (lX 18 A ts.length cap 3 (k:Nat) k ((hs.f.2.2.2.2.1).ok oM) ?_)))))))
 obtain ⟨ekx,⟨AWx,cWx,usx,eWx,hcWx,hAWx,hUx⟩,⟨ABx,cBx,eBx,hcBx,hABx⟩⟩:=(hs.f.2.2.2.1).at_ k oM
 obtain ⟨mtx,lbx,r12x,kdx⟩:=hO.lay k oM
 have lux:=hUx.len;have mrx:=mtx.rows;have mpx:=mtx.rpos;have mcx:=mtx.cpos;have m0x:=mtx.row 0 oM
 replace hs:=(((hs.a_SlO hAWx).add (K:=fun h_=>QVs h_ usx (ls.getD k lay0).W) hUx).a_SlO hABx)
 refine lHe 19 (.agg #[.int .i64 ((ts.getD k lvd).1),(ts.getD k lvd).2.1,(ts.getD k lvd).2.2]) hs ((hs.f.2.2.2.2.2.2.2.1).el k oM) (by rw[ekx,eWx,eBx]) ?_
 refine lA 8 114 ([.int .i64 0,.slice none 0 0,.slice none 0 0]) hs (fun b18 w19 h20 hs=>?_)
 refine lP 0 0 ([.int .i64 ((ls.getD k lay0).k),.slice AWx usx.length cWx,.slice ABx ((ls.getD k lay0).B.length) cBx]) hs (fun w21 hs=>?_)
 refine lN (CG.seq ?_)
 have hsr:=hs
 refine cR 8 [⟨7,9,.cells (List.toArray [.int .i64 0,.slice none 0 0,.slice none 0 0]) 114 (0,0)⟩] mixed hs (al_cons (alOk kR (fun _ _=>by kernel_rfl)) al_nil) ?_
 refine eV 0 20 (.pointer (some ⟨b18,0,none⟩)) ?_
 refine eO 1 21 [(0,0,1)] (.int .i64 ((ls.getD k lay0).k)) hs ?_
 refine eV 2 22 (.pointer (some ⟨b18,1,none⟩)) ?_
 refine eO 3 23 [(0,1,1)] (.slice AWx usx.length cWx) hs ?_
 refine eV 4 24 (.int .i64 (usx.length:Nat)) ?_
 refine eK 5 25 35 usx.length 1 24 (.slice none 0 0) vc (.slice none 0 0:Value) hs (fun b22 w23 h24 hs=>?_)
 have hl25:(List.replicate usx.length (.slice none 0 0:Value)).length=usx.length:=by simp
 refine eV 6 26 (.agg #[.int .i64 ((ls.getD k lay0).k),.slice (some ⟨b22,0,none⟩) usx.length usx.length,.slice none 0 0]) ?_
 refine eD1p [⟨b22,35,(List.replicate usx.length (.slice none 0 0:Value)).flatMap vc⟩] hsr hs 114 [.int .i64 0,.slice none 0 0,.slice none 0 0] (fun w26 h27 b28 hs=>?_)
 refine tP 8 0 0 ([.int .i64 ((ls.getD k lay0).k),.slice (some ⟨b22,0,none⟩) usx.length usx.length,.slice none 0 0]) hs (fun w29 hs=>?_)
 refine tN (CG.seq (cSL (lL hs [.v 27 (.pointer (some ⟨b18,1,none⟩)),.o 28 (.slice AWx usx.length cWx) 2 1 1,.v 29 (.int .i64 (usx.length:Nat)),.v 30 (.int .i64 0)] (lN (CG.block (cTo [(4,.pointer (some ⟨b7,0,none⟩)),(5,.func (.func 217) #[] #[.pointer (some ⟨b4,0,none⟩)]),(6,.pointer (some ⟨b10,0,none⟩)),(14,.slice A ts.length cap),(15,.int .i64 (ts.length:Nat)),(16,.int .i64 (k:Nat)),(8,.pointer (some ⟨b18,0,none⟩)),(9,.pointer (some ⟨b28,0,none⟩)),(28,.slice AWx usx.length cWx),(29,.int .i64 (usx.length:Nat)),(30,.int .i64 0)] ?_))))))
 replace hs:=hs.add (K:=fun h_=>QNs h.size h_ (List.replicate usx.length (.slice none 0 0:Value)) ([])) (QNs.nil)
 replace hs:=hs.add (K:=fun h_=>SlO 5 qc 0 h_ Ar rs) ((hs.f.2.2.2.2.1))
 refine CG.loop (fun μ_ Γ w_=>∃ (i:Nat) (ul:List Value) (Wd:List (List Rat)) (rr:List Rat) (A2:Option Addr) (c2:Nat) (h_:Hp),μ_=usx.length-i∧Γ=[(4,.pointer (some ⟨b7,0,none⟩)),(5,.func (.func 217) #[] #[.pointer (some ⟨b4,0,none⟩)]),(6,.pointer (some ⟨b10,0,none⟩)),(14,.slice A ts.length cap),(15,.int .i64 (ts.length:Nat)),(16,.int .i64 (k:Nat)),(8,.pointer (some ⟨b18,0,none⟩)),(9,.pointer (some ⟨b28,0,none⟩)),(28,.slice AWx usx.length cWx),(29,.int .i64 (usx.length:Nat)),(30,.int .i64 (i:Nat))]∧SS w h w_ h_ [⟨b28,114,[.int .i64 ((ls.getD k lay0).k),.slice (some ⟨b22,0,none⟩) usx.length usx.length,.slice none 0 0]⟩,⟨b22,35,(ul).flatMap vc⟩,⟨b18,114,[.int .i64 ((ls.getD k lay0).k),.slice AWx usx.length cWx,.slice ABx ((ls.getD k lay0).B.length) cBx]⟩,⟨b10,57,[.slice sA ((us).length) sc]⟩,⟨b7,57,[.slice none 0 0]⟩,⟨b4,35,[.slice A2 rr.length c2]⟩,⟨b1,57,[.slice A ts.length cap]⟩] [⟨114,3,sA,sc,(us).length,(us).flatMap lvc⟩] [fun h_=>SlO 5 qc 0 h_ A2 rr,fun h_=>QNs h.size h_ ul Wd,fun h_=>SlO 5 qc 0 h_ ABx (ls.getD k lay0).B,fun h_=>QVs h_ usx (ls.getD k lay0).W,fun h_=>SlO 1 vc undef h_ AWx usx,fun h_=>SlO 5 qc 0 h_ Ar rs,fun h_=>NNew h.size h_ us zs,fun h_=>SlO 5 qc 0 h_ X xs,fun h_=>NetL h_ ts ls,fun h_=>SlO 3 lvc lvd h_ A ts]∧(i≤usx.length)∧(ul.length=usx.length)∧(Wd.length=i)∧(∀ r∈Wd,r.length=d k)∧(flatq zs++Wd.flatten++rr=xs)∧(rr.length≤c2)) _ ⟨0,List.replicate usx.length (.slice none 0 0:Value),[],rs,Ar,cr,h27,rfl,rfl,hs.to _ _,Nat.zero_le _,hl25,rfl,fun r hr=>by simp at hr,by rw[List.flatten_nil,List.append_nil];exact hflat,hcr0⟩ ?_
 rintro _ _ w30 ⟨i,ul,Wd,rr,A2,c2,h31,hm32,rfl,hs,hi,hlul,hWl,hWr,hfl2,hcr⟩
 have hrl:=rest_len hZs (by rw[hzl];exact hWr) hfl2
 rw[hzl,hWl] at hrl
 have hid:i*d k≤d (k+1)*d k:=Nat.mul_le_mul_right _ oM
 have hid2:=fun h0:i<d (k+1)=>Nat.mul_le_mul_right (d k) (show i+1≤d (k+1) from h0)
 rw[Nat.add_mul,Nat.one_mul] at hid2
 have hmr:=fun h0=>mtx.row i h0
 have hMt:=fun h0:i=d (k+1)=>mat_of (hWl.trans h0) mpx mcx hWr
 refine cSL ?_
 cases hb33:(decide (((i:Nat):Int)<((usx.length:Nat):Int)))
 ·
  have phb33:=oF hb33
  refine lB 31 hb33 ?_
  refine lN (CG.seq (cIF (CG.exit ?_)))
  show CG _ _ _ _ _ _ _ _
  refine cSL (lL hs [.m 44 5,.v 45 (.pointer (some ⟨b18,2,none⟩)),.o 46 (.slice ABx ((ls.getD k lay0).B.length) cBx) 2 2 1,.v 47 (.int .i64 ((ls.getD k lay0).B.length:Nat))] (lCm 48 (nNext (((ls.getD k lay0).B.length)) b4 c2 A2 (rr) oM oM oM hcr _ _ hs.g (hs.own 5) (hs.jk 5) (hs.f.1)) ?_))
  rintro _ w34 h35 u36 ⟨⟨bq1_,cq1_,sp1_,rfl,hcq1_,hNq1_⟩,A1_,c1_,hO1,hc1_,hSl1_⟩
  replace hNq1_:=hNq1_.mono hs.st.sz
  replace hs:=(hs.stepM 5 u36 hO1).to [⟨b28,114,[.int .i64 ((ls.getD k lay0).k),.slice (some ⟨b22,0,none⟩) usx.length usx.length,.slice none 0 0]⟩,⟨b22,35,(ul).flatMap vc⟩,⟨b18,114,[.int .i64 ((ls.getD k lay0).k),.slice AWx usx.length cWx,.slice ABx ((ls.getD k lay0).B.length) cBx]⟩,⟨b10,57,[.slice sA ((us).length) sc]⟩,⟨b7,57,[.slice none 0 0]⟩,⟨b4,35,[.slice A1_ (((rr).drop (((ls.getD k lay0).B.length))).length) c1_]⟩,⟨b1,57,[.slice A ts.length cap]⟩] [⟨114,3,sA,sc,(us).length,(us).flatMap lvc⟩]
  replace hs:=((hs.a_SlO hSl1_).add (K:=fun h_=>Nw h.size h_ bq1_ 74 (((rr).take (((ls.getD k lay0).B.length))).flatMap qc++sp1_)) hNq1_)
  refine lL hs [.v 49 (.pointer (some ⟨b28,2,none⟩))] (lP 0 2 ([.slice (some ⟨bq1_,0,none⟩) (((rr).take (((ls.getD k lay0).B.length))).length) cq1_]) hs (fun w37 hs=>?_))
  refine lN (CG.listed ?_)
  obtain ⟨h38,hs,sg39,lo40,bc41⟩:=hs.pub 1
  replace hs:=(hs.to [⟨b28,114,[.int .i64 ((ls.getD k lay0).k),.slice (some ⟨b22,0,none⟩) usx.length usx.length,.slice (some ⟨bq1_,0,none⟩) (((rr).take (((ls.getD k lay0).B.length))).length) cq1_]⟩,⟨b18,114,[.int .i64 ((ls.getD k lay0).k),.slice AWx usx.length cWx,.slice ABx ((ls.getD k lay0).B.length) cBx]⟩,⟨b10,57,[.slice sA ((us).length) sc]⟩,⟨b7,57,[.slice none 0 0]⟩,⟨b4,35,[.slice A1_ (((rr).drop (((ls.getD k lay0).B.length))).length) c1_]⟩,⟨b1,57,[.slice A ts.length cap]⟩] [⟨114,3,sA,sc,(us).length,(us).flatMap lvc⟩]).a_SlO (SlO.of_flat (sz:=1) (f:=vc) (d:=undef) (b:=b22) (o:=0) (l:=ul) (fun _=>rfl) sg39)
  replace hs:=hs.add (K:=fun h_=>SlN h.size 35 vc h_ (.slice (some ⟨b22,0,none⟩) usx.length usx.length) (ul)) (⟨b22,usx.length,[],by rw[hlul],Nat.le_of_eq hlul,⟨lo40,by decide,by rw[List.append_nil];exact bc41⟩⟩)
  replace hs:=hs.add (K:=fun h_=>LNew h.size h_ ((ls.getD k lay0).k,.slice (some ⟨b22,0,none⟩) usx.length usx.length,.slice (some ⟨bq1_,0,none⟩) (((rr).take (((ls.getD k lay0).B.length))).length) cq1_) (Lay.mk (ls.getD k lay0).k Wd ((rr).take (((ls.getD k lay0).B.length))))) (⟨rfl,⟨_,(hs.f.1),by show (ul).length=Wd.length;omega,(hs.f.2.2.2.2.2.1)⟩,⟨bq1_,cq1_,sp1_,rfl,hcq1_,(hs.f.2.2.1)⟩⟩)
  refine lL hs [.v 50 (.pointer (some ⟨b10,0,none⟩)),.o 51 (.slice sA ((us).length) sc) 2 0 1,.o 52 (.agg #[.int .i64 ((ls.getD k lay0).k),.slice (some ⟨b22,0,none⟩) usx.length usx.length,.slice (some ⟨bq1_,0,none⟩) (((rr).take (((ls.getD k lay0).B.length))).length) cq1_]) 0 0 3] (lR 53 114 1 ([.int .i64 ((ls.getD k lay0).k),.slice (some ⟨b22,0,none⟩) usx.length usx.length,.slice (some ⟨bq1_,0,none⟩) (((rr).take (((ls.getD k lay0).B.length))).length) cq1_]) hs (fun b43 w44 h45 hs=>?_))
  refine lY 54 0 114 3 sc sA us lvc (((ls.getD k lay0).k,.slice (some ⟨b22,0,none⟩) usx.length usx.length,.slice (some ⟨bq1_,0,none⟩) (((rr).take (((ls.getD k lay0).B.length))).length) cq1_):LV) 56 b43 (.agg #[.int .i64 0,.slice none 0 0,.slice none 0 0]) hs (hs.f.1) (fun A47 c48 w49 h50 hs=>?_)
  refine lL hs [.v 55 (.pointer (some ⟨b10,0,none⟩))] (lP 2 0 ([.slice A47 ((us++[(((ls.getD k lay0).k,.slice (some ⟨b22,0,none⟩) usx.length usx.length,.slice (some ⟨bq1_,0,none⟩) (((rr).take (((ls.getD k lay0).B.length))).length) cq1_):LV)]).length) c48]) hs (fun w52 hs=>?_))
  refine lN (CG.listed (lIn 56 ((k:Nat)+1) (k+1) ?_))
  refine lL hs [.m 16 56] (lD ?_)
  intro a_ ka
  have q53:SlO 5 qc 0 h50 A1_ ((rr).drop (((ls.getD k lay0).B.length))):=(hs.f.2.2.2.2.2.1)
  have q54:NNew h.size h50 (us++[(((ls.getD k lay0).k,.slice (some ⟨b22,0,none⟩) usx.length usx.length,.slice (some ⟨bq1_,0,none⟩) (((rr).take (((ls.getD k lay0).B.length))).length) cq1_):LV)]) (zs++[Lay.mk (ls.getD k lay0).k Wd ((rr).take (((ls.getD k lay0).B.length)))]):=((hs.f.2.2.2.2.2.2.2.2.2.2.2.2.1).snoc (hs.f.2.1))
  have q55:(k+1)≤ls.length:=by omega
  have q56:(zs++[Lay.mk (ls.getD k lay0).k Wd ((rr).take (((ls.getD k lay0).B.length)))]).length=(k+1):=by simp;omega
  have q57:Shp d (zs++[Lay.mk (ls.getD k lay0).k Wd ((rr).take (((ls.getD k lay0).B.length)))]):=Shp.snoc hZs (by rw[hzl];exact hMt oM) (by rw[hzl];show (List.take _ _).length=_;rw[List.length_take];omega)
  have q58:∀ i,i<(zs++[Lay.mk (ls.getD k lay0).k Wd ((rr).take (((ls.getD k lay0).B.length)))]).length→((zs++[Lay.mk (ls.getD k lay0).k Wd ((rr).take (((ls.getD k lay0).B.length)))]).getD i lay0).k=(ls.getD i lay0).k:=kind_snoc hZk (by rw[hzl])
  have q59:flatq (zs++[Lay.mk (ls.getD k lay0).k Wd ((rr).take (((ls.getD k lay0).B.length)))])++((rr).drop (((ls.getD k lay0).B.length)))=xs:=by rw[flatq_snoc];show flatq zs++Wd.flatten++List.take _ _++List.drop _ _=_;rw[take_cut];exact hfl2
  have q60:((rr).drop (((ls.getD k lay0).B.length))).length≤c1_:=hc1_
  have q61:(us++[(((ls.getD k lay0).k,.slice (some ⟨b22,0,none⟩) usx.length usx.length,.slice (some ⟨bq1_,0,none⟩) (((rr).take (((ls.getD k lay0).B.length))).length) cq1_):LV)]).length=(k+1):=by simp;omega
  replace hs:=((hs.tl.tl.tl.tl.tl.tl.tl.tl.tl.tl.tl.tl.tl.add (K:=fun h_=>NNew h.size h_ (us++[(((ls.getD k lay0).k,.slice (some ⟨b22,0,none⟩) usx.length usx.length,.slice (some ⟨bq1_,0,none⟩) (((rr).take (((ls.getD k lay0).B.length))).length) cq1_):LV)]) (zs++[Lay.mk (ls.getD k lay0).k Wd ((rr).take (((ls.getD k lay0).B.length)))])) q54).add (K:=fun h_=>SlO 5 qc 0 h_ A1_ ((rr).drop (((ls.getD k lay0).B.length)))) q53)
  replace hs:=hs.drop 2 0
  refine ⟨_,_,?_,⟨k+1,A47,c48,us++[(((ls.getD k lay0).k,.slice (some ⟨b22,0,none⟩) usx.length usx.length,.slice (some ⟨bq1_,0,none⟩) (((rr).take (((ls.getD k lay0).B.length))).length) cq1_):LV)],zs++[Lay.mk (ls.getD k lay0).k Wd ((rr).take (((ls.getD k lay0).B.length)))],(rr).drop (((ls.getD k lay0).B.length)),A1_,c1_,h50,rfl,rfl,hs.to _ _,q55,q56,q57,q58,q59,q60,q61⟩,ka.to [(4,.pointer (some ⟨b7,0,none⟩)),(5,.func (.func 217) #[] #[.pointer (some ⟨b4,0,none⟩)]),(6,.pointer (some ⟨b10,0,none⟩)),(14,.slice A ts.length cap),(15,.int .i64 (ts.length:Nat)),(16,.int .i64 ((k+1):Nat))] kR⟩
  omega
 have phb33:=oT hb33
 refine lB 31 hb33 ?_
 refine lN (CG.seq (cIT (CG.skipN (CG.seq (CG.block (cSL (lL hs [.m 32 30] (lX 33 AWx usx.length cWx 1 (i:Nat) i ((hs.f.2.2.2.2.1).ok oM) ?_))))))))
 obtain ⟨Arp,crp,erp,hcrp,hRrp⟩:=(hs.f.2.2.2.1).at_ i oM
 replace hs:=(hs.a_SlO hRrp)
 refine lHe 34 (usx.getD i undef) hs ((hs.f.2.2.2.2.2.1).el i oM) erp ?_
 refine lL hs [.m 10 32,.m 11 34] (lN (CG.region ⟨[b4],none⟩ 7 [] mixed kR hs.g al_nil (fun _ hb=>by rw[List.mem_singleton.1 hb];exact lt_of_some (hs.jk 5)) ?_))
 refine eV 0 35 (.pointer (some ⟨b28,1,none⟩)) ?_
 refine eO 1 36 [(0,1,1)] (.slice (some ⟨b22,0,none⟩) usx.length usx.length) hs ?_ (hM:=fun p hp=>by obtain rfl:=List.mem_singleton.1 hp;exact fun hm=>bx_ne hs.st (i:=0) (j:=5) kR kR kR (List.mem_singleton.1 hm))
 refine eV 2 37 (.int .i64 (i:Nat)) ?_
 refine eV 3 38 (.func (.func 217) #[] #[.pointer (some ⟨b4,0,none⟩)]) ?_
 refine eV 4 39 (.slice Arp ((((ls.getD k lay0).W).getD i []).length) crp) ?_
 refine eV 5 40 (.int .i64 ((((ls.getD k lay0).W).getD i []).length:Nat)) ?_
 refine eCm 6 41 hs (List.mem_singleton.2 rfl) (fun _ _ hs=>nNext (((((ls.getD k lay0).W).getD i []).length:Nat)) b4 c2 A2 (rr) oM oM oM hcr _ _ hs.g (hs.own 5) (hs.jk 5) (hs.f.2.1)) ?_
 rintro _ _ _ w62 h63 hs u64 ⟨⟨bq2_,cq2_,sp2_,rfl,hcq2_,hNq2_⟩,A2_,c2_,hO2,hc2_,hSl2_⟩
 replace hNq2_:=hNq2_.mono hs.st.sz
 replace hs:=(hs.stepM 5 u64 hO2).to [⟨b28,114,[.int .i64 ((ls.getD k lay0).k),.slice (some ⟨b22,0,none⟩) usx.length usx.length,.slice none 0 0]⟩,⟨b22,35,(ul).flatMap vc⟩,⟨b18,114,[.int .i64 ((ls.getD k lay0).k),.slice AWx usx.length cWx,.slice ABx ((ls.getD k lay0).B.length) cBx]⟩,⟨b10,57,[.slice sA ((us).length) sc]⟩,⟨b7,57,[.slice none 0 0]⟩,⟨b4,35,[.slice A2_ (((rr).drop (((((ls.getD k lay0).W).getD i []).length:Nat))).length) c2_]⟩,⟨b1,57,[.slice A ts.length cap]⟩] [⟨114,3,sA,sc,(us).length,(us).flatMap lvc⟩]
 replace hs:=((hs.a_SlO hSl2_).add (K:=fun h_=>Nw h.size h_ bq2_ 74 (((rr).take (((((ls.getD k lay0).W).getD i []).length:Nat))).flatMap qc++sp2_)) hNq2_)
 refine eD0 hs (fun w65 h66 hs=>?_)
 refine tX 7 42 (some ⟨b22,0,none⟩) usx.length usx.length 1 (i:Nat) i rfl ?_
 refine tW 8 1 ul vc 1 i (.slice (some ⟨bq2_,0,none⟩) (((rr).take (((((ls.getD k lay0).W).getD i []).length:Nat))).length) cq2_:Value) hs oM (fun w67 hs=>?_)
 have hl68:((ul).set i (.slice (some ⟨bq2_,0,none⟩) (((rr).take (((((ls.getD k lay0).W).getD i []).length:Nat))).length) cq2_:Value)).length=usx.length:=by rw[List.length_set];exact hlul
 replace hs:=hs.to [⟨b28,114,[.int .i64 ((ls.getD k lay0).k),.slice (some ⟨b22,0,none⟩) usx.length usx.length,.slice none 0 0]⟩,⟨b22,35,((ul).set i (.slice (some ⟨bq2_,0,none⟩) (((rr).take (((((ls.getD k lay0).W).getD i []).length:Nat))).length) cq2_:Value)).flatMap vc⟩,⟨b18,114,[.int .i64 ((ls.getD k lay0).k),.slice AWx usx.length cWx,.slice ABx ((ls.getD k lay0).B.length) cBx]⟩,⟨b10,57,[.slice sA ((us).length) sc]⟩,⟨b7,57,[.slice none 0 0]⟩,⟨b4,35,[.slice A2_ (((rr).drop (((((ls.getD k lay0).W).getD i []).length:Nat))).length) c2_]⟩,⟨b1,57,[.slice A ts.length cap]⟩] [⟨114,3,sA,sc,(us).length,(us).flatMap lvc⟩]
 refine tN (CG.listed (lIn 43 ((i:Nat)+1) (i+1) ?_))
 refine lL hs [.m 30 43] (lD ?_)
 intro a_ ka
 have q69:SlO 5 qc 0 h66 A2_ ((rr).drop (((((ls.getD k lay0).W).getD i []).length:Nat))):=(hs.f.2.1)
 have q70:QNs h.size h66 ((ul).set i (.slice (some ⟨bq2_,0,none⟩) (((rr).take (((((ls.getD k lay0).W).getD i []).length:Nat))).length) cq2_:Value)) (Wd++[rr.take ((ls.getD k lay0).W.getD i []).length]):=(QNs.snoc (hs.f.2.2.2.2.1) hWl oM ⟨bq2_,cq2_,sp2_,rfl,hcq2_,(hs.f.1)⟩)
 have q71:(i+1)≤usx.length:=by omega
 have q72:((ul).set i (.slice (some ⟨bq2_,0,none⟩) (((rr).take (((((ls.getD k lay0).W).getD i []).length:Nat))).length) cq2_:Value)).length=usx.length:=hl68
 have q73:(Wd++[rr.take ((ls.getD k lay0).W.getD i []).length]).length=(i+1):=by simp;omega
 have q74:∀ r∈(Wd++[rr.take ((ls.getD k lay0).W.getD i []).length]),r.length=d k:=(rows_snoc' hWr (by rw[List.length_take];omega))
 have q75:flatq zs++(Wd++[rr.take ((ls.getD k lay0).W.getD i []).length]).flatten++((rr).drop (((((ls.getD k lay0).W).getD i []).length:Nat)))=xs:=by rw[List.flatten_append,List.flatten_singleton,←List.append_assoc,take_cut];exact hfl2
 have q76:((rr).drop (((((ls.getD k lay0).W).getD i []).length:Nat))).length≤c2_:=hc2_
 replace hs:=((hs.tl.tl.tl.tl.tl.add (K:=fun h_=>QNs h.size h_ ((ul).set i (.slice (some ⟨bq2_,0,none⟩) (((rr).take (((((ls.getD k lay0).W).getD i []).length:Nat))).length) cq2_:Value)) (Wd++[rr.take ((ls.getD k lay0).W.getD i []).length])) q70).add (K:=fun h_=>SlO 5 qc 0 h_ A2_ ((rr).drop (((((ls.getD k lay0).W).getD i []).length:Nat)))) q69)
 refine ⟨_,_,?_,⟨i+1,(ul).set i (.slice (some ⟨bq2_,0,none⟩) (((rr).take (((((ls.getD k lay0).W).getD i []).length:Nat))).length) cq2_:Value),Wd++[rr.take ((ls.getD k lay0).W.getD i []).length],(rr).drop (((((ls.getD k lay0).W).getD i []).length:Nat)),A2_,c2_,h66,rfl,rfl,hs.to _ _,q71,q72,q73,q74,q75,q76⟩,ka.to [(4,.pointer (some ⟨b7,0,none⟩)),(5,.func (.func 217) #[] #[.pointer (some ⟨b4,0,none⟩)]),(6,.pointer (some ⟨b10,0,none⟩)),(14,.slice A ts.length cap),(15,.int .i64 (ts.length:Nat)),(16,.int .i64 (k:Nat)),(8,.pointer (some ⟨b18,0,none⟩)),(9,.pointer (some ⟨b28,0,none⟩)),(28,.slice AWx usx.length cWx),(29,.int .i64 (usx.length:Nat)),(30,.int .i64 ((i+1):Nat))] kR⟩
 omega
theorem RTs.drop_ {h:Hp}{ts:List RT}{qs:List Rat}(r:RTs h ts qs)(k:Nat):RTs h (ts.drop k) (qs.drop k):=⟨by rw[List.length_drop,List.length_drop,r.len],fun i hi=>by rw[List.length_drop] at hi;rw[getD_drop_,getD_drop_];exact r.at_ _ oM⟩
theorem RTs.take_ {h:Hp}{ts:List RT}{qs:List Rat}(r:RTs h ts qs)(k:Nat):RTs h (ts.take k) (qs.take k):=⟨by rw[List.length_take,List.length_take,r.len],fun i hi=>by
  rw[List.length_take] at hi
  have e:∀ {α:Type} (l:List α) (d:α),(l.take k).getD i d=l.getD i d:=fun l d=>by rw[List.getD_eq_getElem?_getD,List.getElem?_take_of_lt oM,←List.getD_eq_getElem?_getD]
  rw[e,e];exact r.at_ _ oM⟩
theorem rWithFlat (A:Option Addr)(cap:Nat)(ts:List LV)(ls:List Lay)(d:Nat→Nat)(hO:Net3 ls d)(X:Option Addr)(c0:Nat)(xs:List Rat)(tX:List RT)(hx:xs.length=(flatq ls).length)(hc0:tX.length≤c0)(w:World)(h:Hp)(g:G w h)(hA:SlO 3 lvc lvd h A ts)(hN:RNetL h ts ls)(hX:SlO 3 rqc rqd h X tX)(hTx:RTs h tX xs) :
    Calls Tryz.prog 71 #[.agg #[.slice A ts.length cap],.slice X tX.length c0] w (Ret w h fun v h1=>∃ A c,∃ us:List LV,∃ zs,v=.agg #[.slice A us.length c]∧us.length≤c∧SlO 3 lvc lvd h1 A us∧RNetL h1 us zs∧zs.length=ls.length∧Shp d zs∧(∀ i,i<ls.length→(zs.getD i lay0).k=(ls.getD i lay0).k)∧flatq zs=xs):=by
 have hs:=SS.start g
 replace hs:=((((hs.a_SlO hA).add (K:=fun h_=>RNetL h_ ts ls) hN).a_SlO hX).add (K:=fun h_=>RTs h_ tX xs) hTx)
 have hl:=(hs.f.2.2.1).len
 obtain ⟨o1,o2⟩:=hO.len
 have o3:=hO.first
 have hfq:=flatq_len hO ls.length (Nat.le_refl _)
 rw[List.take_length] at hfq
 have hlx:=(hs.f.1).len
 have hxn:xs.length=nums d ls.length:=by rw[hx,(net_shp hO).size]
 refine go Tryz.func71 [(0,.agg #[.slice A ts.length cap]),(1,.slice X tX.length c0)] rfl ?_
 refine cSL (lA 2 49 ([.slice A ts.length cap]) hs (fun b1 w2 h3 hs=>?_))
 refine lA 4 49 ([.slice none 0 0]) hs (fun b4 w5 h6 hs=>?_)
 refine lNS (lA 5 49 ([.slice none 0 0]) hs (fun b7 w8 h9 hs=>?_))
 refine lNS (lL hs [.v 6 (.int .i64 0)] (lN (CG.seq (cSL (lL hs [.v 7 (.int .i64 0)] (lN (CG.block ?_)))))))
 replace hs:=hs.nil 168 3
 refine cTo [(1,.slice X tX.length c0),(2,.pointer (some ⟨b1,0,none⟩)),(4,.pointer (some ⟨b4,0,none⟩)),(5,.pointer (some ⟨b7,0,none⟩)),(7,.int .i64 0),(6,.int .i64 0)] ?_
 replace hs:=hs.add (K:=fun h_=>RNetL h_ ([]) ([])) (RNetL.nil)
 refine CG.loop (fun μ_ Γ w_=>∃ (k:Nat) (sA:Option Addr) (sc:Nat) (us:List LV) (zs:List Lay) (a1:Nat) (h_:Hp),μ_=ls.length-k∧Γ=[(1,.slice X tX.length c0),(2,.pointer (some ⟨b1,0,none⟩)),(4,.pointer (some ⟨b4,0,none⟩)),(5,.pointer (some ⟨b7,0,none⟩)),(7,.int .i64 (k:Nat)),(6,.int .i64 (a1:Nat))]∧SS w h w_ h_ [⟨b7,49,[.slice sA ((us).length) sc]⟩,⟨b4,49,[.slice none 0 0]⟩,⟨b1,49,[.slice A ts.length cap]⟩] [⟨168,3,sA,sc,(us).length,(us).flatMap lvc⟩] [fun h_=>RNetL h_ us zs,fun h_=>RTs h_ tX xs,fun h_=>SlO 3 rqc rqd h_ X tX,fun h_=>RNetL h_ ts ls,fun h_=>SlO 3 lvc lvd h_ A ts]∧(k≤ls.length)∧(zs.length=k)∧(a1=nums d k)∧(Shp d zs)∧(∀ i,i<zs.length→(zs.getD i lay0).k=(ls.getD i lay0).k)∧(flatq zs=xs.take a1)) _ ⟨0,none,0,[],[],0,h9,rfl,rfl,hs.to _ _,Nat.zero_le _,rfl,rfl,Shp.nil,fun i hi=>by simp at hi,rfl⟩ ?_
 rintro _ _ w10 ⟨k,sA,sc,us,zs,a1,h11,hm12,rfl,hs,hk,hzl,ha1,hZs,hZk,hflat⟩
 have hlu:=(hs.f.1).len
 have hsm:=fun h0=>hO.small k h0
 have hnm:=fun h0=>nums_mono d (show k+1≤ls.length from h0)
 have hnm0:=nums_mono d hk
 have hnk:nums d (k+1)=nums d k+d (k+1)*d k+d (k+1):=rfl
 refine CG.seq (cSL (lL hs [.m 11 7,.v 12 (.pointer (some ⟨b1,0,none⟩)),.o 13 (.slice A ts.length cap) 2 0 1,.v 14 (.int .i64 (ts.length:Nat))] ?_))
 cases hb13:(decide (((k:Nat):Int)<((ts.length:Nat):Int)))
 ·
  have phb13:=oF hb13
  refine lB 15 hb13 ?_
  refine lN (cIF (CG.exit ?_))
  show CG _ _ _ _ _ _ _ _
  refine cSL ?_
  obtain ⟨h14,hs,hc15⟩:=hs.pubr 0 (A:=sA) (c:=sc) (l:=us) (f:=lvc) (ty:=168) (sz:=3) lvd (fun _=>rfl)
  refine lL hs [.o 83 (.agg #[.slice sA ((us).length) sc]) 0 0 1] (lP 1 0 ([.slice sA ((us).length) sc]) hs (fun w17 hs=>?_))
  refine lN (CG.ret ?_)
  have hkn:k=ls.length:=by omega
  subst hkn
  exact hs.ret [(1,0,1)] (.agg #[.slice sA ((us).length) sc]) (⟨_,_,us,zs,rfl,hc15,(hs.f.1),(hs.f.2.1),hzl,hZs,fun i hi=>hZk i oM,by rw[hflat];exact List.take_of_length_le oM⟩)
 have phb13:=oT hb13
 refine lB 15 hb13 ?_
 refine lN (cIT (CG.skipN (CG.seq (CG.block (cSL ?_)))))
 obtain ⟨mtx,lbx,r12x,kdx⟩:=hO.lay k oM
 have mrx:=mtx.rows
 have mpx:=mtx.rpos
 have mcx:=mtx.cpos
 have m0x:=mtx.row 0 oM
 refine lL hs [.v 18 (.pointer (some ⟨b1,0,none⟩)),.o 19 (.slice A ts.length cap) 2 0 1,.m 20 7] (lX 21 A ts.length cap 3 (k:Nat) k ((hs.f.2.2.2.2.1).ok oM) ?_)
 refine lL hs [.v 22 (.pointer (some ⟨(aB A),aO A+k*3,none⟩))] ?_
 obtain ⟨ekx,⟨AWx,cWx,usx,eWx,hcWx,hAWx,hTWx⟩,⟨ABx,cBx,rsx,eBx,hcBx,hABx,hTBx⟩⟩:=(hs.f.2.2.2.1).at_ k oM
 replace hs:=((((hs.a_SlO hAWx).add (K:=fun h_=>RVs h_ usx (ls.getD k lay0).W) hTWx).a_SlO hABx).add (K:=fun h_=>RTs h_ rsx (ls.getD k lay0).B) hTBx)
 refine lHe 23 (.int .i64 ((ts.getD k lvd).1)) hs (((hs.f.2.2.2.2.2.2.2.2.1).el k oM).part 0 1) (by rw[ekx]) ?_
 have lux:=(hs.f.2.2.1).len;have lb2x:=(hs.f.1).len
 refine lL hs [.v 24 (.agg #[.int .i64 ((ls.getD k lay0).k),.slice none 0 0,.slice none 0 0])] (lA 8 168 ([.int .i64 0,.slice none 0 0,.slice none 0 0]) hs (fun b18 w19 h20 hs=>?_))
 refine lP 0 0 ([.int .i64 ((ls.getD k lay0).k),.slice none 0 0,.slice none 0 0]) hs (fun w21 hs=>?_)
 refine lNS (lL hs [.v 25 (.pointer (some ⟨b1,0,none⟩)),.o 26 (.slice A ts.length cap) 3 0 1,.m 27 7] (lX 28 A ts.length cap 3 (k:Nat) k ((hs.f.2.2.2.2.2.2.2.2.1).ok oM) ?_))
 refine lL hs [.v 29 (.pointer (some ⟨(aB A),aO A+k*3+1,none⟩))] (lHe 30 ((ts.getD k lvd).2.1) hs (((hs.f.2.2.2.2.2.2.2.2.1).el k oM).part 1 1) eWx ?_)
 refine lX 31 AWx usx.length cWx 1 0 0 ((hs.f.2.2.2.1).ok oM) ?_
 obtain ⟨Arp,crp,trp,erp,hcrp,hRrp,hTrp⟩:=(hs.f.2.2.1).at_ 0 oM
 have hlrp:=hTrp.len
 replace hs:=((hs.a_SlO hRrp).add (K:=fun h_=>RTs h_ trp (((ls.getD k lay0).W).getD 0 [])) hTrp)
 refine lHe 32 (usx.getD 0 undef) hs ((hs.f.2.2.2.2.2.1).el 0 oM) erp ?_
 refine lL hs [.v 33 (.int .i64 (trp.length:Nat)),.m 9 33] (lN (CG.seq (cSL (lL hs [.v 10 (.int .i64 0)] (lN (CG.block ?_))))))
 replace hs:=hs.nil 27 1
 refine cTo [(1,.slice X tX.length c0),(2,.pointer (some ⟨b1,0,none⟩)),(4,.pointer (some ⟨b4,0,none⟩)),(5,.pointer (some ⟨b7,0,none⟩)),(7,.int .i64 (k:Nat)),(8,.pointer (some ⟨b18,0,none⟩)),(9,.int .i64 (trp.length:Nat)),(10,.int .i64 0),(6,.int .i64 (a1:Nat))] ?_
 replace hs:=hs.add (K:=fun h_=>RVs h_ ([]) ([])) (RVs.nil)
 refine CG.loop (fun μ_ Γ w_=>∃ (i:Nat) (sWA:Option Addr) (sWc:Nat) (vW:List Value) (Wl:List (List Rat)) (a2:Nat) (h_:Hp),μ_=(ls.getD k lay0).W.length-i∧Γ=[(1,.slice X tX.length c0),(2,.pointer (some ⟨b1,0,none⟩)),(4,.pointer (some ⟨b4,0,none⟩)),(5,.pointer (some ⟨b7,0,none⟩)),(7,.int .i64 (k:Nat)),(8,.pointer (some ⟨b18,0,none⟩)),(9,.int .i64 (trp.length:Nat)),(10,.int .i64 (i:Nat)),(6,.int .i64 (a2:Nat))]∧SS w h w_ h_ [⟨b18,168,[.int .i64 ((ls.getD k lay0).k),.slice sWA ((vW).length) sWc,.slice none 0 0]⟩,⟨b7,49,[.slice sA ((us).length) sc]⟩,⟨b4,49,[.slice none 0 0]⟩,⟨b1,49,[.slice A ts.length cap]⟩] [⟨27,1,sWA,sWc,(vW).length,(vW).flatMap vc⟩,⟨168,3,sA,sc,(us).length,(us).flatMap lvc⟩] [fun h_=>RVs h_ vW Wl,fun h_=>RTs h_ trp (((ls.getD k lay0).W).getD 0 []),fun h_=>SlO 3 rqc rqd h_ Arp trp,fun h_=>RTs h_ rsx (ls.getD k lay0).B,fun h_=>SlO 3 rqc rqd h_ ABx rsx,fun h_=>RVs h_ usx (ls.getD k lay0).W,fun h_=>SlO 1 vc undef h_ AWx usx,fun h_=>RNetL h_ us zs,fun h_=>RTs h_ tX xs,fun h_=>SlO 3 rqc rqd h_ X tX,fun h_=>RNetL h_ ts ls,fun h_=>SlO 3 lvc lvd h_ A ts]∧(i≤(ls.getD k lay0).W.length)∧(a2=nums d k+i*d k)∧(Wl.length=i)∧(∀ r∈Wl,r.length=d k)∧(flatq zs++Wl.flatten=xs.take a2)) _ ⟨0,none,0,[],[],a1,h20,rfl,rfl,hs.to _ _,Nat.zero_le _,by omega,rfl,fun r hr=>by simp at hr,(by rw[List.flatten_nil,List.append_nil];exact hflat)⟩ ?_
 rintro _ _ w22 ⟨i,sWA,sWc,vW,Wl,a2,h23,hm24,rfl,hs,hi,ha2,hWl,hWr,hfl2⟩
 have hlv:=(hs.f.1).len
 have hid:i*d k≤d (k+1)*d k:=Nat.mul_le_mul_right _ oM
 have hid2:=fun h0:i<d (k+1)=>Nat.mul_le_mul_right (d k) (show i+1≤d (k+1) from h0)
 rw[Nat.add_mul,Nat.one_mul] at hid2
 have hMt:=fun h0:i=d (k+1)=>mat_of (hWl.trans h0) mpx mcx hWr
 refine CG.seq (cSL (lL hs [.m 34 10,.v 35 (.pointer (some ⟨b1,0,none⟩)),.o 36 (.slice A ts.length cap) 3 0 1,.m 37 7] (lX 38 A ts.length cap 3 (k:Nat) k ((hs.f.2.2.2.2.2.2.2.2.2.2.2.1).ok oM) ?_)))
 refine lL hs [.v 39 (.pointer (some ⟨(aB A),aO A+k*3+1,none⟩))] (lHe 40 ((ts.getD k lvd).2.1) hs (((hs.f.2.2.2.2.2.2.2.2.2.2.2.1).el k oM).part 1 1) eWx ?_)
 refine lL hs [.v 41 (.int .i64 (usx.length:Nat))] ?_
 cases hb25:(decide (((i:Nat):Int)<((usx.length:Nat):Int)))
 ·
  have phb25:=oF hb25
  refine lB 42 hb25 ?_
  refine lN (cIF (CG.exit ?_))
  show CG _ _ _ _ _ _ _ _
  refine cSL ?_
  have hwB:SlO 3 rqc rqd h23 (if c0=a2 then X else X.map (·.add (a2*3))) ((tX.drop a2).take vW.length):=((hs.f.2.2.2.2.2.2.2.2.2.1).drop a2 c0 hc0).take vW.length
  have htB:RTs h23 ((tX.drop a2).take vW.length) ((xs.drop a2).take vW.length):=((hs.f.2.2.2.2.2.2.2.2.1).drop_ a2).take_ vW.length
  have hnB:((tX.drop a2).take vW.length).length=vW.length:=by rw[List.length_take,List.length_drop];omega
  replace hs:=((hs.a_SlO hwB).add (K:=fun h_=>RTs h_ ((tX.drop a2).take vW.length) ((xs.drop a2).take vW.length)) htB)
  refine lR 61 86 0 ([]) hs (fun b26 w27 h28 hs=>?_)
  refine lL hs [.m 62 1,.m 63 6,.m 64 6,.v 65 (.pointer (some ⟨b18,1,none⟩)),.o 66 (.slice sWA ((vW).length) sWc) 0 1 1,.v 67 (.int .i64 ((vW).length:Nat))] (lIn 68 ((a2:Nat)+((vW).length:Nat)) (a2+((vW).length)) ?_)
  refine lBt 69 X tX.length c0 3 (a2:Nat) (a2+((vW).length):Nat) a2 (((tX.drop a2).take vW.length).length) ?_ oM oM
  refine lYz 70 86 3 rqc rqd b26 (if c0=a2 then X else X.map (·.add (a2*3))) ((tX.drop a2).take vW.length) (c0-a2) 56 (.agg #[.bool false,.slice none 0 0,.slice none 0 0]) hs (hs.f.2.2.1) oM (rt_one (hs.f.2.1)) (fun A30 c31 w32 h33 hs=>?_)
  refine lL hs [.v 71 (.pointer (some ⟨b18,2,none⟩))] (lP 0 2 ([.slice A30 (((tX.drop a2).take vW.length).length) c31]) hs (fun w35 hs=>?_))
  refine lNS (lL hs [.m 72 6,.v 73 (.pointer (some ⟨b18,1,none⟩)),.o 74 (.slice sWA ((vW).length) sWc) 0 1 1,.v 75 (.int .i64 ((vW).length:Nat))] (lIn 76 ((a2:Nat)+((vW).length:Nat)) (a2+((vW).length)) ?_))
  refine lL hs [.m 6 76] (lN (CG.listed ?_))
  obtain ⟨h36,hs,hc37⟩:=hs.pubr 1 (A:=sWA) (c:=sWc) (l:=vW) (f:=vc) (ty:=27) (sz:=1) undef (fun _=>rfl)
  obtain ⟨h39,hs,hc40⟩:=hs.pubr 0 (A:=A30) (c:=c31) (l:=(tX.drop a2).take vW.length) (f:=rqc) (ty:=86) (sz:=3) rqd (fun _=>rfl)
  refine lL hs [.v 77 (.pointer (some ⟨b7,0,none⟩)),.o 78 (.slice sA ((us).length) sc) 1 0 1,.o 79 (.agg #[.int .i64 ((ls.getD k lay0).k),.slice sWA ((vW).length) sWc,.slice A30 (((tX.drop a2).take vW.length).length) c31]) 0 0 3] (lR 80 168 1 ([.int .i64 ((ls.getD k lay0).k),.slice sWA ((vW).length) sWc,.slice A30 (((tX.drop a2).take vW.length).length) c31]) hs (fun b42 w43 h44 hs=>?_))
  refine lY 81 0 168 3 sc sA us lvc (((ls.getD k lay0).k,.slice sWA ((vW).length) sWc,.slice A30 (((tX.drop a2).take vW.length).length) c31):LV) 56 b42 (.agg #[.int .i64 0,.slice none 0 0,.slice none 0 0]) hs (hs.f.1) (fun A46 c47 w48 h49 hs=>?_)
  refine lL hs [.v 82 (.pointer (some ⟨b7,0,none⟩))] (lP 1 0 ([.slice A46 ((us++[(((ls.getD k lay0).k,.slice sWA ((vW).length) sWc,.slice A30 (((tX.drop a2).take vW.length).length) c31):LV)]).length) c47]) hs (fun w51 hs=>?_))
  refine lN (CG.listed (lL hs [.m 16 7] (lIn 17 ((k:Nat)+1) (k+1) ?_)))
  refine lL hs [.m 7 17] (lD ?_)
  intro a_ ka
  have q52:RNetL h49 (us++[(((ls.getD k lay0).k,.slice sWA ((vW).length) sWc,.slice A30 (((tX.drop a2).take vW.length).length) c31):LV)]) (zs++[(⟨(ls.getD k lay0).k,Wl,(xs.drop a2).take vW.length⟩:Lay)]):=((hs.f.2.2.2.2.2.2.2.2.2.2.2.2.2.1).snoc ⟨rfl,⟨_,_,vW,rfl,hc37,(hs.f.2.2.1),(hs.f.2.2.2.2.2.2.1)⟩,⟨_,_,_,rfl,hc40,(hs.f.2.1),(hs.f.2.2.2.2.1)⟩⟩)
  have q53:(k+1)≤ls.length:=by omega
  have q54:(zs++[(⟨(ls.getD k lay0).k,Wl,(xs.drop a2).take vW.length⟩:Lay)]).length=(k+1):=by simp;omega
  have q55:(a2+((vW).length):Nat)=nums d (k+1):=by rw[hnk,←show i=d (k+1) by omega];omega
  have q56:Shp d (zs++[(⟨(ls.getD k lay0).k,Wl,(xs.drop a2).take vW.length⟩:Lay)]):=(Shp.snoc hZs (by rw[hzl];exact hMt oM) (by rw[hzl];show (List.take _ _).length=_;rw[List.length_take,List.length_drop];omega))
  have q57:∀ i,i<(zs++[(⟨(ls.getD k lay0).k,Wl,(xs.drop a2).take vW.length⟩:Lay)]).length→((zs++[(⟨(ls.getD k lay0).k,Wl,(xs.drop a2).take vW.length⟩:Lay)]).getD i lay0).k=(ls.getD i lay0).k:=(kind_snoc hZk (by rw[hzl]))
  have q58:flatq (zs++[(⟨(ls.getD k lay0).k,Wl,(xs.drop a2).take vW.length⟩:Lay)])=xs.take (a2+((vW).length):Nat):=(by rw[flatq_snoc];show flatq zs++Wl.flatten++List.take _ (List.drop _ _)=_;rw[hfl2,←List.take_add])
  replace hs:=(hs.tl.tl.tl.tl.tl.tl.tl.tl.tl.tl.tl.tl.tl.tl.add (K:=fun h_=>RNetL h_ (us++[(((ls.getD k lay0).k,.slice sWA ((vW).length) sWc,.slice A30 (((tX.drop a2).take vW.length).length) c31):LV)]) (zs++[(⟨(ls.getD k lay0).k,Wl,(xs.drop a2).take vW.length⟩:Lay)])) q52)
  replace hs:=hs.drop 1 0
  refine ⟨_,_,?_,⟨k+1,A46,c47,us++[(((ls.getD k lay0).k,.slice sWA ((vW).length) sWc,.slice A30 (((tX.drop a2).take vW.length).length) c31):LV)],zs++[(⟨(ls.getD k lay0).k,Wl,(xs.drop a2).take vW.length⟩:Lay)],(a2+((vW).length):Nat),h49,rfl,rfl,hs.to _ _,q53,q54,q55,q56,q57,q58⟩,ka.to [(1,.slice X tX.length c0),(2,.pointer (some ⟨b1,0,none⟩)),(4,.pointer (some ⟨b4,0,none⟩)),(5,.pointer (some ⟨b7,0,none⟩)),(7,.int .i64 ((k+1):Nat)),(6,.int .i64 ((a2+((vW).length):Nat):Nat))] kR⟩
  omega
 have phb25:=oT hb25
 refine lB 42 hb25 ?_
 refine lN (cIT (CG.skipN (CG.seq (CG.block (CG.seq (CG.region ⟨(b4::(Value.slice sWA ((vW).length) sWc).ownBlock.toList),none⟩ 12 [] mixed kR hs.g al_nil (hs.rb_lt 2 0 (rb:=b4) (ty:=27) (sz:=1) (A:=sWA) (c:=sWc) (m:=(vW).length) (cs:=(vW).flatMap vc)) ?_))))))
 have hwA:SlO 3 rqc rqd h23 (if c0=a2 then X else X.map (·.add (a2*3))) ((tX.drop a2).take trp.length):=((hs.f.2.2.2.2.2.2.2.2.2.1).drop a2 c0 hc0).take trp.length
 have htA:RTs h23 ((tX.drop a2).take trp.length) ((xs.drop a2).take trp.length):=((hs.f.2.2.2.2.2.2.2.2.1).drop_ a2).take_ trp.length
 have hnA:((tX.drop a2).take trp.length).length=trp.length:=by rw[List.length_take,List.length_drop];omega
 replace hs:=((hs.a_SlO hwA).add (K:=fun h_=>RTs h_ ((tX.drop a2).take trp.length) ((xs.drop a2).take trp.length)) htA)
 refine eV 0 45 (.pointer (some ⟨b18,1,none⟩)) ?_
 refine eO 1 46 [(0,1,1)] (.slice sWA ((vW).length) sWc) hs ?_ (hM:=fun p hp=>by obtain rfl:=List.mem_singleton.1 hp;exact hs.rb_ne 0 2 0 (rb:=b4) (ty:=27) (sz:=1) (A:=sWA) (c:=sWc) (m:=(vW).length) (cs:=(vW).flatMap vc))
 refine eV 3 48 (.slice X tX.length c0) ?_
 refine eV 4 49 (.int .i64 (a2:Nat)) ?_
 refine eV 5 50 (.int .i64 (a2:Nat)) ?_
 refine eV 6 51 (.int .i64 (trp.length:Nat)) ?_
 refine eIn 7 52 ((a2:Nat)+(trp.length:Nat)) (a2+trp.length) ?_
 refine eBt 8 53 X tX.length c0 3 (a2:Nat) (a2+trp.length:Nat) a2 (((tX.drop a2).take trp.length).length) ?_ oM oM
 refine eR 2 47 86 0 ([]) hs (fun b59 w60 h61 hs=>?_)
 refine eYz 9 54 86 3 rqc rqd b59 (if c0=a2 then X else X.map (·.add (a2*3))) ((tX.drop a2).take trp.length) (c0-a2) 56 (.agg #[.bool false,.slice none 0 0,.slice none 0 0]) hs (fun _ f_=>f_.2.2.1) oM (rt_one (hs.f.2.1)) (fun A63 c64 w65 h66 hs=>?_)
 refine eR 10 55 27 1 ([.slice A63 (((tX.drop a2).take trp.length).length) c64]) hs (fun b68 w69 h70 hs=>?_)
 refine eY 11 56 1 27 1 sWc sWA vW vc (.slice A63 (((tX.drop a2).take trp.length).length) c64:Value) 24 b68 (.slice none 0 0) hs (fun _ f_=>f_.1) (fun b hb=>List.mem_cons_of_mem _ (Option.mem_toList.2 hb)) (fun A72 c73 w74 h75 hs=>?_)
 refine eD0 hs (fun w77 h78 hs=>?_)
 refine tV 12 57 (.pointer (some ⟨b18,1,none⟩)) ?_
 refine tP 13 0 1 ([.slice A72 ((vW++[(.slice A63 (((tX.drop a2).take trp.length).length) c64:Value)]).length) c73]) hs (fun w79 hs=>?_)
 refine tN (CG.listed ?_)
 obtain ⟨h80,hs,hc81⟩:=hs.pubr 0 (A:=A63) (c:=c64) (l:=(tX.drop a2).take trp.length) (f:=rqc) (ty:=86) (sz:=3) rqd (fun _=>rfl)
 refine lL hs [.m 58 6,.m 59 9] (lIn 60 ((a2:Nat)+(trp.length:Nat)) (a2+trp.length) ?_)
 refine lL hs [.m 6 60] (lN (CG.listed (lL hs [.m 43 10] (lIn 44 ((i:Nat)+1) (i+1) ?_))))
 refine lL hs [.m 10 44] (lD ?_)
 intro a_ ka
 have q83:RVs h80 (vW++[(.slice A63 (((tX.drop a2).take trp.length).length) c64:Value)]) (Wl++[(xs.drop a2).take trp.length]):=(RVs.snoc (hs.f.2.2.2.2.2.1) ⟨_,_,_,rfl,hc81,(hs.f.1),(hs.f.2.2.2.1)⟩)
 have q84:(i+1)≤(ls.getD k lay0).W.length:=by omega
 have q85:(a2+trp.length)=nums d k+(i+1)*d k:=by rw[Nat.add_mul];omega
 have q86:(Wl++[(xs.drop a2).take trp.length]).length=(i+1):=by simp;omega
 have q87:∀ r∈(Wl++[(xs.drop a2).take trp.length]),r.length=d k:=(rows_snoc' hWr (by rw[List.length_take,List.length_drop];omega))
 have q88:flatq zs++(Wl++[(xs.drop a2).take trp.length]).flatten=xs.take (a2+trp.length):=(by rw[List.flatten_append,List.flatten_singleton,←List.append_assoc,hfl2,←List.take_add])
 replace hs:=(hs.tl.tl.tl.tl.tl.tl.add (K:=fun h_=>RVs h_ (vW++[(.slice A63 (((tX.drop a2).take trp.length).length) c64:Value)]) (Wl++[(xs.drop a2).take trp.length])) q83)
 refine ⟨_,_,?_,⟨i+1,A72,c73,vW++[(.slice A63 (((tX.drop a2).take trp.length).length) c64:Value)],Wl++[(xs.drop a2).take trp.length],(a2+trp.length),h80,rfl,rfl,hs.to _ _,q84,q85,q86,q87,q88⟩,ka.to [(1,.slice X tX.length c0),(2,.pointer (some ⟨b1,0,none⟩)),(4,.pointer (some ⟨b4,0,none⟩)),(5,.pointer (some ⟨b7,0,none⟩)),(7,.int .i64 (k:Nat)),(8,.pointer (some ⟨b18,0,none⟩)),(9,.int .i64 (trp.length:Nat)),(10,.int .i64 ((i+1):Nat)),(6,.int .i64 ((a2+trp.length):Nat))] kR⟩
 omega
structure LayQ (L:Lay):Prop where
  rl:L.W.length≤1000000
  rls:∀ i,(L.W.getD i []).length≤1000000
  bl:L.B.length≤1000000
  w:∀ i j,LQ 100000000 ((L.W.getD i []).getD j 0)
  b:∀ i,LQ 100000000 (L.B.getD i 0)
theorem fCmpS (q:Rat)(hq:LQ 100000000 q)(w:World)(h:Hp)(g:G w h):Calls Tryz.prog 63 #[qv q,qv q] w (Ret w h fun v _=>v=.int .i64 0):=by
  have x:=fCmp q q hq hq w h g
  rw[cmpR_self] at x
  exact x
theorem sCmpF (A:Option Addr)(ca:Nat)(qs:List Rat)(D:Option Addr)(cd:Nat)(hl:qs.length≤1000000)(hf:∀ i,LQ 100000000 (qs.getD i 0))(w:World)(h:Hp)(g:G w h)(hA:SlO 5 qc 0 h A qs)(hD:SlO 5 qc 0 h D qs) :
    Calls Tryz.prog 149 #[.slice A qs.length ca,.slice D qs.length cd,.func (.func 63) #[] #[]] w (Ret w h fun v _=>v=.int .i64 0):=by
 have hs:=SS.start g
 replace hs:=((hs.a_SlO hA).a_SlO hD)
 refine go Tryz.func149 [(0,.slice A qs.length ca),(1,.slice D qs.length cd),(2,.func (.func 63) #[] #[])] rfl ?_
 refine cSL (lL hs [.v 6 (.int .i64 0)] (lN (CG.seq (cSL (lL hs [.m 11 0,.v 12 (.int .i64 (qs.length:Nat)),.v 13 (.int .i64 0)] (lN (CG.block (cTo [(0,.slice A qs.length ca),(1,.slice D qs.length cd),(2,.func (.func 63) #[] #[]),(11,.slice A qs.length ca),(12,.int .i64 (qs.length:Nat)),(13,.int .i64 0)] ?_))))))))
 refine CG.loop (fun μ_ Γ w_=>∃ (k:Nat) (h_:Hp),μ_=qs.length-k∧Γ=[(0,.slice A qs.length ca),(1,.slice D qs.length cd),(2,.func (.func 63) #[] #[]),(11,.slice A qs.length ca),(12,.int .i64 (qs.length:Nat)),(13,.int .i64 (k:Nat))]∧SS w h w_ h_ [] [] [fun h_=>SlO 5 qc 0 h_ D qs,fun h_=>SlO 5 qc 0 h_ A qs]∧(k≤qs.length)) _ ⟨0,h,rfl,rfl,hs.to _ _,Nat.zero_le _⟩ ?_
 rintro _ _ w1 ⟨k,h2,hm3,rfl,hs,hk⟩
 refine cSL ?_
 cases hb4:(decide (((k:Nat):Int)<((qs.length:Nat):Int)))
 ·
  have phb4:=oF hb4
  refine lB 14 hb4 ?_
  refine lN (CG.seq (cIF (CG.exit ?_)))
  show CG _ _ _ _ _ _ _ _
  refine CG.seq (cSL (lL hs [.m 34 0,.v 35 (.int .i64 (qs.length:Nat)),.m 36 1,.v 37 (.int .i64 (qs.length:Nat))] ?_))
  have ⟨hb5,phb5⟩:=dF (p:=((qs.length:Nat):Int)<((qs.length:Nat):Int)) oM
  refine lB 38 hb5 ?_
  exact lN (cIF (CG.skipN (cSL (lL hs [.v 6 (.int .i64 0)] (lN (CG.ret (hs.ret [] (.int .i64 0) rfl)))))))
 have phb4:=oT hb4
 refine lB 14 hb4 ?_
 refine lN (CG.seq (cIT (CG.skipN (CG.seq (CG.block (cSL (lL hs [.m 15 13] (lX 16 A qs.length ca 5 (k:Nat) k ((hs.f.2.1).ok oM) ?_))))))))
 refine lH 17 (qv (qs.getD k 0)) hs ((hs.f.2.1).el k oM) ?_
 refine lA 8 74 ([.bool false,.int .u64 0,.string ⟨#[]⟩,.int .u64 0,.string ⟨#[]⟩]) hs (fun b6 w7 h8 hs=>?_)
 refine lL hs [.m 7 15] (lP 0 0 (qc (qs.getD k 0)) hs (fun w9 hs=>?_))
 refine lN (CG.seq (cSL (lL hs [.m 18 7,.m 19 1,.v 20 (.int .i64 (qs.length:Nat))] ?_)))
 have ⟨hb10,phb10⟩:=dF (p:=((qs.length:Nat):Int)≤((k:Nat):Int)) oM
 refine lB 21 hb10 ?_
 refine lN (cIF (CG.skipN (cSL (lL hs [.m 22 1,.m 23 7] (lX 24 D qs.length cd 5 (k:Nat) k ((hs.f.1).ok oM) ?_)))))
 refine lH 25 (qv (qs.getD k 0)) hs ((hs.f.1).el k oM) ?_
 refine lA 9 74 ([.bool false,.int .u64 0,.string ⟨#[]⟩,.int .u64 0,.string ⟨#[]⟩]) hs (fun b11 w12 h13 hs=>?_)
 refine lP 0 0 (qc (qs.getD k 0)) hs (fun w14 hs=>?_)
 refine lNS (lL hs [.m 26 2,.o 27 (qv (qs.getD k 0)) 1 0 5,.o 28 (qv (qs.getD k 0)) 0 0 5] (lC 29 hs (fCmpS (qs.getD k 0) (hf k) _ _ hs.g) ?_))
 rintro _ w15 h16 hs rfl
 refine lL hs [.m 10 29] (lNS (lL hs [.m 30 10,.v 31 (.bool false)] (lN (cIF (CG.skipN (CG.listed (lIn 33 ((k:Nat)+1) (k+1) ?_)))))))
 refine lL hs [.m 13 33] (lD ?_)
 intro a_ ka
 have q17:(k+1)≤qs.length:=by omega
 replace hs:=hs.drop 2 0
 refine ⟨_,_,?_,⟨k+1,h16,rfl,rfl,hs.to _ _,q17⟩,ka.to [(0,.slice A qs.length ca),(1,.slice D qs.length cd),(2,.func (.func 63) #[] #[]),(11,.slice A qs.length ca),(12,.int .i64 (qs.length:Nat)),(13,.int .i64 ((k+1):Nat))] kR⟩
 omega
theorem fSame (A:Option Addr)(ca:Nat)(qs:List Rat)(D:Option Addr)(cd:Nat)(hl:qs.length≤1000000)(hf:∀ i,LQ 100000000 (qs.getD i 0))(w:World)(h:Hp)(g:G w h)(hA:SlO 5 qc 0 h A qs)(hD:SlO 5 qc 0 h D qs) :
    Calls Tryz.prog 64 #[.slice A qs.length ca,.slice D qs.length cd] w (Ret w h fun v _=>v=.bool true):=by
 have hs:=SS.start g
 replace hs:=((hs.a_SlO hA).a_SlO hD)
 refine go Tryz.func64 [(0,.slice A qs.length ca),(1,.slice D qs.length cd)] rfl ?_
 refine cSL (lL hs [.v 4 (.bool false)] (lNS (lL hs [.m 5 0,.m 6 1] (lC 7 hs (sCmpF A ca qs D cd hl hf _ _ hs.g (hs.f.2.1) (hs.f.1)) ?_))))
 rintro _ w1 h2 hs rfl
 exact lL hs [.v 8 (.bool true),.m 4 8] (lN (CG.ret (hs.ret [] (.bool true) rfl)))
theorem sEqRows (A:Option Addr)(ca:Nat)(us:List Value)(D:Option Addr)(cd:Nat)(vs:List Value)(qss:List (List Rat))(hl:qss.length≤1000000)(hls:∀ i,(qss.getD i []).length≤1000000)(hf:∀ i j,LQ 100000000 ((qss.getD i []).getD j 0))(w:World)(h:Hp)(g:G w h)(hA:SlO 1 vc undef h A us)(hU:QVs h us qss)(hD:SlO 1 vc undef h D vs)(hV:QVs h vs qss) :
    Calls Tryz.prog 218 #[.slice A us.length ca,.slice D vs.length cd,.func (.func 64) #[] #[]] w (Ret w h fun v _=>v=.bool true):=by
 have hs:=SS.start g
 replace hs:=((((hs.a_SlO hA).add (K:=fun h_=>QVs h_ us qss) hU).a_SlO hD).add (K:=fun h_=>QVs h_ vs qss) hV)
 have hlu:=(hs.f.2.2.1).len
 have hlv:=(hs.f.1).len
 refine go Tryz.func218 [(0,.slice A us.length ca),(1,.slice D vs.length cd),(2,.func (.func 64) #[] #[])] rfl ?_
 refine cSL (lL hs [.v 6 (.bool false)] (lN (CG.seq (cSL (lL hs [.m 10 0,.v 11 (.int .i64 (us.length:Nat)),.m 12 1,.v 13 (.int .i64 (vs.length:Nat))] ?_)))))
 have hb1:(((us.length:Nat):Int) != ((vs.length:Nat):Int))=false:=bneF oM
 have phb1:=eqOfBne hb1
 refine lB 14 hb1 ?_
 refine lN (cIF (CG.skipN (CG.seq (cSL (lL hs [.m 15 0,.v 16 (.int .i64 (us.length:Nat)),.v 17 (.int .i64 0)] (lN (CG.block (cTo [(1,.slice D vs.length cd),(2,.func (.func 64) #[] #[]),(15,.slice A us.length ca),(16,.int .i64 (us.length:Nat)),(17,.int .i64 0)] ?_))))))))
 refine CG.loop (fun μ_ Γ w_=>∃ (k:Nat) (h_:Hp),μ_=qss.length-k∧Γ=[(1,.slice D vs.length cd),(2,.func (.func 64) #[] #[]),(15,.slice A us.length ca),(16,.int .i64 (us.length:Nat)),(17,.int .i64 (k:Nat))]∧SS w h w_ h_ [] [] [fun h_=>QVs h_ vs qss,fun h_=>SlO 1 vc undef h_ D vs,fun h_=>QVs h_ us qss,fun h_=>SlO 1 vc undef h_ A us]∧(k≤qss.length)) _ ⟨0,h,rfl,rfl,hs.to _ _,Nat.zero_le _⟩ ?_
 rintro _ _ w2 ⟨k,h3,hm4,rfl,hs,hk⟩
 refine cSL ?_
 cases hb5:(decide (((k:Nat):Int)<((us.length:Nat):Int)))
 ·
  have phb5:=oF hb5
  refine lB 18 hb5 ?_
  refine lN (CG.seq (cIF (CG.exit ?_)))
  show CG _ _ _ _ _ _ _ _
  exact cSL (lL hs [.v 6 (.bool true)] (lN (CG.ret (hs.ret [] (.bool true) rfl))))
 have phb5:=oT hb5
 refine lB 18 hb5 ?_
 refine lN (CG.seq (cIT (CG.skipN (CG.seq (CG.block (cSL (lL hs [.m 19 17] (lX 20 A us.length ca 1 (k:Nat) k ((hs.f.2.2.2.1).ok oM) ?_))))))))
 obtain ⟨Aqx,cqx,eqx,hcqx,hRqx⟩:=(hs.f.2.2.1).at_ k oM
 replace hs:=(hs.a_SlO hRqx)
 refine lHe 21 (us.getD k undef) hs ((hs.f.2.2.2.2.1).el k oM) eqx ?_
 refine lL hs [.m 7 19,.m 8 21] (lNS (lL hs [.m 22 1,.m 23 7] (lX 24 D vs.length cd 1 (k:Nat) k ((hs.f.2.2.1).ok oM) ?_)))
 obtain ⟨Aqy,cqy,eqy,hcqy,hRqy⟩:=(hs.f.2.1).at_ k oM
 replace hs:=(hs.a_SlO hRqy)
 refine lHe 25 (vs.getD k undef) hs ((hs.f.2.2.2.1).el k oM) eqy ?_
 refine lL hs [.m 9 25] (lNS (lL hs [.m 26 2,.m 27 8,.m 28 9] (lC 29 hs (fSame Aqx cqx (qss.getD k []) Aqy cqy (hls k) (hf k) _ _ hs.g (hs.f.2.1) (hs.f.1)) ?_)))
 rintro _ w6 h7 hs rfl
 refine lL hs [.v 30 (.bool false)] (lN (cIF (CG.skipN (CG.listed (lIn 31 ((k:Nat)+1) (k+1) ?_)))))
 refine lL hs [.m 17 31] (lD ?_)
 intro a_ ka
 have q8:(k+1)≤qss.length:=by omega
 replace hs:=hs.tl.tl
 refine ⟨_,_,?_,⟨k+1,h7,rfl,rfl,hs.to _ _,q8⟩,ka.to [(1,.slice D vs.length cd),(2,.func (.func 64) #[] #[]),(15,.slice A us.length ca),(16,.int .i64 (us.length:Nat)),(17,.int .i64 ((k+1):Nat))] kR⟩
 omega
theorem mSame (A:Option Addr)(ca:Nat)(us:List Value)(D:Option Addr)(cd:Nat)(vs:List Value)(qss:List (List Rat))(hl:qss.length≤1000000)(hls:∀ i,(qss.getD i []).length≤1000000)(hf:∀ i j,LQ 100000000 ((qss.getD i []).getD j 0))(w:World)(h:Hp)(g:G w h)(hA:SlO 1 vc undef h A us)(hU:QVs h us qss)(hD:SlO 1 vc undef h D vs)(hV:QVs h vs qss) :
    Calls Tryz.prog 155 #[.slice A us.length ca,.slice D vs.length cd] w (Ret w h fun v _=>v=.bool true):=by
 have hs:=SS.start g
 replace hs:=((((hs.a_SlO hA).add (K:=fun h_=>QVs h_ us qss) hU).a_SlO hD).add (K:=fun h_=>QVs h_ vs qss) hV)
 have hlu:=(hs.f.2.2.1).len
 have hlv:=(hs.f.1).len
 refine go Tryz.func155 [(0,.slice A us.length ca),(1,.slice D vs.length cd)] rfl ?_
 refine cSL (lL hs [.v 4 (.bool false)] (lNS (lL hs [.m 5 0,.m 6 1] (lC 7 hs (sEqRows A ca us D cd vs qss hl hls hf _ _ hs.g (hs.f.2.2.2.1) (hs.f.2.2.1) (hs.f.2.1) (hs.f.1)) ?_))))
 rintro _ w1 h2 hs rfl
 exact lL hs [.m 4 7] (lN (CG.ret (hs.ret [] (.bool true) rfl)))
theorem nSame1 (z:Int)(A:Option Addr)(ca:Nat)(us:List Value)(D:Option Addr)(cd:Nat)(vs:List Value)(qss:List (List Rat))(P:Option Addr)(cp:Nat)(bs:List Rat)(Q_:Option Addr)(cq:Nat)(hF:LayQ ⟨z,qss,bs⟩)(w:World)(h:Hp)(g:G w h)(hA:SlO 1 vc undef h A us)(hU:QVs h us qss)(hD:SlO 1 vc undef h D vs)(hV:QVs h vs qss)(hP:SlO 5 qc 0 h P bs)(hQ:SlO 5 qc 0 h Q_ bs) :
    Calls Tryz.prog 154 #[.agg #[.int .i64 z,.slice A us.length ca,.slice P bs.length cp],.agg #[.int .i64 z,.slice D vs.length cd,.slice Q_ bs.length cq]] w (Ret w h fun v _=>v=.bool true):=by
 have hs:=SS.start g
 replace hs:=((((((hs.a_SlO hA).add (K:=fun h_=>QVs h_ us qss) hU).a_SlO hD).add (K:=fun h_=>QVs h_ vs qss) hV).a_SlO hP).a_SlO hQ)
 have hlu:=(hs.f.2.2.2.2.1).len
 have hlv:=(hs.f.2.2.1).len
 refine go Tryz.func154 [(0,.agg #[.int .i64 z,.slice A us.length ca,.slice P bs.length cp]),(1,.agg #[.int .i64 z,.slice D vs.length cd,.slice Q_ bs.length cq])] rfl ?_
 refine cSL (lA 2 114 ([.int .i64 z,.slice A us.length ca,.slice P bs.length cp]) hs (fun b1 w2 h3 hs=>?_))
 refine lA 3 114 ([.int .i64 z,.slice D vs.length cd,.slice Q_ bs.length cq]) hs (fun b4 w5 h6 hs=>?_)
 refine lL hs [.v 4 (.bool false)] (lNS (lL hs [.v 5 (.pointer (some ⟨b1,0,none⟩)),.o 6 (.int .i64 z) 1 0 1,.v 7 (.pointer (some ⟨b4,0,none⟩)),.o 8 (.int .i64 z) 0 0 1] ?_))
 have hb7:((z:Int) == (z:Int))=true:=beqT oM
 have phb7:=eq_of_beq hb7
 refine lB 9 hb7 ?_
 refine lL hs [.m 10 9,.v 11 (.pointer (some ⟨b1,1,none⟩)),.o 12 (.slice A us.length ca) 1 1 1,.v 13 (.pointer (some ⟨b4,1,none⟩)),.o 14 (.slice D vs.length cd) 0 1 1] (lC 15 hs (mSame A ca us D cd vs qss hF.rl hF.rls hF.w _ _ hs.g (hs.f.2.2.2.2.2.1) (hs.f.2.2.2.2.1) (hs.f.2.2.2.1) (hs.f.2.2.1)) ?_)
 rintro _ w8 h9 hs rfl
 refine lL hs [.v 16 (.bool true),.m 17 16,.v 18 (.pointer (some ⟨b1,2,none⟩)),.o 19 (.slice P bs.length cp) 1 2 1,.v 20 (.pointer (some ⟨b4,2,none⟩)),.o 21 (.slice Q_ bs.length cq) 0 2 1] (lC 22 hs (fSame P cp bs Q_ cq hF.bl hF.b _ _ hs.g (hs.f.2.1) (hs.f.1)) ?_)
 rintro _ w10 h11 hs rfl
 exact lL hs [.v 23 (.bool true),.m 4 23] (lN (CG.ret (hs.ret [] (.bool true) rfl)))
theorem sEqLays (A:Option Addr)(ca:Nat)(ts:List LV)(D:Option Addr)(cd:Nat)(rs:List LV)(ls:List Lay)(hn:ls.length≤1000000)(hF:∀ i,LayQ (ls.getD i lay0))(w:World)(h:Hp)(g:G w h)(hA:SlO 3 lvc lvd h A ts)(hN:NetL h ts ls)(hD:SlO 3 lvc lvd h D rs)(hM:NetL h rs ls) :
    Calls Tryz.prog 153 #[.slice A ts.length ca,.slice D rs.length cd,.func (.func 154) #[] #[]] w (Ret w h fun v _=>v=.bool true):=by
 have hs:=SS.start g
 replace hs:=((((hs.a_SlO hA).add (K:=fun h_=>NetL h_ ts ls) hN).a_SlO hD).add (K:=fun h_=>NetL h_ rs ls) hM)
 have hlt:=(hs.f.2.2.1).len
 have hlr:=(hs.f.1).len
 refine go Tryz.func153 [(0,.slice A ts.length ca),(1,.slice D rs.length cd),(2,.func (.func 154) #[] #[])] rfl ?_
 refine cSL (lL hs [.v 6 (.bool false)] (lN (CG.seq (cSL (lL hs [.m 10 0,.v 11 (.int .i64 (ts.length:Nat)),.m 12 1,.v 13 (.int .i64 (rs.length:Nat))] ?_)))))
 have hb1:(((ts.length:Nat):Int) != ((rs.length:Nat):Int))=false:=bneF oM
 have phb1:=eqOfBne hb1
 refine lB 14 hb1 ?_
 refine lN (cIF (CG.skipN (CG.seq (cSL (lL hs [.m 15 0,.v 16 (.int .i64 (ts.length:Nat)),.v 17 (.int .i64 0)] (lN (CG.block (cTo [(1,.slice D rs.length cd),(2,.func (.func 154) #[] #[]),(15,.slice A ts.length ca),(16,.int .i64 (ts.length:Nat)),(17,.int .i64 0)] ?_))))))))
 refine CG.loop (fun μ_ Γ w_=>∃ (k:Nat) (h_:Hp),μ_=ls.length-k∧Γ=[(1,.slice D rs.length cd),(2,.func (.func 154) #[] #[]),(15,.slice A ts.length ca),(16,.int .i64 (ts.length:Nat)),(17,.int .i64 (k:Nat))]∧SS w h w_ h_ [] [] [fun h_=>NetL h_ rs ls,fun h_=>SlO 3 lvc lvd h_ D rs,fun h_=>NetL h_ ts ls,fun h_=>SlO 3 lvc lvd h_ A ts]∧(k≤ls.length)) _ ⟨0,h,rfl,rfl,hs.to _ _,Nat.zero_le _⟩ ?_
 rintro _ _ w2 ⟨k,h3,hm4,rfl,hs,hk⟩
 refine cSL ?_
 cases hb5:(decide (((k:Nat):Int)<((ts.length:Nat):Int)))
 ·
  have phb5:=oF hb5
  refine lB 18 hb5 ?_
  refine lN (CG.seq (cIF (CG.exit ?_)))
  show CG _ _ _ _ _ _ _ _
  exact cSL (lL hs [.v 6 (.bool true)] (lN (CG.ret (hs.ret [] (.bool true) rfl))))
 have phb5:=oT hb5
 refine lB 18 hb5 ?_
 refine lN (CG.seq (cIT (CG.skipN (CG.seq (CG.block (cSL (lL hs [.m 19 17] (lX 20 A ts.length ca 3 (k:Nat) k ((hs.f.2.2.2.1).ok oM) ?_))))))))
 obtain ⟨ekx,⟨AWx,cWx,usx,eWx,hcWx,hAWx,hUx⟩,⟨ABx,cBx,eBx,hcBx,hABx⟩⟩:=(hs.f.2.2.1).at_ k oM
 have lux:=hUx.len
 replace hs:=(((hs.a_SlO hAWx).add (K:=fun h_=>QVs h_ usx (ls.getD k lay0).W) hUx).a_SlO hABx)
 refine lHe 21 (.agg #[.int .i64 ((ts.getD k lvd).1),(ts.getD k lvd).2.1,(ts.getD k lvd).2.2]) hs ((hs.f.2.2.2.2.2.2.1).el k oM) (by rw[ekx,eWx,eBx]) ?_
 refine lA 8 114 ([.int .i64 0,.slice none 0 0,.slice none 0 0]) hs (fun b6 w7 h8 hs=>?_)
 refine lL hs [.m 7 19] (lP 0 0 ([.int .i64 ((ls.getD k lay0).k),.slice AWx usx.length cWx,.slice ABx ((ls.getD k lay0).B.length) cBx]) hs (fun w9 hs=>?_))
 refine lNS (lL hs [.m 22 1,.m 23 7] (lX 24 D rs.length cd 3 (k:Nat) k ((hs.f.2.2.2.2.1).ok oM) ?_))
 obtain ⟨eky,⟨AWy,cWy,usy,eWy,hcWy,hAWy,hUy⟩,⟨ABy,cBy,eBy,hcBy,hABy⟩⟩:=(hs.f.2.2.2.1).at_ k oM
 have luy:=hUy.len
 replace hs:=(((hs.a_SlO hAWy).add (K:=fun h_=>QVs h_ usy (ls.getD k lay0).W) hUy).a_SlO hABy)
 refine lHe 25 (.agg #[.int .i64 ((rs.getD k lvd).1),(rs.getD k lvd).2.1,(rs.getD k lvd).2.2]) hs ((hs.f.2.2.2.2.2.2.2.1).el k oM) (by rw[eky,eWy,eBy]) ?_
 refine lA 9 114 ([.int .i64 0,.slice none 0 0,.slice none 0 0]) hs (fun b10 w11 h12 hs=>?_)
 refine lP 0 0 ([.int .i64 ((ls.getD k lay0).k),.slice AWy usy.length cWy,.slice ABy ((ls.getD k lay0).B.length) cBy]) hs (fun w13 hs=>?_)
 refine lNS (lL hs [.m 26 2,.o 27 (.agg #[.int .i64 ((ls.getD k lay0).k),.slice AWx usx.length cWx,.slice ABx ((ls.getD k lay0).B.length) cBx]) 1 0 3,.o 28 (.agg #[.int .i64 ((ls.getD k lay0).k),.slice AWy usy.length cWy,.slice ABy ((ls.getD k lay0).B.length) cBy]) 0 0 3] (lC 29 hs (nSame1 (ls.getD k lay0).k AWx cWx usx AWy cWy usy (ls.getD k lay0).W ABx cBx (ls.getD k lay0).B ABy cBy (hF k) _ _ hs.g (hs.f.2.2.2.2.2.1) (hs.f.2.2.2.2.1) (hs.f.2.2.1) (hs.f.2.1) (hs.f.2.2.2.1) (hs.f.1)) ?_))
 rintro _ w14 h15 hs rfl
 refine lL hs [.v 30 (.bool false)] (lN (cIF (CG.skipN (CG.listed (lIn 31 ((k:Nat)+1) (k+1) ?_)))))
 refine lL hs [.m 17 31] (lD ?_)
 intro a_ ka
 have q16:(k+1)≤ls.length:=by omega
 replace hs:=hs.tl.tl.tl.tl.tl.tl
 replace hs:=hs.drop 2 0
 refine ⟨_,_,?_,⟨k+1,h15,rfl,rfl,hs.to _ _,q16⟩,ka.to [(1,.slice D rs.length cd),(2,.func (.func 154) #[] #[]),(15,.slice A ts.length ca),(16,.int .i64 (ts.length:Nat)),(17,.int .i64 ((k+1):Nat))] kR⟩
 omega
theorem nSame (A:Option Addr)(ca:Nat)(ts:List LV)(D:Option Addr)(cd:Nat)(rs:List LV)(ls:List Lay)(hn:ls.length≤1000000)(hF:∀ i,LayQ (ls.getD i lay0))(w:World)(h:Hp)(g:G w h)(hA:SlO 3 lvc lvd h A ts)(hN:NetL h ts ls)(hD:SlO 3 lvc lvd h D rs)(hM:NetL h rs ls) :
    Calls Tryz.prog 72 #[.agg #[.slice A ts.length ca],.agg #[.slice D rs.length cd]] w (Ret w h fun v _=>v=.bool true):=by
 have hs:=SS.start g
 replace hs:=((((hs.a_SlO hA).add (K:=fun h_=>NetL h_ ts ls) hN).a_SlO hD).add (K:=fun h_=>NetL h_ rs ls) hM)
 refine go Tryz.func72 [(0,.agg #[.slice A ts.length ca]),(1,.agg #[.slice D rs.length cd])] rfl ?_
 refine cSL (lA 2 57 ([.slice A ts.length ca]) hs (fun b1 w2 h3 hs=>?_))
 refine lA 3 57 ([.slice D rs.length cd]) hs (fun b4 w5 h6 hs=>?_)
 refine lL hs [.v 4 (.bool false)] (lNS (lL hs [.v 5 (.pointer (some ⟨b1,0,none⟩)),.o 6 (.slice A ts.length ca) 1 0 1,.v 7 (.pointer (some ⟨b4,0,none⟩)),.o 8 (.slice D rs.length cd) 0 0 1] (lC 9 hs (sEqLays A ca ts D cd rs ls hn hF _ _ hs.g (hs.f.2.2.2.1) (hs.f.2.2.1) (hs.f.2.1) (hs.f.1)) ?_)))
 rintro _ w7 h8 hs rfl
 exact lL hs [.m 4 9] (lN (CG.ret (hs.ret [] (.bool true) rfl)))
theorem hSameRowS (A:Option Addr)(ca:Nat)(qs:List Rat)(D:Option Addr)(cd:Nat)(ts:List RT)(hl:qs.length≤1000000)(hf:∀ i,LQ 100000000 (qs.getD i 0))(w:World)(h:Hp)(g:G w h)(hA:SlO 5 qc 0 h A qs)(hD:SlO 3 rqc rqd h D ts)(hT:RTs h ts qs)(tb:Tab h) :
    Calls Tryz.prog 22 #[.slice A qs.length ca,.slice D ts.length cd] w (Ret w h fun v _=>v=.bool true):=by
  have x:=hSameRow A ca qs qs D cd ts hl hl (fun i _=>hf i) (fun i _=>hf i) w h g hA hD hT
  rw[decide_eq_true (rfl:qs=qs)] at x
  exact x
theorem hSameRows (A:Option Addr)(ca:Nat)(us:List Value)(D:Option Addr)(cd:Nat)(vs:List Value)(qss:List (List Rat))(hl:qss.length≤1000000)(hls:∀ i,(qss.getD i []).length≤1000000)(hf:∀ i j,LQ 100000000 ((qss.getD i []).getD j 0))(w:World)(h:Hp)(g:G w h)(hA:SlO 1 vc undef h A us)(hU:QVs h us qss)(hD:SlO 1 vc undef h D vs)(hV:RVs h vs qss)(tb:Tab h) :
    Calls Tryz.prog 152 #[.slice A us.length ca,.slice D vs.length cd] w (Ret w h fun v _=>v=.bool true):=by
 have hs:=SS.start g
 replace hs:=(((((hs.a_SlO hA).add (K:=fun h_=>QVs h_ us qss) hU).a_SlO hD).add (K:=fun h_=>RVs h_ vs qss) hV).add (K:=fun h_=>Tab h_) tb)
 have hlu:=(hs.f.2.2.2.1).len
 have hlv:=(hs.f.2.1).len
 refine go Tryz.func152 [(0,.slice A us.length ca),(1,.slice D vs.length cd)] rfl ?_
 refine cSL (lL hs [.v 4 (.bool false)] (lN (CG.seq (cSL (lL hs [.m 6 0,.v 7 (.int .i64 (us.length:Nat)),.m 8 1,.v 9 (.int .i64 (vs.length:Nat))] ?_)))))
 have hb1:(((us.length:Nat):Int) != ((vs.length:Nat):Int))=false:=bneF oM
 have phb1:=eqOfBne hb1
 refine lB 10 hb1 ?_
 refine lN (cIF (CG.skipN (CG.seq (cSL (lL hs [.v 5 (.int .i64 0)] (lN (CG.block (cTo [(0,.slice A us.length ca),(1,.slice D vs.length cd),(5,.int .i64 0)] ?_))))))))
 refine CG.loop (fun μ_ Γ w_=>∃ (k:Nat) (h_:Hp),μ_=qss.length-k∧Γ=[(0,.slice A us.length ca),(1,.slice D vs.length cd),(5,.int .i64 (k:Nat))]∧SS w h w_ h_ [] [] [fun h_=>Tab h_,fun h_=>RVs h_ vs qss,fun h_=>SlO 1 vc undef h_ D vs,fun h_=>QVs h_ us qss,fun h_=>SlO 1 vc undef h_ A us]∧(k≤qss.length)) _ ⟨0,h,rfl,rfl,hs.to _ _,Nat.zero_le _⟩ ?_
 rintro _ _ w2 ⟨k,h3,hm4,rfl,hs,hk⟩
 refine CG.seq (cSL (lL hs [.m 11 5,.m 12 0,.v 13 (.int .i64 (us.length:Nat))] ?_))
 cases hb5:(decide (((k:Nat):Int)<((us.length:Nat):Int)))
 ·
  have phb5:=oF hb5
  refine lB 14 hb5 ?_
  refine lN (cIF (CG.exit ?_))
  show CG _ _ _ _ _ _ _ _
  exact cSL (lL hs [.v 4 (.bool true)] (lN (CG.ret (hs.ret [] (.bool true) rfl))))
 have phb5:=oT hb5
 refine lB 14 hb5 ?_
 refine lN (cIT (CG.skipN (CG.seq (CG.block (CG.seq (cR 10 [] mixed hs al_nil ?_))))))
 refine eV 0 17 (.slice A us.length ca) ?_
 refine eV 1 18 (.int .i64 (k:Nat)) ?_
 refine eX 2 19 A us.length ca 1 (k:Nat) k ((hs.f.2.2.2.2.1).ok oM) ?_
 obtain ⟨Aqx,cqx,eqx,hcqx,hRqx⟩:=(hs.f.2.2.2.1).at_ k oM
 replace hs:=(hs.a_SlO hRqx)
 refine eHe 3 20 (us.getD k undef) hs ((hs.f.2.2.2.2.2.1).el k oM) eqx ?_
 refine eV 4 21 (.slice D vs.length cd) ?_
 refine eV 5 22 (.int .i64 (k:Nat)) ?_
 refine eX 6 23 D vs.length cd 1 (k:Nat) k ((hs.f.2.2.2.1).ok oM) ?_
 obtain ⟨Aryy,cryy,tryy,eryy,hcryy,hRryy,hTryy⟩:=(hs.f.2.2.1).at_ k oM
 have hlryy:=hTryy.len
 replace hs:=((hs.a_SlO hRryy).add (K:=fun h_=>RTs h_ tryy (qss.getD k [])) hTryy)
 refine eHe 7 24 (vs.getD k undef) hs ((hs.f.2.2.2.2.2.1).el k oM) eryy ?_
 refine eC 8 25 hs (fun _ _ hs=>hSameRowS Aqx cqx (qss.getD k []) Aryy cryy tryy (hls k) (hf k) _ _ hs.g (hs.f.2.2.1) (hs.f.2.1) (hs.f.1) (hs.f.2.2.2.1)) ?_
 rintro _ _ _ w6 h7 hs rfl
 refine eV 9 26 (.bool false) ?_
 refine eD0 hs (fun w8 h9 hs=>?_)
 refine tN (cIF (CG.skipN (CG.listed (lL hs [.m 15 5] (lIn 16 ((k:Nat)+1) (k+1) ?_)))))
 refine lL hs [.m 5 16] (lD ?_)
 intro a_ ka
 have q10:(k+1)≤qss.length:=by omega
 replace hs:=hs.tl.tl.tl
 refine ⟨_,_,?_,⟨k+1,h9,rfl,rfl,hs.to _ _,q10⟩,ka.to [(0,.slice A us.length ca),(1,.slice D vs.length cd),(5,.int .i64 ((k+1):Nat))] kR⟩
 omega
theorem mSameNet (A:Option Addr)(ca:Nat)(ts:List LV)(D:Option Addr)(cd:Nat)(rs:List LV)(ls:List Lay)(hn:ls.length≤1000000)(hF:∀ i,LayQ (ls.getD i lay0))(w:World)(h:Hp)(g:G w h)(hA:SlO 3 lvc lvd h A ts)(hN:NetL h ts ls)(hD:SlO 3 lvc lvd h D rs)(hM:RNetL h rs ls)(tb:Tab h) :
    Calls Tryz.prog 70 #[.agg #[.slice A ts.length ca],.agg #[.slice D rs.length cd]] w (Ret w h fun v _=>v=.bool true):=by
 have hs:=SS.start g
 replace hs:=(((((hs.a_SlO hA).add (K:=fun h_=>NetL h_ ts ls) hN).a_SlO hD).add (K:=fun h_=>RNetL h_ rs ls) hM).add (K:=fun h_=>Tab h_) tb)
 have hlt:=(hs.f.2.2.2.1).len
 have hlr:=(hs.f.2.1).len
 refine go Tryz.func70 [(0,.agg #[.slice A ts.length ca]),(1,.agg #[.slice D rs.length cd])] rfl ?_
 refine cSL (lA 2 57 ([.slice A ts.length ca]) hs (fun b1 w2 h3 hs=>?_))
 refine lA 3 49 ([.slice D rs.length cd]) hs (fun b4 w5 h6 hs=>?_)
 refine lL hs [.v 4 (.bool false)] (lN (CG.seq (cSL (lL hs [.v 6 (.pointer (some ⟨b1,0,none⟩)),.o 7 (.slice A ts.length ca) 1 0 1,.v 8 (.int .i64 (ts.length:Nat)),.v 9 (.pointer (some ⟨b4,0,none⟩)),.o 10 (.slice D rs.length cd) 0 0 1,.v 11 (.int .i64 (rs.length:Nat))] ?_))))
 have hb7:(((ts.length:Nat):Int) != ((rs.length:Nat):Int))=false:=bneF oM
 have phb7:=eqOfBne hb7
 refine lB 12 hb7 ?_
 refine lN (cIF (CG.skipN (CG.seq (cSL (lL hs [.v 5 (.int .i64 0)] (lN (CG.block (cTo [(2,.pointer (some ⟨b1,0,none⟩)),(3,.pointer (some ⟨b4,0,none⟩)),(5,.int .i64 0)] ?_))))))))
 refine CG.loop (fun μ_ Γ w_=>∃ (k:Nat) (h_:Hp),μ_=ls.length-k∧Γ=[(2,.pointer (some ⟨b1,0,none⟩)),(3,.pointer (some ⟨b4,0,none⟩)),(5,.int .i64 (k:Nat))]∧SS w h w_ h_ [⟨b4,49,[.slice D rs.length cd]⟩,⟨b1,57,[.slice A ts.length ca]⟩] [] [fun h_=>Tab h_,fun h_=>RNetL h_ rs ls,fun h_=>SlO 3 lvc lvd h_ D rs,fun h_=>NetL h_ ts ls,fun h_=>SlO 3 lvc lvd h_ A ts]∧(k≤ls.length)) _ ⟨0,h6,rfl,rfl,hs.to _ _,Nat.zero_le _⟩ ?_
 rintro _ _ w8 ⟨k,h9,hm10,rfl,hs,hk⟩
 refine CG.seq (cSL (lL hs [.m 13 5,.v 14 (.pointer (some ⟨b1,0,none⟩)),.o 15 (.slice A ts.length ca) 1 0 1,.v 16 (.int .i64 (ts.length:Nat))] ?_))
 cases hb11:(decide (((k:Nat):Int)<((ts.length:Nat):Int)))
 ·
  have phb11:=oF hb11
  refine lB 17 hb11 ?_
  refine lN (cIF (CG.exit ?_))
  show CG _ _ _ _ _ _ _ _
  exact cSL (lL hs [.v 4 (.bool true)] (lN (CG.ret (hs.ret [] (.bool true) rfl))))
 have phb11:=oT hb11
 refine lB 17 hb11 ?_
 refine lN (cIT (CG.skipN (CG.seq (CG.block (CG.seq (cR 45 [] mixed hs al_nil ?_))))))
 refine eV 0 20 (.pointer (some ⟨b1,0,none⟩)) ?_
 refine eO 1 21 [(1,0,1)] (.slice A ts.length ca) hs ?_
 refine eV 2 22 (.int .i64 (k:Nat)) ?_
 refine eX 3 23 A ts.length ca 3 (k:Nat) k ((hs.f.2.2.2.2.1).ok oM) ?_
 refine eV 4 24 (.pointer (some ⟨(aB A),aO A+k*3,none⟩)) ?_
 obtain ⟨ekx,⟨AWx,cWx,usx,eWx,hcWx,hAWx,hUx⟩,⟨ABx,cBx,eBx,hcBx,hABx⟩⟩:=(hs.f.2.2.2.1).at_ k oM
 have lux:=hUx.len
 replace hs:=(((hs.a_SlO hAWx).add (K:=fun h_=>QVs h_ usx (ls.getD k lay0).W) hUx).a_SlO hABx)
 refine eHe 5 25 (.int .i64 ((ts.getD k lvd).1)) hs (((hs.f.2.2.2.2.2.2.2.1).el k oM).part 0 1) (by rw[ekx]) ?_
 refine eV 6 26 (.pointer (some ⟨b4,0,none⟩)) ?_
 refine eO 7 27 [(0,0,1)] (.slice D rs.length cd) hs ?_
 refine eV 8 28 (.int .i64 (k:Nat)) ?_
 refine eX 9 29 D rs.length cd 3 (k:Nat) k ((hs.f.2.2.2.2.2.1).ok oM) ?_
 refine eV 10 30 (.pointer (some ⟨(aB D),aO D+k*3,none⟩)) ?_
 obtain ⟨ekr,⟨AWr,cWr,usr,eWr,hcWr,hAWr,hTWr⟩,⟨ABr,cBr,rsr,eBr,hcBr,hABr,hTBr⟩⟩:=(hs.f.2.2.2.2.1).at_ k oM
 replace hs:=((((hs.a_SlO hAWr).add (K:=fun h_=>RVs h_ usr (ls.getD k lay0).W) hTWr).a_SlO hABr).add (K:=fun h_=>RTs h_ rsr (ls.getD k lay0).B) hTBr)
 refine eHe 11 31 (.int .i64 ((rs.getD k lvd).1)) hs (((hs.f.2.2.2.2.2.2.2.2.2.1).el k oM).part 0 1) (by rw[ekr]) ?_
 have hb12:(((ls.getD k lay0).k:Int) != ((ls.getD k lay0).k:Int))=false:=bneF oM
 have phb12:=eqOfBne hb12
 refine eB 12 32 hb12 ?_
 refine eV 13 33 (.bool false) ?_
 refine eV 14 34 (.pointer (some ⟨b1,0,none⟩)) ?_
 refine eO 15 35 [(1,0,1)] (.slice A ts.length ca) hs ?_
 refine eV 16 36 (.int .i64 (k:Nat)) ?_
 refine eX 17 37 A ts.length ca 3 (k:Nat) k ((hs.f.2.2.2.2.2.2.2.2.2.2.2.1).ok oM) ?_
 refine eV 18 38 (.pointer (some ⟨(aB A),aO A+k*3+1,none⟩)) ?_
 refine eHe 19 39 ((ts.getD k lvd).2.1) hs (((hs.f.2.2.2.2.2.2.2.2.2.2.2.1).el k oM).part 1 1) eWx ?_
 refine eV 20 40 (.pointer (some ⟨b4,0,none⟩)) ?_
 refine eO 21 41 [(0,0,1)] (.slice D rs.length cd) hs ?_
 refine eV 22 42 (.int .i64 (k:Nat)) ?_
 refine eX 23 43 D rs.length cd 3 (k:Nat) k ((hs.f.2.2.2.2.2.2.2.2.2.1).ok oM) ?_
 refine eV 24 44 (.pointer (some ⟨(aB D),aO D+k*3+1,none⟩)) ?_
 refine eHe 25 45 ((rs.getD k lvd).2.1) hs (((hs.f.2.2.2.2.2.2.2.2.2.1).el k oM).part 1 1) eWr ?_
 refine eC 26 46 hs (fun _ _ hs=>hSameRows AWx cWx usx AWr cWr usr (ls.getD k lay0).W (hF k).rl (hF k).rls (hF k).w _ _ hs.g (hs.f.2.2.2.2.2.2.1) (hs.f.2.2.2.2.2.1) (hs.f.2.2.2.1) (hs.f.2.2.1) (hs.f.2.2.2.2.2.2.2.1)) ?_
 rintro _ _ _ w13 h14 hs rfl
 refine eV 27 47 (.bool false) ?_
 refine eV 28 48 (.bool false) ?_
 refine eV 29 49 (.bool false) ?_
 refine eV 30 50 (.pointer (some ⟨b1,0,none⟩)) ?_
 refine eO 31 51 [(1,0,1)] (.slice A ts.length ca) hs ?_
 refine eV 32 52 (.int .i64 (k:Nat)) ?_
 refine eX 33 53 A ts.length ca 3 (k:Nat) k ((hs.f.2.2.2.2.2.2.2.2.2.2.2.1).ok oM) ?_
 refine eV 34 54 (.pointer (some ⟨(aB A),aO A+k*3+2,none⟩)) ?_
 refine eHe 35 55 ((ts.getD k lvd).2.2) hs (((hs.f.2.2.2.2.2.2.2.2.2.2.2.1).el k oM).part 2 1) eBx ?_
 refine eV 36 56 (.pointer (some ⟨b4,0,none⟩)) ?_
 refine eO 37 57 [(0,0,1)] (.slice D rs.length cd) hs ?_
 refine eV 38 58 (.int .i64 (k:Nat)) ?_
 refine eX 39 59 D rs.length cd 3 (k:Nat) k ((hs.f.2.2.2.2.2.2.2.2.2.1).ok oM) ?_
 refine eV 40 60 (.pointer (some ⟨(aB D),aO D+k*3+2,none⟩)) ?_
 refine eHe 41 61 ((rs.getD k lvd).2.2) hs (((hs.f.2.2.2.2.2.2.2.2.2.1).el k oM).part 2 1) eBr ?_
 refine eC 42 62 hs (fun _ _ hs=>hSameRowS ABx cBx (ls.getD k lay0).B ABr cBr rsr (hF k).bl (hF k).b _ _ hs.g (hs.f.2.2.2.2.1) (hs.f.2.1) (hs.f.1) (hs.f.2.2.2.2.2.2.2.1)) ?_
 rintro _ _ _ w15 h16 hs rfl
 refine eV 43 63 (.bool false) ?_
 refine eV 44 64 (.bool false) ?_
 refine eD0 hs (fun w17 h18 hs=>?_)
 refine tN (cTo [(2,.pointer (some ⟨b1,0,none⟩)),(3,.pointer (some ⟨b4,0,none⟩)),(5,.int .i64 (k:Nat)),(64,.bool false)] ?_)
 refine cIF (CG.skipN (CG.listed (lL hs [.m 18 5] (lIn 19 ((k:Nat)+1) (k+1) ?_))))
 refine lL hs [.m 5 19] (lD ?_)
 intro a_ ka
 have q19:(k+1)≤ls.length:=by omega
 replace hs:=hs.tl.tl.tl.tl.tl.tl.tl
 refine ⟨_,_,?_,⟨k+1,h18,rfl,rfl,hs.to _ _,q19⟩,ka.to [(2,.pointer (some ⟨b1,0,none⟩)),(3,.pointer (some ⟨b4,0,none⟩)),(5,.int .i64 ((k+1):Nat))] kR⟩
 omega
theorem NNew.net {K:Nat}{h:Hp}{us:List LV}{zs:List Lay}(x:NNew K h us zs):NetL h us zs:=⟨x.len,fun i hi=>by
  obtain ⟨h1,⟨ws,h2,h3,h4⟩,h5⟩:=x.at_ i hi
  obtain ⟨A,c,e,hc,so⟩:=h2.slv (sz:=1) (d:=undef) (fun _=>rfl)
  exact ⟨h1,⟨A,c,ws,e,hc,so,⟨h3,fun j hj=>(h4 j hj).slv (fun _=>rfl)⟩⟩,h5.slv (fun _=>rfl)⟩⟩
theorem rows_eq {c:Nat}:∀ {W V:List (List Rat)},W.length=V.length→(∀ r∈W,r.length=c)→(∀ r∈V,r.length=c)→W.flatten=V.flatten→W=V
  | [],[],_,_,_,_=>rfl
  | [],_::_,h,_,_,_=>by simp at h
  | _::_,[],h,_,_,_=>by simp at h
  | r::W,q::V,h,h1,h2,e=>by
    rw[List.flatten_cons,List.flatten_cons] at e
    obtain ⟨e1,e2⟩:=List.append_inj e (by rw[h1 r (by simp),h2 q (by simp)])
    rw[e1,rows_eq (by simpa using h) (fun x hx=>h1 x (by simp[hx])) (fun x hx=>h2 x (by simp[hx])) e2]
theorem Shp.tail {d:Nat→Nat}{L:Lay}{zs:List Lay}(s:Shp d (L::zs)):Shp (fun i=>d (i+1)) zs:=fun i hi=>s (i+1) (by simp;omega)
theorem net_eq:∀ {zs ys:List Lay} {d:Nat→Nat},Shp d zs→Shp d ys→zs.length=ys.length→(∀ i,i<zs.length→(zs.getD i lay0).k=(ys.getD i lay0).k)→flatq zs=flatq ys→zs=ys
  | [],[],_,_,_,_,_,_=>rfl
  | [],_::_,_,_,_,h,_,_=>by simp at h
  | _::_,[],_,_,_,h,_,_=>by simp at h
  | L :: zs,M::ys,d,hz,hy,hl,hk,hf=>by
    obtain ⟨m1,b1⟩:=hz 0 (by simp)
    obtain ⟨m2,b2⟩:=hy 0 (by simp)
    have m1':Mat L.W (d 1) (d 0):=m1
    have m2':Mat M.W (d 1) (d 0):=m2
    have b1':L.B.length=d 1:=b1
    have b2':M.B.length=d 1:=b2
    have hf':(L.W.flatten++L.B)++flatq zs=(M.W.flatten++M.B)++flatq ys:=by
      have:=hf;simp only[flatq,flatL,List.flatMap_cons] at this;exact this
    obtain ⟨e1,e2⟩:=List.append_inj hf' (by rw[List.length_append,List.length_append,flat_len m1'.mem,flat_len m2'.mem,m1'.rows,m2'.rows,b1',b2'])
    obtain ⟨e3,e4⟩:=List.append_inj e1 (by rw[flat_len m1'.mem,flat_len m2'.mem,m1'.rows,m2'.rows])
    have e5:=rows_eq (by rw[m1'.rows,m2'.rows]) m1'.mem m2'.mem e3
    have e6:L.k=M.k:=hk 0 (by simp)
    have e7:zs=ys:=net_eq hz.tail hy.tail (by simpa using hl) (fun i hi=>hk (i+1) (by simp;omega)) e2
    obtain ⟨k,W,B⟩:=L
    obtain ⟨k',W',B'⟩:=M
    subst e4 e5 e6 e7;rfl
def WithP (ls:List Lay)(xs:List Rat)(zs:List Lay)(E:Int):Prop :=
  (chkq ls≠0→E=1∧zs=[])∧(chkq ls=0→xs.length≠(flatq ls).length→E=5∧zs=[]) ∧
  (chkq ls=0→xs.length=(flatq ls).length→E=0∧zs.length=ls.length∧Shp (dOf ls) zs∧(∀ i,i<ls.length→(zs.getD i lay0).k=(ls.getD i lay0).k)∧flatq zs=xs)
theorem nWith1 (A:Option Addr)(cap:Nat)(ts:List LV)(ls:List Lay)(hn:ls.length≤1000000)(hF:∀ i,i<ls.length→LayLen (ls.getD i lay0))(X:Option Addr)(c0:Nat)(xs:List Rat)(hc0:xs.length≤c0)(h1:chkq ls≠0)(w:World)(h:Hp)(g:G w h)(hA:SlO 3 lvc lvd h A ts)(hN:NetL h ts ls)(hX:SlO 5 qc 0 h X xs) :
    Calls Tryz.prog 68 #[.agg #[.slice A ts.length cap],.slice X xs.length c0] w (Ret w h fun v _=>v=.tuple #[.agg #[.slice none 0 0],.int .i64 1]):=by
 have hs:=SS.start g
 replace hs:=(((hs.a_SlO hA).add (K:=fun h_=>NetL h_ ts ls) hN).a_SlO hX)
 refine go Tryz.func68 [(0,.agg #[.slice A ts.length cap]),(1,.slice X xs.length c0)] rfl ?_
 refine cSL (lA 2 57 ([.slice A ts.length cap]) hs (fun b1 w2 h3 hs=>?_))
 refine lA 4 57 ([.slice none 0 0]) hs (fun b4 w5 h6 hs=>?_)
 refine lL hs [.v 5 (.int .i64 0)] (lN (CG.seq (cSL (lL hs [.o 6 (.agg #[.slice A ts.length cap]) 1 0 1] (lC 7 hs (nCheckG A cap ts ls hn hF _ _ hs.g (hs.f.2.2.1) (hs.f.2.1)) ?_)))))
 rintro _ w7 h8 hs rfl
 have hb9:((chkq ls:Int) != (0:Int))=true:=bneT h1
 have phb9:=neOfBne hb9
 refine lB 8 hb9 ?_
 refine lN (cIT (cSL (lL hs [.v 9 (.agg #[.slice none 0 0])] (lP 0 0 ([.slice none 0 0]) hs (fun w10 hs=>?_)))))
 exact lL hs [.v 5 (.int .i64 1)] (lN (CG.ret (hs.ret [(0,0,1)] (.tuple #[.agg #[.slice none 0 0],.int .i64 1]) rfl)))
theorem nWith5 (A:Option Addr)(cap:Nat)(ts:List LV)(ls:List Lay)(hn:ls.length≤1000000)(hF:∀ i,i<ls.length→LayLen (ls.getD i lay0))(X:Option Addr)(c0:Nat)(xs:List Rat)(hc0:xs.length≤c0)(h1:chkq ls=0)(h2:xs.length≠(flatq ls).length)(w:World)(h:Hp)(g:G w h)(hA:SlO 3 lvc lvd h A ts)(hN:NetL h ts ls)(hX:SlO 5 qc 0 h X xs) :
    Calls Tryz.prog 68 #[.agg #[.slice A ts.length cap],.slice X xs.length c0] w (Ret w h fun v _=>v=.tuple #[.agg #[.slice none 0 0],.int .i64 5]):=by
 have hs:=SS.start g
 replace hs:=(((hs.a_SlO hA).add (K:=fun h_=>NetL h_ ts ls) hN).a_SlO hX)
 refine go Tryz.func68 [(0,.agg #[.slice A ts.length cap]),(1,.slice X xs.length c0)] rfl ?_
 refine cSL (lA 2 57 ([.slice A ts.length cap]) hs (fun b1 w2 h3 hs=>?_))
 refine lA 4 57 ([.slice none 0 0]) hs (fun b4 w5 h6 hs=>?_)
 refine lL hs [.v 5 (.int .i64 0)] (lN (CG.seq (cSL (lL hs [.o 6 (.agg #[.slice A ts.length cap]) 1 0 1] (lC 7 hs (nCheckG A cap ts ls hn hF _ _ hs.g (hs.f.2.2.1) (hs.f.2.1)) ?_)))))
 rintro _ w7 h8 hs rfl
 have hb9:((chkq ls:Int) != (0:Int))=false:=bneF' h1
 have phb9:=eqOfBne hb9
 refine lB 8 hb9 ?_
 refine lN (cIF (CG.skipN (CG.seq (cSL (lL hs [.m 10 1,.v 11 (.int .i64 (xs.length:Nat)),.o 12 (.agg #[.slice A ts.length cap]) 1 0 1] (lC 13 hs (nFlat0 A cap ts ls hn hF h1 _ _ hs.g (hs.f.2.2.1) (hs.f.2.1)) ?_))))))
 rintro _ w10 h11 hs ⟨Aq,cq,rfl,hcq,hAq⟩
 replace hs:=(hs.a_SlO hAq)
 refine lL hs [.v 14 (.int .i64 ((flatq ls).length:Nat))] ?_
 have hb12:(((xs.length:Nat):Int) != (((flatq ls).length:Nat):Int))=true:=bneT oM
 have phb12:=neOfBne hb12
 refine lB 15 hb12 ?_
 refine lN (cIT (cSL (lL hs [.v 16 (.agg #[.slice none 0 0])] (lP 0 0 ([.slice none 0 0]) hs (fun w13 hs=>?_)))))
 exact lL hs [.v 5 (.int .i64 5)] (lN (CG.ret (hs.ret [(0,0,1)] (.tuple #[.agg #[.slice none 0 0],.int .i64 5]) rfl)))
theorem nWith0 (A:Option Addr)(cap:Nat)(ts:List LV)(ls:List Lay)(hn:ls.length≤1000000)(hF:∀ i,i<ls.length→LayLen (ls.getD i lay0))(X:Option Addr)(c0:Nat)(xs:List Rat)(hc0:xs.length≤c0)(h1:chkq ls=0)(h2:xs.length=(flatq ls).length)(w:World)(h:Hp)(g:G w h)(hA:SlO 3 lvc lvd h A ts)(hN:NetL h ts ls)(hX:SlO 5 qc 0 h X xs) :
    Calls Tryz.prog 68 #[.agg #[.slice A ts.length cap],.slice X xs.length c0] w (Ret w h fun v h1=>∃ zs,zs.length=ls.length∧Net3 zs (dOf ls)∧(∀ i,i<ls.length→(zs.getD i lay0).k=(ls.getD i lay0).k)∧flatq zs=xs∧∃ bL c,∃ us:List LV,v=.tuple #[.agg #[.slice (some ⟨bL,0,none⟩) us.length c],.int .i64 0]∧us.length≤c∧SlO 3 lvc lvd h1 (some ⟨bL,0,none⟩) us∧NetL h1 us zs):=by
 have hs:=SS.start g
 replace hs:=(((hs.a_SlO hA).add (K:=fun h_=>NetL h_ ts ls) hN).a_SlO hX)
 refine go Tryz.func68 [(0,.agg #[.slice A ts.length cap]),(1,.slice X xs.length c0)] rfl ?_
 refine cSL (lA 2 57 ([.slice A ts.length cap]) hs (fun b1 w2 h3 hs=>?_))
 refine lA 4 57 ([.slice none 0 0]) hs (fun b4 w5 h6 hs=>?_)
 refine lL hs [.v 5 (.int .i64 0)] (lN (CG.seq (cSL (lL hs [.o 6 (.agg #[.slice A ts.length cap]) 1 0 1] (lC 7 hs (nCheckG A cap ts ls hn hF _ _ hs.g (hs.f.2.2.1) (hs.f.2.1)) ?_)))))
 rintro _ w7 h8 hs rfl
 have hb9:((chkq ls:Int) != (0:Int))=false:=bneF' h1
 have phb9:=eqOfBne hb9
 refine lB 8 hb9 ?_
 refine lN (cIF (CG.skipN (CG.seq (cSL (lL hs [.m 10 1,.v 11 (.int .i64 (xs.length:Nat)),.o 12 (.agg #[.slice A ts.length cap]) 1 0 1] (lC 13 hs (nFlat0 A cap ts ls hn hF h1 _ _ hs.g (hs.f.2.2.1) (hs.f.2.1)) ?_))))))
 rintro _ w10 h11 hs ⟨Aq,cq,rfl,hcq,hAq⟩
 replace hs:=(hs.a_SlO hAq)
 refine lL hs [.v 14 (.int .i64 ((flatq ls).length:Nat))] ?_
 have hb12:(((xs.length:Nat):Int) != (((flatq ls).length:Nat):Int))=false:=bneF oM
 have phb12:=eqOfBne hb12
 refine lB 15 hb12 ?_
 refine lN (cIF (CG.skipN (cSL (lL hs [.o 17 (.agg #[.slice A ts.length cap]) 1 0 1,.m 18 1] ?_))))
 have hsz:=hs.st.sz
 refine lC 19 hs (nFilled A cap ts ls (dOf ls) (chk_net3 h1) X c0 xs h2 hc0 _ _ hs.g (hs.f.2.2.2.1) (hs.f.2.2.1) (hs.f.2.1)) ?_
 rintro _ w13 h14 hs ⟨zs,hz0,hz1,hz2,hz3,bL,cL,sp,us,rfl,hcL,hLN,hNN⟩
 replace hLN:=hLN.mono hsz
 replace hNN:=hNN.mono hsz
 replace hs:=((hs.add (K:=fun h_=>Nw h.size h_ bL 114 (us.flatMap lvc++sp)) hLN).add (K:=fun h_=>NNew h.size h_ us zs) hNN)
 refine lP 0 0 ([.slice (some ⟨bL,0,none⟩) us.length cL]) hs (fun w15 hs=>?_)
 exact lL hs [.v 5 (.int .i64 0)] (lN (CG.ret (hs.ret [(0,0,1)] (.tuple #[.agg #[.slice (some ⟨bL,0,none⟩) us.length cL],.int .i64 0]) (⟨zs,hz0,hz1,hz2,hz3,bL,cL,us,rfl,hcL,SlO.of_flat (fun _=>rfl) (hs.f.2.1).seg,(hs.f.1).net⟩))))
theorem nWithA (A:Option Addr)(cap:Nat)(ts:List LV)(ls:List Lay)(hn:ls.length≤1000000)(hF:∀ i,i<ls.length→LayLen (ls.getD i lay0))(X:Option Addr)(c0:Nat)(xs:List Rat)(hc0:xs.length≤c0)(w:World)(h:Hp)(g:G w h)(hA:SlO 3 lvc lvd h A ts)(hN:NetL h ts ls)(hX:SlO 5 qc 0 h X xs):Calls Tryz.prog 68 #[.agg #[.slice A ts.length cap],.slice X xs.length c0] w (Ret w h fun v h1=>∃ A c,∃ us:List LV,∃ zs E,v=.tuple #[.agg #[.slice A us.length c],.int .i64 E]∧us.length≤c∧SlO 3 lvc lvd h1 A us∧NetL h1 us zs∧WithP ls xs zs E):=by
  have nl:∀ h,NetL h [] []:=fun h=>⟨rfl,fun i hi=>by simp at hi⟩
  by_cases h1:chkq ls=0
  · by_cases h2:xs.length=(flatq ls).length
    · refine (nWith0 A cap ts ls hn hF X c0 xs hc0 h1 h2 w h g hA hN hX).mono ?_
      rintro _ w' ⟨v,h',he,u,zs,z1,z2,z3,z4,bL,c,us,e,hc,so,nn⟩
      exact ⟨v,h',he,u,_,c,us,zs,0,e,hc,so,nn,fun x=>absurd h1 x,fun _ x=>absurd h2 x,fun _ _=>⟨rfl,z1,net_shp z2,z3,z4⟩⟩
    · refine (nWith5 A cap ts ls hn hF X c0 xs hc0 h1 h2 w h g hA hN hX).mono ?_
      rintro _ w' ⟨v,h',he,u,e⟩
      exact ⟨v,h',he,u,none,0,[],[],5,e,Nat.le_refl _,SlO.nil,nl _,fun x=>absurd h1 x,fun _ _=>⟨rfl,rfl⟩,fun _ x=>absurd x h2⟩
  · refine (nWith1 A cap ts ls hn hF X c0 xs hc0 h1 w h g hA hN hX).mono ?_
    rintro _ w' ⟨v,h',he,u,e⟩
    exact ⟨v,h',he,u,none,0,[],[],1,e,Nat.le_refl _,SlO.nil,nl _,fun _=>⟨rfl,rfl⟩,fun x=>absurd x h1,fun x=>absurd x h1⟩
theorem lq_get {k:Nat}{l:List Rat}(h:∀ q∈l,LQ k q)(hk:1≤k)(j:Nat):LQ k (l.getD j 0):=by
  rw[List.getD_eq_getElem?_getD]
  cases hh:l[j]? with
  | none=>exact lq0 hk
  | some q=>exact h q (List.mem_of_getElem? hh)
def knownN:List Lay:=[⟨2,[[((1:Int):Rat),((-1:Int):Rat)]],[((0:Int):Rat)]⟩]
theorem knownChk:chkq knownN=0:=by
  have hF:Fine knownN 0:=⟨⟨by decide,by decide,fun i hi=>(by obtain rfl:i=0:=Nat.lt_one_iff.1 hi;rfl)⟩,by decide,rfl,fun _=>by decide,fun h=>absurd h kD⟩
  have hK:Kd knownN 0:=⟨by decide,by decide⟩
  unfold chkq
  rw[if_pos ⟨by decide,by decide⟩]
  have e:chkFrom knownN 0 (0+1)=0:=by
    unfold chkFrom
    rw[if_pos hF,if_pos hK];rfl
  exact e
theorem knownSz (i:Nat):LaySz (knownN.getD i lay0):=by
  rcases Nat.eq_zero_or_pos i with h|h
  · subst h
    refine ⟨by decide,fun i=>?_,by decide,fun i j=>?_,lq_get (by intro q hq;have:q=((0:Int):Rat):=List.mem_singleton.1 hq;rw[this];exact LQ.lit kD) oM⟩
    · cases i with
      | zero=>decide
      | succ i=>exact Nat.zero_le _
    · cases i with
      | zero=>exact lq_get (by intro q hq;rcases List.mem_cons.1 hq with rfl|hq;exact LQ.lit kD;rw[List.mem_singleton.1 hq];exact LQ.lit kD) oM j
      | succ i=>exact lq0 oM
  · obtain ⟨k,rfl⟩:∃ k,i=k+1:=⟨i-1,by omega⟩
    exact lay0_sz
theorem knownE (a:Int):ansE knownN [(a:Rat),((2:Int):Rat)]=0:=ansE0 knownChk rfl
theorem knownL1:ansL knownN [((1:Int):Rat),((2:Int):Rat)]=[0]:=by rw[ansL0 (xs:=[((1:Int):Rat),((2:Int):Rat)]) knownChk rfl];decide +kernel
theorem knownL5:ansL knownN [((5:Int):Rat),((2:Int):Rat)]=[3]:=by rw[ansL0 (xs:=[((5:Int):Rat),((2:Int):Rat)]) knownChk rfl];decide +kernel
theorem lKnown30  (w:World)(h:Hp)(g:G w h)(tb:Tab h) :
    Calls Tryz.prog 30 #[] w (Ret w h fun v _=>v=.bool true):=by
 have hs:=SS.start g
 replace hs:=(hs.add (K:=fun h_=>Tab h_) tb)
 have hk1:(ansL knownN ([((1:Int):Rat),((2:Int):Rat)]:List Rat)).length=1:=by rw[knownL1];rfl
 have hk5:(ansL knownN ([((5:Int):Rat),((2:Int):Rat)]:List Rat)).length=1:=by rw[knownL5];rfl
 refine go Tryz.func30 [] rfl ?_
 refine cSL (lL hs [.v 0 (.bool false)] (lNS (lC 6 hs (fOf 1 oM oM _ _ hs.g) ?_)))
 rintro _ w1 h2 hs rfl
 refine lC 7 hs (fOf (-1) oM oM _ _ hs.g) ?_
 rintro _ w3 h4 hs rfl
 refine lR 8 74 2 ([.bool (ineg ((1:Int):Rat).num),.int .u64 (lo (iabs ((1:Int):Rat).num)),.string (hi (iabs ((1:Int):Rat).num)),.int .u64 (lo (qd ((1:Int):Rat))),.string (hi (qd ((1:Int):Rat))),.bool (ineg ((-1:Int):Rat).num),.int .u64 (lo (iabs ((-1:Int):Rat).num)),.string (hi (iabs ((-1:Int):Rat).num)),.int .u64 (lo (qd ((-1:Int):Rat))),.string (hi (qd ((-1:Int):Rat)))]) hs (fun b5 w6 h7 hs=>?_)
 replace hs:=hs.a_SlO (SlO.of_flat (sz:=5) (f:=qc) (d:=0) (b:=b5) (o:=0) (l:=([((1:Int):Rat),((-1:Int):Rat)]:List Rat)) (fun _=>rfl) (hs.f.1))
 refine lR 9 35 1 ([.slice (some ⟨b5,0,none⟩) 2 2]) hs (fun b10 w11 h12 hs=>?_)
 replace hs:=hs.a_SlO (SlO.of_flat (sz:=1) (f:=vc) (d:=undef) (b:=b10) (o:=0) (l:=([.slice (some ⟨b5,0,none⟩) 2 2]:List Value)) (fun _=>rfl) (hs.f.1))
 refine lC 10 hs (fOf 0 oM oM _ _ hs.g) ?_
 rintro _ w15 h16 hs rfl
 refine lR 11 74 1 (qc ((0:Int):Rat)) hs (fun b17 w18 h19 hs=>?_)
 replace hs:=hs.a_SlO (SlO.of_flat (sz:=5) (f:=qc) (d:=0) (b:=b17) (o:=0) (l:=([((0:Int):Rat)]:List Rat)) (fun _=>rfl) (hs.f.1))
 refine lL hs [.v 12 (.agg #[.int .i64 2,.slice (some ⟨b10,0,none⟩) 1 1,.slice (some ⟨b17,0,none⟩) 1 1])] (lR 13 114 1 ([.int .i64 2,.slice (some ⟨b10,0,none⟩) 1 1,.slice (some ⟨b17,0,none⟩) 1 1]) hs (fun b22 w23 h24 hs=>?_))
 replace hs:=hs.a_SlO (SlO.of_flat (sz:=3) (f:=lvc) (d:=lvd) (b:=b22) (o:=0) (l:=([(2,.slice (some ⟨b10,0,none⟩) 1 1,.slice (some ⟨b17,0,none⟩) 1 1)]:List LV)) (fun _=>rfl) (hs.f.1))
 replace hs:=hs.add (K:=fun h_=>NetL h_ ([(2,.slice (some ⟨b10,0,none⟩) 1 1,.slice (some ⟨b17,0,none⟩) 1 1)]:List LV) knownN) (NetL.snoc NetL.nil ⟨rfl,⟨_,_,([.slice (some ⟨b5,0,none⟩) 2 2]:List Value),rfl,Nat.le_refl _,(hs.f.2.2.2.2.1),QVs.snoc QVs.nil ⟨_,_,rfl,Nat.le_refl _,(hs.f.2.2.2.2.2.2.1)⟩⟩,⟨_,_,rfl,Nat.le_refl _,(hs.f.2.2.1)⟩⟩)
 refine lL hs [.v 14 (.agg #[.slice (some ⟨b22,0,none⟩) 1 1])] (lA 1 57 ([.slice none 0 0]) hs (fun b27 w28 h29 hs=>?_))
 refine lP 0 0 ([.slice (some ⟨b22,0,none⟩) 1 1]) hs (fun w30 hs=>?_)
 refine lN (CG.seq (cR 8 [] mixed hs al_nil ?_))
 refine eO 0 16 [(0,0,1)] (.agg #[.slice (some ⟨b22,0,none⟩) 1 1]) hs ?_
 refine eC 1 17 hs (fun _ _ hs=>fOf 1 oM oM _ _ hs.g) ?_
 rintro _ _ _ w31 h32 hs rfl
 refine eC 2 18 hs (fun _ _ hs=>fOf 2 oM oM _ _ hs.g) ?_
 rintro _ _ _ w33 h34 hs rfl
 refine eR 3 19 74 2 ([.bool (ineg ((1:Int):Rat).num),.int .u64 (lo (iabs ((1:Int):Rat).num)),.string (hi (iabs ((1:Int):Rat).num)),.int .u64 (lo (qd ((1:Int):Rat))),.string (hi (qd ((1:Int):Rat))),.bool (ineg ((2:Int):Rat).num),.int .u64 (lo (iabs ((2:Int):Rat).num)),.string (hi (iabs ((2:Int):Rat).num)),.int .u64 (lo (qd ((2:Int):Rat))),.string (hi (qd ((2:Int):Rat)))]) hs (fun b35 w36 h37 hs=>?_)
 replace hs:=hs.a_SlO (SlO.of_flat (sz:=5) (f:=qc) (d:=0) (b:=b35) (o:=0) (l:=([((1:Int):Rat),((2:Int):Rat)]:List Rat)) (fun _=>rfl) (hs.f.1))
 refine eC 4 20 hs (fun _ _ hs=>nAnswer (some ⟨b22,0,none⟩) 1 ([(2,.slice (some ⟨b10,0,none⟩) 1 1,.slice (some ⟨b17,0,none⟩) 1 1)]:List LV) knownN kD (fun i _=>(knownSz i).len) (some ⟨b35,0,none⟩) 2 ([((1:Int):Rat),((2:Int):Rat)]:List Rat) (Nat.le_refl _) (fun _ h2=>netB (chk_net3 knownChk) knownSz h2 (lq_get (by intro q hq;simp only[List.mem_cons,List.not_mem_nil,or_false] at hq;rcases hq with rfl|rfl<;>exact LQ.lit kD) oM)) _ _ hs.g (hs.f.2.2.2.1) (hs.f.2.2.1) (hs.f.1) (hs.f.2.2.2.2.2.2.2.2.2.2.2.1)) ?_
 rintro _ _ _ w40 h41 hs ⟨Aa1,ca1,rfl,hca1,hAa1⟩
 replace hs:=(hs.a_SlO hAa1)
 refine eV 5 15 (.tuple #[.slice Aa1 ((ansL knownN ([((1:Int):Rat),((2:Int):Rat)]:List Rat)).length) ca1,.int .i64 (ansE knownN ([((1:Int):Rat),((2:Int):Rat)]:List Rat))]) ?_
 refine eV 6 21 (.slice Aa1 ((ansL knownN ([((1:Int):Rat),((2:Int):Rat)]:List Rat)).length) ca1) ?_
 refine eV 7 22 (.int .i64 (ansE knownN ([((1:Int):Rat),((2:Int):Rat)]:List Rat))) ?_
 refine eD0 hs (fun w42 h43 hs=>?_)
 refine tV 8 2 (.slice Aa1 ((ansL knownN ([((1:Int):Rat),((2:Int):Rat)]:List Rat)).length) ca1) ?_
 refine tV 9 3 (.int .i64 (ansE knownN ([((1:Int):Rat),((2:Int):Rat)]:List Rat))) ?_
 refine tN (CG.seq (cR 8 [] mixed hs al_nil ?_))
 refine eO 0 24 [(0,0,1)] (.agg #[.slice (some ⟨b22,0,none⟩) 1 1]) hs ?_
 refine eC 1 25 hs (fun _ _ hs=>fOf 5 oM oM _ _ hs.g) ?_
 rintro _ _ _ w44 h45 hs rfl
 refine eC 2 26 hs (fun _ _ hs=>fOf 2 oM oM _ _ hs.g) ?_
 rintro _ _ _ w46 h47 hs rfl
 refine eR 3 27 74 2 ([.bool (ineg ((5:Int):Rat).num),.int .u64 (lo (iabs ((5:Int):Rat).num)),.string (hi (iabs ((5:Int):Rat).num)),.int .u64 (lo (qd ((5:Int):Rat))),.string (hi (qd ((5:Int):Rat))),.bool (ineg ((2:Int):Rat).num),.int .u64 (lo (iabs ((2:Int):Rat).num)),.string (hi (iabs ((2:Int):Rat).num)),.int .u64 (lo (qd ((2:Int):Rat))),.string (hi (qd ((2:Int):Rat)))]) hs (fun b48 w49 h50 hs=>?_)
 replace hs:=hs.a_SlO (SlO.of_flat (sz:=5) (f:=qc) (d:=0) (b:=b48) (o:=0) (l:=([((5:Int):Rat),((2:Int):Rat)]:List Rat)) (fun _=>rfl) (hs.f.1))
 refine eC 4 28 hs (fun _ _ hs=>nAnswer (some ⟨b22,0,none⟩) 1 ([(2,.slice (some ⟨b10,0,none⟩) 1 1,.slice (some ⟨b17,0,none⟩) 1 1)]:List LV) knownN kD (fun i _=>(knownSz i).len) (some ⟨b48,0,none⟩) 2 ([((5:Int):Rat),((2:Int):Rat)]:List Rat) (Nat.le_refl _) (fun _ h2=>netB (chk_net3 knownChk) knownSz h2 (lq_get (by intro q hq;simp only[List.mem_cons,List.not_mem_nil,or_false] at hq;rcases hq with rfl|rfl<;>exact LQ.lit kD) oM)) _ _ hs.g (hs.f.2.2.2.2.2.2.1) (hs.f.2.2.2.2.2.1) (hs.f.1) (hs.f.2.2.2.2.2.2.2.2.2.2.2.2.2.2.1)) ?_
 rintro _ _ _ w53 h54 hs ⟨Aa5,ca5,rfl,hca5,hAa5⟩
 replace hs:=(hs.a_SlO hAa5)
 refine eV 5 23 (.tuple #[.slice Aa5 ((ansL knownN ([((5:Int):Rat),((2:Int):Rat)]:List Rat)).length) ca5,.int .i64 (ansE knownN ([((5:Int):Rat),((2:Int):Rat)]:List Rat))]) ?_
 refine eV 6 29 (.slice Aa5 ((ansL knownN ([((5:Int):Rat),((2:Int):Rat)]:List Rat)).length) ca5) ?_
 refine eV 7 30 (.int .i64 (ansE knownN ([((5:Int):Rat),((2:Int):Rat)]:List Rat))) ?_
 refine eD0 hs (fun w55 h56 hs=>?_)
 refine tV 8 4 (.slice Aa5 ((ansL knownN ([((5:Int):Rat),((2:Int):Rat)]:List Rat)).length) ca5) ?_
 refine tV 9 5 (.int .i64 (ansE knownN ([((5:Int):Rat),((2:Int):Rat)]:List Rat))) ?_
 refine tNS ?_
 refine lL hs [.m 31 3] ?_
 have hb57:((ansE knownN ([((1:Int):Rat),((2:Int):Rat)]:List Rat):Int) == (0:Int))=true:=by rw[knownE];rfl
 have phb57:=eq_of_beq hb57
 refine lB 32 hb57 ?_
 refine lL hs [.m 33 32,.m 34 2,.v 35 (.int .i64 ((ansL knownN ([((1:Int):Rat),((2:Int):Rat)]:List Rat)).length:Nat))] ?_
 have hb58:((((ansL knownN ([((1:Int):Rat),((2:Int):Rat)]:List Rat)).length:Nat):Int) == (1:Int))=true:=by rw[hk1];rfl
 have phb58:=eq_of_beq hb58
 refine lB 36 hb58 ?_
 refine lL hs [.v 37 (.bool true),.m 38 37,.m 39 2] (lX 40 Aa1 ((ansL knownN ([((1:Int):Rat),((2:Int):Rat)]:List Rat)).length) ca1 5 0 0 ((hs.f.2.2.2.1).ok oM) ?_)
 refine lH 41 (qv ((ansL knownN ([((1:Int):Rat),((2:Int):Rat)]:List Rat)).getD 0 0)) hs ((hs.f.2.2.2.1).el 0 oM) ?_
 refine lC 42 hs (hIs ((ansL knownN ([((1:Int):Rat),((2:Int):Rat)]:List Rat)).getD 0 0) 0 1 (by rw[knownL1];exact ⟨by decide +kernel,by decide +kernel⟩) kD kD kD kD kD _ _ hs.g) ?_
 rintro _ w59 h60 hs rfl
 have hb61:(sameQ ((ansL knownN ([((1:Int):Rat),((2:Int):Rat)]:List Rat)).getD 0 0) (mkR 0 1))=true:=by rw[knownL1];decide +kernel
 rw[hb61]
 refine lL hs [.v 43 (.bool true),.m 44 43,.m 45 5] ?_
 have hb62:((ansE knownN ([((5:Int):Rat),((2:Int):Rat)]:List Rat):Int) == (0:Int))=true:=by rw[knownE];rfl
 have phb62:=eq_of_beq hb62
 refine lB 46 hb62 ?_
 refine lL hs [.v 47 (.bool true),.m 48 47,.m 49 4] (lX 50 Aa5 ((ansL knownN ([((5:Int):Rat),((2:Int):Rat)]:List Rat)).length) ca5 5 0 0 ((hs.f.1).ok oM) ?_)
 refine lH 51 (qv ((ansL knownN ([((5:Int):Rat),((2:Int):Rat)]:List Rat)).getD 0 0)) hs ((hs.f.1).el 0 oM) ?_
 refine lC 52 hs (hIs ((ansL knownN ([((5:Int):Rat),((2:Int):Rat)]:List Rat)).getD 0 0) 3 1 (by rw[knownL5];exact ⟨by decide +kernel,by decide +kernel⟩) kD kD kD kD kD _ _ hs.g) ?_
 rintro _ w63 h64 hs rfl
 have hb65:(sameQ ((ansL knownN ([((5:Int):Rat),((2:Int):Rat)]:List Rat)).getD 0 0) (mkR 3 1))=true:=by rw[knownL5];decide +kernel
 rw[hb65]
 refine lL hs [.v 53 (.bool true),.m 0 53] (lN (cTo [(0,.bool true)] ?_))
 exact CG.ret (hs.ret [] (.bool true) rfl)
theorem mk_s4 {ls:List Lay}{i m o kd:Int}(hl:ls.length+1=(netSizes i m o).length)(h:∀ k,k<ls.length→LayMk (ls.getD k lay0) (pick (kindAt kd k) 3+1:Nat) ((netSizes i m o).getD (k+1) 0) ((netSizes i m o).getD k 0)) :
    0<ls.length∧ls.length≤2∧(∀ k,LayS4 (ls.getD k lay0))∧∀ k,k<ls.length→0<(ls.getD k lay0).W.length∧0<(ls.getD k lay0).B.length:=by
  have hs:=sizes_len i m o
  refine ⟨by omega,by omega,fun k=>?_,fun k hk=>?_⟩
  · rcases Nat.lt_or_ge k ls.length with hk|hk
    · have L:=h k hk
      have s1:=sizes_le i m o k
      have s2:=sizes_le i m o (k+1)
      refine ⟨by rw[L.rows];exact s2,fun a=>?_,by rw[L.bl];exact s2,fun a b=>?_,lq_get (fun q hq=>?_) oM⟩
      · rw[List.getD_eq_getElem?_getD]
        cases hh:(ls.getD k lay0).W[a]? with
        | none=>exact Nat.zero_le _
        | some r=>have:=(L.row r (List.mem_of_getElem? hh)).1;show r.length≤4;omega
      · have hr:∀ r,(ls.getD k lay0).W[a]?=some r→LQ 1 (r.getD b 0):=fun r hh=>lq_get (fun q hq=>by obtain ⟨z,rfl⟩:=(L.row r (List.mem_of_getElem? hh)).2 q hq;exact LQ.small z) oM b
        rw[List.getD_eq_getElem?_getD (l:=(ls.getD k lay0).W)]
        cases hh:(ls.getD k lay0).W[a]? with
        | none=>exact lq0 oM
        | some r=>exact hr r hh
      · obtain ⟨z,rfl⟩:=L.bs q hq;exact LQ.small z
    · rw[List.getD_eq_getElem?_getD,List.getElem?_eq_none hk]
      exact ⟨by decide,fun i=>by simp[lay0],by decide,fun i j=>by simp[lay0];exact lq0 oM,fun i=>by simp[lay0];exact lq0 oM⟩
  · have L:=h k hk
    have:=sizes_pos i m o (k+1) oM
    exact ⟨by rw[L.rows];exact this,by rw[L.bl];exact this⟩
theorem getD_mem {α:Type}{l:List α}{i:Nat}{d:α}(h:i<l.length):l.getD i d∈l:=by
  rw[List.getD_eq_getElem?_getD,List.getElem?_eq_getElem h];exact List.getElem_mem h
theorem getD_over {α:Type}{l:List α}{i:Nat}{d:α}(h:l.length≤i):l.getD i d=d:=by
  rw[List.getD_eq_getElem?_getD,List.getElem?_eq_none h];rfl
theorem SlO.natInt {h:Hp}{A:Option Addr}{l:List Nat}(s:SlO 1 natc 0 h A l):SlO 1 i64c 0 h A (l.map fun n:Nat=>(n:Int)):=⟨fun hp=>s.ok (by rw[List.length_map] at hp;exact hp),fun i hi=>by
  rw[List.length_map] at hi
  have x:=s.el i hi
  have e:(l.map fun n:Nat=>(n:Int)).getD i 0=((l.getD i 0:Nat):Int):=by simp[List.getD_eq_getElem?_getD,hi]
  rw[e];exact x⟩
theorem hSameNats (A:Option Addr)(ca:Nat)(xs:List Nat)(D:Option Addr)(cd:Nat)(hl:xs.length≤1000000)(w:World)(h:Hp)(g:G w h)(hA:SlO 1 natc 0 h A xs)(hD:SlO 1 natc 0 h D xs) :
    Calls Tryz.prog 60 #[.slice A xs.length ca,.slice D xs.length cd] w (Ret w h fun v _=>v=.bool true):=by
  have x:=hSameInts A ca (xs.map fun n:Nat=>(n:Int)) (xs.map fun n:Nat=>(n:Int)) D cd (by rw[List.length_map];exact hl) (by rw[List.length_map];exact hl) w h g hA.natInt hD.natInt
  rw[List.length_map,decide_eq_true (rfl:(xs.map fun n:Nat=>(n:Int))=xs.map fun n:Nat=>(n:Int))] at x
  exact x
theorem sizesq_len (ls:List Lay):(sizesq ls).length=ls.length+1:=by simp[sizesq]
theorem LaySz.q {L:Lay}(h:LaySz L):LayQ L:=⟨by have:=h.rl;omega,fun i=>by have:=h.rls i;omega,by have:=h.bl;omega,fun i j=>(h.w i j).mono oM,fun i=>(h.b i).mono oM⟩
theorem lay0q:LayQ lay0:=⟨by decide,fun i=>by simp[lay0],by decide,fun i j=>by simp[lay0];exact lq0 oM,fun i=>by simp[lay0];exact lq0 oM⟩
theorem layq_fl {ls zs:List Lay}{d:Nat→Nat}{xs:List Rat}(hq:∀ q∈xs,LQ 1 q)(hf:flatq zs=xs)(hs:Shp d zs)(o:Net3 ls d)(hl:zs.length=ls.length)(i:Nat):LayQ (zs.getD i lay0):=by
  rcases Nat.lt_or_ge i zs.length with hi|hi
  · have hL:zs.getD i lay0∈zs:=by exact getD_mem hi
    obtain ⟨m,hb⟩:=hs i hi
    have h12:=(o.lay i oM).2.2.1
    have hc:=o.small i oM
    have hm:∀ q∈flatL (zs.getD i lay0),LQ 1 q:=fun q h=>hq q (by rw[←hf];exact List.mem_flatMap.2 ⟨_,hL,h⟩)
    have hW:∀ a,∀ q∈(zs.getD i lay0).W.getD a [],LQ 1 q:=fun a q h=>by
      rcases Nat.lt_or_ge a (zs.getD i lay0).W.length with ha|ha
      · refine hm q (List.mem_append_left _ (List.mem_flatten.2 ⟨_,getD_mem ha,h⟩))
      · rw[List.getD_eq_getElem?_getD,List.getElem?_eq_none ha] at h;exact absurd h (by simp)
    refine ⟨by have:=m.rows;omega,fun a=>?_,by omega,fun a b=>(lq_get (hW a) oM b).mono oM,fun b=>(lq_get (fun q h=>hm q (List.mem_append_right _ h)) oM b).mono oM⟩
    rcases Nat.lt_or_ge a (d (i+1)) with ha|ha
    · have:=m.row a ha;omega
    · rw[List.getD_eq_getElem?_getD,List.getElem?_eq_none (by have:=m.rows;omega)];exact Nat.zero_le _
  · rw[List.getD_eq_getElem?_getD,List.getElem?_eq_none hi];exact lay0q
theorem flq {ls:List Lay}(hZ:∀ i,LaySz (ls.getD i lay0))(j:Nat):LQ 1 ((flatq ls).getD j 0):=by
  refine lq_get (fun q hq=>?_) oM j
  obtain ⟨L,hL,h⟩:=List.mem_flatMap.1 hq
  obtain ⟨i,_,e⟩:=getD_mem' (d:=lay0) hL
  have z:=hZ i
  rw[e] at z
  rcases List.mem_append.1 h with h|h
  · obtain ⟨r,hr,h⟩:=List.mem_flatten.1 h
    obtain ⟨a,_,ea⟩:=getD_mem' (d:=[]) hr
    obtain ⟨b,_,eb⟩:=getD_mem' (d:=0) h
    have:=z.w a b
    rw[ea,eb] at this;exact this
  · obtain ⟨b,_,eb⟩:=getD_mem' (d:=0) h
    have:=z.b b
    rw[eb] at this;exact this
theorem lNetChecks (A0:Option Addr)(c0:Nat)(zl:List Int)(i_ m_ o_ kd way at_ by_ more:Int)(hl0:zl.length≤9223372036854775807)(hz0:I64s zl)(hkd : -9223372036854775808≤kd∧kd≤9223372036854775807)(w:World)(h:Hp)(g:G w h)(hA0:SlO 1 i64c 0 h A0 zl)(tb:Tab h) :
    Calls Tryz.prog 12 #[.slice A0 zl.length c0,.int .i64 i_,.int .i64 m_,.int .i64 o_,.int .i64 kd,.int .i64 way,.int .i64 at_,.int .i64 by_,.int .i64 more] w (Ret w h fun v _=>v=.bool true):=by
 have hs:=SS.start g
 replace hs:=((hs.a_SlO hA0).add (K:=fun h_=>Tab h_) tb)
 refine go Tryz.func12 [(0,.slice A0 zl.length c0),(1,.int .i64 i_),(2,.int .i64 m_),(3,.int .i64 o_),(4,.int .i64 kd),(5,.int .i64 way),(6,.int .i64 at_),(7,.int .i64 by_),(8,.int .i64 more)] rfl ?_
 refine cSL (lL hs [.v 18 (.bool false)] (lNS (lL hs [.m 29 0,.m 30 1,.m 31 2,.m 32 3,.m 33 4] (lC 34 hs (mNet A0 c0 zl hl0 hz0 i_ m_ o_ kd hkd _ _ hs.g (hs.f.2.1)) ?_))))
 rintro _ w1 h2 hs ⟨An,cn,ts,ls,rfl,hcn,hAn,hNn,hln,hMk⟩
 replace hs:=((hs.a_SlO hAn).add (K:=fun h_=>RNetL h_ ts ls) hNn)
 obtain ⟨hne,hl2,hZ4,hpp⟩:=mk_s4 hln hMk
 refine lL hs [.m 35 5,.m 36 6,.m 37 7] (lC 38 hs (mSpoiltN An cn ts ls hne hl2 hZ4 hpp way at_ by_ _ _ hs.g (hs.f.2.1) (hs.f.1)) ?_)
 rintro _ w3 h4 hs ⟨As,cs,ts2,ls2,rfl,hcs,hAs,hNs,hl4,hZ2⟩
 replace hs:=((hs.a_SlO hAs).add (K:=fun h_=>RNetL h_ ts2 ls2) hNs)
 refine lA 19 49 ([.slice none 0 0]) hs (fun b5 w6 h7 hs=>?_)
 refine lP 0 0 ([.slice As ts2.length cs]) hs (fun w8 hs=>?_)
 refine lNS (lL hs [.o 39 (.agg #[.slice As ts2.length cs]) 0 0 1] (lC 40 hs (mInNet As cs ts2 ls2 oM (fun i _=>(hZ2 i).fit) _ _ hs.g (hs.f.2.1) (hs.f.1) (hs.f.2.2.2.2.1)) ?_))
 rintro _ w9 h10 hs ⟨Ai,ci,ti,rfl,hci,hAi,hNi⟩
 replace hs:=((hs.a_SlO hAi).add (K:=fun h_=>NetL h_ ti ls2) hNi)
 refine lA 20 57 ([.slice none 0 0]) hs (fun b11 w12 h13 hs=>?_)
 refine lP 0 0 ([.slice Ai ti.length ci]) hs (fun w14 hs=>?_)
 refine lNS (lL hs [.o 41 (.agg #[.slice As ts2.length cs]) 1 0 1] (lC 42 hs (rCheckG As cs ts2 ls2 oM (fun i _=>(hZ2 i).len) _ _ hs.g (hs.f.2.2.2.1) (hs.f.2.2.1)) ?_))
 rintro _ w15 h16 hs rfl
 refine lL hs [.m 21 42] (lN (CG.seq (cSL (lC 43 hs (lKnown30 _ _ hs.g (hs.f.2.2.2.2.2.2.1)) ?_))))
 rintro _ w17 h18 hs rfl
 refine lL hs [.v 44 (.bool false),.m 45 44,.o 46 (.agg #[.slice Ai ti.length ci]) 0 0 1] (lC 47 hs (nCheckG Ai ci ti ls2 oM (fun i _=>(hZ2 i).len) _ _ hs.g (hs.f.2.1) (hs.f.1)) ?_)
 rintro _ w19 h20 hs rfl
 refine lL hs [.m 48 21] ?_
 have hb21:((chkq ls2:Int) != (chkq ls2:Int))=false:=bneF rfl
 have phb21:=eqOfBne hb21
 refine lB 49 hb21 ?_
 refine lL hs [.v 50 (.bool false)] (lN (cIF (CG.skipN (cSL (lL hs [.o 51 (.agg #[.slice Ai ti.length ci]) 0 0 1] (lC 52 hs (nFlatA Ai ci ti ls2 oM (fun i _=>(hZ2 i).len) _ _ hs.g (hs.f.2.1) (hs.f.1)) ?_))))))
 rintro _ w22 h23 hs ⟨Af,cf,rfl,hcf,hAf⟩
 replace hs:=(hs.a_SlO hAf)
 refine lL hs [.m 22 52] (lNS (lL hs [.o 54 (.agg #[.slice Ai ti.length ci]) 0 0 1,.m 55 22] (lC 56 hs (nWithA Ai ci ti ls2 oM (fun i _=>(hZ2 i).len) Af cf (flatA ls2) hcf _ _ hs.g (hs.f.2.2.1) (hs.f.2.1) (hs.f.1)) ?_)))
 rintro _ w24 h25 hs ⟨Ay,cy,uy,zy,Ey,rfl,hcy,hAy,hNy,hWy⟩
 replace hs:=((hs.a_SlO hAy).add (K:=fun h_=>NetL h_ uy zy) hNy)
 refine lL hs [.m 53 56,.v 57 (.agg #[.slice Ay uy.length cy]),.v 58 (.int .i64 Ey)] (lA 23 57 ([.slice none 0 0]) hs (fun b26 w27 h28 hs=>?_))
 refine lP 0 0 ([.slice Ay uy.length cy]) hs (fun w29 hs=>?_)
 refine lL hs [.m 24 58] (lN (cTo [(0,.slice A0 zl.length c0),(8,.int .i64 more),(18,.bool false),(19,.pointer (some ⟨b5,0,none⟩)),(20,.pointer (some ⟨b11,0,none⟩)),(21,.int .i64 (chkq ls2)),(22,.slice Af ((flatA ls2).length) cf),(23,.pointer (some ⟨b26,0,none⟩)),(24,.int .i64 Ey)] ?_))
 refine CG.seq (cSL (lL hs [.m 59 21] ?_))
 cases hb30:((chkq ls2:Int) != (0:Int))
 ·
  have phb30:=eqOfBne hb30
  refine lB 60 hb30 ?_
  refine lN (cIF (CG.skipN (cSL ?_)))
  have hck:chkq ls2=0:=by assumption
  obtain ⟨y0,y1,y2,y3,y4⟩:=hWy.2.2 hck (by rw[flatA0 hck])
  have hzy:zy=ls2:=net_eq y2 (net_shp (chk_net3 hck)) y1 (fun i hi=>y3 i oM) (by rw[y4,flatA0 hck])
  refine lL hs [.o 80 (.agg #[.slice As ts2.length cs]) 2 0 1] (lC 81 hs (rFlat As cs ts2 ls2 (dOf ls2) (chk_net3 hck) _ _ hs.g (hs.f.2.2.2.2.2.2.1) (hs.f.2.2.2.2.2.1)) ?_)
  rintro _ w31 h32 hs ⟨Ao,co,to_,rfl,hco,hAo,hTo⟩
  replace hs:=((hs.a_SlO hAo).add (K:=fun h_=>RTs h_ to_ (flatq ls2)) hTo)
  have hlo:=((hs.f.1)).len
  have hfp:=flatq_pos (chk_net3 hck)
  have hfl:=flatq_len (chk_net3 hck) ls2.length (Nat.le_refl _)
  rw[List.take_length] at hfl
  refine lL hs [.m 25 81] (lNS (lL hs [.m 82 0,.m 83 25,.v 84 (.int .i64 (to_.length:Nat)),.m 85 8] (lC 86 hs (hPick (more) 3 oM oM _ _ hs.g) ?_)))
  rintro _ w34 h35 hs rfl
  have lp33:=pick_lt (more) 3 oM
  refine lIn 87 ((to_.length:Nat)+(pick (more) 3:Nat)) (to_.length+(pick (more) 3)) ?_
  refine lIn 88 ((to_.length+(pick (more) 3):Nat)-1) ((to_.length+(pick (more) 3):Nat)-1) ?_
  refine lC 89 hs (hRow A0 c0 zl ((to_.length+(pick (more) 3):Nat)-1:Nat) oM hl0 hz0 _ _ hs.g (hs.f.2.2.2.2.2.2.2.2.2.2.2.2.1)) ?_
  rintro _ w36 h37 hs ⟨Ap,cp,tp,rfl,hcp,hAp,hTp⟩
  replace hs:=((hs.a_SlO hAp).add (K:=fun h_=>RTs h_ tp (rowq zl ((to_.length+(pick (more) 3):Nat)-1:Nat))) hTp)
  have hlp:=((hs.f.1)).len
  rw[rowq_len] at hlp
  have hlr:=rowq_len zl ((to_.length+(pick (more) 3):Nat)-1:Nat)
  refine lL hs [.m 26 89] (lN (CG.seq ?_))
  have hsr:=hs
  refine cR 8 [⟨7,27,.cells (List.toArray [.slice none 0 0]) 57 (0,0)⟩] mixed hs (al_cons (alOk kR (fun _ _=>by kernel_rfl)) al_nil) ?_
  refine eO 0 91 [(1,0,1)] (.agg #[.slice Ai ti.length ci]) hs ?_
  refine eV 1 92 (.slice Ap tp.length cp) ?_
  refine eC 2 93 hs (fun _ _ hs=>hInRow Ap cp tp (rowq zl ((to_.length+(pick (more) 3):Nat)-1:Nat)) oM (fun i _=>(rowq_lq zl _ i).mono oM) _ _ hs.g (hs.f.2.1) (hs.f.1) (hs.f.2.2.2.2.2.2.2.2.2.2.2.2.2.1)) ?_
  rintro _ _ _ w38 h39 hs ⟨Ax,cx,rfl,hcx,hAx⟩
  replace hs:=(hs.a_SlO hAx)
  refine eC 3 94 hs (fun _ _ hs=>nWithA Ai ci ti ls2 oM (fun i _=>(hZ2 i).len) Ax cx ((rowq zl ((to_.length+(pick (more) 3):Nat)-1:Nat))) hcx _ _ hs.g (hs.f.2.2.2.2.2.2.2.2.2.1) (hs.f.2.2.2.2.2.2.2.2.1) (hs.f.1)) ?_
  rintro _ _ _ w40 h41 hs ⟨Az,cz,uz,zz,Ez,rfl,hcz,hAz,hNz,hWz⟩
  replace hs:=((hs.a_SlO hAz).add (K:=fun h_=>NetL h_ uz zz) hNz)
  refine eV 4 90 (.tuple #[.agg #[.slice Az uz.length cz],.int .i64 Ez]) ?_
  refine eV 5 95 (.agg #[.slice Az uz.length cz]) ?_
  refine eV 6 96 (.int .i64 Ez) ?_
  refine eD1p [] hsr hs 57 [.slice none 0 0] (fun w42 h43 b44 hs=>?_)
  refine tP 8 0 0 ([.slice Az uz.length cz]) hs (fun w45 hs=>?_)
  refine tV 9 28 (.int .i64 Ez) ?_
  refine tN (CG.seq (cSL (lL hs [.m 97 26,.v 98 (.int .i64 (tp.length:Nat)),.m 99 25,.v 100 (.int .i64 (to_.length:Nat))] ?_)))
  cases hb46:(((tp.length:Nat):Int) != ((to_.length:Nat):Int))
  ·
   have phb46:=eqOfBne hb46
   refine lB 101 hb46 ?_
   refine lN (cIF (CG.seq (cR 10 [] mixed hs al_nil ?_)))
   obtain ⟨g0,g1,g2,g3,g4⟩:=hWz.2.2 hck oM
   refine eV 0 110 (.int .i64 Ez) ?_
   have hb47:((Ez:Int) != (0:Int))=false:=bneF g0
   have phb47:=eqOfBne hb47
   refine eB 1 111 hb47 ?_
   refine eV 2 112 (.bool false) ?_
   refine eO 3 113 [(0,0,1)] (.agg #[.slice Az uz.length cz]) hs ?_
   refine eO 4 114 [(3,0,1)] (.agg #[.slice As ts2.length cs]) hs ?_
   refine eV 5 115 (.slice Ap tp.length cp) ?_
   refine eC 6 116 hs (fun _ _ hs=>rWithFlat As cs ts2 ls2 (dOf ls2) (chk_net3 hck) Ap cp (rowq zl ((to_.length+(pick (more) 3):Nat)-1:Nat)) tp oM hcp _ _ hs.g (hs.f.2.2.2.2.2.2.2.2.2.2.2.2.2.1) (hs.f.2.2.2.2.2.2.2.2.2.2.2.2.1) (hs.f.2.2.2.2.1) (hs.f.2.2.2.1)) ?_
   rintro _ _ _ w48 h49 hs ⟨Av,cv,uv,zv,rfl,hcv,hAv,hNv,v1,v2,v3,v4⟩
   have hzv:zv=zz:=net_eq v2 g2 oM (fun i hi=>by rw[v3 i oM,g3 i oM]) (by rw[v4,g4])
   rw[hzv] at hNv
   replace hs:=((hs.a_SlO hAv).add (K:=fun h_=>RNetL h_ uv zz) hNv)
   refine eC 7 117 hs (fun _ _ hs=>mSameNet Az cz uz Av cv uv zz oM (layq_fl (fun q hq=>by obtain ⟨i,_,e⟩:=getD_mem' (d:=0) hq;rw[←e];exact rowq_lq zl _ i) g4 g2 (chk_net3 hck) g1) _ _ hs.g (hs.f.2.2.2.1) (hs.f.2.2.1) (hs.f.2.1) (hs.f.1) (hs.f.2.2.2.2.2.2.2.2.2.2.2.2.2.2.2.2.2.2.1)) ?_
   rintro _ _ _ w50 h51 hs rfl
   refine eV 8 118 (.bool false) ?_
   refine eV 9 119 (.bool false) ?_
   refine eD0 hs (fun w52 h53 hs=>?_)
   refine tN (cTo [(18,.bool false),(19,.pointer (some ⟨b5,0,none⟩)),(20,.pointer (some ⟨b11,0,none⟩)),(22,.slice Af ((flatA ls2).length) cf),(23,.pointer (some ⟨b26,0,none⟩)),(24,.int .i64 Ey),(25,.slice Ao to_.length co),(119,.bool false)] ?_)
   refine cIF (CG.skipN (CG.seq (cR 19 [] mixed hs al_nil ?_)))
   refine eO 0 120 [(2,0,1)] (.agg #[.slice Ai ti.length ci]) hs ?_
   refine eO 2 122 [(3,0,1)] (.agg #[.slice As ts2.length cs]) hs ?_
   refine eC 1 121 hs (fun _ _ hs=>nSizes0 Ai ci ti ls2 oM (fun i _=>(hZ2 i).len) (chk_net3 hck) hck _ _ hs.g (hs.f.2.2.2.2.2.2.2.2.2.2.2.2.2.1) (hs.f.2.2.2.2.2.2.2.2.2.2.2.2.1)) ?_
   rintro _ _ _ w54 h55 hs ⟨Ag,cg,rfl,hcg,hAg⟩
   replace hs:=(hs.a_SlO hAg)
   refine eC 3 123 hs (fun _ _ hs=>rNetSizes As cs ts2 ls2 (chk_net3 hck) _ _ hs.g (hs.f.2.2.2.2.2.2.2.2.2.2.2.2.2.2.2.2.1) (hs.f.2.2.2.2.2.2.2.2.2.2.2.2.2.2.2.1)) ?_
   rintro _ _ _ w56 h57 hs ⟨Ah,ch,rfl,hch,hAh⟩
   replace hs:=(hs.a_SlO hAh)
   refine eC 4 124 hs (fun _ _ hs=>hSameNats Ag cg (sizesq ls2) Ah ch (by rw[sizesq_len];omega) _ _ hs.g (hs.f.2.1) (hs.f.1)) ?_
   rintro _ _ _ w58 h59 hs rfl
   refine eV 5 125 (.bool true) ?_
   refine eV 6 126 (.slice Af ((flatA ls2).length) cf) ?_
   refine eV 7 127 (.slice Ao to_.length co) ?_
   refine eC 8 128 hs (fun _ _ hs=>hSameRow Af cf (flatA ls2) (flatq ls2) Ao co to_ (by rw[flatA0 hck];omega) oM (fun i _=>by rw[flatA0 hck];exact (flq hZ2 i).mono oM) (fun i _=>(flq hZ2 i).mono oM) _ _ hs.g (hs.f.2.2.2.2.2.2.2.2.2.2.2.2.2.1) (hs.f.2.2.2.2.2.2.2.2.2.2.1) (hs.f.2.2.2.2.2.2.2.2.2.1)) ?_
   rintro _ _ _ w60 h61 hs rfl
   have hb62:(decide (flatA ls2=flatq ls2))=true:=decide_eq_true (flatA0 hck)
   rw[hb62]
   have phb62:=oT hb62
   refine eV 9 129 (.bool true) ?_
   refine eV 10 130 (.bool true) ?_
   refine eV 11 131 (.int .i64 Ey) ?_
   have hb63:((Ey:Int) == (0:Int))=true:=beqT y0
   have phb63:=eq_of_beq hb63
   refine eB 12 132 hb63 ?_
   refine eV 13 133 (.bool true) ?_
   refine eV 14 134 (.bool true) ?_
   refine eO 15 135 [(1,0,1)] (.agg #[.slice Ay uy.length cy]) hs ?_
   refine eO 16 136 [(2,0,1)] (.agg #[.slice Ai ti.length ci]) hs ?_
   refine eC 17 137 hs (fun _ _ hs=>nSame Ay cy uy Ai ci ti ls2 oM (fun i=>(hZ2 i).q) _ _ hs.g (hs.f.2.2.2.2.2.2.2.2.2.2.2.2.1) (hzy▸(hs.f.2.2.2.2.2.2.2.2.2.2.2.1)) (hs.f.2.2.2.2.2.2.2.2.2.2.2.2.2.2.2.1) (hs.f.2.2.2.2.2.2.2.2.2.2.2.2.2.2.1)) ?_
   rintro _ _ _ w64 h65 hs rfl
   refine eV 18 138 (.bool true) ?_
   refine eD0 hs (fun w66 h67 hs=>?_)
   refine tV 19 18 (.bool true) ?_
   exact tN (CG.ret (hs.ret [] (.bool true) rfl))
  have phb46:=neOfBne hb46
  refine lB 101 hb46 ?_
  refine lN (cIT (cSL ?_))
  obtain ⟨b0,b1⟩:=hWz.2.1 hck oM
  have hz0_:uz.length=0:=by rw[((hs.f.1)).len,b1];rfl
  refine lL hs [.m 102 28] ?_
  have hb68:((Ez:Int) != (5:Int))=false:=bneF b0
  have phb68:=eqOfBne hb68
  refine lB 103 hb68 ?_
  refine lL hs [.m 104 103,.v 105 (.pointer (some ⟨b44,0,none⟩)),.o 106 (.slice Az uz.length cz) 0 0 1,.v 107 (.int .i64 (uz.length:Nat))] ?_
  have hb69:(((uz.length:Nat):Int) != (0:Int))=false:=bneF oM
  have phb69:=eqOfBne hb69
  refine lB 108 hb69 ?_
  refine lL hs [.v 109 (.bool false)] (lN (cTo [(18,.bool false),(19,.pointer (some ⟨b5,0,none⟩)),(20,.pointer (some ⟨b11,0,none⟩)),(22,.slice Af ((flatA ls2).length) cf),(23,.pointer (some ⟨b26,0,none⟩)),(24,.int .i64 Ey),(25,.slice Ao to_.length co),(109,.bool false)] ?_))
  refine cIF (CG.skipN (CG.seq (cR 19 [] mixed hs al_nil ?_)))
  refine eO 0 120 [(2,0,1)] (.agg #[.slice Ai ti.length ci]) hs ?_
  refine eO 2 122 [(3,0,1)] (.agg #[.slice As ts2.length cs]) hs ?_
  refine eC 1 121 hs (fun _ _ hs=>nSizes0 Ai ci ti ls2 oM (fun i _=>(hZ2 i).len) (chk_net3 hck) hck _ _ hs.g (hs.f.2.2.2.2.2.2.2.2.2.2.2.1) (hs.f.2.2.2.2.2.2.2.2.2.2.1)) ?_
  rintro _ _ _ w70 h71 hs ⟨Ag,cg,rfl,hcg,hAg⟩
  replace hs:=(hs.a_SlO hAg)
  refine eC 3 123 hs (fun _ _ hs=>rNetSizes As cs ts2 ls2 (chk_net3 hck) _ _ hs.g (hs.f.2.2.2.2.2.2.2.2.2.2.2.2.2.2.1) (hs.f.2.2.2.2.2.2.2.2.2.2.2.2.2.1)) ?_
  rintro _ _ _ w72 h73 hs ⟨Ah,ch,rfl,hch,hAh⟩
  replace hs:=(hs.a_SlO hAh)
  refine eC 4 124 hs (fun _ _ hs=>hSameNats Ag cg (sizesq ls2) Ah ch (by rw[sizesq_len];omega) _ _ hs.g (hs.f.2.1) (hs.f.1)) ?_
  rintro _ _ _ w74 h75 hs rfl
  refine eV 5 125 (.bool true) ?_
  refine eV 6 126 (.slice Af ((flatA ls2).length) cf) ?_
  refine eV 7 127 (.slice Ao to_.length co) ?_
  refine eC 8 128 hs (fun _ _ hs=>hSameRow Af cf (flatA ls2) (flatq ls2) Ao co to_ (by rw[flatA0 hck];omega) oM (fun i _=>by rw[flatA0 hck];exact (flq hZ2 i).mono oM) (fun i _=>(flq hZ2 i).mono oM) _ _ hs.g (hs.f.2.2.2.2.2.2.2.2.2.2.2.1) (hs.f.2.2.2.2.2.2.2.2.1) (hs.f.2.2.2.2.2.2.2.1)) ?_
  rintro _ _ _ w76 h77 hs rfl
  have hb78:(decide (flatA ls2=flatq ls2))=true:=decide_eq_true (flatA0 hck)
  rw[hb78]
  have phb78:=oT hb78
  refine eV 9 129 (.bool true) ?_
  refine eV 10 130 (.bool true) ?_
  refine eV 11 131 (.int .i64 Ey) ?_
  have hb79:((Ey:Int) == (0:Int))=true:=beqT y0
  have phb79:=eq_of_beq hb79
  refine eB 12 132 hb79 ?_
  refine eV 13 133 (.bool true) ?_
  refine eV 14 134 (.bool true) ?_
  refine eO 15 135 [(1,0,1)] (.agg #[.slice Ay uy.length cy]) hs ?_
  refine eO 16 136 [(2,0,1)] (.agg #[.slice Ai ti.length ci]) hs ?_
  refine eC 17 137 hs (fun _ _ hs=>nSame Ay cy uy Ai ci ti ls2 oM (fun i=>(hZ2 i).q) _ _ hs.g (hs.f.2.2.2.2.2.2.2.2.2.2.1) (hzy▸(hs.f.2.2.2.2.2.2.2.2.2.1)) (hs.f.2.2.2.2.2.2.2.2.2.2.2.2.2.1) (hs.f.2.2.2.2.2.2.2.2.2.2.2.2.1)) ?_
  rintro _ _ _ w80 h81 hs rfl
  refine eV 18 138 (.bool true) ?_
  refine eD0 hs (fun w82 h83 hs=>?_)
  refine tV 19 18 (.bool true) ?_
  exact tN (CG.ret (hs.ret [] (.bool true) rfl))
 have phb30:=neOfBne hb30
 refine lB 60 hb30 ?_
 refine lN (cIT (cSL (lL hs [.o 61 (.agg #[.slice Ai ti.length ci]) 1 0 1] (lC 62 hs (nSizes1 Ai ci ti ls2 oM (fun i _=>(hZ2 i).len) aM _ _ hs.g (hs.f.2.2.2.2.1) (hs.f.2.2.2.1)) ?_))))
 rintro _ w84 h85 hs rfl
 refine lL hs [.v 63 (.int .i64 0),.v 64 (.bool true),.m 65 64,.m 66 22,.v 67 (.int .i64 ((flatA ls2).length:Nat))] ?_
 have hb86:((((flatA ls2).length:Nat):Int) == (0:Int))=true:=by rw[flatA1 aM];rfl
 have phb86:=eq_of_beq hb86
 refine lB 68 hb86 ?_
 refine lL hs [.v 69 (.bool true),.m 70 69,.m 71 24] ?_
 have hb87:((Ey:Int) == (1:Int))=true:=beqT (hWy.1 aM).1
 have phb87:=eq_of_beq hb87
 refine lB 72 hb87 ?_
 refine lL hs [.v 73 (.bool true),.m 74 73,.v 75 (.pointer (some ⟨b26,0,none⟩)),.o 76 (.slice Ay uy.length cy) 0 0 1,.v 77 (.int .i64 (uy.length:Nat))] ?_
 have hb88:(((uy.length:Nat):Int) == (0:Int))=true:=beqT (by rw[((hs.f.1)).len,(hWy.1 aM).2];rfl)
 have phb88:=eq_of_beq hb88
 refine lB 78 hb88 ?_
 exact lL hs [.v 79 (.bool true),.m 18 79] (lN (CG.ret (hs.ret [] (.bool true) rfl)))
end Go.Proofs.YtphakaomkmhbaaaGreatDoor
