/- Laws and contracts that the card of this claim stands on, part 6. No condition of ours. -/
import Derived.Test.YtnbjahmpennmkaaGreatDoorPo0
import Derived.Test.YtnbjahmpennmkaaGreatDoorPo1
import Derived.Test.YtnbjahmpennmkaaGreatDoorPo2
import Derived.Test.YtnbjahmpennmkaaGreatDoorPo3
import Derived.Test.YtnbjahmpennmkaaGreatDoorPo4
set_option maxRecDepth 100000
set_option maxHeartbeats 4000000
namespace Go.Proofs.YtnbjahmpennmkaaGreatDoor
open Go.RowKit
open Go.RowKit Go.Shelf
theorem cConjE (A:Option Addr)(cap:Nat)(us:List Value)(W:List (List Rat))(hl:W.length≤1000)(hls:∀ i,i<W.length→(W.getD i []).length≤1000)(D:Option Addr)(cD:Nat)(bl:List Rat)(X:Option Addr)(cX:Nat)(xl:List Rat)(hbl:bl.length≤1000)(hxl:xl.length≤1000)(hq:∀ i j,LQ 100000000 ((W.getD i []).getD j 0))(hE:¬SymP W∨bl.length≠W.length∨xl.length≠W.length)(w:World)(h:Hp)(g:G w h)(hA:SlO 1 vc undef h A us)(hU:QVs h us W)(hD:SlO 5 qc 0 h D bl)(hX:SlO 5 qc 0 h X xl)(tb:Tab h) :
    Calls Tryz.prog 8 #[.slice A us.length cap,.slice D bl.length cD,.slice X xl.length cX] w (Ret w h fun v _=>v=.tuple #[.slice none 0 0,.int .i64 (cjE W bl xl)]):=by
 have hs:=SS.start g
 replace hs:=(((((hs.a_SlO hA).add (K:=fun h_=>QVs h_ us W) hU).a_SlO hD).a_SlO hX).add (K:=fun h_=>Tab h_) tb)
 have hlu:=(hs.f.2.2.2.1).len
 refine go Tryz.func8 [(0,.slice A us.length cap),(1,.slice D bl.length cD),(2,.slice X xl.length cX)] rfl ?_
 refine cSL (lL hs [.v 6 (.slice none 0 0),.v 7 (.int .i64 0)] (lN (CG.seq (cSL (lL hs [.m 25 0] (lC 26 hs (mSquare A cap us W hl hls _ _ hs.g (hs.f.2.2.2.2.1) (hs.f.2.2.2.1)) ?_))))))
 rintro _ w1 h2 hs rfl
 cases hb3:(sqq W)
 ·
  refine lL hs [.v 27 (.bool true),.m 28 27] (lG 29 ?_)
  refine lG 30 ?_
  refine lG 31 ?_
  refine lG 32 ?_
  refine lG 33 ?_
  refine lL hs [.v 34 (.bool true),.m 35 34] (lG 36 ?_)
  refine lG 37 ?_
  refine lG 38 ?_
  refine lG 39 ?_
  refine lG 40 ?_
  exact lL hs [.v 41 (.bool true)] (lN (cIT (cSL (lL hs [.v 6 (.slice none 0 0),.v 7 (.int .i64 5)] (lN (CG.ret (hs.ret [] (.tuple #[.slice none 0 0,.int .i64 5]) (by rw[cjE_5 (by first|exact .inl (sq_not aM)|exact .inr oM)]))))))))
 refine lL hs [.v 27 (.bool false),.m 28 27,.m 29 1,.v 30 (.int .i64 (bl.length:Nat)),.m 31 0,.v 32 (.int .i64 (us.length:Nat))] ?_
 cases hb4:(((bl.length:Nat):Int) != ((us.length:Nat):Int))
 ·
  have phb4:=eqOfBne hb4
  refine lB 33 hb4 ?_
  refine lL hs [.v 34 (.bool false),.m 35 34,.m 36 2,.v 37 (.int .i64 (xl.length:Nat)),.m 38 0,.v 39 (.int .i64 (us.length:Nat))] ?_
  cases hb5:(((xl.length:Nat):Int) != ((us.length:Nat):Int))
  ·
   have phb5:=eqOfBne hb5
   refine lB 40 hb5 ?_
   refine lL hs [.v 41 (.bool false)] (lN (cIF (CG.skipN (CG.seq (cSL (lL hs [.m 42 0] (lC 43 hs (mSym A cap us W hl hls hq _ _ hs.g (hs.f.2.2.2.2.1) (hs.f.2.2.2.1)) ?_)))))))
   rintro _ w6 h7 hs rfl
   have hb8:(symq W)=false:=sym_f (fun h_=>by rcases hE with e_|e_|e_;exact e_ h_;all_goals omega)
   rw[hb8]
   exact lL hs [.v 44 (.bool true)] (lN (cIT (cSL (lL hs [.v 6 (.slice none 0 0),.v 7 (.int .i64 10)] (lN (CG.ret (hs.ret [] (.tuple #[.slice none 0 0,.int .i64 10]) (by rw[cjE_10 ⟨sq_is aM,by omega,by omega⟩]))))))))
  have phb5:=neOfBne hb5
  refine lB 40 hb5 ?_
  exact lL hs [.v 41 (.bool true)] (lN (cIT (cSL (lL hs [.v 6 (.slice none 0 0),.v 7 (.int .i64 5)] (lN (CG.ret (hs.ret [] (.tuple #[.slice none 0 0,.int .i64 5]) (by rw[cjE_5 (by first|exact .inl (sq_not aM)|exact .inr oM)]))))))))
 have phb4:=neOfBne hb4
 refine lB 33 hb4 ?_
 refine lL hs [.v 34 (.bool true),.m 35 34] (lG 36 ?_)
 refine lG 37 ?_
 refine lG 38 ?_
 refine lG 39 ?_
 refine lG 40 ?_
 exact lL hs [.v 41 (.bool true)] (lN (cIT (cSL (lL hs [.v 6 (.slice none 0 0),.v 7 (.int .i64 5)] (lN (CG.ret (hs.ret [] (.tuple #[.slice none 0 0,.int .i64 5]) (by rw[cjE_5 (by first|exact .inl (sq_not aM)|exact .inr oM)]))))))))
section ro
variable {w0:World} {h0:Hp} {w:World} {h:Hp} {B:List Bx} {R:List Rw} {F:List (Hp→Prop)}
theorem SS.ro_jk (s:SS w0 h0 w h B R F)(j:Nat){ty:TypeId}{sz c m:Nat}{A:Option Addr}{cs:List Value}(hr:R.getD j default=⟨ty,sz,A,c,m,cs⟩:=by kernel_rfl)(hj:decide (j<R.length)=true:=by kernel_rfl):∀ b∈(Value.slice A m c).ownBlock.toList,h[b]?=some junk:=fun b hb=>by
  have hj':=oT hj
  have r:=s.ro _ (List.getElem_mem hj')
  rw[rw_get hr hj'] at r
  exact r.jk b (Option.mem_toList.1 hb)
theorem SS.ro_lt (s:SS w0 h0 w h B R F)(j:Nat){ty:TypeId}{sz c m:Nat}{A:Option Addr}{cs:List Value}(hr:R.getD j default=⟨ty,sz,A,c,m,cs⟩:=by kernel_rfl)(hj:decide (j<R.length)=true:=by kernel_rfl):∀ b∈(Value.slice A m c).ownBlock.toList,b<h.size:=fun b hb=>by
  have hj':=oT hj
  have r:=s.ro _ (List.getElem_mem hj')
  rw[rw_get hr hj'] at r
  exact lt_of_some (r.jk b (Option.mem_toList.1 hb))
theorem SS.ro_ne (s:SS w0 h0 w h B R F)(q j:Nat){ty:TypeId}{sz c m:Nat}{A:Option Addr}{cs:List Value}(hq:decide (q<B.length)=true:=by kernel_rfl)(hr:R.getD j default=⟨ty,sz,A,c,m,cs⟩:=by kernel_rfl)(hj:decide (j<R.length)=true:=by kernel_rfl):(bxAt B q).b ∉ (Value.slice A m c).ownBlock.toList:=fun hb=>by
  have hj':=oT hj
  have r:=s.ro _ (List.getElem_mem hj')
  rw[rw_get hr hj'] at r
  exact r.ap _ (Option.mem_toList.1 hb) (List.mem_map.2 ⟨_,bxAt_mem (oT hq),rfl⟩)
end ro
theorem vec_step {h:Hp}{ts:List RT}{k:Nat}{f:Nat→Rat}(x:RTs h ts (vec k f)){t:RT}(hq:RQ h (rtv t) (f k)):RTs h (ts++[t]) (vec (k+1) f):=by
  unfold vec
  rw[List.range_succ,List.map_append]
  exact x.snoc hq
theorem rRightT (A:Option Addr)(cap:Nat)(us:List Value)(W:List (List Rat))(hl:W.length≤1000000)(hls:∀ i,i<W.length→(W.getD i []).length≤1000000)(hR:RightP W)(w:World)(h:Hp)(g:G w h)(hA:SlO 1 vc undef h A us)(hU:RVs h us W):Calls Tryz.prog 69 #[.slice A us.length cap] w (Ret w h fun v _=>v=.bool true):=by
  have x:=rRightG A cap us W hl hls w h g hA hU
  rw[←rq_t hR] at x
  exact x
theorem rDotM (a:List Rat)(x:Nat→Rat)(n:Nat)(A:Option Addr)(ca:Nat)(ta:List RT)(X:Option Addr)(cX:Nat)(tx:List RT)(hal:a.length=n)(K1 K2:Nat)(hn4:n≤5)(hb:K1+K2≤1000000)(hK1:∀ j,LQ K1 (a.getD j 0))(hK2:∀ i,i<n→LQ K2 (x i))(w:World)(h:Hp)(g:G w h)(hA:SlO 3 rqc rqd h A ta)(hT:RTs h ta a)(hX:SlO 3 rqc rqd h X tx)(hTX:RTs h tx (vec n x)) :
    Calls Tryz.prog 42 #[.slice A ta.length ca,.slice X tx.length cX] w (Ret w h fun v h1=>RQ h1 v (dt n (fun j=>a.getD j 0) x)):=by
  have x_:=rDot A ca a ta X cX (vec n x) tx K1 K2 (by rw[vec_len];omega) oM (by have:=lq_sum4 (n:=a.length) (a:=K1+K2+1) oM oM;omega) (fun i _=>hK1 i) (fun i hi=>by rw[vec_get x oM];exact hK2 i oM) w h g hA hT hX hTX
  rw[hal,dot_dt n (u:=fun j=>a.getD j 0) (v:=x) (fun i _=>rfl) (fun i hi=>vec_get x hi)] at x_
  exact x_
theorem rDotV (u v:Nat→Rat)(n:Nat)(A:Option Addr)(ca:Nat)(ta:List RT)(X:Option Addr)(cX:Nat)(tx:List RT)(K1 K2:Nat)(hn4:n≤5)(hb:K1+K2≤1000000)(hK1:∀ i,i<n→LQ K1 (u i))(hK2:∀ i,i<n→LQ K2 (v i))(w:World)(h:Hp)(g:G w h)(hA:SlO 3 rqc rqd h A ta)(hT:RTs h ta (vec n u))(hX:SlO 3 rqc rqd h X tx)(hTX:RTs h tx (vec n v)) :
    Calls Tryz.prog 42 #[.slice A ta.length ca,.slice X tx.length cX] w (Ret w h fun r h1=>RQ h1 r (dt n u v)):=by
  have x_:=rDot A ca (vec n u) ta X cX (vec n v) tx K1 K2 (by rw[vec_len,vec_len];exact Nat.le_refl _) (by rw[vec_len];omega) (by rw[vec_len];have:=lq_sum4 (n:=n) (a:=K1+K2+1) oM oM;omega) (fun i hi=>by rw[vec_len] at hi;rw[vec_get u hi];exact hK1 i hi) (fun i hi=>by rw[vec_len] at hi;rw[vec_get v hi];exact hK2 i hi) w h g hA hT hX hTX
  rw[vec_len n u,dot_dt n (u:=u) (v:=v) (fun i hi=>vec_get u hi) (fun i hi=>vec_get v hi)] at x_
  exact x_
theorem rSquare (A:Option Addr)(capA:Nat)(us:List Value)(W:List (List Rat))(hlW:W.length≤1000)(hlsW:∀ i,i<W.length→(W.getD i []).length≤1000)(w:World)(h:Hp)(g:G w h)(hA:SlO 1 vc undef h A us)(hUW:RVs h us W) :
    Calls Tryz.prog 37 #[.slice A us.length capA] w (Ret w h fun v _=>v=.bool (sqq W)):=by
 have hs:=SS.start g
 replace hs:=((hs.a_SlO hA).add (K:=fun h_=>RVs h_ us W) hUW)
 have hlu:=(hs.f.1).len
 refine go Tryz.func37 [(0,.slice A us.length capA)] rfl ?_
 refine cSL (lL hs [.v 2 (.bool false)] (lNS (lL hs [.m 3 0] (lC 4 hs (rRightG A capA us W oM (fun i hi=>by have:=hlsW i hi;omega) _ _ hs.g (hs.f.2.1) (hs.f.1)) ?_))))
 rintro _ w1 h2 hs rfl
 cases hb3:(rightq W)
 ·
  refine lL hs [.m 5 4] (lG 6 ?_)
  refine lG 7 ?_
  refine lG 8 ?_
  refine lG 9 ?_
  refine lG 10 ?_
  refine lG 11 ?_
  refine lG 12 ?_
  exact lL hs [.v 13 (.bool false),.m 2 13] (lN (CG.ret (hs.ret [] (.bool false) (congrArg Value.bool (sq_f (fun h_=>by first|exact rq_not aM h_.1|(have:=h_.2;omega))).symm))))
 refine lL hs [.m 5 4,.m 6 0,.v 7 (.int .i64 (us.length:Nat)),.m 8 0] ?_
 obtain ⟨hr1,hr2,hr3⟩:=rq_is ‹rightq W=true›
 refine lX 9 A us.length capA 1 0 0 ((hs.f.2.1).ok oM) ?_
 obtain ⟨Arz,crz,trz,erz,hcrz,hRrz,hTrz⟩:=(hs.f.1).at_ 0 oM
 have hlrz:=hTrz.len
 replace hs:=((hs.a_SlO hRrz).add (K:=fun h_=>RTs h_ trz (W.getD 0 [])) hTrz)
 refine lHe 10 (us.getD 0 undef) hs ((hs.f.2.2.2.1).el 0 oM) erz ?_
 refine lL hs [.v 11 (.int .i64 (trz.length:Nat))] ?_
 cases hb4:(((us.length:Nat):Int) == ((trz.length:Nat):Int))
 ·
  have phb4:=neOfBeq hb4
  refine lB 12 hb4 ?_
  exact lL hs [.v 13 (.bool false),.m 2 13] (lN (CG.ret (hs.ret [] (.bool false) (congrArg Value.bool (sq_f (fun h_=>by first|exact rq_not aM h_.1|(have:=h_.2;omega))).symm))))
 have phb4:=eq_of_beq hb4
 refine lB 12 hb4 ?_
 exact lL hs [.v 13 (.bool true),.m 2 13] (lN (CG.ret (hs.ret [] (.bool true) (congrArg Value.bool (sq_t ⟨rq_is aM,by omega⟩).symm))))
theorem rSym (A:Option Addr)(capA:Nat)(us:List Value)(W:List (List Rat))(hlW:W.length≤1000)(hlsW:∀ i,i<W.length→(W.getD i []).length≤1000)(hq:∀ i j,LQ 100000000 ((W.getD i []).getD j 0))(w:World)(h:Hp)(g:G w h)(hA:SlO 1 vc undef h A us)(hUW:RVs h us W) :
    Calls Tryz.prog 38 #[.slice A us.length capA] w (Ret w h fun v _=>v=.bool (symq W)):=by
 have hs:=SS.start g
 replace hs:=((hs.a_SlO hA).add (K:=fun h_=>RVs h_ us W) hUW)
 have hlu:=(hs.f.1).len
 refine go Tryz.func38 [(0,.slice A us.length capA)] rfl ?_
 refine cSL (lL hs [.v 2 (.bool false)] (lN (CG.seq (cSL (lL hs [.m 5 0] (lC 6 hs (rSquare A capA us W hlW hlsW _ _ hs.g (hs.f.2.1) (hs.f.1)) ?_))))))
 rintro _ w1 h2 hs rfl
 cases hb3:(sqq W)
 ·
  exact lL hs [.v 7 (.bool true)] (lN (cIT (cSL (lL hs [.v 2 (.bool false)] (lN (CG.ret (hs.ret [] (.bool false) (congrArg Value.bool (sym_f (fun h_=>sq_not aM h_.1)).symm))))))))
 refine lL hs [.v 7 (.bool false)] (lN (cIF (CG.skipN (CG.seq (cSL (lL hs [.v 3 (.int .i64 0)] (lN (CG.block (cTo [(0,.slice A us.length capA),(3,.int .i64 0)] ?_)))))))))
 have hS:=sq_is ‹sqq W=true›
 obtain ⟨⟨hr1,hr2,hr3⟩,hr4⟩:=id hS
 refine CG.loop (fun μ_ Γ w_=>∃ (i:Nat) (h_:Hp),μ_=W.length-i∧Γ=[(0,.slice A us.length capA),(3,.int .i64 (i:Nat))]∧SS w h w_ h_ [] [] [fun h_=>RVs h_ us W,fun h_=>SlO 1 vc undef h_ A us]∧(i≤W.length)∧(∀ a,a<i→∀ b,b<a→(W.getD a []).getD b 0=(W.getD b []).getD a 0)) _ ⟨0,h2,rfl,rfl,hs.to _ _,Nat.zero_le _,(fun a ha=>absurd ha (Nat.not_lt_zero a))⟩ ?_
 rintro _ _ w4 ⟨i,h5,hm6,rfl,hs,hi,hY⟩
 refine CG.seq (cSL (lL hs [.m 8 3,.m 9 0,.v 10 (.int .i64 (us.length:Nat))] ?_))
 cases hb7:(decide (((i:Nat):Int)<((us.length:Nat):Int)))
 ·
  have phb7:=oF hb7
  refine lB 11 hb7 ?_
  refine lN (cIF (CG.exit ?_))
  show CG _ _ _ _ _ _ _ _
  exact cSL (lL hs [.v 2 (.bool true)] (lN (CG.ret (hs.ret [] (.bool true) (congrArg Value.bool (sym_t ⟨hS,fun a ha b hb=>hY a oM b hb⟩).symm)))))
 have phb7:=oT hb7
 refine lB 11 hb7 ?_
 refine lN (cIT (CG.skipN (CG.seq (CG.block (cSL (lL hs [.v 4 (.int .i64 0)] (lN (CG.block (cTo [(0,.slice A us.length capA),(3,.int .i64 (i:Nat)),(4,.int .i64 0)] ?_)))))))))
 refine CG.loop (fun μ_ Γ w_=>∃ (j:Nat) (h_:Hp),μ_=i-j∧Γ=[(0,.slice A us.length capA),(3,.int .i64 (i:Nat)),(4,.int .i64 (j:Nat))]∧SS w h w_ h_ [] [] [fun h_=>RVs h_ us W,fun h_=>SlO 1 vc undef h_ A us]∧(j≤i)∧(∀ b,b<j→(W.getD i []).getD b 0=(W.getD b []).getD i 0)) _ ⟨0,h5,rfl,rfl,hs.to _ _,Nat.zero_le _,(fun b hb=>absurd hb (Nat.not_lt_zero b))⟩ ?_
 rintro _ _ w8 ⟨j,h9,hm10,rfl,hs,hj,hX⟩
 have hwi:=hr3 i
 have hwj:=hr3 j
 refine CG.seq (cSL (lL hs [.m 14 4,.m 15 3] ?_))
 cases hb11:(decide (((j:Nat):Int)<((i:Nat):Int)))
 ·
  have phb11:=oF hb11
  refine lB 16 hb11 ?_
  refine lN (cIF (CG.exit ?_))
  show CG _ _ _ _ _ _ _ _
  refine CG.listed (lL hs [.m 12 3] (lIn 13 ((i:Nat)+1) (i+1) ?_))
  refine lL hs [.m 3 13] (lD ?_)
  intro a_ ka
  have q12:(i+1)≤W.length:=by omega
  have q13:∀ a,a<(i+1)→∀ b,b<a→(W.getD a []).getD b 0=(W.getD b []).getD a 0:=(fun a ha b hb=>by by_cases e_:a=i;(subst e_;exact hX b oM);exact hY a oM b hb)
  refine ⟨_,_,?_,⟨i+1,h9,rfl,rfl,hs.to _ _,q12,q13⟩,ka.to [(0,.slice A us.length capA),(3,.int .i64 ((i+1):Nat))] kR⟩
  omega
 have phb11:=oT hb11
 refine lB 16 hb11 ?_
 refine lN (cIT (CG.skipN (CG.seq (CG.block (CG.seq (cR 16 [] mixed hs al_nil ?_))))))
 refine eV 0 19 (.slice A us.length capA) ?_
 refine eV 1 20 (.int .i64 (i:Nat)) ?_
 refine eX 2 21 A us.length capA 1 (i:Nat) i ((hs.f.2.1).ok oM) ?_
 obtain ⟨Arx,crx,trx,erx,hcrx,hRrx,hTrx⟩:=(hs.f.1).at_ i oM
 have hlrx:=hTrx.len
 replace hs:=((hs.a_SlO hRrx).add (K:=fun h_=>RTs h_ trx (W.getD i [])) hTrx)
 refine eHe 3 22 (us.getD i undef) hs ((hs.f.2.2.2.1).el i oM) erx ?_
 refine eV 4 23 (.int .i64 (j:Nat)) ?_
 refine eX 5 24 Arx trx.length crx 3 (j:Nat) j ((hs.f.2.1).ok oM) ?_
 obtain ⟨Axe,cxe,Dxe,dxe,exe,hcxe,hdxe,hAxe,hDxe⟩:=(hs.f.1).at_ j oM
 replace hs:=((hs.a_SlO hAxe).a_SlO hDxe)
 refine eHe 6 25 (.agg #[.bool ((trx.getD j rqd).1),(trx.getD j rqd).2.1,(trx.getD j rqd).2.2]) hs ((hs.f.2.2.2.1).el j oM) exe ?_
 refine eV 7 26 (.slice A us.length capA) ?_
 refine eV 8 27 (.int .i64 (j:Nat)) ?_
 refine eX 9 28 A us.length capA 1 (j:Nat) j ((hs.f.2.2.2.2.2.1).ok oM) ?_
 obtain ⟨Arv,crv,trv,erv,hcrv,hRrv,hTrv⟩:=(hs.f.2.2.2.2.1).at_ j oM
 have hlrv:=hTrv.len
 replace hs:=((hs.a_SlO hRrv).add (K:=fun h_=>RTs h_ trv (W.getD j [])) hTrv)
 refine eHe 10 29 (us.getD j undef) hs ((hs.f.2.2.2.2.2.2.2.1).el j oM) erv ?_
 refine eV 11 30 (.int .i64 (i:Nat)) ?_
 refine eX 12 31 Arv trv.length crv 3 (i:Nat) i ((hs.f.2.1).ok oM) ?_
 obtain ⟨Ave,cve,Dve,dve,eve,hcve,hdve,hAve,hDve⟩:=(hs.f.1).at_ i oM
 replace hs:=((hs.a_SlO hAve).a_SlO hDve)
 refine eHe 13 32 (.agg #[.bool ((trv.getD i rqd).1),(trv.getD i rqd).2.1,(trv.getD i rqd).2.2]) hs ((hs.f.2.2.2.1).el i oM) eve ?_
 refine eC 14 33 hs (fun _ _ hs=>rCmp ((W.getD i []).getD j 0) Axe cxe Dxe dxe hcxe hdxe (LQ.ln (LQ.mono (hq i j) oM)) (LQ.ld (LQ.mono (hq i j) oM)) ((W.getD j []).getD i 0) Ave cve Dve dve hcve hdve (LQ.ln (LQ.mono (hq j i) oM)) (LQ.ld (LQ.mono (hq j i) oM)) _ _ hs.g (hs.f.2.2.2.2.2.1) (hs.f.2.2.2.2.1) (hs.f.2.1) (hs.f.1)) ?_
 rintro _ _ _ w14 h15 hs rfl
 cases hb16:((cmpR ((W.getD i []).getD j 0) ((W.getD j []).getD i 0):Int) != (0:Int))
 ·
  have phb16:=eqOfBne hb16
  refine eB 15 34 hb16 ?_
  refine eD0 hs (fun w17 h18 hs=>?_)
  refine tN (cIF (CG.skipN (CG.listed (lL hs [.m 17 4] (lIn 18 ((j:Nat)+1) (j+1) ?_)))))
  refine lL hs [.m 4 18] (lD ?_)
  intro a_ ka
  have q19:(j+1)≤i:=by omega
  have q20:∀ b,b<(j+1)→(W.getD i []).getD b 0=(W.getD b []).getD i 0:=(fun b hb=>by by_cases e_:b=j;(subst e_;exact cj_cmp0 oM);exact hX b oM)
  replace hs:=hs.tl.tl.tl.tl.tl.tl.tl.tl
  refine ⟨_,_,?_,⟨j+1,h18,rfl,rfl,hs.to _ _,q19,q20⟩,ka.to [(0,.slice A us.length capA),(3,.int .i64 (i:Nat)),(4,.int .i64 ((j+1):Nat))] kR⟩
  omega
 have phb16:=neOfBne hb16
 refine eB 15 34 hb16 ?_
 refine eD0 hs (fun w21 h22 hs=>?_)
 exact tN (cIT (cSL (lL hs [.v 2 (.bool false)] (lN (CG.ret (hs.ret [] (.bool false) (congrArg Value.bool (sym_f (fun h_=>absurd (h_.2 i oM j oM) (fun e_=>absurd (cj_cmp e_) oM))).symm)))))))
theorem rLess (x y:Nat→Rat)(n:Nat)(hn4:n≤5)(X:Option Addr)(cX:Nat)(tx:List RT)(Y:Option Addr)(cY:Nat)(ty:List RT)(q:Rat)(A1:Option Addr)(c1:Nat)(D1:Option Addr)(d1:Nat)(hc1:(lim (iabs q.num)).length≤c1)(hd1:(lim q.den).length≤d1)(K1 K2 K3:Nat)(hK1:∀ i,i<n→LQ K1 (x i))(hK2:∀ i,i<n→LQ K2 (y i))(hK3:LQ K3 q)(hKb:K1+K2+K3+1≤100000000)(w:World)(h:Hp)(g:G w h)(hX:SlO 3 rqc rqd h X tx)(hTX:RTs h tx (vec n x))(hY:SlO 3 rqc rqd h Y ty)(hTY:RTs h ty (vec n y))(hA1:SlO 1 u32c 0 h A1 (lim (iabs q.num)))(hD1:SlO 1 u32c 0 h D1 (lim q.den)) :
    Calls Tryz.prog 39 #[.slice X tx.length cX,.slice Y ty.length cY,.agg #[.bool (ineg q.num),.slice A1 ((lim (iabs q.num)).length) c1,.slice D1 ((lim q.den).length) d1]] w (Ret w h fun v h1=>∃ A c ts,v=.slice A (ts:List RT).length c∧ts.length≤c∧SlO 3 rqc rqd h1 A ts∧RTs h1 ts (vec n (fun i=>x i-q*y i))):=by
 have hs:=SS.start g
 replace hs:=((((((hs.a_SlO hX).add (K:=fun h_=>RTs h_ tx (vec n x)) hTX).a_SlO hY).add (K:=fun h_=>RTs h_ ty (vec n y)) hTY).a_SlO hA1).a_SlO hD1)
 have hlX:=(hs.f.2.2.2.2.1).len
 rw[vec_len] at hlX
 have hvX:=vec_len n x
 have hlY:=(hs.f.2.2.1).len
 rw[vec_len] at hlY
 have hvY:=vec_len n y
 refine go Tryz.func39 [(0,.slice X tx.length cX),(1,.slice Y ty.length cY),(2,.agg #[.bool (ineg q.num),.slice A1 ((lim (iabs q.num)).length) c1,.slice D1 ((lim q.den).length) d1])] rfl ?_
 refine cSL (lA 5 74 ([.bool (ineg q.num),.slice A1 ((lim (iabs q.num)).length) c1,.slice D1 ((lim q.den).length) d1]) hs (fun b1 w2 h3 hs=>?_))
 refine lL hs [.v 6 (.slice none 0 0)] (lNS (lL hs [.v 7 (.slice none 0 0)] (lN (CG.seq (cSL (lL hs [.v 8 (.int .i64 0)] (lN (CG.block ?_))))))))
 replace hs:=hs.nil 74 3
 refine cTo [(0,.slice X tx.length cX),(1,.slice Y ty.length cY),(5,.pointer (some ⟨b1,0,none⟩)),(6,.slice none 0 0),(8,.int .i64 0),(7,.slice none 0 0)] ?_
 replace hs:=hs.add (K:=fun h_=>RTs h_ ([]) (vec 0 (fun i=>x i-q*y i))) (RTs.nil)
 refine CG.loop (fun μ_ Γ w_=>∃ (k:Nat) (sA:Option Addr) (sc:Nat) (ts:List RT) (h_:Hp),μ_=n-k∧Γ=[(0,.slice X tx.length cX),(1,.slice Y ty.length cY),(5,.pointer (some ⟨b1,0,none⟩)),(6,.slice none 0 0),(8,.int .i64 (k:Nat)),(7,.slice sA ((ts).length) sc)]∧SS w h w_ h_ [⟨b1,74,[.bool (ineg q.num),.slice A1 ((lim (iabs q.num)).length) c1,.slice D1 ((lim q.den).length) d1]⟩] [⟨74,3,sA,sc,(ts).length,(ts).flatMap rqc⟩] [fun h_=>RTs h_ ts (vec k (fun i=>x i-q*y i)),fun h_=>SlO 1 u32c 0 h_ D1 (lim q.den),fun h_=>SlO 1 u32c 0 h_ A1 (lim (iabs q.num)),fun h_=>RTs h_ ty (vec n y),fun h_=>SlO 3 rqc rqd h_ Y ty,fun h_=>RTs h_ tx (vec n x),fun h_=>SlO 3 rqc rqd h_ X tx]∧(k≤n)) _ ⟨0,none,0,[],h3,rfl,rfl,hs.to _ _,Nat.zero_le _⟩ ?_
 rintro _ _ w4 ⟨k,sA,sc,ts,h5,hm6,rfl,hs,hk⟩
 have hlT:=(hs.f.1).len
 rw[vec_len] at hlT
 refine CG.seq (cSL (lL hs [.m 9 8,.m 10 0,.v 11 (.int .i64 (tx.length:Nat))] ?_))
 cases hb7:(decide (((k:Nat):Int)<((tx.length:Nat):Int)))
 ·
  have phb7:=oF hb7
  refine lB 12 hb7 ?_
  refine lN (cIF (CG.exit ?_))
  show CG _ _ _ _ _ _ _ _
  refine cSL (lL hs [.m 29 7,.m 6 29] (lN (CG.ret ?_)))
  have hkn:k=n:=by omega
  obtain ⟨h8,hs,hc9⟩:=hs.pubr 0 (A:=sA) (c:=sc) (l:=ts) (f:=rqc) (ty:=74) (sz:=3) rqd (fun _=>rfl)
  exact hs.ret [] (.slice sA ((ts).length) sc) (⟨_,_,ts,rfl,hc9,(hs.f.1),(by have q_:=(hs.f.2.1);rw[hkn] at q_;exact q_)⟩)
 have phb7:=oT hb7
 refine lB 12 hb7 ?_
 refine lN (cIT (CG.skipN (CG.seq (CG.block (CG.region ⟨((Value.slice sA ((ts).length) sc).ownBlock.toList),none⟩ 14 [] mixed kR hs.g al_nil (hs.ro_lt 0 (ty:=74) (sz:=3) (A:=sA) (c:=sc) (m:=(ts).length) (cs:=(ts).flatMap rqc)) ?_)))))
 refine eV 0 15 (.slice sA ((ts).length) sc) ?_
 refine eV 1 16 (.slice X tx.length cX) ?_
 refine eV 2 17 (.int .i64 (k:Nat)) ?_
 refine eX 3 18 X tx.length cX 3 (k:Nat) k ((hs.f.2.2.2.2.2.2.1).ok oM) ?_
 obtain ⟨Au,cu,Du,du,eu,hcu,hdu,hAu,hDu⟩:=(hs.f.2.2.2.2.2.1).at_ k oM
 replace hs:=((hs.a_SlO hAu).a_SlO hDu)
 refine eHe 4 19 (.agg #[.bool ((tx.getD k rqd).1),(tx.getD k rqd).2.1,(tx.getD k rqd).2.2]) hs ((hs.f.2.2.2.2.2.2.2.2.1).el k oM) eu ?_ (hM:=hs.ro_jk 0 (ty:=74) (sz:=3) (A:=sA) (c:=sc) (m:=(ts).length) (cs:=(ts).flatMap rqc))
 refine eO 5 20 [(0,0,3)] (.agg #[.bool (ineg q.num),.slice A1 ((lim (iabs q.num)).length) c1,.slice D1 ((lim q.den).length) d1]) hs ?_ (hM:=fun p hp=>by obtain rfl:=List.mem_singleton.1 hp;exact hs.ro_ne 0 0 (ty:=74) (sz:=3) (A:=sA) (c:=sc) (m:=(ts).length) (cs:=(ts).flatMap rqc))
 refine eV 6 21 (.slice Y ty.length cY) ?_
 refine eV 7 22 (.int .i64 (k:Nat)) ?_
 refine eX 8 23 Y ty.length cY 3 (k:Nat) k ((hs.f.2.2.2.2.2.2.1).ok oM) ?_
 obtain ⟨Av,cv,Dv,dv,ev,hcv,hdv,hAv,hDv⟩:=(hs.f.2.2.2.2.2.1).at_ k oM
 replace hs:=((hs.a_SlO hAv).a_SlO hDv)
 refine eHe 9 24 (.agg #[.bool ((ty.getD k rqd).1),(ty.getD k rqd).2.1,(ty.getD k rqd).2.2]) hs ((hs.f.2.2.2.2.2.2.2.2.1).el k oM) ev ?_ (hM:=hs.ro_jk 0 (ty:=74) (sz:=3) (A:=sA) (c:=sc) (m:=(ts).length) (cs:=(ts).flatMap rqc))
 have hq11:=LQ.mul hK3 (show LQ K2 ((vec n y).getD k 0) from by rw[vec_get y oM];exact hK2 k oM)
 refine eC 10 25 hs (fun _ _ hs=>rMul q A1 c1 D1 d1 hc1 hd1 (LQ.ln (LQ.mono hK3 oM)) (LQ.ld (LQ.mono hK3 oM)) ((vec n y).getD k 0) Av cv Dv dv hcv hdv (LQ.ln (LQ.mono (show LQ K2 ((vec n y).getD k 0) from by rw[vec_get y oM];exact hK2 k oM) oM)) (LQ.ld (LQ.mono (show LQ K2 ((vec n y).getD k 0) from by rw[vec_get y oM];exact hK2 k oM) oM)) _ _ hs.g (hs.f.2.2.2.2.2.2.1) (hs.f.2.2.2.2.2.1) (hs.f.2.1) (hs.f.1)) ?_
 rintro _ _ _ w20 h21 hs ⟨A12,c13,A16,c17,rfl,hc14,hc18,hA15,hA19⟩
 replace hs:=((hs.a_SlO hA15).a_SlO hA19)
 have hq22:=LQ.sub (show LQ K1 ((vec n x).getD k 0) from by rw[vec_get x oM];exact hK1 k oM) hq11
 refine eC 11 26 hs (fun _ _ hs=>rSub ((vec n x).getD k 0) Au cu Du du hcu hdu (LQ.ln (LQ.mono (show LQ K1 ((vec n x).getD k 0) from by rw[vec_get x oM];exact hK1 k oM) oM)) (LQ.ld (LQ.mono (show LQ K1 ((vec n x).getD k 0) from by rw[vec_get x oM];exact hK1 k oM) oM)) (q*((vec n y).getD k 0)) A12 c13 A16 c17 hc14 hc18 (LQ.ln (LQ.mono hq11 oM)) (LQ.ld (LQ.mono hq11 oM)) _ _ hs.g (hs.f.2.2.2.2.2.1) (hs.f.2.2.2.2.1) (hs.f.2.1) (hs.f.1)) ?_
 rintro _ _ _ w31 h32 hs ⟨A23,c24,A27,c28,rfl,hc25,hc29,hA26,hA30⟩
 replace hs:=((hs.a_SlO hA26).a_SlO hA30)
 refine eR 12 27 74 1 ([.bool (ineg (((vec n x).getD k 0)-(q*((vec n y).getD k 0))).num),.slice A23 ((lim (iabs (((vec n x).getD k 0)-(q*((vec n y).getD k 0))).num)).length) c24,.slice A27 ((lim (((vec n x).getD k 0)-(q*((vec n y).getD k 0))).den).length) c28]) hs (fun b33 w34 h35 hs=>?_)
 refine eY 13 28 0 74 3 sc sA ts rqc ((ineg (((vec n x).getD k 0)-(q*((vec n y).getD k 0))).num,.slice A23 ((lim (iabs (((vec n x).getD k 0)-(q*((vec n y).getD k 0))).num)).length) c24,.slice A27 ((lim (((vec n x).getD k 0)-(q*((vec n y).getD k 0))).den).length) c28):RT) 56 b33 (.agg #[.bool false,.slice none 0 0,.slice none 0 0]) hs (fun _ f_=>f_.1) (fun b hb=>Option.mem_toList.2 hb) (fun A37 c38 w39 h40 hs=>?_)
 refine eD0 hs (fun w42 h43 hs=>?_)
 refine tV 14 7 (.slice A37 ((ts++[((ineg (((vec n x).getD k 0)-(q*((vec n y).getD k 0))).num,.slice A23 ((lim (iabs (((vec n x).getD k 0)-(q*((vec n y).getD k 0))).num)).length) c24,.slice A27 ((lim (((vec n x).getD k 0)-(q*((vec n y).getD k 0))).den).length) c28):RT)]).length) c38) ?_
 refine tN (CG.listed (lL hs [.m 13 8] (lIn 14 ((k:Nat)+1) (k+1) ?_)))
 refine lL hs [.m 8 14] (lD ?_)
 intro a_ ka
 have q44:RTs h43 (ts++[((ineg (((vec n x).getD k 0)-(q*((vec n y).getD k 0))).num,.slice A23 ((lim (iabs (((vec n x).getD k 0)-(q*((vec n y).getD k 0))).num)).length) c24,.slice A27 ((lim (((vec n x).getD k 0)-(q*((vec n y).getD k 0))).den).length) c28):RT)]) (vec (k+1) (fun i=>x i-q*y i)):=(vec_step (hs.f.2.2.2.2.2.2.2.2.2.1) (RQ.eq (rqOk hc25 hc29 (hs.f.2.2.1) (hs.f.2.1)) (by rw[vec_get x oM,vec_get y oM])))
 have q45:(k+1)≤n:=by omega
 replace hs:=(hs.tl.tl.tl.tl.tl.tl.tl.tl.tl.tl.add (K:=fun h_=>RTs h_ (ts++[((ineg (((vec n x).getD k 0)-(q*((vec n y).getD k 0))).num,.slice A23 ((lim (iabs (((vec n x).getD k 0)-(q*((vec n y).getD k 0))).num)).length) c24,.slice A27 ((lim (((vec n x).getD k 0)-(q*((vec n y).getD k 0))).den).length) c28):RT)]) (vec (k+1) (fun i=>x i-q*y i))) q44)
 refine ⟨_,_,?_,⟨k+1,A37,c38,ts++[((ineg (((vec n x).getD k 0)-(q*((vec n y).getD k 0))).num,.slice A23 ((lim (iabs (((vec n x).getD k 0)-(q*((vec n y).getD k 0))).num)).length) c24,.slice A27 ((lim (((vec n x).getD k 0)-(q*((vec n y).getD k 0))).den).length) c28):RT)],h43,rfl,rfl,hs.to _ _,q45⟩,ka.to [(0,.slice X tx.length cX),(1,.slice Y ty.length cY),(5,.pointer (some ⟨b1,0,none⟩)),(6,.slice none 0 0),(8,.int .i64 ((k+1):Nat)),(7,.slice A37 (((ts++[((ineg (((vec n x).getD k 0)-(q*((vec n y).getD k 0))).num,.slice A23 ((lim (iabs (((vec n x).getD k 0)-(q*((vec n y).getD k 0))).num)).length) c24,.slice A27 ((lim (((vec n x).getD k 0)-(q*((vec n y).getD k 0))).den).length) c28):RT)])).length) c38)] kR⟩
 omega
theorem rNought (x:Nat→Rat)(n:Nat)(hn4:n≤5)(X:Option Addr)(cX:Nat)(tx:List RT)(K1:Nat)(hK1:∀ i,i<n→LQ K1 (x i))(hKb:K1≤100000000)(w:World)(h:Hp)(g:G w h)(hX:SlO 3 rqc rqd h X tx)(hTX:RTs h tx (vec n x)) :
    Calls Tryz.prog 41 #[.slice X tx.length cX] w (Ret w h fun v _=>v=.bool (decide (∀ i,i<n→x i=0))):=by
 have hs:=SS.start g
 replace hs:=((hs.a_SlO hX).add (K:=fun h_=>RTs h_ tx (vec n x)) hTX)
 have hlX:=(hs.f.1).len
 rw[vec_len] at hlX
 have hvX:=vec_len n x
 refine go Tryz.func41 [(0,.slice X tx.length cX)] rfl ?_
 refine cSL (lL hs [.v 2 (.bool false)] (lN (CG.seq (cSL (lL hs [.v 3 (.int .i64 0)] (lN (CG.block (cTo [(0,.slice X tx.length cX),(3,.int .i64 0)] ?_))))))))
 refine CG.loop (fun μ_ Γ w_=>∃ (k:Nat) (h_:Hp),μ_=n-k∧Γ=[(0,.slice X tx.length cX),(3,.int .i64 (k:Nat))]∧SS w h w_ h_ [] [] [fun h_=>RTs h_ tx (vec n x),fun h_=>SlO 3 rqc rqd h_ X tx]∧(k≤n)∧(∀ i,i<k→x i=0)) _ ⟨0,h,rfl,rfl,hs.to _ _,Nat.zero_le _,(fun i hi=>absurd hi (Nat.not_lt_zero i))⟩ ?_
 rintro _ _ w1 ⟨k,h2,hm3,rfl,hs,hk,hz⟩
 refine CG.seq (cSL (lL hs [.m 4 3,.m 5 0,.v 6 (.int .i64 (tx.length:Nat))] ?_))
 cases hb4:(decide (((k:Nat):Int)<((tx.length:Nat):Int)))
 ·
  have phb4:=oF hb4
  refine lB 7 hb4 ?_
  refine lN (cIF (CG.exit ?_))
  show CG _ _ _ _ _ _ _ _
  exact cSL (lL hs [.v 2 (.bool true)] (lN (CG.ret (hs.ret [] (.bool true) (congrArg Value.bool (decide_eq_true (fun i hi=>hz i oM)).symm)))))
 have phb4:=oT hb4
 refine lB 7 hb4 ?_
 refine lN (cIT (CG.skipN (CG.seq (CG.block (cSL (lL hs [.m 10 0,.m 11 3] (lX 12 X tx.length cX 3 (k:Nat) k ((hs.f.2.1).ok oM) ?_)))))))
 obtain ⟨Au,cu,Du,du,eu,hcu,hdu,hAu,hDu⟩:=(hs.f.1).at_ k oM
 replace hs:=((hs.a_SlO hAu).a_SlO hDu)
 refine lHe 13 (.agg #[.bool ((tx.getD k rqd).1),(tx.getD k rqd).2.1,(tx.getD k rqd).2.2]) hs ((hs.f.2.2.2.1).el k oM) eu ?_
 refine lC 14 hs (rSign ((vec n x).getD k 0) Au cu Du du hcu hdu (LQ.ln (LQ.mono (show LQ K1 ((vec n x).getD k 0) from by rw[vec_get x oM];exact hK1 k oM) oM)) (LQ.ld (LQ.mono (show LQ K1 ((vec n x).getD k 0) from by rw[vec_get x oM];exact hK1 k oM) oM)) _ _ hs.g (hs.f.2.1) (hs.f.1)) ?_
 rintro _ w5 h6 hs rfl
 cases hb7:((((vec n x).getD k 0).num.sign:Int) != (0:Int))
 ·
  have phb7:=eqOfBne hb7
  refine lB 15 hb7 ?_
  refine lN (cIF (CG.skipN (CG.listed (lL hs [.m 8 3] (lIn 9 ((k:Nat)+1) (k+1) ?_)))))
  refine lL hs [.m 3 9] (lD ?_)
  intro a_ ka
  have q8:(k+1)≤n:=by omega
  have q9:∀ i,i<(k+1)→x i=0:=(fun i hi=>by by_cases e_:i=k;(subst e_;have h_:((vec n x).getD i 0).num.sign=0:=oM;rw[vec_get x oM] at h_;exact Rat.num_eq_zero.1 (Int.sign_eq_zero_iff_zero.1 h_));exact hz i oM)
  replace hs:=hs.tl.tl
  refine ⟨_,_,?_,⟨k+1,h6,rfl,rfl,hs.to _ _,q8,q9⟩,ka.to [(0,.slice X tx.length cX),(3,.int .i64 ((k+1):Nat))] kR⟩
  omega
 have phb7:=neOfBne hb7
 refine lB 15 hb7 ?_
 exact lN (cIT (cSL (lL hs [.v 2 (.bool false)] (lN (CG.ret (hs.ret [] (.bool false) (by have h_:((vec n x).getD k 0).num.sign≠0:=oM;rw[vec_get x oM] at h_;exact congrArg Value.bool (decide_eq_false (fun e_=>h_ (by rw[e_ k oM];rfl))).symm)))))))
theorem rApplyM (A:Option Addr)(capA:Nat)(us:List Value)(W:List (List Rat))(hlW:W.length≤1000)(hlsW:∀ i,i<W.length→(W.getD i []).length≤1000)(n:Nat)(hn4:n≤5)(x:Nat→Rat)(X:Option Addr)(cX:Nat)(tx:List RT)(hR:RightP W)(hn:W.length=n)(hn2:(W.getD 0 []).length=n)(K1 K2:Nat)(hK1:∀ i j,LQ K1 ((W.getD i []).getD j 0))(hK2:∀ i,i<n→LQ K2 (x i))(hKb:1≤K1∧1≤K2∧K1+K2≤1000000)(w:World)(h:Hp)(g:G w h)(hA:SlO 1 vc undef h A us)(hUW:RVs h us W)(hX:SlO 3 rqc rqd h X tx)(hTX:RTs h tx (vec n x)) :
    Calls Tryz.prog 85 #[.slice A us.length capA,.slice X tx.length cX] w (Ret w h fun v h1=>∃ A c ts,v=.tuple #[.slice A (ts:List RT).length c,.int .i64 0]∧ts.length≤c∧SlO 3 rqc rqd h1 A ts∧RTs h1 ts (vec n (mv n (mA W) x))):=by
 have hs:=SS.start g
 replace hs:=((((hs.a_SlO hA).add (K:=fun h_=>RVs h_ us W) hUW).a_SlO hX).add (K:=fun h_=>RTs h_ tx (vec n x)) hTX)
 have hlu:=(hs.f.2.2.1).len
 have hlX:=(hs.f.1).len
 rw[vec_len] at hlX
 have hvX:=vec_len n x
 have hr1:=hR.1
 refine go Tryz.func85 [(0,.slice A us.length capA),(1,.slice X tx.length cX)] rfl ?_
 refine cSL (lL hs [.v 4 (.slice none 0 0),.v 5 (.int .i64 0)] (lN (CG.seq (cSL (lL hs [.m 8 0] (lC 9 hs (rRightT A capA us W oM (fun i hi=>by have:=hlsW i hi;omega) hR _ _ hs.g (hs.f.2.2.2.1) (hs.f.2.2.1)) ?_))))))
 rintro _ w1 h2 hs rfl
 refine lL hs [.v 10 (.bool false),.m 11 10,.m 12 0] (lX 13 A us.length capA 1 0 0 ((hs.f.2.2.2.1).ok oM) ?_)
 obtain ⟨Arzz,crzz,trzz,erzz,hcrzz,hRrzz,hTrzz⟩:=(hs.f.2.2.1).at_ 0 oM
 have hlrzz:=hTrzz.len
 replace hs:=((hs.a_SlO hRrzz).add (K:=fun h_=>RTs h_ trzz (W.getD 0 [])) hTrzz)
 refine lHe 14 (us.getD 0 undef) hs ((hs.f.2.2.2.2.2.1).el 0 oM) erzz ?_
 refine lL hs [.v 15 (.int .i64 (trzz.length:Nat)),.m 16 1,.v 17 (.int .i64 (tx.length:Nat))] ?_
 have hb3:(((trzz.length:Nat):Int) != ((tx.length:Nat):Int))=false:=bneF oM
 have phb3:=eqOfBne hb3
 refine lB 18 hb3 ?_
 refine lL hs [.v 19 (.bool false)] (lN (cIF (CG.skipN (cSL (lL hs [.v 6 (.slice none 0 0)] (lN (CG.seq (cSL (lL hs [.v 7 (.int .i64 0)] (lN (CG.block ?_)))))))))))
 replace hs:=hs.nil 74 3
 refine cTo [(0,.slice A us.length capA),(1,.slice X tx.length cX),(4,.slice none 0 0),(5,.int .i64 0),(7,.int .i64 0),(6,.slice none 0 0)] ?_
 replace hs:=hs.add (K:=fun h_=>RTs h_ ([]) (vec 0 (mv n (mA W) x))) (RTs.nil)
 refine CG.loop (fun μ_ Γ w_=>∃ (k:Nat) (sA:Option Addr) (sc:Nat) (ts:List RT) (h_:Hp),μ_=n-k∧Γ=[(0,.slice A us.length capA),(1,.slice X tx.length cX),(4,.slice none 0 0),(5,.int .i64 0),(7,.int .i64 (k:Nat)),(6,.slice sA ((ts).length) sc)]∧SS w h w_ h_ [] [⟨74,3,sA,sc,(ts).length,(ts).flatMap rqc⟩] [fun h_=>RTs h_ ts (vec k (mv n (mA W) x)),fun h_=>RTs h_ trzz (W.getD 0 []),fun h_=>SlO 3 rqc rqd h_ Arzz trzz,fun h_=>RTs h_ tx (vec n x),fun h_=>SlO 3 rqc rqd h_ X tx,fun h_=>RVs h_ us W,fun h_=>SlO 1 vc undef h_ A us]∧(k≤n)) _ ⟨0,none,0,[],h2,rfl,rfl,hs.to _ _,Nat.zero_le _⟩ ?_
 rintro _ _ w4 ⟨k,sA,sc,ts,h5,hm6,rfl,hs,hk⟩
 have hlT:=(hs.f.1).len
 rw[vec_len] at hlT
 refine CG.seq (cSL (lL hs [.m 20 7,.m 21 0,.v 22 (.int .i64 (us.length:Nat))] ?_))
 cases hb7:(decide (((k:Nat):Int)<((us.length:Nat):Int)))
 ·
  have phb7:=oF hb7
  refine lB 23 hb7 ?_
  refine lN (cIF (CG.exit ?_))
  show CG _ _ _ _ _ _ _ _
  refine cSL (lL hs [.m 35 6,.m 4 35,.v 5 (.int .i64 0)] (lN (CG.ret ?_)))
  have hkn:k=n:=by omega
  obtain ⟨h8,hs,hc9⟩:=hs.pubr 0 (A:=sA) (c:=sc) (l:=ts) (f:=rqc) (ty:=74) (sz:=3) rqd (fun _=>rfl)
  exact hs.ret [] (.tuple #[.slice sA ((ts).length) sc,.int .i64 0]) (⟨_,_,ts,rfl,hc9,(hs.f.1),(by have q_:=(hs.f.2.1);rw[hkn] at q_;exact q_)⟩)
 have phb7:=oT hb7
 refine lB 23 hb7 ?_
 refine lN (cIT (CG.skipN (CG.seq (CG.block (CG.listed (lL hs [.m 26 6,.m 27 0,.m 28 7] (lX 29 A us.length capA 1 (k:Nat) k ((hs.f.2.2.2.2.2.2.1).ok oM) ?_)))))))
 obtain ⟨Arxx,crxx,trxx,erxx,hcrxx,hRrxx,hTrxx⟩:=(hs.f.2.2.2.2.2.1).at_ k oM
 have hlrxx:=hTrxx.len
 replace hs:=((hs.a_SlO hRrxx).add (K:=fun h_=>RTs h_ trxx (W.getD k [])) hTrxx)
 refine lHe 30 (us.getD k undef) hs ((hs.f.2.2.2.2.2.2.2.2.1).el k oM) erxx ?_
 refine lL hs [.m 31 1] (lC 32 hs (rDotM (W.getD k []) x n Arxx crxx trxx X cX tx (by rw[hR.2.2 k oM];omega) K1 K2 hn4 oM (hK1 k) hK2 _ _ hs.g (hs.f.2.1) (hs.f.1) (hs.f.2.2.2.2.2.2.1) (hs.f.2.2.2.2.2.1)) ?_)
 rintro _ w19 h20 hs ⟨A11,c12,A15,c16,rfl,hc13,hc17,hA14,hA18⟩
 replace hs:=((hs.a_SlO hA14).a_SlO hA18)
 refine lR 33 74 1 ([.bool (ineg (mv n (mA W) x k).num),.slice A11 ((lim (iabs (mv n (mA W) x k).num)).length) c12,.slice A15 ((lim (mv n (mA W) x k).den).length) c16]) hs (fun b21 w22 h23 hs=>?_)
 refine lY 34 0 74 3 sc sA ts rqc ((ineg (mv n (mA W) x k).num,.slice A11 ((lim (iabs (mv n (mA W) x k).num)).length) c12,.slice A15 ((lim (mv n (mA W) x k).den).length) c16):RT) 56 b21 (.agg #[.bool false,.slice none 0 0,.slice none 0 0]) hs (hs.f.1) (fun A25 c26 w27 h28 hs=>?_)
 refine lL hs [.m 6 34] (lN (CG.listed (lL hs [.m 24 7] (lIn 25 ((k:Nat)+1) (k+1) ?_))))
 refine lL hs [.m 7 25] (lD ?_)
 intro a_ ka
 have q30:RTs h28 (ts++[((ineg (mv n (mA W) x k).num,.slice A11 ((lim (iabs (mv n (mA W) x k).num)).length) c12,.slice A15 ((lim (mv n (mA W) x k).den).length) c16):RT)]) (vec (k+1) (mv n (mA W) x)):=(vec_step (hs.f.2.2.2.2.2.1) (RQ.eq (rqOk hc13 hc17 (hs.f.2.2.1) (hs.f.2.1)) rfl))
 have q31:(k+1)≤n:=by omega
 replace hs:=(hs.tl.tl.tl.tl.tl.tl.add (K:=fun h_=>RTs h_ (ts++[((ineg (mv n (mA W) x k).num,.slice A11 ((lim (iabs (mv n (mA W) x k).num)).length) c12,.slice A15 ((lim (mv n (mA W) x k).den).length) c16):RT)]) (vec (k+1) (mv n (mA W) x))) q30)
 refine ⟨_,_,?_,⟨k+1,A25,c26,ts++[((ineg (mv n (mA W) x k).num,.slice A11 ((lim (iabs (mv n (mA W) x k).num)).length) c12,.slice A15 ((lim (mv n (mA W) x k).den).length) c16):RT)],h28,rfl,rfl,hs.to _ _,q31⟩,ka.to [(0,.slice A us.length capA),(1,.slice X tx.length cX),(4,.slice none 0 0),(5,.int .i64 0),(7,.int .i64 ((k+1):Nat)),(6,.slice A25 (((ts++[((ineg (mv n (mA W) x k).num,.slice A11 ((lim (iabs (mv n (mA W) x k).num)).length) c12,.slice A15 ((lim (mv n (mA W) x k).den).length) c16):RT)])).length) c26)] kR⟩
 omega
theorem rApplyF (A:Option Addr)(capA:Nat)(us:List Value)(W:List (List Rat))(hlW:W.length≤1000)(hlsW:∀ i,i<W.length→(W.getD i []).length≤1000)(n:Nat)(hn4:n≤5)(x:Nat→Rat)(X:Option Addr)(cX:Nat)(tx:List RT)(hR:RightP W)(hn:W.length=n)(hn2:(W.getD 0 []).length=n)(K1 K2:Nat)(hK1:∀ i j,LQ K1 ((W.getD i []).getD j 0))(hK2:∀ i,i<n→LQ K2 (x i))(hKb:1≤K1∧1≤K2∧K1+K2≤1000000)(w:World)(h:Hp)(g:G w h)(hA:SlO 1 vc undef h A us)(hUW:RVs h us W)(hX:SlO 3 rqc rqd h X tx)(hTX:RTs h tx (vec n x)) :
    Calls Tryz.prog 40 #[.slice A us.length capA,.slice X tx.length cX] w (Ret w h fun v h1=>∃ A c ts,v=.slice A (ts:List RT).length c∧ts.length≤c∧SlO 3 rqc rqd h1 A ts∧RTs h1 ts (vec n (mv n (mA W) x))):=by
 have hs:=SS.start g
 replace hs:=((((hs.a_SlO hA).add (K:=fun h_=>RVs h_ us W) hUW).a_SlO hX).add (K:=fun h_=>RTs h_ tx (vec n x)) hTX)
 have hlu:=(hs.f.2.2.1).len
 refine go Tryz.func40 [(0,.slice A us.length capA),(1,.slice X tx.length cX)] rfl ?_
 refine cSL (lL hs [.v 4 (.slice none 0 0)] (lNS (lL hs [.m 8 0,.m 9 1] (lC 10 hs (rApplyM A capA us W hlW hlsW n hn4 x X cX tx hR hn hn2 K1 K2 hK1 hK2 hKb _ _ hs.g (hs.f.2.2.2.1) (hs.f.2.2.1) (hs.f.2.1) (hs.f.1)) ?_))))
 rintro _ w1 h2 hs ⟨Ay,cy,ty,rfl,hcy,hAy,hTy⟩
 replace hs:=((hs.a_SlO hAy).add (K:=fun h_=>RTs h_ ty (vec n (mv n (mA W) x))) hTy)
 exact lL hs [.m 7 10,.v 11 (.slice Ay ty.length cy),.v 12 (.int .i64 0),.m 5 11,.m 6 12] (lNS (lL hs [.m 13 5,.m 4 13] (lN (CG.ret (hs.ret [] (.slice Ay ty.length cy) (⟨Ay,cy,ty,rfl,hcy,(hs.f.2.1),(hs.f.1)⟩))))))
def Tw (D E:Nat)(q:Rat):Prop:=∃ N:Int,N.natAbs≤E∧q*((D:Nat):Rat)=(N:Rat)
theorem Tw.zero {D E:Nat}:Tw D E 0:=⟨0,Nat.zero_le _,by rw[Rat.zero_mul];rfl⟩
theorem Tw.mono {D E F:Nat}{q:Rat}(x:Tw D E q)(h:E≤F):Tw D F q:=by
  obtain ⟨N,a,b⟩:=x
  exact ⟨N,Nat.le_trans a h,b⟩
theorem Tw.one {D E:Nat}(h:D≤E):Tw D E 1:=⟨(D:Int),by simpa using h,by rw[Rat.one_mul,Rat.intCast_natCast]⟩
theorem Tw.add {D E F:Nat}{p q:Rat}(x:Tw D E p)(y:Tw D F q):Tw D (E+F) (p+q):=by
  obtain ⟨N,a,b⟩:=x
  obtain ⟨M,c,d⟩:=y
  exact ⟨N+M,Nat.le_trans (Int.natAbs_add_le _ _) oM,by rw[Rat.intCast_add,←b,←d];grind⟩
theorem Tw.mul {D E F G:Nat}{p q:Rat}(x:Tw D E p)(y:Tw F G q):Tw (D*F) (E*G) (p*q):=by
  obtain ⟨N,a,b⟩:=x
  obtain ⟨M,c,d⟩:=y
  exact ⟨N*M,by rw[Int.natAbs_mul];exact Nat.mul_le_mul a c,by rw[Rat.intCast_mul,←b,←d,Rat.natCast_mul];grind⟩
theorem Tw.dt {D E F G:Nat}{u v:Nat→Rat}(hu:∀ i,Tw D E (u i))(hv:∀ i,Tw F G (v i)):∀ n,Tw (D*F) (n*(E*G)) (dt n u v)
  | 0=>by rw[Nat.zero_mul];exact Tw.zero
  | n+1=>by
    have h:=(Tw.dt hu hv n).add ((hu n).mul (hv n))
    rw[Nat.succ_mul];exact h
theorem tw_hand (z:Int):Tw 12 240 (handRq z):=by
  have hl:=pick_lt z 41 oM
  unfold handRq
  generalize pick z 41=k at *
  have hd:dDen (pick (z.tdiv 41) 6)=1∨dDen (pick (z.tdiv 41) 6)=2∨dDen (pick (z.tdiv 41) 6)=3∨dDen (pick (z.tdiv 41) 6)=4:=by
    unfold dDen;split<;>simp
  generalize dDen (pick (z.tdiv 41) 6)=d at *
  have key:∀ m:Nat,m*d=12→Tw 12 240 (mkR ((k:Int)-20) (d:Nat)):=fun m hm=>by
    have hd0:((d:Nat):Int)≠0:=by omega
    have hd1:((d:Nat):Rat)≠0:=by simp;omega
    refine ⟨((k:Int)-20)*(m:Nat),?_,?_⟩
    · rw[Int.natAbs_mul,Int.natAbs_natCast]
      have h1:((k:Int)-20).natAbs≤20:=by omega
      have h2:m≤12:=by
        rcases hd with e|e|e|e<;>subst e<;>omega
      exact Nat.mul_le_mul h1 h2
    · rw[mkR_eq _ _ hd0,←hm,Rat.natCast_mul,Rat.intCast_mul,Rat.intCast_natCast,Rat.intCast_natCast]
      generalize (((k:Int)-20:Int):Rat)=a
      generalize ((d:Nat):Rat)=y at *
      generalize ((m:Nat):Rat)=x
      grind
  rcases hd with e|e|e|e
  · exact key 12 oM
  · exact key 6 oM
  · exact key 4 oM
  · exact key 3 oM
theorem tw_row (zs:List Int):∀ n i,Tw 12 240 ((rowq zs n).getD i 0)
  | 0,i=>Tw.zero
  | n + 1,i=>by
    show Tw 12 240 ((rowq zs n++[_]).getD i 0)
    rw[getD_snoc]
    split
    · exact tw_row zs n i
    · split
      · split
        · exact tw_hand _
        · exact Tw.zero
      · exact Tw.zero
theorem cd_row (zs:List Int)(n m:Nat):CD m 8 (fun i=>(rowq zs n).getD i 0):=⟨12,by decide,by decide,fun i _=>by
  obtain ⟨N,a,b⟩:=tw_row zs n i
  exact ⟨N,Nat.le_trans a kD,b⟩⟩
def matf (n:Nat)(f:Nat→Nat→Rat):List (List Rat):=(List.range n).map fun i=>vec n (f i)
theorem matf_len (n:Nat)(f:Nat→Nat→Rat):(matf n f).length=n:=by simp[matf]
theorem matf_row {n i:Nat}(f:Nat→Nat→Rat)(h:i<n):(matf n f).getD i []=vec n (f i):=by simp[matf,h]
theorem matf_get {n i j:Nat}(f:Nat→Nat→Rat)(h:i<n)(h2:j<n):((matf n f).getD i []).getD j 0=f i j:=by rw[matf_row f h,vec_get _ h2]
theorem matf_out {n i:Nat}(f:Nat→Nat→Rat)(h:n≤i):(matf n f).getD i []=[]:=by simp[matf,h]
theorem vec_out {n i:Nat}(f:Nat→Rat)(h:n≤i):(vec n f).getD i 0=0:=by simp[vec,h]
theorem matf_congr {n:Nat}{f g:Nat→Nat→Rat}(h:∀ i,i<n→∀ j,j<n→f i j=g i j):matf n f=matf n g:=by
  unfold matf
  exact List.map_congr_left (fun i hi=>vec_congr (h i (by simpa using hi)))
theorem matf_right {n:Nat}(f:Nat→Nat→Rat)(h:0<n):RightP (matf n f):=⟨by rw[matf_len];exact h,by rw[matf_row f h,vec_len];exact h,fun i hi=>by rw[matf_len] at hi;rw[matf_row f hi,matf_row f h,vec_len,vec_len]⟩
structure Dfn (n:Nat) (W:List (List Rat)):Prop where
  len:W.length=n
  wd:∀ i,(W.getD i []).length≤n
  e:∀ i j,Tw 144 262144 ((W.getD i []).getD j 0)
theorem Dfn.matf {n:Nat}{f:Nat→Nat→Rat}(h:∀ i j,Tw 144 262144 (f i j)):Dfn n (matf n f):=by
  refine ⟨matf_len n f,fun i=>?_,fun i j=>?_⟩
  · by_cases hi:i<n
    · rw[matf_row f hi,vec_len];exact Nat.le_refl _
    · rw[matf_out f oM];exact Nat.zero_le _
  · by_cases hi:i<n
    · by_cases hj:j<n
      · rw[matf_get f hi hj];exact h i j
      · rw[matf_row f hi,vec_out _ oM];exact Tw.zero
    · rw[matf_out f oM];exact Tw.zero
theorem Dfn.md {n m:Nat}{W:List (List Rat)}(h:Dfn n W):MD m 18 (mA W):=⟨144,by decide,by decide,fun i _ j _=>by
  obtain ⟨N,a,b⟩:=h.e i j
  exact ⟨N,a,b⟩⟩
theorem Dfn.lq {n:Nat}{W:List (List Rat)}(h:Dfn n W)(i j:Nat):LQ 3 ((W.getD i []).getD j 0):=by
  obtain ⟨N,a,b⟩:=h.e i j
  exact (SD.lq (e:=18) (k:=1) ⟨N,144,by decide,by decide,a,b⟩ kD).mono kD
theorem getD_drop1 {α:Type}{d:α}(l:List α)(j:Nat):(l.drop 1).getD j d=l.getD (1+j) d:=by rw[List.getD_eq_getElem?_getD,List.getElem?_drop,←List.getD_eq_getElem?_getD]
theorem getD_setl {α:Type}{d:α}(l:List α)(k i:Nat)(x:α):(l.set k x).getD i d=if k=i∧k<l.length then x else l.getD i d:=by
  rw[List.getD_eq_getElem?_getD,List.getD_eq_getElem?_getD,List.getElem?_set]
  by_cases e:k=i
  · subst e
    by_cases h:k<l.length
    · simp[h]
    · simp[h]
  · simp[e]
theorem Dfn.put {n:Nat}{W:List (List Rat)}(h:Dfn n W)(at_:Nat){q:Rat}(hq:Tw 144 262144 q):Dfn n (W.set at_ ((W.getD at_ []).set 0 q)):=by
  refine ⟨by rw[List.length_set];exact h.len,fun i=>?_,fun i j=>?_⟩
  · rw[getD_setl]
    split
    · rw[List.length_set];exact h.wd _
    · exact h.wd i
  · rw[getD_setl]
    split
    · rw[getD_setl]
      split
      · exact hq
      · exact h.e _ _
    · exact h.e i j
theorem Dfn.cut {n:Nat}{W:List (List Rat)}(h:Dfn n W)(at_:Nat):Dfn n (W.set at_ ((W.getD at_ []).drop 1)):=by
  refine ⟨by rw[List.length_set];exact h.len,fun i=>?_,fun i j=>?_⟩
  · rw[getD_setl]
    split
    · rw[List.length_drop];have:=h.wd at_;omega
    · exact h.wd i
  · rw[getD_setl]
    split
    · rw[getD_drop1];exact h.e _ _
    · exact h.e i j
theorem tw_hand144 (z:Int):Tw 144 262144 (handRq z):=by
  obtain ⟨N,a,b⟩:=tw_hand z
  refine ⟨N*12,by rw[Int.natAbs_mul];exact Nat.le_trans (Nat.mul_le_mul_right _ a) kD,?_⟩
  rw[show (144:Nat)=12*12 from rfl,Rat.natCast_mul,Rat.intCast_mul,←b]
  rw[show (((12:Int):Rat))=((12:Nat):Rat) from rfl];grind
def rawf (zs:List Int)(n:Nat):Nat→Nat→Rat:=fun i j=>(rowq (zs.drop (min zs.length (i*n))) n).getD j 0
theorem tw_raw (zs:List Int)(n i j:Nat):Tw 12 240 (rawf zs n i j):=tw_row _ _ _
def gram (zs:List Int)(n:Nat):Nat→Nat→Rat:=fun i k=>dt n (rawf zs n i) (rawf zs n k)
def eyef:Nat→Nat→Rat:=fun i j=>if j=i then 1 else 0
theorem tw_gram {n:Nat}(hn:n≤4)(zs:List Int)(i k:Nat):Tw 144 230400 (gram zs n i k) :=
  (Tw.dt (fun j=>tw_raw zs n i j) (fun j=>tw_raw zs n k j) n).mono (Nat.mul_le_mul_right (240*240) hn)
theorem tw_eye (i j:Nat):Tw 144 144 (eyef i j):=by
  unfold eyef
  split
  · exact Tw.one (Nat.le_refl _)
  · exact Tw.zero
theorem dfn_gram {n:Nat}(hn:n≤4)(zs:List Int):Dfn n (Go.Proofs.YtnbjahmpennmkaaGreatDoor.matf n (gram zs n)):=Dfn.matf fun i j=>(tw_gram hn zs i j).mono kD
theorem dfn_more {n:Nat}(hn:n≤4)(zs:List Int):Dfn n (Go.Proofs.YtnbjahmpennmkaaGreatDoor.matf n fun i j=>gram zs n i j+eyef i j):=Dfn.matf fun i j=>((tw_gram hn zs i j).add (tw_eye i j)).mono kD
theorem hcell_junk {h:Hp}{b i:Nat}(j:h[b]?=some junk):hcell h b i=none:=by
  unfold hcell;rw[j];simp[junk]
def slB:Value→Nat
  | .slice (some a) _ _=>a.block
  | _=>0
structure Whole (lo:Nat) (h:Hp) (b:Nat) (ty:TypeId) (vs:List Value):Prop where
  lo:lo≤b
  ty0:(ty == 0)=false
  at_:h[b]?=some (.cells vs.toArray ty (0,0))
theorem Whole.gw {lo:Nat}{h h':Hp}{b:Nat}{ty:TypeId}{vs:List Value}(x:Whole lo h b ty vs)(u:Gw h h'):Whole lo h' b ty vs:=by
  refine ⟨x.lo,x.ty0,?_⟩
  rcases u.blk b (lt_of_some x.at_) with e|e
  · rw[e];exact x.at_
  · have h1:=x.at_
    rw[e] at h1
    injection h1 with h1
    unfold junk at h1
    injection h1 with h2 h3 h4
    have:=x.ty0
    rw[←h3] at this
    cases this
theorem Whole.nj {lo:Nat}{h:Hp}{b:Nat}{ty:TypeId}{vs:List Value}(x:Whole lo h b ty vs):h[b]?≠some junk:=fun e=>by
  have h1:=x.at_
  rw[e] at h1
  injection h1 with h1
  unfold junk at h1
  injection h1 with h2 h3 h4
  have:=x.ty0
  rw[←h3] at this
  cases this
section ss
variable {w0:World} {h0:Hp} {w:World} {h:Hp} {B:List Bx} {R:List Rw} {F:List (Hp→Prop)}
theorem SS.pubrS (s:SS w0 h0 w h B R F)(j:Nat){ty:TypeId}{sz c:Nat}{A:Option Addr}{α:Type}{f:α→List Value}{l:List α}(d:α)(hf:∀ x,(f x).length=sz)(hpos:0<l.length)(hsz:0<sz)(hr:R.getD j default=⟨ty,sz,A,c,l.length,l.flatMap f⟩:=by kernel_rfl)(hj:decide (j<R.length)=true:=by kernel_rfl)(hty:(ty == 0)=false:=by kernel_rfl) :
    ∃ h' b sp,A=some ⟨b,0,none⟩∧h[b]?=some junk∧SS w0 h0 w h' B (R.eraseIdx j) ((fun h=>Whole h0.size h b ty (l.flatMap f++sp))::(fun h=>SlO sz f d h A l)::F)∧l.length≤c:=by
  have hj':=oT hj
  have e0:R[j]=⟨ty,sz,A,c,l.length,l.flatMap f⟩:=by rw[←hr];simp[hj']
  have r0:=s.ro _ (List.getElem_mem hj')
  rw[e0] at r0
  obtain ⟨h',s',hc⟩:=s.pubr j (A:=A) (c:=c) (l:=l) (f:=f) (ty:=ty) (sz:=sz) d hf hr hj
  rcases r0.own with ⟨h1,⟨e,e2⟩|⟨b,cap',cur,e,hbb,hg,hn,hm,hs,ht⟩⟩
  · have:l.length=0:=e2
    omega
  · have e':Value.slice A l.length c=.slice (some ⟨b,0,none⟩) l.length cap':=e
    injection e' with e1 e2 e3
    have hjk:=r0.jk b (by show (Value.slice A l.length c).ownBlock=some b;rw[e1];rfl)
    have hsl:=s'.f.1
    have hcell:hcell h' b 0≠none:=fun hn0=>by
      have h2:=hsl.el 0 hpos 0 ((f (l.getD 0 d)).get ⟨0,by rw[hf];exact hsz⟩) (by simp[hf,hsz])
      rw[e1,show aO (some ⟨b,0,none⟩)+0*sz+0=0 from by rw[Nat.zero_mul];rfl] at h2
      exact absurd (hn0.symm.trans h2) (by simp)
    have hb':h'[b]?=w.heap[b]?:=by
      rcases s'.g.blk b with e4|e4
      · exact e4
      · exact absurd (hcell_junk e4) hcell
    refine ⟨h',b,cur.toList.drop (l.length*sz),e1,hjk,s'.add (K:=fun h=>Whole h0.size h b ty (l.flatMap f++cur.toList.drop (l.length*sz))) ⟨hbb,hty,?_⟩,hc⟩
    rw[hb',hg]
    have:l.flatMap f++cur.toList.drop (l.length*sz)=cur.toList:=by
      have ht':cur.toList.take (l.length*sz)=l.flatMap f:=ht
      rw[←ht'];exact List.take_append_drop _ _
    rw[this]
theorem SS.grab (s:SS w0 h0 w h B R F){b:Nat}{ty:TypeId}{vs:List Value}(x:Whole h0.size h b ty vs):SS w0 h0 w (h.setIfInBounds b junk) (⟨b,ty,vs⟩::B) R []:=by
  have hlt:=lt_of_some x.at_
  have hown:Own w b ty vs:=by
    rcases s.g.blk b with e|e
    · exact e.symm.trans x.at_
    · exact absurd e x.nj
  have hne:∀ c,h[c]?=some junk→c≠b:=fun c hc e=>x.nj (e▸hc)
  refine ⟨s.g0,⟨⟨s.st.up.ext,⟨by simp;exact s.st.up.gr.size,fun c hc=>?_⟩,⟨by simp;exact s.st.up.g.size,fun c=>?_⟩⟩,?_,?_,?_,?_⟩,fun r hr=>?_,s.ap,(fun p hp=>by cases hp),trivial⟩
  · have:=x.lo
    rw[Array.getElem?_setIfInBounds_ne oM];exact s.st.up.gr.blk c hc
  · by_cases e:b=c
    · subst e;right;rw[Array.getElem?_setIfInBounds_self_of_lt hlt]
    · rw[Array.getElem?_setIfInBounds_ne e];exact s.st.up.g.blk c
  · intro y hy
    rcases List.mem_cons.1 hy with rfl|hy
    · exact hown
    · exact s.st.own y hy
  · intro y hy
    rcases List.mem_cons.1 hy with rfl|hy
    · exact Array.getElem?_setIfInBounds_self_of_lt hlt
    · rw[Array.getElem?_setIfInBounds_ne (Ne.symm (hne _ (s.st.jk y hy)))];exact s.st.jk y hy
  · intro y hy
    rcases List.mem_cons.1 hy with rfl|hy
    · exact x.lo
    · exact s.st.lo y hy
  · refine List.nodup_cons.2 ⟨fun hm=>?_,s.st.nd⟩
    obtain ⟨y,hy,he⟩:=List.mem_map.1 hm
    exact hne _ (s.st.jk y hy) he
  · have r0:=s.ro r hr
    refine ⟨r0.own,fun c hc=>?_,fun c hc hm=>?_⟩
    · rw[Array.getElem?_setIfInBounds_ne (Ne.symm (hne _ (r0.jk c hc)))];exact r0.jk c hc
    · rcases List.mem_cons.1 hm with e|hm
      · exact hne _ (r0.jk c hc) e
      · exact r0.ap c hc hm
theorem SS.pubY (s:SS w0 h0 w h B R F)(j:Nat)(hj:decide (j<B.length)=true:=by kernel_rfl):∃ h',SS w0 h0 w h' (B.eraseIdx j) R F∧h0.size≤(bxAt B j).b∧h'[(bxAt B j).b]?=some (.cells (bxAt B j).vs.toArray (bxAt B j).t (0,0))∧∀ c,c≠(bxAt B j).b→h'[c]?=h[c]?:=by
  have hj':=oT hj
  obtain ⟨h',s',gw,sg,hc,oth⟩:=s.st.pubX j hj'
  have hm:=bxAt_mem hj'
  refine ⟨h',⟨s.g0,s',fun r hr=>((s.ro r hr).out (List.mem_map.2 ⟨_,hm,rfl⟩) oth).sub _ (fun b hb=>?_),s.ap,s.mo,s.f.gw s.mo gw⟩,s.st.lo _ hm,hc,oth⟩
  obtain ⟨x,hx,e⟩:=List.mem_map.1 hb
  exact List.mem_map.2 ⟨x,List.mem_of_mem_eraseIdx hx,e⟩
end ss
structure Poked (h h':Hp) (b:Nat):Prop where
  oth:∀ c,c≠b→h'[c]?=h[c]?
theorem Poked.of {h h':Hp}{b:Nat}(o:∀ c,c≠b→h'[c]?=(h.setIfInBounds b junk)[c]?):Poked h h' b:=⟨fun c hc=>(o c hc).trans (Array.getElem?_setIfInBounds_ne (Ne.symm hc))⟩
theorem Poked.cell {h h':Hp}{b:Nat}(p:Poked h h' b){c i:Nat}(hc:c≠b):hcell h' c i=hcell h c i:=by
  unfold hcell;rw[p.oth c hc]
theorem Poked.slo {α:Type}{sz:Nat}{f:α→List Value}{d:α}{h h':Hp}{b:Nat}{A:Option Addr}{l:List α}(p:Poked h h' b)(hA:aB A≠b)(s:SlO sz f d h A l):SlO sz f d h' A l :=
  ⟨s.ok,fun k hk i v hv=>by rw[p.cell hA];exact s.el k hk i v hv⟩
theorem Poked.val {α:Type}{sz:Nat}{f:α→List Value}{d:α}{h h':Hp}{b:Nat}{A:Option Addr}{l:List α}(p:Poked h h' b)(s:SlO sz f d h A l)
    (hv:∀ i v,hcell h b i=some v→hcell h' b i=some v∨∀ x,v ∉ f x):SlO sz f d h' A l :=
  ⟨s.ok,fun k hk i v hi=>by
    have h1:=s.el k hk i v hi
    by_cases e:aB A=b
    · rw[e] at h1 ⊢
      rcases hv _ _ h1 with h2|h2
      · exact h2
      · exact absurd (List.mem_of_getElem? hi) (h2 _)
    · rw[p.cell e];exact h1⟩
def matp (n k:Nat)(f:Nat→Nat→Rat):List (List Rat):=(List.range k).map fun i=>vec n (f i)
theorem matp_len (n k:Nat)(f:Nat→Nat→Rat):(matp n k f).length=k:=by simp[matp]
theorem matp_snoc {h:Hp}{us:List Value}{n k:Nat}{f:Nat→Nat→Rat}(r:RVs h us (matp n k f)){v:Value}(hv:∃ A cap,∃ ts:List RT,v=.slice A ts.length cap∧ts.length≤cap∧SlO 3 rqc rqd h A ts∧RTs h ts (vec n (f k))):RVs h (us++[v]) (matp n (k+1) f):=by
  unfold matp
  rw[List.range_succ,List.map_append]
  exact r.snoc hv
theorem matf_at {h:Hp}{us:List Value}{n k:Nat}{f:Nat→Nat→Rat}(r:RVs h us (matf n f))(hk:k<n):∃ A cap,∃ ts:List RT,us.getD k undef=.slice A ts.length cap∧ts.length≤cap∧SlO 3 rqc rqd h A ts∧RTs h ts (vec n (f k)):=by
  have x:=r.at_ k (by rw[matf_len];exact hk)
  rw[matf_row f hk] at x
  exact x
theorem hcell_at {h:Hp}{b:Nat}{ty:TypeId}{cs:List Value}(e:h[b]?=some (.cells cs.toArray ty (0,0)))(i:Nat):hcell h b i=cs[i]?:=by
  unfold hcell;rw[e];simp
theorem Whole.seg {lo:Nat}{h:Hp}{b:Nat}{ty:TypeId}{cs sp:List Value}(x:Whole lo h b ty (cs++sp)):Seg h b 0 cs:=fun i v hv=>by
  have hi:i<cs.length:=by
    rcases Nat.lt_or_ge i cs.length with hl|hl
    · exact hl
    · rw[List.getElem?_eq_none hl] at hv;cases hv
  rw[Nat.zero_add,hcell_at x.at_,List.getElem?_append_left hi];exact hv
theorem Whole.slo {α:Type}{lo:Nat}{h:Hp}{b:Nat}{ty:TypeId}{sz:Nat}{f:α→List Value}{d:α}{l:List α}{sp:List Value}(hf:∀ x,(f x).length=sz)(x:Whole lo h b ty (l.flatMap f++sp)):SlO sz f d h (some ⟨b,0,none⟩) l:=SlO.of_flat hf x.seg
theorem Whole.up {lo l2:Nat}{h:Hp}{b:Nat}{ty:TypeId}{vs:List Value}(x:Whole l2 h b ty vs)(hl:lo≤l2):Whole lo h b ty vs:=⟨Nat.le_trans hl x.lo,x.ty0,x.at_⟩
structure Sep (lo:Nat) (h:Hp) (us:List Value) (n k:Nat) (F:Nat→Nat→Rat):Prop where
  len:us.length=k
  at_:∀ i,i<k→∃ b c,∃ ts:List RT,∃ sp,us.getD i undef=.slice (some ⟨b,0,none⟩) ts.length c∧ts.length≤c∧Whole lo h b 74 (ts.flatMap rqc++sp)∧RTs h ts (vec n (F i))
  ne:∀ i,i<k→∀ j,j<i→slB (us.getD i undef)≠slB (us.getD j undef)
theorem Sep.gw {lo:Nat}{h h':Hp}{us:List Value}{n k:Nat}{F:Nat→Nat→Rat}(x:Sep lo h us n k F)(u:Gw h h'):Sep lo h' us n k F:=⟨x.len,fun i hi=>by
  obtain ⟨b,c,ts,sp,h1,h2,h3,h4⟩:=x.at_ i hi
  exact ⟨b,c,ts,sp,h1,h2,h3.gw u,h4.gw u⟩,x.ne⟩
theorem Sep.up {lo l2:Nat}{h:Hp}{us:List Value}{n k:Nat}{F:Nat→Nat→Rat}(x:Sep l2 h us n k F)(hl:lo≤l2):Sep lo h us n k F:=⟨x.len,fun i hi=>by
  obtain ⟨b,c,ts,sp,h1,h2,h3,h4⟩:=x.at_ i hi
  exact ⟨b,c,ts,sp,h1,h2,h3.up hl,h4⟩,x.ne⟩
theorem Sep.nil {lo:Nat}{h:Hp}{n:Nat}{F:Nat→Nat→Rat}:Sep lo h [] n 0 F:=⟨rfl,fun i hi=>absurd hi (Nat.not_lt_zero i),fun i hi=>absurd hi (Nat.not_lt_zero i)⟩
theorem Sep.new {lo:Nat}{h:Hp}{us:List Value}{n k:Nat}{F:Nat→Nat→Rat}(x:Sep lo h us n k F){b:Nat}(hj:h[b]?=some junk):∀ i,i<k→slB (us.getD i undef)≠b:=fun i hi e=>by
  obtain ⟨b2,c,ts,sp,h1,h2,h3,h4⟩:=x.at_ i hi
  rw[h1] at e
  have e':b2=b:=e
  subst e'
  exact h3.nj hj
theorem Sep.snoc {lo:Nat}{h:Hp}{us:List Value}{n k:Nat}{F:Nat→Nat→Rat}(x:Sep lo h us n k F){b:Nat}{ts:List RT}{sp:List Value}(hW:Whole lo h b 74 (ts.flatMap rqc++sp))(hT:RTs h ts (vec n (F k))){v:Value}{c:Nat}(hv:v=.slice (some ⟨b,0,none⟩) ts.length c)(hc:ts.length≤c)(hne:∀ i,i<k→slB (us.getD i undef)≠b):Sep lo h (us++[v]) n (k+1) F:=by
  refine ⟨by rw[List.length_append,x.len];rfl,fun i hi=>?_,fun i hi j hj=>?_⟩
  · rw[getD_snoc,x.len]
    by_cases e:i<k
    · rw[if_pos e];exact x.at_ i e
    · rw[if_neg e,if_pos oM,show i=k by omega];exact ⟨b,c,ts,sp,hv,hc,hW,hT⟩
  · rw[getD_snoc,getD_snoc,x.len,if_pos (show j<k by omega)]
    by_cases e:i<k
    · rw[if_pos e];exact x.ne i e j hj
    · rw[if_neg e,if_pos oM,hv]
      exact fun e2=>hne j oM e2.symm
theorem Sep.rvs {lo:Nat}{h:Hp}{us:List Value}{n:Nat}{F:Nat→Nat→Rat}(x:Sep lo h us n n F):RVs h us (matf n F):=⟨by rw[matf_len];exact x.len,fun i hi=>by
  rw[matf_len] at hi
  obtain ⟨b,c,ts,sp,h1,h2,h3,h4⟩:=x.at_ i hi
  rw[matf_row F hi]
  exact ⟨_,c,ts,h1,h2,h3.slo (fun _=>rfl),h4⟩⟩
theorem Poked.rp {h h':Hp}{b:Nat}(p:Poked h h' b){v:Value}{z:Int}{n:Nat}(r:RP h v z n)(hv:∀ i x,hcell h b i=some x→hcell h' b i=some x∨∀ m:Int,x≠.int .u32 m):RP h' v z n:=by
  have key:∀ {A:Option Addr} {l:List Nat},SlO 1 u32c 0 h A l→SlO 1 u32c 0 h' A l:=fun s=>p.val s (fun i x hx=>by
    rcases hv i x hx with e|e
    · exact .inl e
    · exact .inr (fun y hy=>e _ (List.mem_singleton.1 hy)))
  obtain ⟨A,c,B,d,h1,h2,h3,h4,h5⟩:=r
  exact ⟨A,c,B,d,h1,h2,h3,key h4,key h5⟩
theorem Poked.rts {h h':Hp}{b:Nat}(p:Poked h h' b){ts:List RT}{qs:List Rat}(r:RTs h ts qs)(hv:∀ i x,hcell h b i=some x→hcell h' b i=some x∨∀ m:Int,x≠.int .u32 m):RTs h' ts qs:=⟨r.len,fun i hi=>p.rp (r.at_ i hi) hv⟩
theorem Sep.oth {lo:Nat}{h h':Hp}{us:List Value}{n:Nat}{F:Nat→Nat→Rat}(x:Sep lo h us n n F){b:Nat}(p:Poked h h' b)(hv:∀ i x,hcell h b i=some x→hcell h' b i=some x∨∀ m:Int,x≠.int .u32 m){i:Nat}(hi:i<n)(hne:slB (us.getD i undef)≠b) :
    ∃ A cap,∃ ts:List RT,us.getD i undef=.slice A ts.length cap∧ts.length≤cap∧SlO 3 rqc rqd h' A ts∧RTs h' ts (vec n (F i)):=by
  obtain ⟨b2,c,ts,sp,h1,h2,h3,h4⟩:=x.at_ i hi
  rw[h1] at hne
  exact ⟨_,c,ts,h1,h2,p.slo hne (h3.slo (fun _=>rfl)),p.rts h4 hv⟩
theorem Sep.put0 {lo:Nat}{h h':Hp}{us:List Value}{n:Nat}{F:Nat→Nat→Rat}(S:Sep lo h us n n F){at_:Nat}(hat:at_<n){b c:Nat}{t0:RT}{tl:List RT}{sp:List Value}(e:us.getD at_ undef=.slice (some ⟨b,0,none⟩) (t0::tl).length c)(hc:(t0::tl).length≤c)(hW:Whole lo h b 74 ([.bool t0.1,t0.2.1,t0.2.2]++(tl.flatMap rqc++sp)))(hT:RTs h (t0::tl) (vec n (F at_)))
    (p:Poked h h' b){t':RT}{q:Rat}(hq:RQ h (rtv t') q)(hb':h'[b]?=some (.cells (([.bool t'.1,t'.2.1,t'.2.2]:List Value)++(tl.flatMap rqc++sp)).toArray 74 (0,0))):RVs h' us ((matf n F).set at_ (((matf n F).getD at_ []).set 0 q)):=by
  have hlt:=hT.len
  rw[vec_len] at hlt
  have h0:RP h (rtv t0) (((vec n (F at_)).getD 0 0).num) (((vec n (F at_)).getD 0 0).den):=hT.at_ 0 (by rw[vec_len];omega)
  obtain ⟨A1,c1,B1,d1,h1,_,_,_,_⟩:=h0
  have h1':t0.2.1=.slice A1 (lim (iabs ((vec n (F at_)).getD 0 0).num)).length c1∧t0.2.2=.slice B1 (lim ((vec n (F at_)).getD 0 0).den).length d1:=by
    unfold rtv at h1
    injection h1 with h1
    have h2:=congrArg Array.toList h1
    simp at h2
    exact ⟨h2.2.1,h2.2.2⟩
  have hv:∀ i x,hcell h b i=some x→hcell h' b i=some x∨∀ m:Int,x≠.int .u32 m:=fun i x hx=>by
    rw[hcell_at hW.at_] at hx
    rw[hcell_at hb']
    match i,hx with
    | 0,hx=>right;simp at hx;subst hx;exact fun m e=>by cases e
    | 1,hx=>right;simp at hx;subst hx;rw[h1'.1];exact fun m e=>by cases e
    | 2,hx=>right;simp at hx;subst hx;rw[h1'.2];exact fun m e=>by cases e
    | j+3,hx=>left;exact hx
  refine ⟨by rw[List.length_set,matf_len];exact S.len,fun i hi=>?_⟩
  rw[List.length_set,matf_len] at hi
  rw[getD_setl,matf_len]
  by_cases e2:at_=i
  · subst e2
    rw[if_pos ⟨rfl,hat⟩,matf_row F hat]
    refine ⟨_,c,t'::tl,e,hc,SlO.of_flat (fun _=>rfl) (fun i v hv'=>?_),⟨by rw[List.length_set,vec_len,←hlt];rfl,fun j hj=>?_⟩⟩
    · rw[Nat.zero_add,hcell_at hb']
      have e3:(t'::tl).flatMap rqc=([.bool t'.1,t'.2.1,t'.2.2]:List Value)++tl.flatMap rqc:=rfl
      rw[e3] at hv'
      rw[←List.append_assoc]
      have hi2:i<(([.bool t'.1,t'.2.1,t'.2.2]:List Value)++tl.flatMap rqc).length:=by
        rcases Nat.lt_or_ge i (([.bool t'.1,t'.2.1,t'.2.2]:List Value)++tl.flatMap rqc).length with hl|hl
        · exact hl
        · rw[List.getElem?_eq_none hl] at hv';cases hv'
      rw[List.getElem?_append_left hi2];exact hv'
    · rw[List.length_set,vec_len] at hj
      rw[getD_setl,vec_len]
      cases j with
      | zero=>rw[if_pos ⟨rfl,by omega⟩];exact p.rp hq hv
      | succ j =>
        rw[if_neg (fun h=>by omega)]
        exact p.rp (hT.at_ (j+1) (by rw[vec_len];exact hj)) hv
  · rw[if_neg (fun h=>e2 h.1),matf_row F hi]
    refine S.oth p hv hi ?_
    rcases Nat.lt_or_ge i at_ with hl|hl
    · have:=S.ne at_ hat i hl
      rw[e] at this
      exact fun h=>this h.symm
    · have:=S.ne i hi at_ oM
      rw[e] at this
      exact this
theorem flat_vc (l:List Value):l.flatMap vc=l:=by induction l with|nil=>rfl|cons a l ih=>show a::l.flatMap vc=_;rw[ih]
theorem Sep.cut {lo:Nat}{h h':Hp}{us:List Value}{n:Nat}{F:Nat→Nat→Rat}(S:Sep lo h us n n F){at_:Nat}(hat:at_<n){bo b c:Nat}{ts:List RT}{sp:List Value}(e:us.getD at_ undef=.slice (some ⟨b,0,none⟩) ts.length c)(hc:ts.length≤c)(hT:RTs h ts (vec n (F at_)))(hR:SlO 3 rqc rqd h (some ⟨b,0,none⟩) ts)(hne:∀ i,i<n→slB (us.getD i undef)≠bo)
    (hW:Whole lo h bo 27 ((us++sp).flatMap vc))(p:Poked h h' bo){v:Value}(hv':v=.slice (if c=1 then some ⟨b,0,none⟩ else (some ⟨b,0,none⟩:Option Addr).map (·.add (1*3))) (ts.length-1) (c-1))(hb':h'[bo]?=some (.cells (((us++sp).set at_ v).flatMap vc).toArray 27 (0,0))) :
    RVs h' (us.set at_ v) ((matf n F).set at_ (((matf n F).getD at_ []).drop 1))∧SlO 1 vc undef h' (some ⟨bo,0,none⟩) (us.set at_ v):=by
  have hlt:=hT.len
  rw[vec_len] at hlt
  have hul:=S.len
  rw[flat_vc] at hW hb'
  have hv:∀ i x,hcell h bo i=some x→hcell h' bo i=some x∨∀ m:Int,x≠.int .u32 m:=fun i x hx=>by
    rw[hcell_at hW.at_] at hx
    rw[hcell_at hb']
    by_cases e2:at_=i
    · subst e2
      right
      have:x=us.getD at_ undef:=by
        rw[List.getElem?_append_left oM] at hx
        rw[List.getD_eq_getElem?_getD,hx];rfl
      rw[this,e];exact fun m h=>by cases h
    · left;rw[List.getElem?_set_ne e2];exact hx
  refine ⟨⟨by rw[List.length_set,List.length_set,matf_len];exact hul,fun i hi=>?_⟩,SlO.of_flat (fun _=>rfl) (fun i x hx=>?_)⟩
  · rw[List.length_set,matf_len] at hi
    rw[getD_setl,getD_setl,matf_len,hul]
    by_cases e2:at_=i
    · subst e2
      rw[if_pos ⟨rfl,hat⟩,if_pos ⟨rfl,hat⟩,matf_row F hat]
      have hbne:slB (us.getD at_ undef)≠bo:=hne at_ hat
      rw[e] at hbne
      have hR':SlO 3 rqc rqd h' (some ⟨b,0,none⟩) ts:=p.slo hbne hR
      have hT':=p.rts hT hv
      refine ⟨_,c-1,ts.drop 1,by rw[List.length_drop];exact hv',by rw[List.length_drop];omega,hR'.drop 1 c hc,⟨by rw[List.length_drop,List.length_drop,vec_len];omega,fun j hj=>?_⟩⟩
      rw[List.length_drop,vec_len] at hj
      have:=hT'.at_ (1+j) (by rw[vec_len];omega)
      rw[getD_drop1,getD_drop1]
      exact this
    · rw[if_neg (fun h=>e2 h.1),if_neg (fun h=>e2 h.1),matf_row F hi]
      exact S.oth p hv hi (hne i hi)
  · rw[flat_vc] at hx
    rw[Nat.zero_add,hcell_at hb']
    have hi:i<(us.set at_ v).length:=by
      rcases Nat.lt_or_ge i (us.set at_ v).length with hl|hl
      · exact hl
      · rw[List.getElem?_eq_none hl] at hx;cases hx
    rw[List.length_set] at hi
    by_cases e2:at_=i
    · subst e2
      rw[List.getElem?_set_self (by simpa using hi)] at hx
      rw[List.getElem?_set_self (by rw[List.length_append];omega)];exact hx
    · rw[List.getElem?_set_ne e2] at hx
      rw[List.getElem?_set_ne e2,List.getElem?_append_left hi];exact hx
theorem rRightF (A:Option Addr)(cap:Nat)(us:List Value)(f:Nat→Nat→Rat)(n:Nat)(h0n:0<n)(hn4:n≤5)(w:World)(h:Hp)(g:G w h)(hA:SlO 1 vc undef h A us)(hU:RVs h us (matf n f)):Calls Tryz.prog 69 #[.slice A us.length cap] w (Ret w h fun v _=>v=.bool true) :=
  rRightT A cap us (matf n f) (by rw[matf_len];omega) (fun i hi=>by rw[matf_len] at hi;rw[matf_row f hi,vec_len];omega) (matf_right f h0n) w h g hA hU
def RQk (h:Hp)(ts:List RT)(k:Nat)(q:Rat):Prop:=∀ i,i<k→RQ h (rtv (ts.getD i rqd)) q
theorem RQk.gw {h h':Hp}{ts:List RT}{k:Nat}{q:Rat}(x:RQk h ts k q)(u:Gw h h'):RQk h' ts k q:=fun i hi=>(x i hi).gw u
theorem RQk.nil {h:Hp}{ts:List RT}{q:Rat}:RQk h ts 0 q:=fun i hi=>absurd hi (Nat.not_lt_zero i)
theorem rq_set {h:Hp}{ts:List RT}{n k:Nat}{t:RT}{q:Rat}(hl:ts.length=n)(hk:k<n)(hT:RQk h ts k q)(hq:RQ h (rtv t) q):RQk h (ts.set k t) (k+1) q:=fun i hi=>by
  rw[getD_setl,hl]
  by_cases e:k=i
  · rw[if_pos ⟨e,hk⟩];exact hq
  · rw[if_neg (fun x=>e x.1)];exact hT i oM
theorem rts_cells {h:Hp}{ts:List RT}{qs:List Rat}(r:RTs h ts qs){x:Value}(hx:x∈ts.flatMap rqc):∀ m:Int,x≠.int .u32 m:=by
  obtain ⟨t,ht,hx⟩:=List.mem_flatMap.1 hx
  obtain ⟨i,hi,rfl⟩:=List.mem_iff_getElem.1 ht
  obtain ⟨A1,c1,B1,d1,h1,_,_,_,_⟩:RP h (rtv (ts.getD i rqd)) _ _:=r.at_ i (by rw[←r.len];exact hi)
  rw[show ts.getD i rqd=ts[i] by simp[hi]] at h1
  unfold rtv at h1
  injection h1 with h1
  have h2:=congrArg Array.toList h1
  simp at h2
  intro m e
  subst e
  unfold rqc at hx
  simp at hx
  rcases hx with e|e
  · rw[h2.2.1] at e;cases e
  · rw[h2.2.2] at e;cases e
theorem RTs.taken {h h':Hp}{b:Nat}{ty:TypeId}{ts:List RT}{qs:List Rat}(r:RTs h ts qs)(hb:h[b]?=some (.cells (ts.flatMap rqc).toArray ty (0,0)))(o:∀ c,c≠b→h'[c]?=h[c]?):RTs h' ts qs :=
  Poked.rts ⟨o⟩ r (fun i x hx=>.inr (by
    rw[hcell_at hb] at hx
    exact rts_cells r (List.mem_of_getElem? hx)))
theorem eye_row {h:Hp}{ts:List RT}{n k:Nat}{t:RT}(hT:RTs h ts (vec n (fun _=>0)))(hk:k<n)(hq:RQ h (rtv t) ((1:Int):Rat)):RTs h (ts.set k t) (vec n (eyef k)):=by
  have hl:=hT.len
  rw[vec_len] at hl
  refine ⟨by rw[List.length_set,vec_len];exact hl,fun i hi=>?_⟩
  rw[vec_len] at hi
  rw[getD_setl,hl,vec_get _ hi]
  unfold eyef
  by_cases e:k=i
  · rw[if_pos ⟨e,hk⟩,if_pos e.symm];exact hq
  · rw[if_neg (fun x=>e x.1),if_neg (fun x=>e x.symm)]
    have:=hT.at_ i (by rw[vec_len];exact hi)
    rw[vec_get _ hi] at this;exact this
theorem rCol (A:Option Addr)(capA:Nat)(us:List Value)(W:List (List Rat))(hlW:W.length≤1000)(hlsW:∀ i,i<W.length→(W.getD i []).length≤1000)(n:Nat)(hn4:n≤5)(j:Nat)(hn:W.length=n)(hw:∀ i,i<n→j<(W.getD i []).length)(hj9:j≤1000)(w:World)(h:Hp)(g:G w h)(hA:SlO 1 vc undef h A us)(hUW:RVs h us W) :
    Calls Tryz.prog 70 #[.slice A us.length capA,.int .i64 (j:Nat)] w (Ret w h fun v h1=>∃ A c ts,v=.slice A (ts:List RT).length c∧ts.length≤c∧SlO 3 rqc rqd h1 A ts∧RTs h1 ts (vec n (fun i=>mA W i j))):=by
 have hs:=SS.start g
 replace hs:=((hs.a_SlO hA).add (K:=fun h_=>RVs h_ us W) hUW)
 have hlu:=(hs.f.1).len
 refine go Tryz.func70 [(0,.slice A us.length capA),(1,.int .i64 (j:Nat))] rfl ?_
 refine cSL (lL hs [.v 4 (.slice none 0 0)] (lNS (lL hs [.v 5 (.slice none 0 0)] (lN (CG.seq (cSL (lL hs [.v 6 (.int .i64 0)] (lN (CG.block ?_)))))))))
 replace hs:=hs.nil 74 3
 refine cTo [(0,.slice A us.length capA),(1,.int .i64 (j:Nat)),(4,.slice none 0 0),(6,.int .i64 0),(5,.slice none 0 0)] ?_
 replace hs:=hs.add (K:=fun h_=>RTs h_ ([]) (vec 0 (fun i=>mA W i j))) (RTs.nil)
 refine CG.loop (fun μ_ Γ w_=>∃ (k:Nat) (sA:Option Addr) (sc:Nat) (ts:List RT) (h_:Hp),μ_=n-k∧Γ=[(0,.slice A us.length capA),(1,.int .i64 (j:Nat)),(4,.slice none 0 0),(6,.int .i64 (k:Nat)),(5,.slice sA ((ts).length) sc)]∧SS w h w_ h_ [] [⟨74,3,sA,sc,(ts).length,(ts).flatMap rqc⟩] [fun h_=>RTs h_ ts (vec k (fun i=>mA W i j)),fun h_=>RVs h_ us W,fun h_=>SlO 1 vc undef h_ A us]∧(k≤n)) _ ⟨0,none,0,[],h,rfl,rfl,hs.to _ _,Nat.zero_le _⟩ ?_
 rintro _ _ w1 ⟨k,sA,sc,ts,h2,hm3,rfl,hs,hk⟩
 have hlT:=(hs.f.1).len
 rw[vec_len] at hlT
 have hwk:=hw k
 refine CG.seq (cSL (lL hs [.m 7 6,.m 8 0,.v 9 (.int .i64 (us.length:Nat))] ?_))
 cases hb4:(decide (((k:Nat):Int)<((us.length:Nat):Int)))
 ·
  have phb4:=oF hb4
  refine lB 10 hb4 ?_
  refine lN (cIF (CG.exit ?_))
  show CG _ _ _ _ _ _ _ _
  refine cSL (lL hs [.m 23 5,.m 4 23] (lN (CG.ret ?_)))
  have hkn:k=n:=by omega
  obtain ⟨h5,hs,hc6⟩:=hs.pubr 0 (A:=sA) (c:=sc) (l:=ts) (f:=rqc) (ty:=74) (sz:=3) rqd (fun _=>rfl)
  exact hs.ret [] (.slice sA ((ts).length) sc) (⟨_,_,ts,rfl,hc6,(hs.f.1),(by have q_:=(hs.f.2.1);rw[hkn] at q_;exact q_)⟩)
 have phb4:=oT hb4
 refine lB 10 hb4 ?_
 refine lN (cIT (CG.skipN (CG.seq (CG.block (CG.listed (lL hs [.m 13 5,.m 14 0,.m 15 6] (lX 16 A us.length capA 1 (k:Nat) k ((hs.f.2.2.1).ok oM) ?_)))))))
 obtain ⟨Arx,crx,trx,erx,hcrx,hRrx,hTrx⟩:=(hs.f.2.1).at_ k oM
 have hlrx:=hTrx.len
 replace hs:=((hs.a_SlO hRrx).add (K:=fun h_=>RTs h_ trx (W.getD k [])) hTrx)
 refine lHe 17 (us.getD k undef) hs ((hs.f.2.2.2.2.1).el k oM) erx ?_
 refine lL hs [.m 18 1] (lX 19 Arx trx.length crx 3 (j:Nat) j ((hs.f.2.1).ok oM) ?_)
 obtain ⟨Axe,cxe,Dxe,dxe,exe,hcxe,hdxe,hAxe,hDxe⟩:=(hs.f.1).at_ j oM
 replace hs:=((hs.a_SlO hAxe).a_SlO hDxe)
 refine lHe 20 (.agg #[.bool ((trx.getD j rqd).1),(trx.getD j rqd).2.1,(trx.getD j rqd).2.2]) hs ((hs.f.2.2.2.1).el j oM) exe ?_
 refine lR 21 74 1 ([.bool (ineg ((W.getD k []).getD j 0).num),.slice Axe ((lim (iabs ((W.getD k []).getD j 0).num)).length) cxe,.slice Dxe ((lim ((W.getD k []).getD j 0).den).length) dxe]) hs (fun b8 w9 h10 hs=>?_)
 refine lY 22 0 74 3 sc sA ts rqc ((ineg ((W.getD k []).getD j 0).num,.slice Axe ((lim (iabs ((W.getD k []).getD j 0).num)).length) cxe,.slice Dxe ((lim ((W.getD k []).getD j 0).den).length) dxe):RT) 56 b8 (.agg #[.bool false,.slice none 0 0,.slice none 0 0]) hs (hs.f.1) (fun A12 c13 w14 h15 hs=>?_)
 refine lL hs [.m 5 22] (lN (CG.listed (lL hs [.m 11 6] (lIn 12 ((k:Nat)+1) (k+1) ?_))))
 refine lL hs [.m 6 12] (lD ?_)
 intro a_ ka
 have q17:RTs h15 (ts++[((ineg ((W.getD k []).getD j 0).num,.slice Axe ((lim (iabs ((W.getD k []).getD j 0).num)).length) cxe,.slice Dxe ((lim ((W.getD k []).getD j 0).den).length) dxe):RT)]) (vec (k+1) (fun i=>mA W i j)):=(vec_step (hs.f.2.2.2.2.2.1) (rqOk hcxe hdxe (hs.f.2.2.1) (hs.f.2.1)))
 have q18:(k+1)≤n:=by omega
 replace hs:=(hs.tl.tl.tl.tl.tl.tl.add (K:=fun h_=>RTs h_ (ts++[((ineg ((W.getD k []).getD j 0).num,.slice Axe ((lim (iabs ((W.getD k []).getD j 0).num)).length) cxe,.slice Dxe ((lim ((W.getD k []).getD j 0).den).length) dxe):RT)]) (vec (k+1) (fun i=>mA W i j))) q17)
 refine ⟨_,_,?_,⟨k+1,A12,c13,ts++[((ineg ((W.getD k []).getD j 0).num,.slice Axe ((lim (iabs ((W.getD k []).getD j 0).num)).length) cxe,.slice Dxe ((lim ((W.getD k []).getD j 0).den).length) dxe):RT)],h15,rfl,rfl,hs.to _ _,q18⟩,ka.to [(0,.slice A us.length capA),(1,.int .i64 (j:Nat)),(4,.slice none 0 0),(6,.int .i64 ((k+1):Nat)),(5,.slice A12 (((ts++[((ineg ((W.getD k []).getD j 0).num,.slice Axe ((lim (iabs ((W.getD k []).getD j 0).num)).length) cxe,.slice Dxe ((lim ((W.getD k []).getD j 0).den).length) dxe):RT)])).length) c13)] kR⟩
 omega
theorem rColF (A:Option Addr)(cap:Nat)(us:List Value)(f:Nat→Nat→Rat)(n:Nat)(hn4:n≤5)(j:Nat)(hj:j<n)(w:World)(h:Hp)(g:G w h)(hA:SlO 1 vc undef h A us)(hU:RVs h us (matf n f)):Calls Tryz.prog 70 #[.slice A us.length cap,.int .i64 (j:Nat)] w (Ret w h fun v h1=>∃ A c ts,v=.slice A (ts:List RT).length c∧ts.length≤c∧SlO 3 rqc rqd h1 A ts∧RTs h1 ts (vec n fun i=>f i j)):=by
  have x:=rCol A cap us (matf n f) (by rw[matf_len];omega) (fun i hi=>by rw[matf_len] at hi;rw[matf_row f hi,vec_len];omega) n hn4 j (matf_len n f) (fun i hi=>by rw[matf_row f hi,vec_len];exact hj) oM w h g hA hU
  rw[vec_congr (f:=fun i=>mA (matf n f) i j) (g:=fun i=>f i j) (fun i hi=>matf_get f hi hj)] at x
  exact x
theorem rTurn (n:Nat)(h0n:0<n)(hn4:n≤5)(A:Option Addr)(capA:Nat)(us:List Value)(f:Nat→Nat→Rat)(w:World)(h:Hp)(g:G w h)(hA:SlO 1 vc undef h A us)(hUf:RVs h us (matf n f)) :
    Calls Tryz.prog 23 #[.slice A us.length capA] w (Ret w h fun v h1=>∃ A c us,v=.tuple #[.slice A (us:List Value).length c,.int .i64 0]∧us.length≤c∧SlO 1 vc undef h1 A us∧RVs h1 us (matf n (fun i j=>f j i))):=by
 have hs:=SS.start g
 replace hs:=((hs.a_SlO hA).add (K:=fun h_=>RVs h_ us (matf n f)) hUf)
 have hlus:=(hs.f.1).len
 rw[matf_len] at hlus
 have hlmf:=matf_len n f
 refine go Tryz.func23 [(0,.slice A us.length capA)] rfl ?_
 refine cSL (lL hs [.v 2 (.slice none 0 0),.v 3 (.int .i64 0)] (lN (CG.seq (cSL (lL hs [.m 6 0] (lC 7 hs (rRightF A capA us f n h0n hn4 _ _ hs.g (hs.f.2.1) (hs.f.1)) ?_))))))
 rintro _ w1 h2 hs rfl
 refine lL hs [.v 8 (.bool false)] (lN (cIF (CG.skipN (cSL (lL hs [.v 4 (.slice none 0 0)] (lN (CG.seq (cSL (lL hs [.v 5 (.int .i64 0)] (lN (CG.block ?_)))))))))))
 replace hs:=hs.nil 27 1
 refine cTo [(0,.slice A us.length capA),(2,.slice none 0 0),(3,.int .i64 0),(5,.int .i64 0),(4,.slice none 0 0)] ?_
 replace hs:=hs.add (K:=fun h_=>RVs h_ ([]) (matp n 0 (fun i j=>f j i))) (RVs.nil)
 refine CG.loop (fun μ_ Γ w_=>∃ (k:Nat) (smA:Option Addr) (smc:Nat) (um:List Value) (h_:Hp),μ_=n-k∧Γ=[(0,.slice A us.length capA),(2,.slice none 0 0),(3,.int .i64 0),(5,.int .i64 (k:Nat)),(4,.slice smA ((um).length) smc)]∧SS w h w_ h_ [] [⟨27,1,smA,smc,(um).length,(um).flatMap vc⟩] [fun h_=>RVs h_ um (matp n k (fun i j=>f j i)),fun h_=>RVs h_ us (matf n f),fun h_=>SlO 1 vc undef h_ A us]∧(k≤n)) _ ⟨0,none,0,[],h2,rfl,rfl,hs.to _ _,Nat.zero_le _⟩ ?_
 rintro _ _ w3 ⟨k,smA,smc,um,h4,hm5,rfl,hs,hk⟩
 have hlum:=(hs.f.1).len
 rw[matp_len] at hlum
 refine CG.seq (cSL (lL hs [.m 9 5,.m 10 0] (lX 11 A us.length capA 1 0 0 ((hs.f.2.2.1).ok oM) ?_)))
 obtain ⟨Arz,crz,trz,erz,hcrz,hRrz,hTrz⟩:=matf_at (hs.f.2.1) (k:=0) oM
 have hlrz:=hTrz.len
 rw[vec_len] at hlrz
 have hvnz:=vec_len n (f 0)
 replace hs:=((hs.a_SlO hRrz).add (K:=fun h_=>RTs h_ trz (vec n (f 0))) hTrz)
 refine lHe 12 (us.getD 0 undef) hs ((hs.f.2.2.2.2.1).el 0 oM) erz ?_
 refine lL hs [.v 13 (.int .i64 (trz.length:Nat))] ?_
 cases hb6:(decide (((k:Nat):Int)<((trz.length:Nat):Int)))
 ·
  have phb6:=oF hb6
  refine lB 14 hb6 ?_
  refine lN (cIF (CG.exit ?_))
  show CG _ _ _ _ _ _ _ _
  refine cSL (lL hs [.m 23 4,.m 2 23,.v 3 (.int .i64 0)] (lN (CG.ret ?_)))
  have hkn:k=n:=by omega
  obtain ⟨h7,hs,hc8⟩:=hs.pubr 0 (A:=smA) (c:=smc) (l:=um) (f:=vc) (ty:=27) (sz:=1) undef (fun _=>rfl)
  exact hs.ret [] (.tuple #[.slice smA ((um).length) smc,.int .i64 0]) (⟨_,_,um,rfl,hc8,(hs.f.1),(by have q_:=(hs.f.2.2.2.1);rw[hkn] at q_;exact q_)⟩)
 have phb6:=oT hb6
 refine lB 14 hb6 ?_
 refine lN (cIT (CG.skipN (CG.seq (CG.block (CG.listed (lL hs [.m 17 4,.m 18 0,.m 19 5] (lC 20 hs (rColF A capA us f n hn4 k oM _ _ hs.g (hs.f.2.2.2.2.1) (hs.f.2.2.2.1)) ?_)))))))
 rintro _ w10 h11 hs ⟨Ac,ccl,tc,rfl,hccl,hAc,hTc⟩
 replace hs:=((hs.a_SlO hAc).add (K:=fun h_=>RTs h_ tc (vec n (fun i=>f i k))) hTc)
 refine lR 21 27 1 ([.slice Ac tc.length ccl]) hs (fun b12 w13 h14 hs=>?_)
 refine lY 22 0 27 1 smc smA um vc (.slice Ac tc.length ccl:Value) 24 b12 (.slice none 0 0) hs (hs.f.1) (fun A16 c17 w18 h19 hs=>?_)
 refine lL hs [.m 4 22] (lN (CG.listed (lL hs [.m 15 5] (lIn 16 ((k:Nat)+1) (k+1) ?_))))
 refine lL hs [.m 5 16] (lD ?_)
 intro a_ ka
 have q21:RVs h19 (um++[(.slice Ac tc.length ccl:Value)]) (matp n (k+1) (fun i j=>f j i)):=(matp_snoc (hs.f.2.2.2.2.2.1) ⟨_,_,tc,rfl,hccl,(hs.f.2.2.1),(hs.f.2.1)⟩)
 have q22:(k+1)≤n:=by omega
 replace hs:=(hs.tl.tl.tl.tl.tl.tl.add (K:=fun h_=>RVs h_ (um++[(.slice Ac tc.length ccl:Value)]) (matp n (k+1) (fun i j=>f j i))) q21)
 refine ⟨_,_,?_,⟨k+1,A16,c17,um++[(.slice Ac tc.length ccl:Value)],h19,rfl,rfl,hs.to _ _,q22⟩,ka.to [(0,.slice A us.length capA),(2,.slice none 0 0),(3,.int .i64 0),(5,.int .i64 ((k+1):Nat)),(4,.slice A16 (((um++[(.slice Ac tc.length ccl:Value)])).length) c17)] kR⟩
 omega
theorem rMulF (n:Nat)(h0n:0<n)(hn4:n≤5)(A:Option Addr)(capA:Nat)(us:List Value)(f:Nat→Nat→Rat)(D:Option Addr)(capD:Nat)(vs:List Value)(g_:Nat→Nat→Rat)(hf3:∀ i j,LQ 3 (f i j))(hg3:∀ i j,LQ 3 (g_ i j))(w:World)(h:Hp)(g:G w h)(hA:SlO 1 vc undef h A us)(hUf:RVs h us (matf n f))(hD:SlO 1 vc undef h D vs)(hUg_:RVs h vs (matf n g_)) :
    Calls Tryz.prog 24 #[.slice A us.length capA,.slice D vs.length capD] w (Ret w h fun v h1=>∃ bo c us sp,v=.tuple #[.slice (some ⟨bo,0,none⟩) (us:List Value).length c,.int .i64 0]∧us.length≤c∧Whole h.size h1 bo 27 (us.flatMap vc++sp)∧(∀ i,i<n→slB (us.getD i undef)≠bo)∧Sep h.size h1 us n n (fun i_ k_=>dt n (f i_) (fun j=>g_ j k_))):=by
 have hs:=SS.start g
 replace hs:=((((hs.a_SlO hA).add (K:=fun h_=>RVs h_ us (matf n f)) hUf).a_SlO hD).add (K:=fun h_=>RVs h_ vs (matf n g_)) hUg_)
 have hlus:=(hs.f.2.2.1).len
 rw[matf_len] at hlus
 have hlmf:=matf_len n f
 have hlvs:=(hs.f.1).len
 rw[matf_len] at hlvs
 have hlmg_:=matf_len n g_
 refine go Tryz.func24 [(0,.slice A us.length capA),(1,.slice D vs.length capD)] rfl ?_
 refine cSL (lL hs [.v 4 (.slice none 0 0),.v 5 (.int .i64 0)] (lN (CG.seq (cSL (lL hs [.m 10 0] (lC 11 hs (rRightF A capA us f n h0n hn4 _ _ hs.g (hs.f.2.2.2.1) (hs.f.2.2.1)) ?_))))))
 rintro _ w1 h2 hs rfl
 refine lL hs [.v 12 (.bool false),.m 13 12,.m 14 1] (lC 15 hs (rRightF D capD vs g_ n h0n hn4 _ _ hs.g (hs.f.2.1) (hs.f.1)) ?_)
 rintro _ w3 h4 hs rfl
 refine lL hs [.v 16 (.bool false),.v 17 (.bool false),.m 18 17,.m 19 0] (lX 20 A us.length capA 1 0 0 ((hs.f.2.2.2.1).ok oM) ?_)
 obtain ⟨Arv,crv,trv,erv,hcrv,hRrv,hTrv⟩:=matf_at (hs.f.2.2.1) (k:=0) oM
 have hlrv:=hTrv.len
 rw[vec_len] at hlrv
 have hvnv:=vec_len n (f 0)
 replace hs:=((hs.a_SlO hRrv).add (K:=fun h_=>RTs h_ trv (vec n (f 0))) hTrv)
 refine lHe 21 (us.getD 0 undef) hs ((hs.f.2.2.2.2.2.1).el 0 oM) erv ?_
 refine lL hs [.v 22 (.int .i64 (trv.length:Nat)),.m 23 1,.v 24 (.int .i64 (vs.length:Nat))] ?_
 have hb5:(((trv.length:Nat):Int) != ((vs.length:Nat):Int))=false:=bneF oM
 have phb5:=eqOfBne hb5
 refine lB 25 hb5 ?_
 refine lL hs [.v 26 (.bool false)] (lN (cIF (CG.skipN (cSL (lL hs [.v 6 (.slice none 0 0)] (lN (CG.seq (cSL (lL hs [.v 7 (.int .i64 0)] (lN (CG.block ?_)))))))))))
 replace hs:=hs.nil 27 1
 refine cTo [(0,.slice A us.length capA),(1,.slice D vs.length capD),(4,.slice none 0 0),(5,.int .i64 0),(7,.int .i64 0),(6,.slice none 0 0)] ?_
 replace hs:=hs.add (K:=fun h_=>Sep h.size h_ ([]) n 0 (fun i_ k_=>dt n (f i_) (fun j=>g_ j k_))) (Sep.nil)
 refine CG.loop (fun μ_ Γ w_=>∃ (i:Nat) (smA:Option Addr) (smc:Nat) (um:List Value) (h_:Hp),μ_=n-i∧Γ=[(0,.slice A us.length capA),(1,.slice D vs.length capD),(4,.slice none 0 0),(5,.int .i64 0),(7,.int .i64 (i:Nat)),(6,.slice smA ((um).length) smc)]∧SS w h w_ h_ [] [⟨27,1,smA,smc,(um).length,(um).flatMap vc⟩] [fun h_=>Sep h.size h_ um n i (fun i_ k_=>dt n (f i_) (fun j=>g_ j k_)),fun h_=>RTs h_ trv (vec n (f 0)),fun h_=>SlO 3 rqc rqd h_ Arv trv,fun h_=>RVs h_ vs (matf n g_),fun h_=>SlO 1 vc undef h_ D vs,fun h_=>RVs h_ us (matf n f),fun h_=>SlO 1 vc undef h_ A us]∧(i≤n)) _ ⟨0,none,0,[],h4,rfl,rfl,hs.to _ _,Nat.zero_le _⟩ ?_
 rintro _ _ w6 ⟨i,smA,smc,um,h7,hm8,rfl,hs,hi⟩
 have hlum:=(hs.f.1).len
 refine CG.seq (cSL (lL hs [.m 27 7,.m 28 0,.v 29 (.int .i64 (us.length:Nat))] ?_))
 cases hb9:(decide (((i:Nat):Int)<((us.length:Nat):Int)))
 ·
  have phb9:=oF hb9
  refine lB 30 hb9 ?_
  refine lN (cIF (CG.exit ?_))
  show CG _ _ _ _ _ _ _ _
  refine cSL (lL hs [.m 56 6,.m 4 56,.v 5 (.int .i64 0)] (lN (CG.ret ?_)))
  have hin:i=n:=by omega
  have hlum2:=(hs.f.1).len
  have hS0:=(hs.f.1)
  obtain ⟨h10,bo,spo,hAbo,hjo,hs,hco⟩:=hs.pubrS 0 (A:=smA) (c:=smc) (l:=um) (f:=vc) (ty:=27) (sz:=1) undef (fun _=>rfl) oM kD
  have hneo:=hS0.new hjo
  subst hAbo
  rw[hin] at hneo
  exact hs.ret [] (.tuple #[.slice (some ⟨bo,0,none⟩) ((um).length) smc,.int .i64 0]) (⟨bo,_,um,spo,rfl,hco,(hs.f.1),hneo,(by have q_:=(hs.f.2.2.1);rw[hin] at q_;exact q_)⟩)
 have phb9:=oT hb9
 refine lB 30 hb9 ?_
 refine lN (cIT (CG.skipN (CG.seq (CG.block (cSL (lL hs [.v 8 (.slice none 0 0)] (lN (CG.seq (cSL (lL hs [.v 9 (.int .i64 0)] (lN (CG.block ?_))))))))))))
 replace hs:=hs.nil 74 3
 refine cTo [(0,.slice A us.length capA),(1,.slice D vs.length capD),(4,.slice none 0 0),(5,.int .i64 0),(7,.int .i64 (i:Nat)),(6,.slice smA ((um).length) smc),(9,.int .i64 0),(8,.slice none 0 0)] ?_
 replace hs:=hs.add (K:=fun h_=>RTs h_ ([]) (vec 0 (fun k_=>dt n (f i) (fun j=>g_ j k_)))) (RTs.nil)
 refine CG.loop (fun μ_ Γ w_=>∃ (k:Nat) (sA:Option Addr) (sc:Nat) (ts:List RT) (h_:Hp),μ_=n-k∧Γ=[(0,.slice A us.length capA),(1,.slice D vs.length capD),(4,.slice none 0 0),(5,.int .i64 0),(7,.int .i64 (i:Nat)),(6,.slice smA ((um).length) smc),(9,.int .i64 (k:Nat)),(8,.slice sA ((ts).length) sc)]∧SS w h w_ h_ [] [⟨74,3,sA,sc,(ts).length,(ts).flatMap rqc⟩,⟨27,1,smA,smc,(um).length,(um).flatMap vc⟩] [fun h_=>RTs h_ ts (vec k (fun k_=>dt n (f i) (fun j=>g_ j k_))),fun h_=>Sep h.size h_ um n i (fun i_ k_=>dt n (f i_) (fun j=>g_ j k_)),fun h_=>RTs h_ trv (vec n (f 0)),fun h_=>SlO 3 rqc rqd h_ Arv trv,fun h_=>RVs h_ vs (matf n g_),fun h_=>SlO 1 vc undef h_ D vs,fun h_=>RVs h_ us (matf n f),fun h_=>SlO 1 vc undef h_ A us]∧(k≤n)) _ ⟨0,none,0,[],h7,rfl,rfl,hs.to _ _,Nat.zero_le _⟩ ?_
 rintro _ _ w11 ⟨k,sA,sc,ts,h12,hm13,rfl,hs,hk⟩
 have hlT:=(hs.f.1).len
 rw[vec_len] at hlT
 refine CG.seq (cSL (lL hs [.m 33 9,.m 34 1] (lX 35 D vs.length capD 1 0 0 ((hs.f.2.2.2.2.2.1).ok oM) ?_)))
 obtain ⟨Arz,crz,trz,erz,hcrz,hRrz,hTrz⟩:=matf_at (hs.f.2.2.2.2.1) (k:=0) oM
 have hlrz:=hTrz.len
 rw[vec_len] at hlrz
 have hvnz:=vec_len n (g_ 0)
 replace hs:=((hs.a_SlO hRrz).add (K:=fun h_=>RTs h_ trz (vec n (g_ 0))) hTrz)
 refine lHe 36 (vs.getD 0 undef) hs ((hs.f.2.2.2.2.2.2.2.1).el 0 oM) erz ?_
 refine lL hs [.v 37 (.int .i64 (trz.length:Nat))] ?_
 cases hb14:(decide (((k:Nat):Int)<((trz.length:Nat):Int)))
 ·
  have phb14:=oF hb14
  refine lB 38 hb14 ?_
  refine lN (cIF (CG.exit ?_))
  show CG _ _ _ _ _ _ _ _
  refine CG.listed (lL hs [.m 52 6,.m 53 8] ?_)
  have hkn:k=n:=by omega
  have hlT2:=(hs.f.2.2.1).len
  rw[vec_len] at hlT2
  have hS0:=(hs.f.2.2.2.1)
  obtain ⟨h15,br,spr,hAbr,hjr,hs,hcr⟩:=hs.pubrS 0 (A:=sA) (c:=sc) (l:=ts) (f:=rqc) (ty:=74) (sz:=3) rqd (fun _=>rfl) oM kD
  have hner:=hS0.new hjr
  replace hs:=hs.add (K:=fun h_=>RTs h_ ts (vec n (fun k_=>dt n (f i) (fun j=>g_ j k_)))) (by have q_:=(hs.f.2.2.2.2.1);rw[hkn] at q_;exact q_)
  refine lR 54 27 1 ([.slice sA ((ts).length) sc]) hs (fun b16 w17 h18 hs=>?_)
  refine lY 55 0 27 1 smc smA um vc (.slice sA ((ts).length) sc:Value) 24 b16 (.slice none 0 0) hs (hs.f.1) (fun A20 c21 w22 h23 hs=>?_)
  refine lL hs [.m 6 55] (lN (CG.listed (lL hs [.m 31 7] (lIn 32 ((i:Nat)+1) (i+1) ?_))))
  refine lL hs [.m 7 32] (lD ?_)
  intro a_ ka
  have q25:Sep h.size h23 (um++[(.slice sA ((ts).length) sc:Value)]) n (i+1) (fun i_ k_=>dt n (f i_) (fun j=>g_ j k_)):=(Sep.snoc (hs.f.2.2.2.2.2.2.2.1) (hs.f.2.2.1) (hs.f.2.1) (by rw[hAbr]) hcr hner)
  have q26:(i+1)≤n:=by omega
  replace hs:=(hs.tl.tl.tl.tl.tl.tl.tl.tl.add (K:=fun h_=>Sep h.size h_ (um++[(.slice sA ((ts).length) sc:Value)]) n (i+1) (fun i_ k_=>dt n (f i_) (fun j=>g_ j k_))) q25)
  refine ⟨_,_,?_,⟨i+1,A20,c21,um++[(.slice sA ((ts).length) sc:Value)],h23,rfl,rfl,hs.to _ _,q26⟩,ka.to [(0,.slice A us.length capA),(1,.slice D vs.length capD),(4,.slice none 0 0),(5,.int .i64 0),(7,.int .i64 ((i+1):Nat)),(6,.slice A20 (((um++[(.slice sA ((ts).length) sc:Value)])).length) c21)] kR⟩
  omega
 have phb14:=oT hb14
 refine lB 38 hb14 ?_
 refine lN (cIT (CG.skipN (CG.seq (CG.block (CG.region ⟨((Value.slice sA ((ts).length) sc).ownBlock.toList),none⟩ 11 [] mixed kR hs.g al_nil (hs.ro_lt 0 (ty:=74) (sz:=3) (A:=sA) (c:=sc) (m:=(ts).length) (cs:=(ts).flatMap rqc)) ?_)))))
 refine eV 0 41 (.slice sA ((ts).length) sc) ?_
 refine eV 1 42 (.slice A us.length capA) ?_
 refine eV 2 43 (.int .i64 (i:Nat)) ?_
 refine eX 3 44 A us.length capA 1 (i:Nat) i ((hs.f.2.2.2.2.2.2.2.2.2.1).ok oM) ?_
 obtain ⟨Arx,crx,trx,erx,hcrx,hRrx,hTrx⟩:=matf_at (hs.f.2.2.2.2.2.2.2.2.1) (k:=i) oM
 have hlrx:=hTrx.len
 rw[vec_len] at hlrx
 have hvnx:=vec_len n (f i)
 replace hs:=((hs.a_SlO hRrx).add (K:=fun h_=>RTs h_ trx (vec n (f i))) hTrx)
 refine eHe 4 45 (us.getD i undef) hs ((hs.f.2.2.2.2.2.2.2.2.2.2.2.1).el i oM) erx ?_ (hM:=hs.ro_jk 0 (ty:=74) (sz:=3) (A:=sA) (c:=sc) (m:=(ts).length) (cs:=(ts).flatMap rqc))
 refine eV 5 46 (.slice D vs.length capD) ?_
 refine eV 6 47 (.int .i64 (k:Nat)) ?_
 refine eC 7 48 hs (fun _ _ hs=>rColF D capD vs g_ n hn4 k oM _ _ hs.g (hs.f.2.2.2.2.2.2.2.2.2.1) (hs.f.2.2.2.2.2.2.2.2.1)) ?_
 rintro _ _ _ w27 h28 hs ⟨Ac,ccl,tc,rfl,hccl,hAc,hTc⟩
 replace hs:=((hs.a_SlO hAc).add (K:=fun h_=>RTs h_ tc (vec n (fun j=>g_ j k))) hTc)
 refine eC 8 49 hs (fun _ _ hs=>rDotV (f i) (fun j=>g_ j k) n Arx crx trx Ac ccl tc 3 3 hn4 kD (fun j _=>hf3 i j) (fun j _=>hg3 j k) _ _ hs.g (hs.f.2.2.2.1) (hs.f.2.2.1) (hs.f.2.1) (hs.f.1)) ?_
 rintro _ _ _ w37 h38 hs ⟨A29,c30,A33,c34,rfl,hc31,hc35,hA32,hA36⟩
 replace hs:=((hs.a_SlO hA32).a_SlO hA36)
 refine eR 9 50 74 1 ([.bool (ineg (dt n (f i) (fun j=>g_ j k)).num),.slice A29 ((lim (iabs (dt n (f i) (fun j=>g_ j k)).num)).length) c30,.slice A33 ((lim (dt n (f i) (fun j=>g_ j k)).den).length) c34]) hs (fun b39 w40 h41 hs=>?_)
 refine eY 10 51 0 74 3 sc sA ts rqc ((ineg (dt n (f i) (fun j=>g_ j k)).num,.slice A29 ((lim (iabs (dt n (f i) (fun j=>g_ j k)).num)).length) c30,.slice A33 ((lim (dt n (f i) (fun j=>g_ j k)).den).length) c34):RT) 56 b39 (.agg #[.bool false,.slice none 0 0,.slice none 0 0]) hs (fun _ f_=>f_.1) (fun b hb=>Option.mem_toList.2 hb) (fun A43 c44 w45 h46 hs=>?_)
 refine eD0 hs (fun w48 h49 hs=>?_)
 refine tV 11 8 (.slice A43 ((ts++[((ineg (dt n (f i) (fun j=>g_ j k)).num,.slice A29 ((lim (iabs (dt n (f i) (fun j=>g_ j k)).num)).length) c30,.slice A33 ((lim (dt n (f i) (fun j=>g_ j k)).den).length) c34):RT)]).length) c44) ?_
 refine tN (CG.listed (lL hs [.m 39 9] (lIn 40 ((k:Nat)+1) (k+1) ?_)))
 refine lL hs [.m 9 40] (lD ?_)
 intro a_ ka
 have q50:RTs h49 (ts++[((ineg (dt n (f i) (fun j=>g_ j k)).num,.slice A29 ((lim (iabs (dt n (f i) (fun j=>g_ j k)).num)).length) c30,.slice A33 ((lim (dt n (f i) (fun j=>g_ j k)).den).length) c34):RT)]) (vec (k+1) (fun k_=>dt n (f i) (fun j=>g_ j k_))):=(vec_step (hs.f.2.2.2.2.2.2.2.2.2.1) (rqOk hc31 hc35 (hs.f.2.2.1) (hs.f.2.1)))
 have q51:(k+1)≤n:=by omega
 replace hs:=(hs.tl.tl.tl.tl.tl.tl.tl.tl.tl.tl.add (K:=fun h_=>RTs h_ (ts++[((ineg (dt n (f i) (fun j=>g_ j k)).num,.slice A29 ((lim (iabs (dt n (f i) (fun j=>g_ j k)).num)).length) c30,.slice A33 ((lim (dt n (f i) (fun j=>g_ j k)).den).length) c34):RT)]) (vec (k+1) (fun k_=>dt n (f i) (fun j=>g_ j k_)))) q50)
 refine ⟨_,_,?_,⟨k+1,A43,c44,ts++[((ineg (dt n (f i) (fun j=>g_ j k)).num,.slice A29 ((lim (iabs (dt n (f i) (fun j=>g_ j k)).num)).length) c30,.slice A33 ((lim (dt n (f i) (fun j=>g_ j k)).den).length) c34):RT)],h49,rfl,rfl,hs.to _ _,q51⟩,ka.to [(0,.slice A us.length capA),(1,.slice D vs.length capD),(4,.slice none 0 0),(5,.int .i64 0),(7,.int .i64 (i:Nat)),(6,.slice smA ((um).length) smc),(9,.int .i64 ((k+1):Nat)),(8,.slice A43 (((ts++[((ineg (dt n (f i) (fun j=>g_ j k)).num,.slice A29 ((lim (iabs (dt n (f i) (fun j=>g_ j k)).num)).length) c30,.slice A33 ((lim (dt n (f i) (fun j=>g_ j k)).den).length) c34):RT)])).length) c44)] kR⟩
 omega
theorem rZeros (n:Nat)(hn4:n≤5)(w:World)(h:Hp)(g:G w h) :
    Calls Tryz.prog 74 #[.int .i64 (n:Nat)] w (Ret w h fun v h1=>∃ b,∃ ts:List RT,v=.slice (some ⟨b,0,none⟩) n n∧h.size≤b∧h1[b]?=some (.cells (ts.flatMap rqc).toArray 74 (0,0))∧ts.length=n∧RTs h1 ts (vec n (fun _=>0))):=by
 have hs:=SS.start g
 refine go Tryz.func74 [(0,.int .i64 (n:Nat))] rfl ?_
 refine cSL (lL hs [.v 2 (.slice none 0 0)] (lNS (lL hs [.m 5 0] (lK 6 74 n 3 56 (.agg #[.bool false,.slice none 0 0,.slice none 0 0]) rqc ((false,.slice none 0 0,.slice none 0 0):RT) hs (fun b1 w2 h3 hs=>?_)))))
 have hl4:(List.replicate n ((false,.slice none 0 0,.slice none 0 0):RT)).length=n:=by simp
 refine lL hs [.m 3 6] (lN (CG.seq (cSL (lL hs [.v 4 (.int .i64 0)] (lN (CG.block (cTo [(0,.int .i64 (n:Nat)),(2,.slice none 0 0),(3,.slice (some ⟨b1,0,none⟩) n n),(4,.int .i64 0)] ?_)))))))
 replace hs:=hs.add (K:=fun h_=>RQk h_ (List.replicate n ((false,.slice none 0 0,.slice none 0 0):RT)) 0 0) (RQk.nil)
 refine CG.loop (fun μ_ Γ w_=>∃ (k:Nat) (ts:List RT) (h_:Hp),μ_=n-k∧Γ=[(0,.int .i64 (n:Nat)),(2,.slice none 0 0),(3,.slice (some ⟨b1,0,none⟩) n n),(4,.int .i64 (k:Nat))]∧SS w h w_ h_ [⟨b1,74,(ts).flatMap rqc⟩] [] [fun h_=>RQk h_ ts k 0]∧(k≤n)∧(ts.length=n)) _ ⟨0,List.replicate n ((false,.slice none 0 0,.slice none 0 0):RT),h3,rfl,rfl,hs.to _ _,Nat.zero_le _,(by simp)⟩ ?_
 rintro _ _ w5 ⟨k,ts,h6,hm7,rfl,hs,hk,hlt⟩
 refine CG.seq (cSL (lL hs [.m 7 4,.m 8 0] ?_))
 cases hb8:(decide (((k:Nat):Int)<((n:Nat):Int)))
 ·
  have phb8:=oF hb8
  refine lB 9 hb8 ?_
  refine lN (cIF (CG.exit ?_))
  show CG _ _ _ _ _ _ _ _
  refine cSL (lL hs [.m 16 3,.m 2 16] (lN (CG.ret ?_)))
  have hkn:k=n:=by omega
  obtain ⟨h9,hs,sg10,lo11,bc12⟩:=hs.pub 0
  replace hs:=(hs.to [] []).a_SlO (SlO.of_flat (sz:=3) (f:=rqc) (d:=rqd) (b:=b1) (o:=0) (l:=ts) (fun _=>rfl) sg10)
  exact hs.ret [] (.slice (some ⟨b1,0,none⟩) n n) (⟨_,ts,rfl,lo11,bc12,hlt,⟨by rw[vec_len];exact hlt,fun i hi=>by rw[vec_len] at hi;rw[vec_get _ hi];exact (hs.f.2.1) i oM⟩⟩)
 have phb8:=oT hb8
 refine lB 9 hb8 ?_
 refine lN (cIT (CG.skipN (CG.seq (CG.block (CG.listed (lL hs [.m 12 3,.m 13 4] (lC 14 hs (rOf 0 oM oM _ _ hs.g) ?_)))))))
 rintro _ w22 h23 hs ⟨A14,c15,A18,c19,rfl,hc16,hc20,hA17,hA21⟩
 replace hs:=((hs.a_SlO hA17).a_SlO hA21)
 refine lX 15 (some ⟨b1,0,none⟩) n n 3 (k:Nat) k rfl ?_
 refine lW 0 ts rqc 3 k ((ineg ((0:Int):Rat).num,.slice A14 ((lim (iabs ((0:Int):Rat).num)).length) c15,.slice A18 ((lim ((0:Int):Rat).den).length) c19):RT) hs oM (fun w24 hs=>?_)
 have hl25:((ts).set k ((ineg ((0:Int):Rat).num,.slice A14 ((lim (iabs ((0:Int):Rat).num)).length) c15,.slice A18 ((lim ((0:Int):Rat).den).length) c19):RT)).length=n:=by rw[List.length_set];exact hlt
 replace hs:=hs.to [⟨b1,74,((ts).set k ((ineg ((0:Int):Rat).num,.slice A14 ((lim (iabs ((0:Int):Rat).num)).length) c15,.slice A18 ((lim ((0:Int):Rat).den).length) c19):RT)).flatMap rqc⟩] []
 refine lN (CG.listed (lL hs [.m 10 4] (lIn 11 ((k:Nat)+1) (k+1) ?_)))
 refine lL hs [.m 4 11] (lD ?_)
 intro a_ ka
 have q26:RQk h23 ((ts).set k ((ineg ((0:Int):Rat).num,.slice A14 ((lim (iabs ((0:Int):Rat).num)).length) c15,.slice A18 ((lim ((0:Int):Rat).den).length) c19):RT)) (k+1) 0:=(rq_set hlt oM (hs.f.2.2.1) (RQ.eq (rqOk hc16 hc20 (hs.f.2.1) (hs.f.1)) rfl))
 have q27:(k+1)≤n:=by omega
 have q28:((ts).set k ((ineg ((0:Int):Rat).num,.slice A14 ((lim (iabs ((0:Int):Rat).num)).length) c15,.slice A18 ((lim ((0:Int):Rat).den).length) c19):RT)).length=n:=hl25
 replace hs:=(hs.tl.tl.tl.add (K:=fun h_=>RQk h_ ((ts).set k ((ineg ((0:Int):Rat).num,.slice A14 ((lim (iabs ((0:Int):Rat).num)).length) c15,.slice A18 ((lim ((0:Int):Rat).den).length) c19):RT)) (k+1) 0) q26)
 refine ⟨_,_,?_,⟨k+1,(ts).set k ((ineg ((0:Int):Rat).num,.slice A14 ((lim (iabs ((0:Int):Rat).num)).length) c15,.slice A18 ((lim ((0:Int):Rat).den).length) c19):RT),h23,rfl,rfl,hs.to _ _,q27,q28⟩,ka.to [(0,.int .i64 (n:Nat)),(2,.slice none 0 0),(3,.slice (some ⟨b1,0,none⟩) n n),(4,.int .i64 ((k+1):Nat))] kR⟩
 omega
theorem rEye (n:Nat)(h0n:0<n)(hn4:n≤5)(w:World)(h:Hp)(g:G w h) :
    Calls Tryz.prog 27 #[.int .i64 (n:Nat)] w (Ret w h fun v h1=>∃ A c us,v=.slice A (us:List Value).length c∧us.length≤c∧SlO 1 vc undef h1 A us∧RVs h1 us (matf n eyef)):=by
 have hs:=SS.start g
 refine go Tryz.func27 [(0,.int .i64 (n:Nat))] rfl ?_
 refine cSL (lL hs [.v 2 (.slice none 0 0)] (lN (CG.seq (cSL (lL hs [.m 6 0] ?_)))))
 have ⟨hb1,phb1⟩:=dF (p:=((n:Nat):Int)<(1:Int)) oM
 refine lB 7 hb1 ?_
 refine lL hs [.m 8 7,.m 9 0] ?_
 have ⟨hb2,phb2⟩:=dF (p:=(300:Int)<((n:Nat):Int)) oM
 refine lB 10 hb2 ?_
 refine lL hs [.v 11 (.bool false)] (lN (cIF (CG.skipN (cSL (lL hs [.v 3 (.slice none 0 0)] (lN (CG.seq (cSL (lL hs [.v 4 (.int .i64 0)] (lN (CG.block ?_)))))))))))
 replace hs:=hs.nil 27 1
 refine cTo [(0,.int .i64 (n:Nat)),(2,.slice none 0 0),(4,.int .i64 0),(3,.slice none 0 0)] ?_
 replace hs:=hs.add (K:=fun h_=>RVs h_ ([]) (matp n 0 eyef)) (RVs.nil)
 refine CG.loop (fun μ_ Γ w_=>∃ (k:Nat) (smA:Option Addr) (smc:Nat) (um:List Value) (h_:Hp),μ_=n-k∧Γ=[(0,.int .i64 (n:Nat)),(2,.slice none 0 0),(4,.int .i64 (k:Nat)),(3,.slice smA ((um).length) smc)]∧SS w h w_ h_ [] [⟨27,1,smA,smc,(um).length,(um).flatMap vc⟩] [fun h_=>RVs h_ um (matp n k eyef)]∧(k≤n)) _ ⟨0,none,0,[],h,rfl,rfl,hs.to _ _,Nat.zero_le _⟩ ?_
 rintro _ _ w3 ⟨k,smA,smc,um,h4,hm5,rfl,hs,hk⟩
 have hlum:=(hs.f.1).len
 rw[matp_len] at hlum
 refine CG.seq (cSL (lL hs [.m 12 4,.m 13 0] ?_))
 cases hb6:(decide (((k:Nat):Int)<((n:Nat):Int)))
 ·
  have phb6:=oF hb6
  refine lB 14 hb6 ?_
  refine lN (cIF (CG.exit ?_))
  show CG _ _ _ _ _ _ _ _
  refine cSL (lL hs [.m 27 3,.m 2 27] (lN (CG.ret ?_)))
  have hkn:k=n:=by omega
  obtain ⟨h7,hs,hc8⟩:=hs.pubr 0 (A:=smA) (c:=smc) (l:=um) (f:=vc) (ty:=27) (sz:=1) undef (fun _=>rfl)
  exact hs.ret [] (.slice smA ((um).length) smc) (⟨_,_,um,rfl,hc8,(hs.f.1),(by have q_:=(hs.f.2.1);rw[hkn] at q_;exact q_)⟩)
 have phb6:=oT hb6
 refine lB 14 hb6 ?_
 refine lN (cIT (CG.skipN (CG.seq (CG.block (cSL (lL hs [.m 17 0] (lCu 18 (rZeros n hn4 _ _ hs.g) ?_)))))))
 rintro _ w10 h11 u12 ⟨bz,tz,rfl,hloz,hbcz,hlz,hTz⟩
 obtain ⟨h13,hs,hoz,-⟩:=hs.take u12 hloz hbcz
 have hTy:=RTs.taken hTz hbcz hoz
 replace hs:=hs.to [⟨bz,74,(tz).flatMap rqc⟩] [⟨27,1,smA,smc,(um).length,(um).flatMap vc⟩]
 replace hs:=(hs.add (K:=fun h_=>RTs h_ tz (vec n (fun _=>0))) hTy)
 refine lL hs [.m 5 18] (lNS (lL hs [.m 19 5,.m 20 4] (lC 21 hs (rOf 1 oM oM _ _ hs.g) ?_)))
 rintro _ w22 h23 hs ⟨A14,c15,A18,c19,rfl,hc16,hc20,hA17,hA21⟩
 replace hs:=((hs.a_SlO hA17).a_SlO hA21)
 refine lX 22 (some ⟨bz,0,none⟩) n n 3 (k:Nat) k rfl ?_
 refine lW 0 tz rqc 3 k ((ineg ((1:Int):Rat).num,.slice A14 ((lim (iabs ((1:Int):Rat).num)).length) c15,.slice A18 ((lim ((1:Int):Rat).den).length) c19):RT) hs oM (fun w24 hs=>?_)
 have hl25:((tz).set k ((ineg ((1:Int):Rat).num,.slice A14 ((lim (iabs ((1:Int):Rat).num)).length) c15,.slice A18 ((lim ((1:Int):Rat).den).length) c19):RT)).length=n:=by rw[List.length_set];exact hlz
 replace hs:=hs.to [⟨bz,74,((tz).set k ((ineg ((1:Int):Rat).num,.slice A14 ((lim (iabs ((1:Int):Rat).num)).length) c15,.slice A18 ((lim ((1:Int):Rat).den).length) c19):RT)).flatMap rqc⟩] [⟨27,1,smA,smc,(um).length,(um).flatMap vc⟩]
 refine lN (CG.listed (lL hs [.m 23 3,.m 24 5] ?_))
 obtain ⟨h26,hs,sg27,lo28,bc29⟩:=hs.pub 0
 replace hs:=(hs.to [] [⟨27,1,smA,smc,(um).length,(um).flatMap vc⟩]).a_SlO (SlO.of_flat (sz:=3) (f:=rqc) (d:=rqd) (b:=bz) (o:=0) (l:=(tz).set k ((ineg ((1:Int):Rat).num,.slice A14 ((lim (iabs ((1:Int):Rat).num)).length) c15,.slice A18 ((lim ((1:Int):Rat).den).length) c19):RT)) (fun _=>rfl) sg27)
 replace hs:=hs.a_SlO (hs.f.1)
 refine lR 25 27 1 ([.slice (some ⟨bz,0,none⟩) n n]) hs (fun b31 w32 h33 hs=>?_)
 refine lY 26 0 27 1 smc smA um vc (.slice (some ⟨bz,0,none⟩) n n:Value) 24 b31 (.slice none 0 0) hs (hs.f.1) (fun A35 c36 w37 h38 hs=>?_)
 refine lL hs [.m 3 26] (lN (CG.listed (lL hs [.m 15 4] (lIn 16 ((k:Nat)+1) (k+1) ?_))))
 refine lL hs [.m 4 16] (lD ?_)
 intro a_ ka
 have q40:RVs h38 (um++[(.slice (some ⟨bz,0,none⟩) n n:Value)]) (matp n (k+1) eyef):=(matp_snoc (hs.f.2.2.2.2.2.2.1) ⟨_,n,(tz).set k ((ineg ((1:Int):Rat).num,.slice A14 ((lim (iabs ((1:Int):Rat).num)).length) c15,.slice A18 ((lim ((1:Int):Rat).den).length) c19):RT),sl_len (by rw[List.length_set];exact hlz.symm),(by rw[List.length_set];exact Nat.le_of_eq hlz),(hs.f.2.1),(eye_row (hs.f.2.2.2.2.2.1) oM (rqOk hc16 hc20 (hs.f.2.2.2.2.1) (hs.f.2.2.2.1)))⟩)
 have q41:(k+1)≤n:=by omega
 replace hs:=(hs.tl.tl.tl.tl.tl.tl.tl.add (K:=fun h_=>RVs h_ (um++[(.slice (some ⟨bz,0,none⟩) n n:Value)]) (matp n (k+1) eyef)) q40)
 refine ⟨_,_,?_,⟨k+1,A35,c36,um++[(.slice (some ⟨bz,0,none⟩) n n:Value)],h38,rfl,rfl,hs.to _ _,q41⟩,ka.to [(0,.int .i64 (n:Nat)),(2,.slice none 0 0),(4,.int .i64 ((k+1):Nat)),(3,.slice A35 (((um++[(.slice (some ⟨bz,0,none⟩) n n:Value)])).length) c36)] kR⟩
 omega
theorem rAlike (n:Nat)(h0n:0<n)(hn4:n≤5)(A:Option Addr)(capA:Nat)(us:List Value)(f:Nat→Nat→Rat)(D:Option Addr)(capD:Nat)(vs:List Value)(g_:Nat→Nat→Rat)(w:World)(h:Hp)(g:G w h)(hA:SlO 1 vc undef h A us)(hUf:RVs h us (matf n f))(hD:SlO 1 vc undef h D vs)(hUg_:RVs h vs (matf n g_)) :
    Calls Tryz.prog 72 #[.slice A us.length capA,.slice D vs.length capD] w (Ret w h fun v _=>v=.bool true):=by
 have hs:=SS.start g
 replace hs:=((((hs.a_SlO hA).add (K:=fun h_=>RVs h_ us (matf n f)) hUf).a_SlO hD).add (K:=fun h_=>RVs h_ vs (matf n g_)) hUg_)
 have hlus:=(hs.f.2.2.1).len
 rw[matf_len] at hlus
 have hlmf:=matf_len n f
 have hlvs:=(hs.f.1).len
 rw[matf_len] at hlvs
 have hlmg_:=matf_len n g_
 refine go Tryz.func72 [(0,.slice A us.length capA),(1,.slice D vs.length capD)] rfl ?_
 refine cSL (lL hs [.v 4 (.bool false)] (lN (CG.seq (cR 24 [] mixed hs al_nil ?_))))
 refine eV 0 5 (.slice A us.length capA) ?_
 refine eC 1 6 hs (fun _ _ hs=>rRightF A capA us f n h0n hn4 _ _ hs.g (hs.f.2.2.2.1) (hs.f.2.2.1)) ?_
 rintro _ _ _ w1 h2 hs rfl
 refine eV 2 7 (.bool true) ?_
 refine eV 3 8 (.slice D vs.length capD) ?_
 refine eC 4 9 hs (fun _ _ hs=>rRightF D capD vs g_ n h0n hn4 _ _ hs.g (hs.f.2.1) (hs.f.1)) ?_
 rintro _ _ _ w3 h4 hs rfl
 refine eV 5 10 (.bool true) ?_
 refine eV 6 11 (.bool true) ?_
 refine eV 7 12 (.slice A us.length capA) ?_
 refine eV 8 13 (.int .i64 (us.length:Nat)) ?_
 refine eV 9 14 (.slice D vs.length capD) ?_
 refine eV 10 15 (.int .i64 (vs.length:Nat)) ?_
 have hb5:(((us.length:Nat):Int) == ((vs.length:Nat):Int))=true:=(by simp;omega)
 have phb5:=eq_of_beq hb5
 refine eB 11 16 hb5 ?_
 refine eV 12 17 (.bool true) ?_
 refine eV 13 18 (.bool true) ?_
 refine eV 14 19 (.slice A us.length capA) ?_
 refine eX 15 20 A us.length capA 1 0 0 ((hs.f.2.2.2.1).ok oM) ?_
 obtain ⟨Arv,crv,trv,erv,hcrv,hRrv,hTrv⟩:=matf_at (hs.f.2.2.1) (k:=0) oM
 have hlrv:=hTrv.len
 rw[vec_len] at hlrv
 have hvnv:=vec_len n (f 0)
 replace hs:=((hs.a_SlO hRrv).add (K:=fun h_=>RTs h_ trv (vec n (f 0))) hTrv)
 refine eHe 16 21 (us.getD 0 undef) hs ((hs.f.2.2.2.2.2.1).el 0 oM) erv ?_
 refine eV 17 22 (.int .i64 (trv.length:Nat)) ?_
 refine eV 18 23 (.slice D vs.length capD) ?_
 refine eX 19 24 D vs.length capD 1 0 0 ((hs.f.2.2.2.1).ok oM) ?_
 obtain ⟨Arz,crz,trz,erz,hcrz,hRrz,hTrz⟩:=matf_at (hs.f.2.2.1) (k:=0) oM
 have hlrz:=hTrz.len
 rw[vec_len] at hlrz
 have hvnz:=vec_len n (g_ 0)
 replace hs:=((hs.a_SlO hRrz).add (K:=fun h_=>RTs h_ trz (vec n (g_ 0))) hTrz)
 refine eHe 20 25 (vs.getD 0 undef) hs ((hs.f.2.2.2.2.2.1).el 0 oM) erz ?_
 refine eV 21 26 (.int .i64 (trz.length:Nat)) ?_
 have hb6:(((trv.length:Nat):Int) == ((trz.length:Nat):Int))=true:=(by simp;omega)
 have phb6:=eq_of_beq hb6
 refine eB 22 27 hb6 ?_
 refine eV 23 28 (.bool true) ?_
 refine eD0 hs (fun w7 h8 hs=>?_)
 refine tV 24 4 (.bool true) ?_
 exact tN (CG.ret (hs.ret [] (.bool true) rfl))
theorem rMix (n:Nat)(h0n:0<n)(hn4:n≤5)(A:Option Addr)(capA:Nat)(us:List Value)(f:Nat→Nat→Rat)(D:Option Addr)(capD:Nat)(vs:List Value)(g_:Nat→Nat→Rat)(q:Rat)(A1:Option Addr)(c1:Nat)(D1:Option Addr)(d1:Nat)(hc1:(lim (iabs q.num)).length≤c1)(hd1:(lim q.den).length≤d1)(hf3:∀ i j,LQ 3 (f i j))(hg3:∀ i j,LQ 3 (g_ i j))(hq1:LQ 1 q)(w:World)(h:Hp)(g:G w h)(hA:SlO 1 vc undef h A us)(hUf:RVs h us (matf n f))(hD:SlO 1 vc undef h D vs)(hUg_:RVs h vs (matf n g_))(hA1:SlO 1 u32c 0 h A1 (lim (iabs q.num)))(hD1:SlO 1 u32c 0 h D1 (lim q.den)) :
    Calls Tryz.prog 73 #[.slice A us.length capA,.slice D vs.length capD,.agg #[.bool (ineg q.num),.slice A1 ((lim (iabs q.num)).length) c1,.slice D1 ((lim q.den).length) d1]] w (Ret w h fun v h1=>∃ A c us,v=.slice A (us:List Value).length c∧us.length≤c∧SlO 1 vc undef h1 A us∧RVs h1 us (matf n (fun i_ j_=>f i_ j_+q*g_ i_ j_))):=by
 have hs:=SS.start g
 replace hs:=((((((hs.a_SlO hA).add (K:=fun h_=>RVs h_ us (matf n f)) hUf).a_SlO hD).add (K:=fun h_=>RVs h_ vs (matf n g_)) hUg_).a_SlO hA1).a_SlO hD1)
 have hlus:=(hs.f.2.2.2.2.1).len
 rw[matf_len] at hlus
 have hlmf:=matf_len n f
 have hlvs:=(hs.f.2.2.1).len
 rw[matf_len] at hlvs
 have hlmg_:=matf_len n g_
 refine go Tryz.func73 [(0,.slice A us.length capA),(1,.slice D vs.length capD),(2,.agg #[.bool (ineg q.num),.slice A1 ((lim (iabs q.num)).length) c1,.slice D1 ((lim q.den).length) d1])] rfl ?_
 refine cSL (lA 5 74 ([.bool (ineg q.num),.slice A1 ((lim (iabs q.num)).length) c1,.slice D1 ((lim q.den).length) d1]) hs (fun b1 w2 h3 hs=>?_))
 refine lL hs [.v 6 (.slice none 0 0)] (lNS (lL hs [.v 7 (.slice none 0 0)] (lN (CG.seq (cSL (lL hs [.v 8 (.int .i64 0)] (lN (CG.block ?_))))))))
 replace hs:=hs.nil 27 1
 refine cTo [(0,.slice A us.length capA),(1,.slice D vs.length capD),(5,.pointer (some ⟨b1,0,none⟩)),(6,.slice none 0 0),(8,.int .i64 0),(7,.slice none 0 0)] ?_
 replace hs:=hs.add (K:=fun h_=>RVs h_ ([]) (matp n 0 (fun i_ j_=>f i_ j_+q*g_ i_ j_))) (RVs.nil)
 refine CG.loop (fun μ_ Γ w_=>∃ (i:Nat) (smA:Option Addr) (smc:Nat) (um:List Value) (h_:Hp),μ_=n-i∧Γ=[(0,.slice A us.length capA),(1,.slice D vs.length capD),(5,.pointer (some ⟨b1,0,none⟩)),(6,.slice none 0 0),(8,.int .i64 (i:Nat)),(7,.slice smA ((um).length) smc)]∧SS w h w_ h_ [⟨b1,74,[.bool (ineg q.num),.slice A1 ((lim (iabs q.num)).length) c1,.slice D1 ((lim q.den).length) d1]⟩] [⟨27,1,smA,smc,(um).length,(um).flatMap vc⟩] [fun h_=>RVs h_ um (matp n i (fun i_ j_=>f i_ j_+q*g_ i_ j_)),fun h_=>SlO 1 u32c 0 h_ D1 (lim q.den),fun h_=>SlO 1 u32c 0 h_ A1 (lim (iabs q.num)),fun h_=>RVs h_ vs (matf n g_),fun h_=>SlO 1 vc undef h_ D vs,fun h_=>RVs h_ us (matf n f),fun h_=>SlO 1 vc undef h_ A us]∧(i≤n)) _ ⟨0,none,0,[],h3,rfl,rfl,hs.to _ _,Nat.zero_le _⟩ ?_
 rintro _ _ w4 ⟨i,smA,smc,um,h5,hm6,rfl,hs,hi⟩
 have hlum:=(hs.f.1).len
 rw[matp_len] at hlum
 refine CG.seq (cSL (lL hs [.m 11 8,.m 12 0,.v 13 (.int .i64 (us.length:Nat))] ?_))
 cases hb7:(decide (((i:Nat):Int)<((us.length:Nat):Int)))
 ·
  have phb7:=oF hb7
  refine lB 14 hb7 ?_
  refine lN (cIF (CG.exit ?_))
  show CG _ _ _ _ _ _ _ _
  refine cSL (lL hs [.m 50 7,.m 6 50] (lN (CG.ret ?_)))
  obtain ⟨h8,hs,hc9⟩:=hs.pubr 0 (A:=smA) (c:=smc) (l:=um) (f:=vc) (ty:=27) (sz:=1) undef (fun _=>rfl)
  exact hs.ret [] (.slice smA ((um).length) smc) (⟨_,_,um,rfl,hc9,(hs.f.1),(by have q_:=(hs.f.2.1);rw[show i=n by omega] at q_;exact q_)⟩)
 have phb7:=oT hb7
 refine lB 14 hb7 ?_
 refine lN (cIT (CG.skipN (CG.seq (CG.block (cSL (lL hs [.v 9 (.slice none 0 0)] (lN (CG.seq (cSL (lL hs [.v 10 (.int .i64 0)] (lN (CG.block ?_))))))))))))
 replace hs:=hs.nil 74 3
 refine cTo [(0,.slice A us.length capA),(1,.slice D vs.length capD),(5,.pointer (some ⟨b1,0,none⟩)),(6,.slice none 0 0),(8,.int .i64 (i:Nat)),(7,.slice smA ((um).length) smc),(10,.int .i64 0),(9,.slice none 0 0)] ?_
 replace hs:=hs.add (K:=fun h_=>RTs h_ ([]) (vec 0 (fun j=>f i j+q*g_ i j))) (RTs.nil)
 refine CG.loop (fun μ_ Γ w_=>∃ (k:Nat) (sA:Option Addr) (sc:Nat) (ts:List RT) (h_:Hp),μ_=n-k∧Γ=[(0,.slice A us.length capA),(1,.slice D vs.length capD),(5,.pointer (some ⟨b1,0,none⟩)),(6,.slice none 0 0),(8,.int .i64 (i:Nat)),(7,.slice smA ((um).length) smc),(10,.int .i64 (k:Nat)),(9,.slice sA ((ts).length) sc)]∧SS w h w_ h_ [⟨b1,74,[.bool (ineg q.num),.slice A1 ((lim (iabs q.num)).length) c1,.slice D1 ((lim q.den).length) d1]⟩] [⟨74,3,sA,sc,(ts).length,(ts).flatMap rqc⟩,⟨27,1,smA,smc,(um).length,(um).flatMap vc⟩] [fun h_=>RTs h_ ts (vec k (fun j=>f i j+q*g_ i j)),fun h_=>RVs h_ um (matp n i (fun i_ j_=>f i_ j_+q*g_ i_ j_)),fun h_=>SlO 1 u32c 0 h_ D1 (lim q.den),fun h_=>SlO 1 u32c 0 h_ A1 (lim (iabs q.num)),fun h_=>RVs h_ vs (matf n g_),fun h_=>SlO 1 vc undef h_ D vs,fun h_=>RVs h_ us (matf n f),fun h_=>SlO 1 vc undef h_ A us]∧(k≤n)) _ ⟨0,none,0,[],h5,rfl,rfl,hs.to _ _,Nat.zero_le _⟩ ?_
 rintro _ _ w11 ⟨k,sA,sc,ts,h12,hm13,rfl,hs,hk⟩
 have hlT:=(hs.f.1).len
 rw[vec_len] at hlT
 refine CG.seq (cSL (lL hs [.m 17 10,.m 18 0,.m 19 8] (lX 20 A us.length capA 1 (i:Nat) i ((hs.f.2.2.2.2.2.2.2.1).ok oM) ?_)))
 obtain ⟨Arz,crz,trz,erz,hcrz,hRrz,hTrz⟩:=matf_at (hs.f.2.2.2.2.2.2.1) (k:=i) oM
 have hlrz:=hTrz.len
 rw[vec_len] at hlrz
 have hvnz:=vec_len n (f i)
 replace hs:=((hs.a_SlO hRrz).add (K:=fun h_=>RTs h_ trz (vec n (f i))) hTrz)
 refine lHe 21 (us.getD i undef) hs ((hs.f.2.2.2.2.2.2.2.2.2.1).el i oM) erz ?_
 refine lL hs [.v 22 (.int .i64 (trz.length:Nat))] ?_
 cases hb14:(decide (((k:Nat):Int)<((trz.length:Nat):Int)))
 ·
  have phb14:=oF hb14
  refine lB 23 hb14 ?_
  refine lN (cIF (CG.exit ?_))
  show CG _ _ _ _ _ _ _ _
  refine CG.listed (lL hs [.m 46 7,.m 47 9] ?_)
  obtain ⟨h15,hs,hc16⟩:=hs.pubr 0 (A:=sA) (c:=sc) (l:=ts) (f:=rqc) (ty:=74) (sz:=3) rqd (fun _=>rfl)
  refine lR 48 27 1 ([.slice sA ((ts).length) sc]) hs (fun b18 w19 h20 hs=>?_)
  refine lY 49 0 27 1 smc smA um vc (.slice sA ((ts).length) sc:Value) 24 b18 (.slice none 0 0) hs (hs.f.1) (fun A22 c23 w24 h25 hs=>?_)
  refine lL hs [.m 7 49] (lN (CG.listed (lL hs [.m 15 8] (lIn 16 ((i:Nat)+1) (i+1) ?_))))
  refine lL hs [.m 8 16] (lD ?_)
  intro a_ ka
  have q27:RVs h25 (um++[(.slice sA ((ts).length) sc:Value)]) (matp n (i+1) (fun i_ j_=>f i_ j_+q*g_ i_ j_)):=(matp_snoc (hs.f.2.2.2.2.2.1) ⟨_,_,ts,rfl,hc16,(hs.f.2.1),(by have q_:=(hs.f.2.2.2.2.1);rw[show k=n by omega] at q_;exact q_)⟩)
  have q28:(i+1)≤n:=by omega
  replace hs:=(hs.tl.tl.tl.tl.tl.tl.add (K:=fun h_=>RVs h_ (um++[(.slice sA ((ts).length) sc:Value)]) (matp n (i+1) (fun i_ j_=>f i_ j_+q*g_ i_ j_))) q27)
  refine ⟨_,_,?_,⟨i+1,A22,c23,um++[(.slice sA ((ts).length) sc:Value)],h25,rfl,rfl,hs.to _ _,q28⟩,ka.to [(0,.slice A us.length capA),(1,.slice D vs.length capD),(5,.pointer (some ⟨b1,0,none⟩)),(6,.slice none 0 0),(8,.int .i64 ((i+1):Nat)),(7,.slice A22 (((um++[(.slice sA ((ts).length) sc:Value)])).length) c23)] kR⟩
  omega
 have phb14:=oT hb14
 refine lB 23 hb14 ?_
 refine lN (cIT (CG.skipN (CG.seq (CG.block (CG.region ⟨((Value.slice sA ((ts).length) sc).ownBlock.toList),none⟩ 20 [] mixed kR hs.g al_nil (hs.ro_lt 0 (ty:=74) (sz:=3) (A:=sA) (c:=sc) (m:=(ts).length) (cs:=(ts).flatMap rqc)) ?_)))))
 refine eV 0 26 (.slice sA ((ts).length) sc) ?_
 refine eV 1 27 (.slice A us.length capA) ?_
 refine eV 2 28 (.int .i64 (i:Nat)) ?_
 refine eX 3 29 A us.length capA 1 (i:Nat) i ((hs.f.2.2.2.2.2.2.2.2.2.1).ok oM) ?_
 obtain ⟨Arx,crx,trx,erx,hcrx,hRrx,hTrx⟩:=matf_at (hs.f.2.2.2.2.2.2.2.2.1) (k:=i) oM
 have hlrx:=hTrx.len
 rw[vec_len] at hlrx
 have hvnx:=vec_len n (f i)
 replace hs:=((hs.a_SlO hRrx).add (K:=fun h_=>RTs h_ trx (vec n (f i))) hTrx)
 refine eHe 4 30 (us.getD i undef) hs ((hs.f.2.2.2.2.2.2.2.2.2.2.2.1).el i oM) erx ?_ (hM:=hs.ro_jk 0 (ty:=74) (sz:=3) (A:=sA) (c:=sc) (m:=(ts).length) (cs:=(ts).flatMap rqc))
 refine eV 5 31 (.int .i64 (k:Nat)) ?_
 refine eX 6 32 Arx trx.length crx 3 (k:Nat) k ((hs.f.2.1).ok oM) ?_
 obtain ⟨Axe,cxe,Dxe,dxe,exe,hcxe,hdxe,hAxe,hDxe⟩:=(hs.f.1).at_ k oM
 replace hs:=((hs.a_SlO hAxe).a_SlO hDxe)
 refine eHe 7 33 (.agg #[.bool ((trx.getD k rqd).1),(trx.getD k rqd).2.1,(trx.getD k rqd).2.2]) hs ((hs.f.2.2.2.1).el k oM) exe ?_ (hM:=hs.ro_jk 0 (ty:=74) (sz:=3) (A:=sA) (c:=sc) (m:=(ts).length) (cs:=(ts).flatMap rqc))
 refine eO 8 34 [(0,0,3)] (.agg #[.bool (ineg q.num),.slice A1 ((lim (iabs q.num)).length) c1,.slice D1 ((lim q.den).length) d1]) hs ?_ (hM:=fun p hp=>by obtain rfl:=List.mem_singleton.1 hp;exact hs.ro_ne 0 0 (ty:=74) (sz:=3) (A:=sA) (c:=sc) (m:=(ts).length) (cs:=(ts).flatMap rqc))
 refine eV 9 35 (.slice D vs.length capD) ?_
 refine eV 10 36 (.int .i64 (i:Nat)) ?_
 refine eX 11 37 D vs.length capD 1 (i:Nat) i ((hs.f.2.2.2.2.2.2.2.2.2.2.2.1).ok oM) ?_
 obtain ⟨Arv,crv,trv,erv,hcrv,hRrv,hTrv⟩:=matf_at (hs.f.2.2.2.2.2.2.2.2.2.2.1) (k:=i) oM
 have hlrv:=hTrv.len
 rw[vec_len] at hlrv
 have hvnv:=vec_len n (g_ i)
 replace hs:=((hs.a_SlO hRrv).add (K:=fun h_=>RTs h_ trv (vec n (g_ i))) hTrv)
 refine eHe 12 38 (vs.getD i undef) hs ((hs.f.2.2.2.2.2.2.2.2.2.2.2.2.2.1).el i oM) erv ?_ (hM:=hs.ro_jk 0 (ty:=74) (sz:=3) (A:=sA) (c:=sc) (m:=(ts).length) (cs:=(ts).flatMap rqc))
 refine eV 13 39 (.int .i64 (k:Nat)) ?_
 refine eX 14 40 Arv trv.length crv 3 (k:Nat) k ((hs.f.2.1).ok oM) ?_
 obtain ⟨Ave,cve,Dve,dve,eve,hcve,hdve,hAve,hDve⟩:=(hs.f.1).at_ k oM
 replace hs:=((hs.a_SlO hAve).a_SlO hDve)
 refine eHe 15 41 (.agg #[.bool ((trv.getD k rqd).1),(trv.getD k rqd).2.1,(trv.getD k rqd).2.2]) hs ((hs.f.2.2.2.1).el k oM) eve ?_ (hM:=hs.ro_jk 0 (ty:=74) (sz:=3) (A:=sA) (c:=sc) (m:=(ts).length) (cs:=(ts).flatMap rqc))
 have hq29:=LQ.mul hq1 (show LQ 3 ((vec n (g_ i)).getD k 0) from by rw[vec_get (g_ i) oM];exact hg3 i k)
 refine eC 16 42 hs (fun _ _ hs=>rMul q A1 c1 D1 d1 hc1 hd1 (LQ.ln (LQ.mono hq1 oM)) (LQ.ld (LQ.mono hq1 oM)) ((vec n (g_ i)).getD k 0) Ave cve Dve dve hcve hdve (LQ.ln (LQ.mono (show LQ 3 ((vec n (g_ i)).getD k 0) from by rw[vec_get (g_ i) oM];exact hg3 i k) oM)) (LQ.ld (LQ.mono (show LQ 3 ((vec n (g_ i)).getD k 0) from by rw[vec_get (g_ i) oM];exact hg3 i k) oM)) _ _ hs.g (hs.f.2.2.2.2.2.2.2.2.2.2.2.2.2.1) (hs.f.2.2.2.2.2.2.2.2.2.2.2.2.1) (hs.f.2.1) (hs.f.1)) ?_
 rintro _ _ _ w38 h39 hs ⟨A30,c31,A34,c35,rfl,hc32,hc36,hA33,hA37⟩
 replace hs:=((hs.a_SlO hA33).a_SlO hA37)
 have hq40:=LQ.add (show LQ 3 ((vec n (f i)).getD k 0) from by rw[vec_get (f i) oM];exact hf3 i k) hq29
 refine eC 17 43 hs (fun _ _ hs=>rAdd ((vec n (f i)).getD k 0) Axe cxe Dxe dxe hcxe hdxe (LQ.ln (LQ.mono (show LQ 3 ((vec n (f i)).getD k 0) from by rw[vec_get (f i) oM];exact hf3 i k) oM)) (LQ.ld (LQ.mono (show LQ 3 ((vec n (f i)).getD k 0) from by rw[vec_get (f i) oM];exact hf3 i k) oM)) (q*((vec n (g_ i)).getD k 0)) A30 c31 A34 c35 hc32 hc36 (LQ.ln (LQ.mono hq29 oM)) (LQ.ld (LQ.mono hq29 oM)) _ _ hs.g (hs.f.2.2.2.2.2.2.2.1) (hs.f.2.2.2.2.2.2.1) (hs.f.2.1) (hs.f.1)) ?_
 rintro _ _ _ w49 h50 hs ⟨A41,c42,A45,c46,rfl,hc43,hc47,hA44,hA48⟩
 replace hs:=((hs.a_SlO hA44).a_SlO hA48)
 refine eR 18 44 74 1 ([.bool (ineg (((vec n (f i)).getD k 0)+(q*((vec n (g_ i)).getD k 0))).num),.slice A41 ((lim (iabs (((vec n (f i)).getD k 0)+(q*((vec n (g_ i)).getD k 0))).num)).length) c42,.slice A45 ((lim (((vec n (f i)).getD k 0)+(q*((vec n (g_ i)).getD k 0))).den).length) c46]) hs (fun b51 w52 h53 hs=>?_)
 refine eY 19 45 0 74 3 sc sA ts rqc ((ineg (((vec n (f i)).getD k 0)+(q*((vec n (g_ i)).getD k 0))).num,.slice A41 ((lim (iabs (((vec n (f i)).getD k 0)+(q*((vec n (g_ i)).getD k 0))).num)).length) c42,.slice A45 ((lim (((vec n (f i)).getD k 0)+(q*((vec n (g_ i)).getD k 0))).den).length) c46):RT) 56 b51 (.agg #[.bool false,.slice none 0 0,.slice none 0 0]) hs (fun _ f_=>f_.1) (fun b hb=>Option.mem_toList.2 hb) (fun A55 c56 w57 h58 hs=>?_)
 refine eD0 hs (fun w60 h61 hs=>?_)
 refine tV 20 9 (.slice A55 ((ts++[((ineg (((vec n (f i)).getD k 0)+(q*((vec n (g_ i)).getD k 0))).num,.slice A41 ((lim (iabs (((vec n (f i)).getD k 0)+(q*((vec n (g_ i)).getD k 0))).num)).length) c42,.slice A45 ((lim (((vec n (f i)).getD k 0)+(q*((vec n (g_ i)).getD k 0))).den).length) c46):RT)]).length) c56) ?_
 refine tN (CG.listed (lL hs [.m 24 10] (lIn 25 ((k:Nat)+1) (k+1) ?_)))
 refine lL hs [.m 10 25] (lD ?_)
 intro a_ ka
 have q62:RTs h61 (ts++[((ineg (((vec n (f i)).getD k 0)+(q*((vec n (g_ i)).getD k 0))).num,.slice A41 ((lim (iabs (((vec n (f i)).getD k 0)+(q*((vec n (g_ i)).getD k 0))).num)).length) c42,.slice A45 ((lim (((vec n (f i)).getD k 0)+(q*((vec n (g_ i)).getD k 0))).den).length) c46):RT)]) (vec (k+1) (fun j=>f i j+q*g_ i j)):=(vec_step (hs.f.2.2.2.2.2.2.2.2.2.2.2.2.2.2.2.1) (RQ.eq (rqOk hc43 hc47 (hs.f.2.2.1) (hs.f.2.1)) (by rw[vec_get (f i) oM,vec_get (g_ i) oM])))
 have q63:(k+1)≤n:=by omega
 replace hs:=(hs.tl.tl.tl.tl.tl.tl.tl.tl.tl.tl.tl.tl.tl.tl.tl.tl.add (K:=fun h_=>RTs h_ (ts++[((ineg (((vec n (f i)).getD k 0)+(q*((vec n (g_ i)).getD k 0))).num,.slice A41 ((lim (iabs (((vec n (f i)).getD k 0)+(q*((vec n (g_ i)).getD k 0))).num)).length) c42,.slice A45 ((lim (((vec n (f i)).getD k 0)+(q*((vec n (g_ i)).getD k 0))).den).length) c46):RT)]) (vec (k+1) (fun j=>f i j+q*g_ i j))) q62)
 refine ⟨_,_,?_,⟨k+1,A55,c56,ts++[((ineg (((vec n (f i)).getD k 0)+(q*((vec n (g_ i)).getD k 0))).num,.slice A41 ((lim (iabs (((vec n (f i)).getD k 0)+(q*((vec n (g_ i)).getD k 0))).num)).length) c42,.slice A45 ((lim (((vec n (f i)).getD k 0)+(q*((vec n (g_ i)).getD k 0))).den).length) c46):RT)],h61,rfl,rfl,hs.to _ _,q63⟩,ka.to [(0,.slice A us.length capA),(1,.slice D vs.length capD),(5,.pointer (some ⟨b1,0,none⟩)),(6,.slice none 0 0),(8,.int .i64 (i:Nat)),(7,.slice smA ((um).length) smc),(10,.int .i64 ((k+1):Nat)),(9,.slice A55 (((ts++[((ineg (((vec n (f i)).getD k 0)+(q*((vec n (g_ i)).getD k 0))).num,.slice A41 ((lim (iabs (((vec n (f i)).getD k 0)+(q*((vec n (g_ i)).getD k 0))).num)).length) c42,.slice A45 ((lim (((vec n (f i)).getD k 0)+(q*((vec n (g_ i)).getD k 0))).den).length) c46):RT)])).length) c56)] kR⟩
 omega
theorem rAddF (n:Nat)(h0n:0<n)(hn4:n≤5)(A:Option Addr)(capA:Nat)(us:List Value)(f:Nat→Nat→Rat)(D:Option Addr)(capD:Nat)(vs:List Value)(g_:Nat→Nat→Rat)(hf3:∀ i j,LQ 3 (f i j))(hg3:∀ i j,LQ 3 (g_ i j))(w:World)(h:Hp)(g:G w h)(hA:SlO 1 vc undef h A us)(hUf:RVs h us (matf n f))(hD:SlO 1 vc undef h D vs)(hUg_:RVs h vs (matf n g_)) :
    Calls Tryz.prog 26 #[.slice A us.length capA,.slice D vs.length capD] w (Ret w h fun v h1=>∃ A c us,v=.tuple #[.slice A (us:List Value).length c,.int .i64 0]∧us.length≤c∧SlO 1 vc undef h1 A us∧RVs h1 us (matf n (fun i j=>f i j+g_ i j))):=by
 have hs:=SS.start g
 replace hs:=((((hs.a_SlO hA).add (K:=fun h_=>RVs h_ us (matf n f)) hUf).a_SlO hD).add (K:=fun h_=>RVs h_ vs (matf n g_)) hUg_)
 refine go Tryz.func26 [(0,.slice A us.length capA),(1,.slice D vs.length capD)] rfl ?_
 refine cSL (lL hs [.v 4 (.slice none 0 0),.v 5 (.int .i64 0)] (lN (CG.seq (cSL (lL hs [.m 6 0,.m 7 1] (lC 8 hs (rAlike n h0n hn4 A capA us f D capD vs g_ _ _ hs.g (hs.f.2.2.2.1) (hs.f.2.2.1) (hs.f.2.1) (hs.f.1)) ?_))))))
 rintro _ w1 h2 hs rfl
 refine lL hs [.v 9 (.bool false)] (lN (cIF (CG.skipN (cSL (lL hs [.m 10 0,.m 11 1] (lC 12 hs (rOf 1 oM oM _ _ hs.g) ?_))))))
 rintro _ w11 h12 hs ⟨A3,c4,A7,c8,rfl,hc5,hc9,hA6,hA10⟩
 replace hs:=((hs.a_SlO hA6).a_SlO hA10)
 refine lC 13 hs (rMix n h0n hn4 A capA us f D capD vs g_ ((1:Int):Rat) A3 c4 A7 c8 hc5 hc9 hf3 hg3 (LQ.lit (z:=1) kD) _ _ hs.g (hs.f.2.2.2.2.2.1) (hs.f.2.2.2.2.1) (hs.f.2.2.2.1) (hs.f.2.2.1) (hs.f.2.1) (hs.f.1)) ?_
 rintro _ w13 h14 hs ⟨Am,cm,um,rfl,hcm,hAm,hUm⟩
 replace hs:=((hs.a_SlO hAm).add (K:=fun h_=>RVs h_ um (matf n (fun i j=>f i j+((1:Int):Rat)*g_ i j))) hUm)
 exact lL hs [.m 4 13,.v 5 (.int .i64 0)] (lN (CG.ret (hs.ret [] (.tuple #[.slice Am um.length cm,.int .i64 0]) (⟨_,_,um,rfl,hcm,(hs.f.2.1),(by have q_:=(hs.f.1);rw[matf_congr (g:=(fun i j=>f i j+g_ i j)) (fun i _ j _=>by rw[show ((1:Int):Rat)=1 from rfl,Rat.one_mul])] at q_;exact q_)⟩))))
def RR1 (n:Nat)(s:Cst)(h:Hp)(t:TV):Prop:=(∃ A c,∃ ts:List RT,t.1=.slice A ts.length c∧SlO 3 rqc rqd h A ts∧RTs h ts (vec n s.x))∧(∃ A c,∃ ts:List RT,t.2.1=.slice A ts.length c∧SlO 3 rqc rqd h A ts∧RTs h ts (vec n s.r))∧∃ A c,∃ ts:List RT,t.2.2=.slice A ts.length c∧SlO 3 rqc rqd h A ts∧RTs h ts (vec n s.w)
theorem RR1.gw {n:Nat}{s:Cst}{h h':Hp}{t:TV}(x:RR1 n s h t)(u:Gw h h'):RR1 n s h' t:=by
  obtain ⟨⟨A,c,t1,e,p,p'⟩,⟨B,d,t2,f,q,q'⟩,C,g,t3,i,r,r'⟩:=x
  exact ⟨⟨A,c,t1,e,p.gw u,p'.gw u⟩,⟨B,d,t2,f,q.gw u,q'.gw u⟩,C,g,t3,i,r.gw u,r'.gw u⟩
structure CRr (n:Nat) (A:Nat→Nat→Rat) (b x:Nat→Rat) (h:Hp) (al:List TV):Prop where
  at_:∀ i,i<al.length→RR1 n (cg n A b x i) h (al.getD i tv0)
theorem CRr.gw {n:Nat}{A:Nat→Nat→Rat}{b x:Nat→Rat}{h h':Hp}{al:List TV}(y:CRr n A b x h al)(u:Gw h h'):CRr n A b x h' al:=⟨fun i hi=>(y.at_ i hi).gw u⟩
theorem CRr.nil {n:Nat}{A:Nat→Nat→Rat}{b x:Nat→Rat}{h:Hp}:CRr n A b x h []:=⟨fun i hi=>absurd hi (Nat.not_lt_zero i)⟩
theorem CRr.snoc {n:Nat}{A:Nat→Nat→Rat}{b x:Nat→Rat}{h:Hp}{al:List TV}{t:TV}(y:CRr n A b x h al)(z:RR1 n (cg n A b x al.length) h t):CRr n A b x h (al++[t]):=⟨fun i hi=>by
  rw[List.length_append,List.length_singleton] at hi
  rw[getD_snoc]
  by_cases e:i<al.length
  · rw[if_pos e];exact y.at_ i e
  · rw[if_neg e,if_pos oM,show i=al.length by omega];exact z⟩
theorem rSquareT (A:Option Addr)(cap:Nat)(us:List Value)(W:List (List Rat))(hl:W.length≤1000)(hls:∀ i,i<W.length→(W.getD i []).length≤1000)(hS:SqP W)(w:World)(h:Hp)(g:G w h)(hA:SlO 1 vc undef h A us)(hU:RVs h us W):Calls Tryz.prog 37 #[.slice A us.length cap] w (Ret w h fun v _=>v=.bool true):=by
  have x:=rSquare A cap us W hl hls w h g hA hU
  rw[sq_t hS] at x
  exact x
theorem rSymT (A:Option Addr)(cap:Nat)(us:List Value)(W:List (List Rat))(hl:W.length≤1000)(hls:∀ i,i<W.length→(W.getD i []).length≤1000)(hq:∀ i j,LQ 100000000 ((W.getD i []).getD j 0))(hS:SymP W)(w:World)(h:Hp)(g:G w h)(hA:SlO 1 vc undef h A us)(hU:RVs h us W):Calls Tryz.prog 38 #[.slice A us.length cap] w (Ret w h fun v _=>v=.bool true):=by
  have x:=rSym A cap us W hl hls hq w h g hA hU
  rw[sym_t hS] at x
  exact x
theorem rLessTo (x y z:Nat→Rat)(n:Nat)(hn4:n≤5)(X:Option Addr)(cX:Nat)(tx:List RT)(Y:Option Addr)(cY:Nat)(ty:List RT)(q:Rat)(A1:Option Addr)(c1:Nat)(D1:Option Addr)(d1:Nat)(hc1:(lim (iabs q.num)).length≤c1)(hd1:(lim q.den).length≤d1)(K1 K2 K3:Nat)(hK1:∀ i,i<n→LQ K1 (x i))(hK2:∀ i,i<n→LQ K2 (y i))(hK3:LQ K3 q)(hKb:K1+K2+K3+1≤100000000)(hz:∀ i,i<n→x i-q*y i=z i)(w:World)(h:Hp)(g:G w h)(hX:SlO 3 rqc rqd h X tx)(hTX:RTs h tx (vec n x))(hY:SlO 3 rqc rqd h Y ty)(hTY:RTs h ty (vec n y))(hA1:SlO 1 u32c 0 h A1 (lim (iabs q.num)))(hD1:SlO 1 u32c 0 h D1 (lim q.den)) :
    Calls Tryz.prog 39 #[.slice X tx.length cX,.slice Y ty.length cY,.agg #[.bool (ineg q.num),.slice A1 ((lim (iabs q.num)).length) c1,.slice D1 ((lim q.den).length) d1]] w (Ret w h fun v h1=>∃ A c ts,v=.slice A (ts:List RT).length c∧ts.length≤c∧SlO 3 rqc rqd h1 A ts∧RTs h1 ts (vec n z)):=by
  have x_:=rLess x y n hn4 X cX tx Y cY ty q A1 c1 D1 d1 hc1 hd1 K1 K2 K3 hK1 hK2 hK3 hKb w h g hX hTX hY hTY hA1 hD1
  rw[vec_congr hz] at x_
  exact x_
section
variable {n:Nat} {A:Nat→Nat→Rat} {b x:Nat→Rat} {t:Nat}
theorem cg_r0 (i:Nat):b i-((1:Int):Rat)*mv n A x i=(cg n A b x 0).r i:=by
  show _=b i+mv n A x i*((-1:Int):Rat)
  rw[show ((1:Int):Rat)=1 from rfl,show ((-1:Int):Rat) = -1 from rfl];grind
theorem cg_x1 (i:Nat):(cg n A b x t).x i-(-(dt n (cg n A b x t).r (cg n A b x t).r/dt n (cg n A b x t).w (mv n A (cg n A b x t).w)))*(cg n A b x t).w i=(cg n A b x (t+1)).x i:=by
  show _=(cg n A b x t).x i+(cg n A b x t).w i*cgK n A (cg n A b x t)
  unfold cgK;grind
theorem cg_r1 (i:Nat):(cg n A b x t).r i-(dt n (cg n A b x t).r (cg n A b x t).r/dt n (cg n A b x t).w (mv n A (cg n A b x t).w))*mv n A (cg n A b x t).w i=(cg n A b x (t+1)).r i:=by
  rw[cg_rec];unfold cgK;grind
theorem cg_w1 (i:Nat):(cg n A b x (t+1)).r i-(-(dt n (cg n A b x (t+1)).r (cg n A b x (t+1)).r/dt n (cg n A b x t).r (cg n A b x t).r))*(cg n A b x t).w i=(cg n A b x (t+1)).w i:=by
  rw[cg_w];grind
theorem cg_w0 (h:∀ i,i<n→(cg n A b x (t+1)).r i=0)(i:Nat)(_:i<n):(cg n A b x (t+1)).r i=(cg n A b x (t+1)).w i:=by
  rw[cg_w,dt_zero.2 h,Rat.div_def,Rat.zero_mul,Rat.zero_mul,Rat.add_zero]
theorem cj_go2 (h:¬∀ i,i<n→(cg n A b x t).r i=0)(h2:¬(dt n (cg n A b x t).w (mv n A (cg n A b x t).w)).num.sign≤0):dt n (cg n A b x t).r (cg n A b x t).r≠0∧0<(dt n (cg n A b x t).w (mv n A (cg n A b x t).w)).num:=cj_go (fun e=>h (dt_zero.1 (cj_z e))) h2
end
theorem rConj0 (A:Option Addr)(capA:Nat)(us:List Value)(W:List (List Rat))(hlW:W.length≤1000)(hlsW:∀ i,i<W.length→(W.getD i []).length≤1000)(n:Nat)(hn4:n≤5)(b x:Nat→Rat)(AD:Option Addr)(cD:Nat)(tD:List RT)(AX:Option Addr)(cX:Nat)(tX:List RT)(hS:SymP W)(hn:W.length=n)(hK1:∀ i j,LQ 3 ((W.getD i []).getD j 0))(hb:∀ i,i<n→LQ 100000 (b i))(hx:∀ i,i<n→LQ 100000 (x i))(hB:∀ t,t≤n→CgB n (mA W) b x t)(w:World)(h:Hp)(g:G w h)(hA:SlO 1 vc undef h A us)(hUW:RVs h us W)(hSD:SlO 3 rqc rqd h AD tD)(hTD:RTs h tD (vec n b))(hSX:SlO 3 rqc rqd h AX tX)(hTX:RTs h tX (vec n x)) :
    Calls Tryz.prog 11 #[.slice A us.length capA,.slice AD tD.length cD,.slice AX tX.length cX] w (Ret w h fun v h1=>∃ (t:Nat) (e:Int) (A:Option Addr) (c:Nat) (al:List TV),CjEnd n (mA W) b x t e∧v=.tuple #[.slice A al.length c,.int .i64 e]∧SlO 3 tvc tv0 h1 A al∧CRr n (mA W) b x h1 al∧al.length=(if e=0 then t+1 else 0)):=by
 have hs:=SS.start g
 replace hs:=((((((hs.a_SlO hA).add (K:=fun h_=>RVs h_ us W) hUW).a_SlO hSD).add (K:=fun h_=>RTs h_ tD (vec n b)) hTD).a_SlO hSX).add (K:=fun h_=>RTs h_ tX (vec n x)) hTX)
 have hlu:=(hs.f.2.2.2.2.1).len
 have hlD:=(hs.f.2.2.1).len
 rw[vec_len] at hlD
 have hlX:=(hs.f.1).len
 rw[vec_len] at hlX
 have hsym_:∀ i,i<n→∀ j,j<n→mA W i j=mA W j i:=by rw[←hn];exact hS.all
 have hB0:=hB 0 (Nat.zero_le _)
 refine go Tryz.func11 [(0,.slice A us.length capA),(1,.slice AD tD.length cD),(2,.slice AX tX.length cX)] rfl ?_
 refine cSL (lL hs [.v 6 (.slice none 0 0),.v 7 (.int .i64 0)] (lN (CG.seq (cSL (lL hs [.m 16 0] (lC 17 hs (rSquareT A capA us W hlW hlsW hS.1 _ _ hs.g (hs.f.2.2.2.2.2.1) (hs.f.2.2.2.2.1)) ?_))))))
 rintro _ w1 h2 hs rfl
 refine lL hs [.v 18 (.bool false),.m 19 18,.m 20 1,.v 21 (.int .i64 (tD.length:Nat)),.m 22 0,.v 23 (.int .i64 (us.length:Nat))] ?_
 have hb3:(((tD.length:Nat):Int) != ((us.length:Nat):Int))=false:=bneF oM
 have phb3:=eqOfBne hb3
 refine lB 24 hb3 ?_
 refine lL hs [.v 25 (.bool false),.m 26 25,.m 27 2,.v 28 (.int .i64 (tX.length:Nat)),.m 29 0,.v 30 (.int .i64 (us.length:Nat))] ?_
 have hb4:(((tX.length:Nat):Int) != ((us.length:Nat):Int))=false:=bneF oM
 have phb4:=eqOfBne hb4
 refine lB 31 hb4 ?_
 refine lL hs [.v 32 (.bool false)] (lN (cIF (CG.skipN (CG.seq (cSL (lL hs [.m 33 0] (lC 34 hs (rSymT A capA us W hlW hlsW (fun i j=>(hK1 i j).mono oM) hS _ _ hs.g (hs.f.2.2.2.2.2.1) (hs.f.2.2.2.2.1)) ?_)))))))
 rintro _ w5 h6 hs rfl
 refine lL hs [.v 35 (.bool false)] (lN (cIF (CG.skipN (cSL (lL hs [.m 36 1,.m 37 0,.m 38 2] (lC 39 hs (rApplyF A capA us W hlW hlsW n oM x AX cX tX hS.1.1 hn (by rw[←hn];exact hS.1.2.symm) 3 100000 hK1 hx kD _ _ hs.g (hs.f.2.2.2.2.2.1) (hs.f.2.2.2.2.1) (hs.f.2.1) (hs.f.1)) ?_))))))
 rintro _ w7 h8 hs ⟨Ay0,cy0,ty0,rfl,hcy0,hSy0,hTy0⟩
 replace hs:=((hs.a_SlO hSy0).add (K:=fun h_=>RTs h_ ty0 (vec n (mv n (mA W) x))) hTy0)
 refine lC 40 hs (rOf 1 oM oM _ _ hs.g) ?_
 rintro _ w17 h18 hs ⟨A9,c10,A13,c14,rfl,hc11,hc15,hA12,hA16⟩
 replace hs:=((hs.a_SlO hA12).a_SlO hA16)
 refine lC 41 hs (rLessTo b (mv n (mA W) x) (cg n (mA W) b x 0).r n oM AD cD tD Ay0 cy0 ty0 ((1:Int):Rat) A9 c10 A13 c14 hc11 hc15 100000 100000 1 hb hB0.ax (LQ.lit (z:=1) kD) oM (fun i _=>cg_r0 i) _ _ hs.g (hs.f.2.2.2.2.2.2.2.1) (hs.f.2.2.2.2.2.2.1) (hs.f.2.2.2.1) (hs.f.2.2.1) (hs.f.2.1) (hs.f.1)) ?_
 rintro _ w19 h20 hs ⟨Ar0,cr0,tr0,rfl,hcr0,hSr0,hTr0⟩
 replace hs:=((hs.a_SlO hSr0).add (K:=fun h_=>RTs h_ tr0 (vec n (cg n (mA W) b x 0).r)) hTr0)
 refine lL hs [.m 8 41] (lNS (lL hs [.m 42 2,.m 43 8,.m 44 8,.v 45 (.agg #[.slice AX tX.length cX,.slice Ar0 tr0.length cr0,.slice Ar0 tr0.length cr0])] (lA 9 45 ([.slice none 0 0,.slice none 0 0,.slice none 0 0]) hs (fun b21 w22 h23 hs=>?_))))
 refine lP 0 0 ([.slice AX tX.length cX,.slice Ar0 tr0.length cr0,.slice Ar0 tr0.length cr0]) hs (fun w24 hs=>?_)
 refine lNS (lL hs [.o 46 (.agg #[.slice AX tX.length cX,.slice Ar0 tr0.length cr0,.slice Ar0 tr0.length cr0]) 0 0 3] (lRw 47 45 3 tvc ([((.slice AX tX.length cX,.slice Ar0 tr0.length cr0,.slice Ar0 tr0.length cr0):TV)]:List TV) hs (fun b25 w26 h27 hs=>?_)))
 refine lL hs [.m 10 47] (lN (CG.seq (CG.block (cTo [(0,.slice A us.length capA),(9,.pointer (some ⟨b21,0,none⟩)),(10,.slice (some ⟨b25,0,none⟩) ((([((.slice AX tX.length cX,.slice Ar0 tr0.length cr0,.slice Ar0 tr0.length cr0):TV)]:List TV)).length) ((([((.slice AX tX.length cX,.slice Ar0 tr0.length cr0,.slice Ar0 tr0.length cr0):TV)]:List TV)).length))] ?_))))
 replace hs:=hs.add (K:=fun h_=>CRr n (mA W) b x h_ ([((.slice AX tX.length cX,.slice Ar0 tr0.length cr0,.slice Ar0 tr0.length cr0):TV)]:List TV)) ((CRr.nil.snoc ⟨⟨_,_,tX,rfl,(hs.f.2.2.2.2.2.2.2.1),(hs.f.2.2.2.2.2.2.1)⟩,⟨_,_,tr0,rfl,(hs.f.2.1),(hs.f.1)⟩,⟨_,_,tr0,rfl,(hs.f.2.1),(hs.f.1)⟩⟩))
 replace hs:=hs.add (K:=fun h_=>RTs h_ tr0 (vec n (cg n (mA W) b x 0).w)) ((hs.f.2.1))
 replace hs:=hs.add (K:=fun h_=>SlO 3 rqc rqd h_ Ar0 tr0) ((hs.f.2.2.2.1))
 replace hs:=hs.add (K:=fun h_=>RTs h_ tr0 (vec n (cg n (mA W) b x 0).r)) ((hs.f.2.2.2.1))
 replace hs:=hs.add (K:=fun h_=>SlO 3 rqc rqd h_ Ar0 tr0) ((hs.f.2.2.2.2.2.1))
 replace hs:=hs.add (K:=fun h_=>RTs h_ tX (vec n (cg n (mA W) b x 0).x)) ((hs.f.2.2.2.2.2.2.2.2.2.2.2.1))
 replace hs:=hs.add (K:=fun h_=>SlO 3 rqc rqd h_ AX tX) ((hs.f.2.2.2.2.2.2.2.2.2.2.2.2.2.1))
 refine CG.loop (fun μ_ Γ w_=>∃ (t:Nat) (saA:Option Addr) (sac:Nat) (al:List TV) (Ax:Option Addr) (cx:Nat) (tx:List RT) (Ar:Option Addr) (cr:Nat) (tr:List RT) (Aw:Option Addr) (cw:Nat) (tw:List RT) (h_:Hp),μ_=n+1-t∧Γ=[(0,.slice A us.length capA),(9,.pointer (some ⟨b21,0,none⟩)),(10,.slice saA ((al).length) sac)]∧SS w h w_ h_ [⟨b21,45,[.slice Ax tx.length cx,.slice Ar tr.length cr,.slice Aw tw.length cw]⟩] [⟨45,3,saA,sac,(al).length,(al).flatMap tvc⟩] [fun h_=>SlO 3 rqc rqd h_ Ax tx,fun h_=>RTs h_ tx (vec n (cg n (mA W) b x t).x),fun h_=>SlO 3 rqc rqd h_ Ar tr,fun h_=>RTs h_ tr (vec n (cg n (mA W) b x t).r),fun h_=>SlO 3 rqc rqd h_ Aw tw,fun h_=>RTs h_ tw (vec n (cg n (mA W) b x t).w),fun h_=>CRr n (mA W) b x h_ al,fun h_=>RTs h_ tr0 (vec n (cg n (mA W) b x 0).r),fun h_=>SlO 3 rqc rqd h_ Ar0 tr0,fun h_=>SlO 1 u32c 0 h_ A13 (lim ((1:Int):Rat).den),fun h_=>SlO 1 u32c 0 h_ A9 (lim (iabs ((1:Int):Rat).num)),fun h_=>RTs h_ ty0 (vec n (mv n (mA W) x)),fun h_=>SlO 3 rqc rqd h_ Ay0 ty0,fun h_=>RTs h_ tX (vec n x),fun h_=>SlO 3 rqc rqd h_ AX tX,fun h_=>RTs h_ tD (vec n b),fun h_=>SlO 3 rqc rqd h_ AD tD,fun h_=>RVs h_ us W,fun h_=>SlO 1 vc undef h_ A us]∧(al.length=t+1)∧(∀ i,i<t→dt n (cg n (mA W) b x i).r (cg n (mA W) b x i).r≠0∧0<(dt n (cg n (mA W) b x i).w (mv n (mA W) (cg n (mA W) b x i).w)).num)) _ ⟨0,some ⟨b25,0,none⟩,(([((.slice AX tX.length cX,.slice Ar0 tr0.length cr0,.slice Ar0 tr0.length cr0):TV)]:List TV)).length,([((.slice AX tX.length cX,.slice Ar0 tr0.length cr0,.slice Ar0 tr0.length cr0):TV)]:List TV),AX,cX,tX,Ar0,cr0,tr0,Ar0,cr0,tr0,h27,rfl,rfl,hs.to _ _,rfl,(fun i hi=>absurd hi (Nat.not_lt_zero i))⟩ ?_
 rintro _ _ w30 ⟨t,saA,sac,al,Ax,cx,tx,Ar,cr,tr,Aw,cw,tw,h31,hm32,rfl,hs,ht,hg⟩
 have htn:=cg_ends hsym_ (fun i hi=>goes_of (hg i hi))
 have hBt:=hB t htn
 refine CG.seq (cSL (lL hs [.v 48 (.pointer (some ⟨b21,1,none⟩)),.o 49 (.slice Ar tr.length cr) 0 1 1] (lC 50 hs (rNought (cg n (mA W) b x t).r n oM Ar cr tr 100000 hBt.r kD _ _ hs.g (hs.f.2.2.1) (hs.f.2.2.2.1)) ?_)))
 rintro _ w33 h34 hs rfl
 cases hb35:(decide (∀ i,i<n→(cg n (mA W) b x t).r i=0))
 ·
  have phb35:=oF hb35
  refine lL hs [.v 51 (.bool true)] (lN (cIT (CG.skipN (CG.block (cSL (lL hs [.m 52 0,.v 53 (.pointer (some ⟨b21,2,none⟩)),.o 54 (.slice Aw tw.length cw) 0 2 1] (lC 55 hs (rApplyF A capA us W hlW hlsW n oM (cg n (mA W) b x t).w Aw cw tw hS.1.1 hn (by rw[←hn];exact hS.1.2.symm) 3 100000 hK1 hBt.w kD _ _ hs.g (hs.f.2.2.2.2.2.2.2.2.2.2.2.2.2.2.2.2.2.2.1) (hs.f.2.2.2.2.2.2.2.2.2.2.2.2.2.2.2.2.2.1) (hs.f.2.2.2.2.1) (hs.f.2.2.2.2.2.1)) ?_)))))))
  rintro _ w36 h37 hs ⟨Ay,cy,ty,rfl,hcy,hSy,hTy⟩
  replace hs:=((hs.a_SlO hSy).add (K:=fun h_=>RTs h_ ty (vec n (mv n (mA W) (cg n (mA W) b x t).w))) hTy)
  refine lL hs [.m 11 55] (lNS (lL hs [.v 56 (.pointer (some ⟨b21,2,none⟩)),.o 57 (.slice Aw tw.length cw) 0 2 1,.m 58 11] (lC 59 hs (rDotV (cg n (mA W) b x t).w (mv n (mA W) (cg n (mA W) b x t).w) n Aw cw tw Ay cy ty 100000 100000 oM kD hBt.w hBt.aw _ _ hs.g (hs.f.2.2.2.2.2.2.1) (hs.f.2.2.2.2.2.2.2.1) (hs.f.2.1) (hs.f.1)) ?_)))
  rintro _ w46 h47 hs ⟨A38,c39,A42,c43,rfl,hc40,hc44,hA41,hA45⟩
  replace hs:=((hs.a_SlO hA41).a_SlO hA45)
  refine lA 12 74 ([.bool false,.slice none 0 0,.slice none 0 0]) hs (fun b48 w49 h50 hs=>?_)
  refine lP 0 0 ([.bool (ineg (dt n (cg n (mA W) b x t).w (mv n (mA W) (cg n (mA W) b x t).w)).num),.slice A38 ((lim (iabs (dt n (cg n (mA W) b x t).w (mv n (mA W) (cg n (mA W) b x t).w)).num)).length) c39,.slice A42 ((lim (dt n (cg n (mA W) b x t).w (mv n (mA W) (cg n (mA W) b x t).w)).den).length) c43]) hs (fun w51 hs=>?_)
  refine lN (CG.seq (cSL (lL hs [.o 60 (.agg #[.bool (ineg (dt n (cg n (mA W) b x t).w (mv n (mA W) (cg n (mA W) b x t).w)).num),.slice A38 ((lim (iabs (dt n (cg n (mA W) b x t).w (mv n (mA W) (cg n (mA W) b x t).w)).num)).length) c39,.slice A42 ((lim (dt n (cg n (mA W) b x t).w (mv n (mA W) (cg n (mA W) b x t).w)).den).length) c43]) 0 0 3] (lC 61 hs (rSign (dt n (cg n (mA W) b x t).w (mv n (mA W) (cg n (mA W) b x t).w)) A38 c39 A42 c43 hc40 hc44 (LQ.ln (LQ.mono hBt.ww oM)) (LQ.ld (LQ.mono hBt.ww oM)) _ _ hs.g (hs.f.2.1) (hs.f.1)) ?_))))
  rintro _ w52 h53 hs rfl
  cases hb54:(decide (((dt n (cg n (mA W) b x t).w (mv n (mA W) (cg n (mA W) b x t).w)).num.sign:Int)≤(0:Int)))
  ·
   have phb54:=oF hb54
   refine lB 62 hb54 ?_
   refine lN (cIF (CG.skipN (cSL (lL hs [.v 63 (.pointer (some ⟨b21,1,none⟩)),.o 64 (.slice Ar tr.length cr) 1 1 1,.v 65 (.pointer (some ⟨b21,1,none⟩)),.o 66 (.slice Ar tr.length cr) 1 1 1] (lC 67 hs (rDotV (cg n (mA W) b x t).r (cg n (mA W) b x t).r n Ar cr tr Ar cr tr 100000 100000 oM kD hBt.r hBt.r _ _ hs.g (hs.f.2.2.2.2.2.2.1) (hs.f.2.2.2.2.2.2.2.1) (hs.f.2.2.2.2.2.2.1) (hs.f.2.2.2.2.2.2.2.1)) ?_)))))
   rintro _ w63 h64 hs ⟨A55,c56,A59,c60,rfl,hc57,hc61,hA58,hA62⟩
   replace hs:=((hs.a_SlO hA58).a_SlO hA62)
   refine lA 13 74 ([.bool false,.slice none 0 0,.slice none 0 0]) hs (fun b65 w66 h67 hs=>?_)
   refine lP 0 0 ([.bool (ineg (dt n (cg n (mA W) b x t).r (cg n (mA W) b x t).r).num),.slice A55 ((lim (iabs (dt n (cg n (mA W) b x t).r (cg n (mA W) b x t).r).num)).length) c56,.slice A59 ((lim (dt n (cg n (mA W) b x t).r (cg n (mA W) b x t).r).den).length) c60]) hs (fun w68 hs=>?_)
   refine lNS (lL hs [.o 68 (.agg #[.bool (ineg (dt n (cg n (mA W) b x t).r (cg n (mA W) b x t).r).num),.slice A55 ((lim (iabs (dt n (cg n (mA W) b x t).r (cg n (mA W) b x t).r).num)).length) c56,.slice A59 ((lim (dt n (cg n (mA W) b x t).r (cg n (mA W) b x t).r).den).length) c60]) 0 0 3,.o 69 (.agg #[.bool (ineg (dt n (cg n (mA W) b x t).w (mv n (mA W) (cg n (mA W) b x t).w)).num),.slice A38 ((lim (iabs (dt n (cg n (mA W) b x t).w (mv n (mA W) (cg n (mA W) b x t).w)).num)).length) c39,.slice A42 ((lim (dt n (cg n (mA W) b x t).w (mv n (mA W) (cg n (mA W) b x t).w)).den).length) c43]) 1 0 3] ?_)
   have hq69:=LQ.div hBt.rr hBt.ww
   have hgo:=cj_go2 (n:=n) (A:=(mA W)) (b:=b) (x:=x) (t:=t) aM oM
   have hg1:∀ i,i<t+1→_:=cj_all hg hgo
   have htn1:=cg_ends hsym_ (fun i hi=>goes_of (hg1 i hi))
   have hB1:=hB (t+1) htn1
   refine lC 70 hs (rDiv (dt n (cg n (mA W) b x t).r (cg n (mA W) b x t).r) A55 c56 A59 c60 hc57 hc61 (LQ.ln (LQ.mono hBt.rr oM)) (LQ.ld (LQ.mono hBt.rr oM)) (dt n (cg n (mA W) b x t).w (mv n (mA W) (cg n (mA W) b x t).w)) A38 c39 A42 c43 hc40 hc44 (LQ.ln (LQ.mono hBt.ww oM)) (LQ.ld (LQ.mono hBt.ww oM)) (fun e_=>by have h_:=hgo.2;rw[e_] at h_;exact absurd h_ kD) _ _ hs.g (hs.f.2.1) (hs.f.1) (hs.f.2.2.2.1) (hs.f.2.2.1)) ?_
   rintro _ w78 h79 hs ⟨A70,c71,A74,c75,rfl,hc72,hc76,hA73,hA77⟩
   replace hs:=((hs.a_SlO hA73).a_SlO hA77)
   refine lA 14 74 ([.bool false,.slice none 0 0,.slice none 0 0]) hs (fun b80 w81 h82 hs=>?_)
   refine lP 0 0 ([.bool (ineg ((dt n (cg n (mA W) b x t).r (cg n (mA W) b x t).r)/(dt n (cg n (mA W) b x t).w (mv n (mA W) (cg n (mA W) b x t).w))).num),.slice A70 ((lim (iabs ((dt n (cg n (mA W) b x t).r (cg n (mA W) b x t).r)/(dt n (cg n (mA W) b x t).w (mv n (mA W) (cg n (mA W) b x t).w))).num)).length) c71,.slice A74 ((lim ((dt n (cg n (mA W) b x t).r (cg n (mA W) b x t).r)/(dt n (cg n (mA W) b x t).w (mv n (mA W) (cg n (mA W) b x t).w))).den).length) c75]) hs (fun w83 hs=>?_)
   refine lN (CG.seq ?_)
   have hsr:=hs
   refine cR 14 [⟨13,15,.cells (List.toArray [.slice none 0 0,.slice none 0 0,.slice none 0 0]) 45 (0,0)⟩] mixed hs (al_cons (alOk kR (fun _ _=>by kernel_rfl)) al_nil) ?_
   refine eV 0 71 (.pointer (some ⟨b21,0,none⟩)) ?_
   refine eO 1 72 [(3,0,1)] (.slice Ax tx.length cx) hs ?_
   refine eV 2 73 (.pointer (some ⟨b21,2,none⟩)) ?_
   refine eO 3 74 [(3,2,1)] (.slice Aw tw.length cw) hs ?_
   refine eO 4 75 [(0,0,3)] (.agg #[.bool (ineg ((dt n (cg n (mA W) b x t).r (cg n (mA W) b x t).r)/(dt n (cg n (mA W) b x t).w (mv n (mA W) (cg n (mA W) b x t).w))).num),.slice A70 ((lim (iabs ((dt n (cg n (mA W) b x t).r (cg n (mA W) b x t).r)/(dt n (cg n (mA W) b x t).w (mv n (mA W) (cg n (mA W) b x t).w))).num)).length) c71,.slice A74 ((lim ((dt n (cg n (mA W) b x t).r (cg n (mA W) b x t).r)/(dt n (cg n (mA W) b x t).w (mv n (mA W) (cg n (mA W) b x t).w))).den).length) c75]) hs ?_
   refine eV 7 78 (.pointer (some ⟨b21,1,none⟩)) ?_
   refine eO 8 79 [(3,1,1)] (.slice Ar tr.length cr) hs ?_
   refine eV 9 80 (.slice Ay ty.length cy) ?_
   refine eO 10 81 [(0,0,3)] (.agg #[.bool (ineg ((dt n (cg n (mA W) b x t).r (cg n (mA W) b x t).r)/(dt n (cg n (mA W) b x t).w (mv n (mA W) (cg n (mA W) b x t).w))).num),.slice A70 ((lim (iabs ((dt n (cg n (mA W) b x t).r (cg n (mA W) b x t).r)/(dt n (cg n (mA W) b x t).w (mv n (mA W) (cg n (mA W) b x t).w))).num)).length) c71,.slice A74 ((lim ((dt n (cg n (mA W) b x t).r (cg n (mA W) b x t).r)/(dt n (cg n (mA W) b x t).w (mv n (mA W) (cg n (mA W) b x t).w))).den).length) c75]) hs ?_
   have hq84:LQ (100000+100000) (-((dt n (cg n (mA W) b x t).r (cg n (mA W) b x t).r)/(dt n (cg n (mA W) b x t).w (mv n (mA W) (cg n (mA W) b x t).w)))):=LQ.neg hq69
   refine eC 5 76 hs (fun _ _ hs=>rNeg ((dt n (cg n (mA W) b x t).r (cg n (mA W) b x t).r)/(dt n (cg n (mA W) b x t).w (mv n (mA W) (cg n (mA W) b x t).w))) A70 c71 A74 c75 hc72 hc76 (LQ.ln (LQ.mono hq69 oM)) (LQ.ld (LQ.mono hq69 oM)) _ _ hs.g (hs.f.2.1) (hs.f.1)) ?_
   rintro _ _ _ w93 h94 hs ⟨A85,c86,A89,c90,rfl,hc87,hc91,hA88,hA92⟩
   replace hs:=((hs.a_SlO hA88).a_SlO hA92)
   refine eC 6 77 hs (fun _ _ hs=>rLessTo (cg n (mA W) b x t).x (cg n (mA W) b x t).w (cg n (mA W) b x (t+1)).x n oM Ax cx tx Aw cw tw (-((dt n (cg n (mA W) b x t).r (cg n (mA W) b x t).r)/(dt n (cg n (mA W) b x t).w (mv n (mA W) (cg n (mA W) b x t).w)))) A85 c86 A89 c90 hc87 hc91 100000 100000 (100000+100000) hBt.xx hBt.w hq84 oM (fun i _=>cg_x1 i) _ _ hs.g (hs.f.2.2.2.2.2.2.2.2.2.2.1) (hs.f.2.2.2.2.2.2.2.2.2.2.2.1) (hs.f.2.2.2.2.2.2.2.2.2.2.2.2.2.2.1) (hs.f.2.2.2.2.2.2.2.2.2.2.2.2.2.2.2.1) (hs.f.2.1) (hs.f.1)) ?_
   rintro _ _ _ w95 h96 hs ⟨Ax1,cx1,tx1,rfl,hcx1,hSx1,hTx1⟩
   replace hs:=((hs.a_SlO hSx1).add (K:=fun h_=>RTs h_ tx1 (vec n (cg n (mA W) b x (t+1)).x)) hTx1)
   refine eC 11 82 hs (fun _ _ hs=>rLessTo (cg n (mA W) b x t).r (mv n (mA W) (cg n (mA W) b x t).w) (cg n (mA W) b x (t+1)).r n oM Ar cr tr Ay cy ty ((dt n (cg n (mA W) b x t).r (cg n (mA W) b x t).r)/(dt n (cg n (mA W) b x t).w (mv n (mA W) (cg n (mA W) b x t).w))) A70 c71 A74 c75 hc72 hc76 100000 100000 (100000+100000) hBt.r hBt.aw hq69 oM (fun i _=>cg_r1 i) _ _ hs.g (hs.f.2.2.2.2.2.2.2.2.2.2.2.2.2.2.1) (hs.f.2.2.2.2.2.2.2.2.2.2.2.2.2.2.2.1) (hs.f.2.2.2.2.2.2.2.2.2.2.2.1) (hs.f.2.2.2.2.2.2.2.2.2.2.1) (hs.f.2.2.2.2.2.1) (hs.f.2.2.2.2.1)) ?_
   rintro _ _ _ w97 h98 hs ⟨Ar1,cr1,tr1,rfl,hcr1,hSr1,hTr1⟩
   replace hs:=((hs.a_SlO hSr1).add (K:=fun h_=>RTs h_ tr1 (vec n (cg n (mA W) b x (t+1)).r)) hTr1)
   refine eV 12 83 (.agg #[.slice Ax1 tx1.length cx1,.slice Ar1 tr1.length cr1,.slice none 0 0]) ?_
   refine eD1p [] hsr hs 45 [.slice none 0 0,.slice none 0 0,.slice none 0 0] (fun w99 h100 b101 hs=>?_)
   refine tP 14 0 0 ([.slice Ax1 tx1.length cx1,.slice Ar1 tr1.length cr1,.slice none 0 0]) hs (fun w102 hs=>?_)
   refine tN (cTo [(0,.slice A us.length capA),(9,.pointer (some ⟨b21,0,none⟩)),(10,.slice saA ((al).length) sac),(13,.pointer (some ⟨b65,0,none⟩)),(15,.pointer (some ⟨b101,0,none⟩))] ?_)
   refine cSL (lL hs [.v 84 (.pointer (some ⟨b101,1,none⟩)),.o 85 (.slice Ar1 tr1.length cr1) 0 1 1,.v 86 (.pointer (some ⟨b101,2,none⟩))] (lP 0 2 ([.slice Ar1 tr1.length cr1]) hs (fun w103 hs=>?_)))
   refine lN (CG.seq (cSL (lL hs [.v 87 (.pointer (some ⟨b101,1,none⟩)),.o 88 (.slice Ar1 tr1.length cr1) 0 1 1] (lC 89 hs (rNought (cg n (mA W) b x (t+1)).r n oM Ar1 cr1 tr1 100000 hB1.r kD _ _ hs.g (hs.f.2.1) (hs.f.1)) ?_))))
   rintro _ w104 h105 hs rfl
   cases hb106:(decide (∀ i,i<n→(cg n (mA W) b x (t+1)).r i=0))
   ·
    have phb106:=oF hb106
    refine lL hs [.v 90 (.bool true)] (lN (cIT (cR 13 [] mixed hs al_nil ?_)))
    refine eV 0 91 (.pointer (some ⟨b101,1,none⟩)) ?_
    refine eO 1 92 [(0,1,1)] (.slice Ar1 tr1.length cr1) hs ?_
    refine eV 2 93 (.pointer (some ⟨b21,2,none⟩)) ?_
    refine eO 3 94 [(4,2,1)] (.slice Aw tw.length cw) hs ?_
    refine eV 4 95 (.pointer (some ⟨b101,1,none⟩)) ?_
    refine eO 5 96 [(0,1,1)] (.slice Ar1 tr1.length cr1) hs ?_
    refine eV 6 97 (.pointer (some ⟨b101,1,none⟩)) ?_
    refine eO 7 98 [(0,1,1)] (.slice Ar1 tr1.length cr1) hs ?_
    refine eO 9 100 [(2,0,3)] (.agg #[.bool (ineg (dt n (cg n (mA W) b x t).r (cg n (mA W) b x t).r).num),.slice A55 ((lim (iabs (dt n (cg n (mA W) b x t).r (cg n (mA W) b x t).r).num)).length) c56,.slice A59 ((lim (dt n (cg n (mA W) b x t).r (cg n (mA W) b x t).r).den).length) c60]) hs ?_
    refine eC 8 99 hs (fun _ _ hs=>rDotV (cg n (mA W) b x (t+1)).r (cg n (mA W) b x (t+1)).r n Ar1 cr1 tr1 Ar1 cr1 tr1 100000 100000 oM kD hB1.r hB1.r _ _ hs.g (hs.f.2.1) (hs.f.1) (hs.f.2.1) (hs.f.1)) ?_
    rintro _ _ _ w115 h116 hs ⟨A107,c108,A111,c112,rfl,hc109,hc113,hA110,hA114⟩
    replace hs:=((hs.a_SlO hA110).a_SlO hA114)
    have hq117:=LQ.div hB1.rr hBt.rr
    refine eC 10 101 hs (fun _ _ hs=>rDiv (dt n (cg n (mA W) b x (t+1)).r (cg n (mA W) b x (t+1)).r) A107 c108 A111 c112 hc109 hc113 (LQ.ln (LQ.mono hB1.rr oM)) (LQ.ld (LQ.mono hB1.rr oM)) (dt n (cg n (mA W) b x t).r (cg n (mA W) b x t).r) A55 c56 A59 c60 hc57 hc61 (LQ.ln (LQ.mono hBt.rr oM)) (LQ.ld (LQ.mono hBt.rr oM)) (fun e_=>hgo.1 (Rat.num_eq_zero.1 e_)) _ _ hs.g (hs.f.2.1) (hs.f.1) (hs.f.2.2.2.2.2.2.2.2.2.2.2.1) (hs.f.2.2.2.2.2.2.2.2.2.2.1)) ?_
    rintro _ _ _ w126 h127 hs ⟨A118,c119,A122,c123,rfl,hc120,hc124,hA121,hA125⟩
    replace hs:=((hs.a_SlO hA121).a_SlO hA125)
    have hq128:LQ (100000+100000) (-((dt n (cg n (mA W) b x (t+1)).r (cg n (mA W) b x (t+1)).r)/(dt n (cg n (mA W) b x t).r (cg n (mA W) b x t).r))):=LQ.neg hq117
    refine eC 11 102 hs (fun _ _ hs=>rNeg ((dt n (cg n (mA W) b x (t+1)).r (cg n (mA W) b x (t+1)).r)/(dt n (cg n (mA W) b x t).r (cg n (mA W) b x t).r)) A118 c119 A122 c123 hc120 hc124 (LQ.ln (LQ.mono hq117 oM)) (LQ.ld (LQ.mono hq117 oM)) _ _ hs.g (hs.f.2.1) (hs.f.1)) ?_
    rintro _ _ _ w137 h138 hs ⟨A129,c130,A133,c134,rfl,hc131,hc135,hA132,hA136⟩
    replace hs:=((hs.a_SlO hA132).a_SlO hA136)
    refine eC 12 103 hs (fun _ _ hs=>rLessTo (cg n (mA W) b x (t+1)).r (cg n (mA W) b x t).w (cg n (mA W) b x (t+1)).w n oM Ar1 cr1 tr1 Aw cw tw (-((dt n (cg n (mA W) b x (t+1)).r (cg n (mA W) b x (t+1)).r)/(dt n (cg n (mA W) b x t).r (cg n (mA W) b x t).r))) A129 c130 A133 c134 hc131 hc135 100000 100000 (100000+100000) hB1.r hBt.w hq128 oM (fun i _=>cg_w1 i) _ _ hs.g (hs.f.2.2.2.2.2.2.2.1) (hs.f.2.2.2.2.2.2.1) (hs.f.2.2.2.2.2.2.2.2.2.2.2.2.2.2.2.2.2.2.2.2.2.2.2.2.1) (hs.f.2.2.2.2.2.2.2.2.2.2.2.2.2.2.2.2.2.2.2.2.2.2.2.2.2.1) (hs.f.2.1) (hs.f.1)) ?_
    rintro _ _ _ w139 h140 hs ⟨Aw1,cw1,tw1,rfl,hcw1,hSw1,hTw1⟩
    replace hs:=((hs.a_SlO hSw1).add (K:=fun h_=>RTs h_ tw1 (vec n (cg n (mA W) b x (t+1)).w)) hTw1)
    refine eD0 hs (fun w141 h142 hs=>?_)
    refine tV 13 104 (.pointer (some ⟨b101,2,none⟩)) ?_
    refine tP 14 0 2 ([.slice Aw1 tw1.length cw1]) hs (fun w143 hs=>?_)
    refine tNS ?_
    refine lL hs [.o 105 (.agg #[.slice Ax1 tx1.length cx1,.slice Ar1 tr1.length cr1,.slice Aw1 tw1.length cw1]) 0 0 3] (lP 4 0 ([.slice Ax1 tx1.length cx1,.slice Ar1 tr1.length cr1,.slice Aw1 tw1.length cw1]) hs (fun w144 hs=>?_))
    refine lN (CG.listed (lL hs [.m 106 10,.o 107 (.agg #[.slice Ax1 tx1.length cx1,.slice Ar1 tr1.length cr1,.slice Aw1 tw1.length cw1]) 4 0 3] (lR 108 45 1 ([.slice Ax1 tx1.length cx1,.slice Ar1 tr1.length cr1,.slice Aw1 tw1.length cw1]) hs (fun b145 w146 h147 hs=>?_))))
    refine lY 109 0 45 3 sac saA al tvc ((.slice Ax1 tx1.length cx1,.slice Ar1 tr1.length cr1,.slice Aw1 tw1.length cw1):TV) 72 b145 (.agg #[.slice none 0 0,.slice none 0 0,.slice none 0 0]) hs (hs.f.1) (fun A149 c150 w151 h152 hs=>?_)
    refine lL hs [.m 10 109] (lD ?_)
    intro a_ ka
    have q154:SlO 3 rqc rqd h152 Ax1 tx1:=(hs.f.2.2.2.2.2.2.2.2.2.2.2.2.1)
    have q155:RTs h152 tx1 (vec n (cg n (mA W) b x (t+1)).x):=(hs.f.2.2.2.2.2.2.2.2.2.2.2.1)
    have q156:SlO 3 rqc rqd h152 Ar1 tr1:=(hs.f.2.2.2.2.2.2.2.2.2.2.1)
    have q157:RTs h152 tr1 (vec n (cg n (mA W) b x (t+1)).r):=(hs.f.2.2.2.2.2.2.2.2.2.1)
    have q158:SlO 3 rqc rqd h152 Aw1 tw1:=(hs.f.2.2.1)
    have q159:RTs h152 tw1 (vec n (cg n (mA W) b x (t+1)).w):=(hs.f.2.1)
    have q160:CRr n (mA W) b x h152 (al++[((.slice Ax1 tx1.length cx1,.slice Ar1 tr1.length cr1,.slice Aw1 tw1.length cw1):TV)]):=((hs.f.2.2.2.2.2.2.2.2.2.2.2.2.2.2.2.2.2.2.2.2.2.2.2.2.2.2.2.2.2.1).snoc (by rw[ht];exact ⟨⟨_,_,tx1,rfl,(hs.f.2.2.2.2.2.2.2.2.2.2.2.2.1),(hs.f.2.2.2.2.2.2.2.2.2.2.2.1)⟩,⟨_,_,tr1,rfl,(hs.f.2.2.2.2.2.2.2.2.2.2.1),(hs.f.2.2.2.2.2.2.2.2.2.1)⟩,⟨_,_,tw1,rfl,(hs.f.2.2.1),(hs.f.2.1)⟩⟩))
    have q161:(al++[((.slice Ax1 tx1.length cx1,.slice Ar1 tr1.length cr1,.slice Aw1 tw1.length cw1):TV)]).length=(t+1)+1:=(by rw[List.length_append,ht];rfl)
    have q162:∀ i,i<(t+1)→dt n (cg n (mA W) b x i).r (cg n (mA W) b x i).r≠0∧0<(dt n (cg n (mA W) b x i).w (mv n (mA W) (cg n (mA W) b x i).w)).num:=hg1
    replace hs:=(((((((hs.tl.tl.tl.tl.tl.tl.tl.tl.tl.tl.tl.tl.tl.tl.tl.tl.tl.tl.tl.tl.tl.tl.tl.tl.tl.tl.tl.tl.tl.tl.add (K:=fun h_=>CRr n (mA W) b x h_ (al++[((.slice Ax1 tx1.length cx1,.slice Ar1 tr1.length cr1,.slice Aw1 tw1.length cw1):TV)])) q160).add (K:=fun h_=>RTs h_ tw1 (vec n (cg n (mA W) b x (t+1)).w)) q159).add (K:=fun h_=>SlO 3 rqc rqd h_ Aw1 tw1) q158).add (K:=fun h_=>RTs h_ tr1 (vec n (cg n (mA W) b x (t+1)).r)) q157).add (K:=fun h_=>SlO 3 rqc rqd h_ Ar1 tr1) q156).add (K:=fun h_=>RTs h_ tx1 (vec n (cg n (mA W) b x (t+1)).x)) q155).add (K:=fun h_=>SlO 3 rqc rqd h_ Ax1 tx1) q154)
    replace hs:=hs.drop 4 0
    refine ⟨_,_,?_,⟨t+1,A149,c150,al++[((.slice Ax1 tx1.length cx1,.slice Ar1 tr1.length cr1,.slice Aw1 tw1.length cw1):TV)],Ax1,cx1,tx1,Ar1,cr1,tr1,Aw1,cw1,tw1,h152,rfl,rfl,hs.to _ _,q161,q162⟩,ka.to [(0,.slice A us.length capA),(9,.pointer (some ⟨b21,0,none⟩)),(10,.slice A149 (((al++[((.slice Ax1 tx1.length cx1,.slice Ar1 tr1.length cr1,.slice Aw1 tw1.length cw1):TV)])).length) c150)] kR⟩
    omega
   have phb106:=oT hb106
   refine lL hs [.v 90 (.bool false)] (lN (cIF (CG.skipN (cSL ?_))))
   replace hs:=hs.add (K:=fun h_=>RTs h_ tr1 (vec n (cg n (mA W) b x (t+1)).w)) (by have q_:=(hs.f.1);rw[vec_congr (g:=(cg n (mA W) b x (t+1)).w) (fun i hi=>cg_w0 aM i hi)] at q_;exact q_)
   refine lL hs [.o 105 (.agg #[.slice Ax1 tx1.length cx1,.slice Ar1 tr1.length cr1,.slice Ar1 tr1.length cr1]) 0 0 3] (lP 4 0 ([.slice Ax1 tx1.length cx1,.slice Ar1 tr1.length cr1,.slice Ar1 tr1.length cr1]) hs (fun w163 hs=>?_))
   refine lN (CG.listed (lL hs [.m 106 10,.o 107 (.agg #[.slice Ax1 tx1.length cx1,.slice Ar1 tr1.length cr1,.slice Ar1 tr1.length cr1]) 4 0 3] (lR 108 45 1 ([.slice Ax1 tx1.length cx1,.slice Ar1 tr1.length cr1,.slice Ar1 tr1.length cr1]) hs (fun b164 w165 h166 hs=>?_))))
   refine lY 109 0 45 3 sac saA al tvc ((.slice Ax1 tx1.length cx1,.slice Ar1 tr1.length cr1,.slice Ar1 tr1.length cr1):TV) 72 b164 (.agg #[.slice none 0 0,.slice none 0 0,.slice none 0 0]) hs (hs.f.1) (fun A168 c169 w170 h171 hs=>?_)
   refine lL hs [.m 10 109] (lD ?_)
   intro a_ ka
   have q173:SlO 3 rqc rqd h171 Ax1 tx1:=(hs.f.2.2.2.2.2.1)
   have q174:RTs h171 tx1 (vec n (cg n (mA W) b x (t+1)).x):=(hs.f.2.2.2.2.1)
   have q175:SlO 3 rqc rqd h171 Ar1 tr1:=(hs.f.2.2.2.1)
   have q176:RTs h171 tr1 (vec n (cg n (mA W) b x (t+1)).r):=(hs.f.2.2.1)
   have q177:SlO 3 rqc rqd h171 Ar1 tr1:=(hs.f.2.2.2.1)
   have q178:RTs h171 tr1 (vec n (cg n (mA W) b x (t+1)).w):=(hs.f.2.1)
   have q179:CRr n (mA W) b x h171 (al++[((.slice Ax1 tx1.length cx1,.slice Ar1 tr1.length cr1,.slice Ar1 tr1.length cr1):TV)]):=((hs.f.2.2.2.2.2.2.2.2.2.2.2.2.2.2.2.2.2.2.2.2.2.2.1).snoc (by rw[ht];exact ⟨⟨_,_,tx1,rfl,(hs.f.2.2.2.2.2.1),(hs.f.2.2.2.2.1)⟩,⟨_,_,tr1,rfl,(hs.f.2.2.2.1),(hs.f.2.2.1)⟩,⟨_,_,tr1,rfl,(hs.f.2.2.2.1),(hs.f.2.1)⟩⟩))
   have q180:(al++[((.slice Ax1 tx1.length cx1,.slice Ar1 tr1.length cr1,.slice Ar1 tr1.length cr1):TV)]).length=(t+1)+1:=(by rw[List.length_append,ht];rfl)
   have q181:∀ i,i<(t+1)→dt n (cg n (mA W) b x i).r (cg n (mA W) b x i).r≠0∧0<(dt n (cg n (mA W) b x i).w (mv n (mA W) (cg n (mA W) b x i).w)).num:=hg1
   replace hs:=(((((((hs.tl.tl.tl.tl.tl.tl.tl.tl.tl.tl.tl.tl.tl.tl.tl.tl.tl.tl.tl.tl.tl.tl.tl.add (K:=fun h_=>CRr n (mA W) b x h_ (al++[((.slice Ax1 tx1.length cx1,.slice Ar1 tr1.length cr1,.slice Ar1 tr1.length cr1):TV)])) q179).add (K:=fun h_=>RTs h_ tr1 (vec n (cg n (mA W) b x (t+1)).w)) q178).add (K:=fun h_=>SlO 3 rqc rqd h_ Ar1 tr1) q177).add (K:=fun h_=>RTs h_ tr1 (vec n (cg n (mA W) b x (t+1)).r)) q176).add (K:=fun h_=>SlO 3 rqc rqd h_ Ar1 tr1) q175).add (K:=fun h_=>RTs h_ tx1 (vec n (cg n (mA W) b x (t+1)).x)) q174).add (K:=fun h_=>SlO 3 rqc rqd h_ Ax1 tx1) q173)
   replace hs:=hs.drop 4 0
   refine ⟨_,_,?_,⟨t+1,A168,c169,al++[((.slice Ax1 tx1.length cx1,.slice Ar1 tr1.length cr1,.slice Ar1 tr1.length cr1):TV)],Ax1,cx1,tx1,Ar1,cr1,tr1,Ar1,cr1,tr1,h171,rfl,rfl,hs.to _ _,q180,q181⟩,ka.to [(0,.slice A us.length capA),(9,.pointer (some ⟨b21,0,none⟩)),(10,.slice A168 (((al++[((.slice Ax1 tx1.length cx1,.slice Ar1 tr1.length cr1,.slice Ar1 tr1.length cr1):TV)])).length) c169)] kR⟩
   omega
  have phb54:=oT hb54
  refine lB 62 hb54 ?_
  exact lN (cIT (cSL (lL hs [.v 6 (.slice none 0 0),.v 7 (.int .i64 9)] (lN (CG.ret (hs.ret [] (.tuple #[.slice none 0 0,.int .i64 9]) (⟨t,9,none,0,[],⟨hg,.inr ⟨rfl,(fun e_=>absurd (dt_zero.1 e_) aM),cj_np oM⟩⟩,rfl,SlO.nil,CRr.nil,by rw[if_neg kD];rfl⟩)))))))
 have phb35:=oT hb35
 refine lL hs [.v 51 (.bool false)] (lN (cIF (CG.exit ?_)))
 show CG _ _ _ _ _ _ _ _
 refine cSL (lL hs [.m 110 10,.m 6 110,.v 7 (.int .i64 0)] (lN (CG.ret ?_)))
 obtain ⟨h182,hs,hc183⟩:=hs.pubr 0 (A:=saA) (c:=sac) (l:=al) (f:=tvc) (ty:=45) (sz:=3) tv0 (fun _=>rfl)
 exact hs.ret [] (.tuple #[.slice saA ((al).length) sac,.int .i64 0]) (⟨t,0,_,_,al,⟨hg,.inl ⟨rfl,dt_zero.2 aM⟩⟩,rfl,(hs.f.1),(hs.f.2.2.2.2.2.2.2.1),by rw[if_pos rfl];exact ht⟩)
theorem rConjE (A:Option Addr)(capA:Nat)(us:List Value)(W:List (List Rat))(hlW:W.length≤1000)(hlsW:∀ i,i<W.length→(W.getD i []).length≤1000)(D:Option Addr)(cD:Nat)(tD:List RT)(bl:List Rat)(X:Option Addr)(cX:Nat)(tX:List RT)(xl:List Rat)(hbl:bl.length≤1000)(hxl:xl.length≤1000)(hq:∀ i j,LQ 100000000 ((W.getD i []).getD j 0))(hE:¬SymP W∨bl.length≠W.length∨xl.length≠W.length)(w:World)(h:Hp)(g:G w h)(hA:SlO 1 vc undef h A us)(hUW:RVs h us W)(hSD:SlO 3 rqc rqd h D tD)(hTD:RTs h tD bl)(hSX:SlO 3 rqc rqd h X tX)(hTX:RTs h tX xl) :
    Calls Tryz.prog 11 #[.slice A us.length capA,.slice D tD.length cD,.slice X tX.length cX] w (Ret w h fun v _=>v=.tuple #[.slice none 0 0,.int .i64 (cjE W bl xl)]):=by
 have hs:=SS.start g
 replace hs:=((((((hs.a_SlO hA).add (K:=fun h_=>RVs h_ us W) hUW).a_SlO hSD).add (K:=fun h_=>RTs h_ tD bl) hTD).a_SlO hSX).add (K:=fun h_=>RTs h_ tX xl) hTX)
 have hlu:=(hs.f.2.2.2.2.1).len
 have hlD:=(hs.f.2.2.1).len
 have hlX:=(hs.f.1).len
 refine go Tryz.func11 [(0,.slice A us.length capA),(1,.slice D tD.length cD),(2,.slice X tX.length cX)] rfl ?_
 refine cSL (lL hs [.v 6 (.slice none 0 0),.v 7 (.int .i64 0)] (lN (CG.seq (cSL (lL hs [.m 16 0] (lC 17 hs (rSquare A capA us W hlW hlsW _ _ hs.g (hs.f.2.2.2.2.2.1) (hs.f.2.2.2.2.1)) ?_))))))
 rintro _ w1 h2 hs rfl
 cases hb3:(sqq W)
 ·
  refine lL hs [.v 18 (.bool true),.m 19 18] (lG 20 ?_)
  refine lG 21 ?_
  refine lG 22 ?_
  refine lG 23 ?_
  refine lG 24 ?_
  refine lL hs [.v 25 (.bool true),.m 26 25] (lG 27 ?_)
  refine lG 28 ?_
  refine lG 29 ?_
  refine lG 30 ?_
  refine lG 31 ?_
  exact lL hs [.v 32 (.bool true)] (lN (cIT (cSL (lL hs [.v 6 (.slice none 0 0),.v 7 (.int .i64 5)] (lN (CG.ret (hs.ret [] (.tuple #[.slice none 0 0,.int .i64 5]) (by rw[cjE_5 (by first|exact .inl (sq_not aM)|exact .inr oM)]))))))))
 refine lL hs [.v 18 (.bool false),.m 19 18,.m 20 1,.v 21 (.int .i64 (tD.length:Nat)),.m 22 0,.v 23 (.int .i64 (us.length:Nat))] ?_
 cases hb4:(((tD.length:Nat):Int) != ((us.length:Nat):Int))
 ·
  have phb4:=eqOfBne hb4
  refine lB 24 hb4 ?_
  refine lL hs [.v 25 (.bool false),.m 26 25,.m 27 2,.v 28 (.int .i64 (tX.length:Nat)),.m 29 0,.v 30 (.int .i64 (us.length:Nat))] ?_
  cases hb5:(((tX.length:Nat):Int) != ((us.length:Nat):Int))
  ·
   have phb5:=eqOfBne hb5
   refine lB 31 hb5 ?_
   refine lL hs [.v 32 (.bool false)] (lN (cIF (CG.skipN (CG.seq (cSL (lL hs [.m 33 0] (lC 34 hs (rSym A capA us W hlW hlsW hq _ _ hs.g (hs.f.2.2.2.2.2.1) (hs.f.2.2.2.2.1)) ?_)))))))
   rintro _ w6 h7 hs rfl
   have hb8:(symq W)=false:=sym_f (fun h_=>by rcases hE with e_|e_|e_;exact e_ h_;all_goals omega)
   rw[hb8]
   exact lL hs [.v 35 (.bool true)] (lN (cIT (cSL (lL hs [.v 6 (.slice none 0 0),.v 7 (.int .i64 10)] (lN (CG.ret (hs.ret [] (.tuple #[.slice none 0 0,.int .i64 10]) (by rw[cjE_10 ⟨sq_is aM,by omega,by omega⟩]))))))))
  have phb5:=neOfBne hb5
  refine lB 31 hb5 ?_
  exact lL hs [.v 32 (.bool true)] (lN (cIT (cSL (lL hs [.v 6 (.slice none 0 0),.v 7 (.int .i64 5)] (lN (CG.ret (hs.ret [] (.tuple #[.slice none 0 0,.int .i64 5]) (by rw[cjE_5 (by first|exact .inl (sq_not aM)|exact .inr oM)]))))))))
 have phb4:=neOfBne hb4
 refine lB 24 hb4 ?_
 refine lL hs [.v 25 (.bool true),.m 26 25] (lG 27 ?_)
 refine lG 28 ?_
 refine lG 29 ?_
 refine lG 30 ?_
 refine lG 31 ?_
 exact lL hs [.v 32 (.bool true)] (lN (cIT (cSL (lL hs [.v 6 (.slice none 0 0),.v 7 (.int .i64 5)] (lN (CG.ret (hs.ret [] (.tuple #[.slice none 0 0,.int .i64 5]) (by rw[cjE_5 (by first|exact .inl (sq_not aM)|exact .inr oM)]))))))))
theorem i64s_drop {zs:List Int}(h:I64s zs)(n:Nat):I64s (zs.drop n):=fun k=>by rw[show (zs.drop n).getD k 0=zs.getD (n+k) 0 by rw[List.getD_eq_getElem?_getD,List.getElem?_drop,←List.getD_eq_getElem?_getD]];exact h _
def rowsq (zs:List Int)(n w:Nat):List (List Rat):=(List.range n).map fun k=>rowq (zs.drop (min zs.length (k*w))) w
theorem rowsq_matf (zs:List Int)(n:Nat):rowsq zs n n=matf n (rawf zs n):=by
  unfold rowsq matf
  exact List.map_congr_left (fun i _=>vec_eq (rowq_len _ _) (fun j _=>rfl))
theorem lq_tw {D E:Nat}(h0:0<D)(hD:D≤262144)(hE:E≤262144){q:Rat}(h:Tw D E q):LQ 3 q:=by
  obtain ⟨N,a,b⟩:=h
  exact (SD.lq (e:=18) (k:=1) ⟨N,D,h0,hD,Nat.le_trans a hE,b⟩ kD).mono kD
theorem lq_raw (zs:List Int)(n i j:Nat):LQ 3 (rawf zs n i j):=lq_tw kD kD kD (tw_raw zs n i j)
theorem lq_gram {n:Nat}(hn:n≤4)(zs:List Int)(i j:Nat):LQ 3 (gram zs n i j):=lq_tw kD kD kD (tw_gram hn zs i j)
theorem lq_eye (i j:Nat):LQ 3 (eyef i j):=lq_tw kD kD kD (tw_eye i j)
theorem cons_of {α:Type}{l:List α}(h:0<l.length):∃ a t,l=a::t:=by
  cases l with
  | nil=>exact absurd h (Nat.lt_irrefl 0)
  | cons a t=>exact ⟨a,t,rfl⟩
theorem LQ.up8 {q:Rat}(h:LQ 1 q):LQ 100000000 q:=h.mono kD
theorem hRows (A:Option Addr)(c:Nat)(zs:List Int)(n m:Nat)(hn:n≤1000)(hm:m≤1000)(hl:zs.length≤9223372036854775807)(hz:I64s zs)(hc:zs.length≤c)(w:World)(h:Hp)(g:G w h)(hA:SlO 1 i64c 0 h A zs) :
    Calls Tryz.prog 22 #[.slice A zs.length c,.int .i64 (n:Nat),.int .i64 (m:Nat)] w (Ret w h fun v h1=>∃ A c,∃ us:List Value,v=.slice A us.length c∧us.length≤c∧SlO 1 vc undef h1 A us∧RVs h1 us (rowsq zs n m)):=by
 have hs:=SS.start g
 replace hs:=(hs.a_SlO hA)
 refine go Tryz.func22 [(0,.slice A zs.length c),(1,.int .i64 (n:Nat)),(2,.int .i64 (m:Nat))] rfl ?_
 refine cSL (lL hs [.v 6 (.slice none 0 0)] (lNS (lL hs [.v 7 (.slice none 0 0)] (lN (CG.seq (cSL (lL hs [.v 8 (.int .i64 0)] (lN (CG.block ?_)))))))))
 replace hs:=hs.nil 27 1
 refine cTo [(0,.slice A zs.length c),(1,.int .i64 (n:Nat)),(2,.int .i64 (m:Nat)),(6,.slice none 0 0),(8,.int .i64 0),(7,.slice none 0 0)] ?_
 replace hs:=hs.add (K:=fun h_=>RVs h_ ([]) (rowsq zs 0 m)) (RVs.nil)
 refine CG.loop (fun μ_ Γ w_=>∃ (k:Nat) (sA:Option Addr) (sc:Nat) (us:List Value) (h_:Hp),μ_=n-k∧Γ=[(0,.slice A zs.length c),(1,.int .i64 (n:Nat)),(2,.int .i64 (m:Nat)),(6,.slice none 0 0),(8,.int .i64 (k:Nat)),(7,.slice sA ((us).length) sc)]∧SS w h w_ h_ [] [⟨27,1,sA,sc,(us).length,(us).flatMap vc⟩] [fun h_=>RVs h_ us (rowsq zs k m),fun h_=>SlO 1 i64c 0 h_ A zs]∧(k≤n)) _ ⟨0,none,0,[],h,rfl,rfl,hs.to _ _,Nat.zero_le _⟩ ?_
 rintro _ _ w1 ⟨k,sA,sc,us,h2,hm3,rfl,hs,hk⟩
 have hlU:=(hs.f.1).len
 have hlr:(rowsq zs k m).length=k:=by simp[rowsq]
 refine CG.seq (cSL (lL hs [.m 9 8,.m 10 1] ?_))
 cases hb4:(decide (((k:Nat):Int)<((n:Nat):Int)))
 ·
  have phb4:=oF hb4
  refine lB 11 hb4 ?_
  refine lN (cIF (CG.exit ?_))
  show CG _ _ _ _ _ _ _ _
  refine cSL (lL hs [.m 27 7,.m 6 27] (lN (CG.ret ?_)))
  have hkq:k=n:=by omega
  subst hkq
  obtain ⟨h5,hs,hc6⟩:=hs.pubr 0 (A:=sA) (c:=sc) (l:=us) (f:=vc) (ty:=27) (sz:=1) undef (fun _=>rfl)
  exact hs.ret [] (.slice sA ((us).length) sc) (⟨_,_,us,rfl,hc6,(hs.f.1),(hs.f.2.1)⟩)
 have phb4:=oT hb4
 refine lB 11 hb4 ?_
 refine lN (cIT (CG.skipN (CG.seq (CG.block (CG.listed ?_)))))
 have hkm:k*m≤1000*1000:=Nat.mul_le_mul oM oM
 have hkm2:((k*m:Nat):Int)=(k:Nat)*(m:Nat):=Int.natCast_mul k m
 refine lL hs [.m 14 7,.m 15 0,.m 16 0,.v 17 (.int .i64 (zs.length:Nat)),.m 18 8,.m 19 2] (lIn 20 ((k:Nat)*(m:Nat)) (k*m) ?_)
 refine lV 21 (.int .i64 (min ((zs.length:Nat):Int) ((k*m:Nat):Int))) ?_ (hr:=rint (n:=(if ((k*m:Nat):Int)<((zs.length:Nat):Int) then ((k*m:Nat):Int) else ((zs.length:Nat):Int))) kR (by simp only[imin2]))
 refine lF 22 A zs.length c 1 (min ((zs.length:Nat):Int) ((k*m:Nat):Int)) (min zs.length (k*m)) ?_
 refine lL hs [.m 23 2] (lC 24 hs ((by have q_:=hRow (if c=(min zs.length (k*m)) then A else A.map (·.add ((min zs.length (k*m))*1))) (c-(min zs.length (k*m))) (zs.drop ((min zs.length (k*m)))) m oM (by rw[List.length_drop];omega) (i64s_drop hz _) _ _ hs.g ((hs.f.2.1).drop ((min zs.length (k*m))) c hc);rw[List.length_drop] at q_;exact q_)) ?_)
 rintro _ w8 h9 hs ⟨Ar,cr,tr,rfl,hcr,hAr,hTr⟩
 replace hs:=((hs.a_SlO hAr).add (K:=fun h_=>RTs h_ tr (rowq (zs.drop (min zs.length (k*m))) m)) hTr)
 refine lR 25 27 1 ([.slice Ar tr.length cr]) hs (fun b10 w11 h12 hs=>?_)
 refine lY 26 0 27 1 sc sA us vc (.slice Ar tr.length cr:Value) 24 b10 (.slice none 0 0) hs (hs.f.1) (fun A14 c15 w16 h17 hs=>?_)
 refine lL hs [.m 7 26] (lN (CG.listed (lL hs [.m 12 8] (lIn 13 ((k:Nat)+1) (k+1) ?_))))
 refine lL hs [.m 8 13] (lD ?_)
 intro a_ ka
 have q19:RVs h17 (us++[(.slice Ar tr.length cr:Value)]) (rowsq zs (k+1) m):=(by unfold rowsq;rw[List.range_succ,List.map_append];exact (hs.f.2.2.2.1).snoc ⟨_,_,tr,rfl,hcr,(hs.f.2.2.1),(hs.f.2.1)⟩)
 have q20:(k+1)≤n:=by omega
 replace hs:=(hs.tl.tl.tl.tl.add (K:=fun h_=>RVs h_ (us++[(.slice Ar tr.length cr:Value)]) (rowsq zs (k+1) m)) q19)
 refine ⟨_,_,?_,⟨k+1,A14,c15,us++[(.slice Ar tr.length cr:Value)],h17,rfl,rfl,hs.to _ _,q20⟩,ka.to [(0,.slice A zs.length c),(1,.int .i64 (n:Nat)),(2,.int .i64 (m:Nat)),(6,.slice none 0 0),(8,.int .i64 ((k+1):Nat)),(7,.slice A14 (((us++[(.slice Ar tr.length cr:Value)])).length) c15)] kR⟩
 omega
theorem lDef (A:Option Addr)(c:Nat)(zs:List Int)(n_ way at_ by_:Int)(n:Nat)(hn_:n=pick n_ 4+1)(hl:zs.length≤9223372036854775807)(hz:I64s zs)(hc:zs.length≤c)(hb0 : -9223372036854775808≤by_)(hb1:by_≤9223372036854775807)(w:World)(h:Hp)(g:G w h)(hA:SlO 1 i64c 0 h A zs) :
    Calls Tryz.prog 5 #[.slice A zs.length c,.int .i64 n_,.int .i64 way,.int .i64 at_,.int .i64 by_] w (Ret w h fun v h1=>∃ A c,∃ us:List Value,∃ W,v=.slice A us.length c∧us.length≤c∧SlO 1 vc undef h1 A us∧RVs h1 us W∧Dfn n W∧(3≤pick way 8→W=matf n fun i j=>gram zs n i j+eyef i j)):=by
 have hs:=SS.start g
 replace hs:=(hs.a_SlO hA)
 have hp4:=pick_lt n_ 4 oM
 have hp8:=pick_lt way 8 oM
 have h0n:0<n:=by omega
 have hn5:n≤5:=by omega
 refine go Tryz.func5 [(0,.slice A zs.length c),(1,.int .i64 n_),(2,.int .i64 way),(3,.int .i64 at_),(4,.int .i64 by_)] rfl ?_
 refine cSL (lL hs [.v 10 (.slice none 0 0)] (lNS (lL hs [.m 16 1] (lC 17 hs (hPick (n_) 4 oM oM _ _ hs.g) ?_))))
 rintro _ w2 h3 hs rfl
 have lp1:=pick_lt (n_) 4 oM
 refine lIn 18 ((pick (n_) 4:Nat)+1) n ?_
 refine lL hs [.m 1 18] (lNS (lL hs [.m 19 0,.m 20 1,.m 21 1] (lC 22 hs (hRows A c zs n n oM oM hl hz hc _ _ hs.g (hs.f.1)) ?_)))
 rintro _ w4 h5 hs ⟨Ar,cr,ur,rfl,hcr,hAr,hUr0⟩
 have hUr:=hUr0
 rw[rowsq_matf] at hUr
 replace hs:=((hs.a_SlO hAr).add (K:=fun h_=>RVs h_ ur (matf n (rawf zs n))) hUr)
 refine lL hs [.m 11 22] (lNS (lL hs [.m 24 11] (lC 25 hs (rTurn n h0n hn5 Ar cr ur (rawf zs n) _ _ hs.g (hs.f.2.1) (hs.f.1)) ?_)))
 rintro _ w6 h7 hs ⟨At,ct,ut,rfl,hct,hAt,hUt⟩
 replace hs:=((hs.a_SlO hAt).add (K:=fun h_=>RVs h_ ut (matf n (fun i j=>rawf zs n j i))) hUt)
 refine lL hs [.m 23 25,.v 26 (.slice At ut.length ct),.v 27 (.int .i64 0),.m 12 26,.m 13 27] (lNS (lL hs [.m 29 11,.m 30 12] ?_))
 have hlo_:=hs.st.up.gr.size
 refine lC 31 hs (rMulF n h0n hn5 Ar cr ur (rawf zs n) At ct ut (fun i j=>rawf zs n j i) (fun i j=>lq_raw zs n i j) (fun i j=>lq_raw zs n j i) _ _ hs.g (hs.f.2.2.2.1) (hs.f.2.2.1) (hs.f.2.1) (hs.f.1)) ?_
 rintro _ w8 h9 hs ⟨bo,ca,ua,spo,rfl,hca,hWo0,hneo,hSp0⟩
 have hWo:Whole h.size _ bo 27 (ua.flatMap vc++spo):=hWo0.up hlo_
 have hSp:Sep h.size _ ua n n (gram zs n):=hSp0.up hlo_
 have hAa:SlO 1 vc undef _ (some ⟨bo,0,none⟩) ua:=hWo.slo (fun _=>rfl)
 have hlua:=hSp.len
 replace hs:=(((hs.add (K:=fun h_=>Whole h.size h_ bo 27 (ua.flatMap vc++spo)) hWo).add (K:=fun h_=>Sep h.size h_ ua n n (gram zs n)) hSp).a_SlO hAa)
 refine lL hs [.m 28 31,.v 32 (.slice (some ⟨bo,0,none⟩) ua.length ca),.v 33 (.int .i64 0),.m 14 32,.m 15 33] (lNS (lL hs [.m 34 3,.m 35 1] (lC 36 hs (hPick (at_) n oM oM _ _ hs.g) ?_)))
 rintro _ w11 h12 hs rfl
 have lp10:=pick_lt (at_) n oM
 refine lL hs [.m 3 36] (lN (CG.seq (cSL (lL hs [.m 37 2] (lC 38 hs (hPick (way) 8 oM oM _ _ hs.g) ?_)))))
 rintro _ w14 h15 hs rfl
 have lp13:=pick_lt (way) 8 oM
 refine lN (CG.block (cSL ?_))
 cases hb16:(((pick (way) 8:Nat):Int) == (0:Int))
 ·
  have phb16:=neOfBeq hb16
  refine lB 47 hb16 ?_
  refine lL hs [.m 46 47] (lN (cIF (cSL ?_)))
  cases hb17:(((pick (way) 8:Nat):Int) == (1:Int))
  ·
   have phb17:=neOfBeq hb17
   refine lB 56 hb17 ?_
   refine lL hs [.m 55 56] (lN (cIF (cSL ?_)))
   cases hb18:(((pick (way) 8:Nat):Int) == (2:Int))
   ·
    have phb18:=neOfBeq hb18
    refine lB 66 hb18 ?_
    refine lL hs [.m 65 66] (lN (cIF (CG.listed (lL hs [.m 40 14,.m 41 1] (lC 42 hs (rEye n h0n hn5 _ _ hs.g) ?_)))))
    rintro _ w19 h20 hs ⟨Ae,ce,ue,rfl,hce,hAe,hUe⟩
    replace hs:=((hs.a_SlO hAe).add (K:=fun h_=>RVs h_ ue (matf n eyef)) hUe)
    refine lC 43 hs (rAddF n h0n hn5 (some ⟨bo,0,none⟩) ca ua (gram zs n) Ae ce ue eyef (fun i j=>lq_gram oM zs i j) (fun i j=>lq_eye i j) _ _ hs.g (hs.f.2.2.1) ((hs.f.2.2.2.1)).rvs (hs.f.2.1) (hs.f.1)) ?_
    rintro _ w21 h22 hs ⟨Am,cm,um,rfl,hcm,hAm,hUm⟩
    replace hs:=((hs.a_SlO hAm).add (K:=fun h_=>RVs h_ um (matf n (fun i j=>gram zs n i j+eyef i j))) hUm)
    refine lL hs [.m 39 43,.v 44 (.slice Am um.length cm),.v 45 (.int .i64 0),.m 14 44] (lN (cTo [(10,.slice none 0 0),(14,.slice Am um.length cm)] ?_))
    exact cSL (lL hs [.m 67 14,.m 10 67] (lN (CG.ret (hs.ret [] (.slice Am um.length cm) (⟨_,_,um,_,rfl,hcm,(hs.f.2.1),(hs.f.1),(dfn_more oM zs),fun _=>rfl⟩)))))
   have phb18:=eq_of_beq hb18
   refine lB 66 hb18 ?_
   refine lL hs [.m 65 66] (lN (cIT (CG.skipN (cSL (lL hs [.m 67 14,.m 10 67] (lN (cTo [(10,.slice (some ⟨bo,0,none⟩) ua.length ca)] ?_)))))))
   exact CG.ret (hs.ret [] (.slice (some ⟨bo,0,none⟩) ua.length ca) (⟨_,_,ua,_,rfl,hca,(hs.f.1),((hs.f.2.1)).rvs,(dfn_gram oM zs),(fun h_=>absurd h_ oM)⟩))
  have phb17:=eq_of_beq hb17
  refine lB 56 hb17 ?_
  refine lL hs [.m 55 56] (lN (cIT (CG.listed (lL hs [.m 57 14,.m 58 3,.m 59 14,.m 60 3] (lX 61 (some ⟨bo,0,none⟩) ua.length ca 1 (pick (at_) n:Nat) (pick (at_) n) ((hs.f.1).ok oM) ?_)))))
  obtain ⟨bq,cq,tq,spq,eq_,hcq,hWq0,hTq0⟩:=(hs.f.2.1).at_ (pick (at_) n) oM
  have hlq:=hTq0.len
  rw[vec_len] at hlq
  have hRq0:SlO 3 rqc rqd _ (some ⟨bq,0,none⟩) tq:=hWq0.slo (fun _=>rfl)
  replace hs:=hs.add (K:=fun h_=>Whole h.size h_ bq 74 (tq.flatMap rqc++spq)) hWq0
  replace hs:=hs.add (K:=fun h_=>RTs h_ tq (vec n ((gram zs n) (pick (at_) n)))) hTq0
  replace hs:=hs.a_SlO hRq0
  refine lHe 62 (ua.getD (pick (at_) n) undef) hs ((hs.f.2.2.2.1).el (pick (at_) n) oM) eq_ ?_
  refine lF 63 (some ⟨bq,0,none⟩) tq.length cq 3 1 1 ?_
  refine lX 64 (some ⟨bo,0,none⟩) ua.length ca 1 (pick (at_) n:Nat) (pick (at_) n) ((hs.f.2.2.2.1).ok oM) ?_
  have hS1:=(hs.f.2.2.2.2.1)
  have hT1:=(hs.f.2.1)
  have hR1:=(hs.f.1)
  have hW1:Whole h.size h15 bo 27 ((ua++spo).flatMap vc):=by have q_:=(hs.f.2.2.2.2.2.1);rw[flat_vc] at q_;rw[flat_vc];exact q_
  replace hs:=hs.grab hW1
  refine lW 0 (ua++spo) vc 1 (pick (at_) n) (.slice (if cq=1 then some ⟨bq,0,none⟩ else (some ⟨bq,0,none⟩:Option Addr).map (·.add (1*3))) (tq.length-1) (cq-1):Value) hs (by rw[List.length_append];omega) (fun w23 hs=>?_)
  obtain ⟨hN,hs,-,hcN,hoN⟩:=hs.pubY 0
  have hP:=Poked.of (b:=bo) hoN
  obtain ⟨hV,hAo⟩:=hS1.cut oM eq_ hcq hT1 hR1 hneo hW1 hP rfl hcN
  replace hs:=(hs.to [] []).a_SlO (A:=some ⟨bo,0,none⟩) (l:=ua.set (pick (at_) n) (.slice (if cq=1 then some ⟨bq,0,none⟩ else (some ⟨bq,0,none⟩:Option Addr).map (·.add (1*3))) (tq.length-1) (cq-1):Value)) (sz:=1) (f:=vc) (d:=undef) hAo
  replace hs:=hs.add (K:=fun h_=>RVs h_ (ua.set (pick (at_) n) (.slice (if cq=1 then some ⟨bq,0,none⟩ else (some ⟨bq,0,none⟩:Option Addr).map (·.add (1*3))) (tq.length-1) (cq-1):Value)) ((matf n (gram zs n)).set (pick (at_) n) (((matf n (gram zs n)).getD (pick (at_) n) []).drop 1))) hV
  refine lN (cTo [(10,.slice none 0 0),(14,.slice (some ⟨bo,0,none⟩) ua.length ca)] ?_)
  exact cSL (lL hs [.m 67 14,.m 10 67] (lN (CG.ret (hs.ret [] (.slice (some ⟨bo,0,none⟩) ua.length ca) (⟨some ⟨bo,0,none⟩,ca,ua.set (pick (at_) n) (.slice (if cq=1 then some ⟨bq,0,none⟩ else (some ⟨bq,0,none⟩:Option Addr).map (·.add (1*3))) (tq.length-1) (cq-1):Value),_,sl_len (by rw[List.length_set]),(by rw[List.length_set];exact hca),(hs.f.2.1),(hs.f.1),(dfn_gram oM zs).cut _,(fun h_=>absurd h_ oM)⟩)))))
 have phb16:=eq_of_beq hb16
 refine lB 47 hb16 ?_
 refine lL hs [.m 46 47] (lN (cIT (cR 6 [] mixed hs al_nil ?_)))
 refine eV 0 48 (.slice (some ⟨bo,0,none⟩) ua.length ca) ?_
 refine eV 1 49 (.int .i64 (pick (at_) n:Nat)) ?_
 refine eX 2 50 (some ⟨bo,0,none⟩) ua.length ca 1 (pick (at_) n:Nat) (pick (at_) n) ((hs.f.1).ok oM) ?_
 obtain ⟨bq,cq,tq,spq,eq_,hcq,hWq0,hTq0⟩:=(hs.f.2.1).at_ (pick (at_) n) oM
 have hlq:=hTq0.len
 rw[vec_len] at hlq
 have hRq0:SlO 3 rqc rqd _ (some ⟨bq,0,none⟩) tq:=hWq0.slo (fun _=>rfl)
 replace hs:=hs.add (K:=fun h_=>Whole h.size h_ bq 74 (tq.flatMap rqc++spq)) hWq0
 replace hs:=hs.add (K:=fun h_=>RTs h_ tq (vec n ((gram zs n) (pick (at_) n)))) hTq0
 replace hs:=hs.a_SlO hRq0
 refine eHe 3 51 (ua.getD (pick (at_) n) undef) hs ((hs.f.2.2.2.1).el (pick (at_) n) oM) eq_ ?_
 refine eV 4 52 (.int .i64 by_) ?_
 refine eC 5 53 hs (fun _ _ hs=>hR by_ hb0 hb1 _ _ hs.g) ?_
 rintro _ _ _ w32 h33 hs ⟨A24,c25,A28,c29,rfl,hc26,hc30,hA27,hA31⟩
 replace hs:=((hs.a_SlO hA27).a_SlO hA31)
 refine eD0 hs (fun w34 h35 hs=>?_)
 refine tX 6 54 (some ⟨bq,0,none⟩) tq.length cq 3 0 0 rfl ?_
 obtain ⟨t0,tl,ht0⟩:=cons_of (l:=tq) oM
 have hS1:=(hs.f.2.2.2.2.2.2.1)
 have hT1:=(hs.f.2.2.2.1)
 have hW1:=(hs.f.2.2.2.2.1)
 have hA1_:=(hs.f.2.2.2.2.2.1)
 have hq1:RQ _ (rtv ((ineg (handRq by_).num,.slice A24 ((lim (iabs (handRq by_).num)).length) c25,.slice A28 ((lim (handRq by_).den).length) c29):RT)) (handRq by_):=rqOk hc26 hc30 (hs.f.2.1) (hs.f.1)
 rw[ht0] at hT1 hW1
 have hW2:Whole h.size h35 bq 74 ([.bool t0.1,t0.2.1,t0.2.2]++(tl.flatMap rqc++spq)):=hW1
 replace hs:=hs.grab hW2
 refine tP 7 0 0 [.bool (ineg (handRq by_).num),.slice A24 ((lim (iabs (handRq by_).num)).length) c25,.slice A28 ((lim (handRq by_).den).length) c29] hs (fun w36 hs=>?_)
 obtain ⟨hN,hs,-,hcN,hoN⟩:=hs.pubY 0
 have hP:=Poked.of (b:=bq) hoN
 have hV:=hS1.put0 oM (by rw[←ht0];exact eq_) (by rw[←ht0];exact hcq) hW2 hT1 hP hq1 hcN
 have hAo:=hP.slo (fun e_=>hneo (pick (at_) n) oM (by rw[eq_];exact e_.symm)) hA1_
 replace hs:=(hs.to [] []).a_SlO (A:=some ⟨bo,0,none⟩) (l:=ua) (sz:=1) (f:=vc) (d:=undef) hAo
 replace hs:=hs.add (K:=fun h_=>RVs h_ ua ((matf n (gram zs n)).set (pick (at_) n) (((matf n (gram zs n)).getD (pick (at_) n) []).set 0 (handRq by_)))) hV
 refine tN (cTo [(10,.slice none 0 0),(14,.slice (some ⟨bo,0,none⟩) ua.length ca)] ?_)
 exact cSL (lL hs [.m 67 14,.m 10 67] (lN (CG.ret (hs.ret [] (.slice (some ⟨bo,0,none⟩) ua.length ca) (⟨_,_,ua,_,rfl,hca,(hs.f.2.1),(hs.f.1),(dfn_gram oM zs).put _ (tw_hand144 _),(fun h_=>absurd h_ oM)⟩)))))
theorem lQ_ (A:Option Addr)(c:Nat)(zs:List Int)(hl:zs.length≤1000)(hz:I64s zs)(w:World)(h:Hp)(g:G w h)(hA:SlO 1 i64c 0 h A zs) :
    Calls Tryz.prog 46 #[.slice A zs.length c] w (Ret w h fun v h1=>∃ A c,v=.slice A (zs.map (fun z:Int=>(z:Rat))).length c∧(zs.map (fun z:Int=>(z:Rat))).length≤c∧SlO 5 qc 0 h1 A (zs.map (fun z:Int=>(z:Rat)))):=by
 have hs:=SS.start g
 replace hs:=(hs.a_SlO hA)
 refine go Tryz.func46 [(0,.slice A zs.length c)] rfl ?_
 refine cSL (lL hs [.v 2 (.slice none 0 0)] (lNS (lL hs [.v 3 (.slice none 0 0)] (lN (CG.seq (cSL (lL hs [.v 4 (.int .i64 0)] (lN (CG.block ?_)))))))))
 replace hs:=hs.nil 56 5
 refine cTo [(0,.slice A zs.length c),(2,.slice none 0 0),(4,.int .i64 0),(3,.slice none 0 0)] ?_
 refine CG.loop (fun μ_ Γ w_=>∃ (k:Nat) (sA:Option Addr) (sc:Nat) (ql:List Rat) (h_:Hp),μ_=zs.length-k∧Γ=[(0,.slice A zs.length c),(2,.slice none 0 0),(4,.int .i64 (k:Nat)),(3,.slice sA ((ql).length) sc)]∧SS w h w_ h_ [] [⟨56,5,sA,sc,(ql).length,(ql).flatMap qc⟩] [fun h_=>SlO 1 i64c 0 h_ A zs]∧(k≤zs.length)∧(ql=(zs.take k).map (fun z:Int=>(z:Rat)))) _ ⟨0,none,0,[],h,rfl,rfl,hs.to _ _,Nat.zero_le _,rfl⟩ ?_
 rintro _ _ w1 ⟨k,sA,sc,ql,h2,hm3,rfl,hs,hk,hql⟩
 have htk:ql.length=k:=by rw[hql];simp;omega
 refine CG.seq (cSL (lL hs [.m 5 4,.m 6 0,.v 7 (.int .i64 (zs.length:Nat))] ?_))
 cases hb4:(decide (((k:Nat):Int)<((zs.length:Nat):Int)))
 ·
  have phb4:=oF hb4
  refine lB 8 hb4 ?_
  refine lN (cIF (CG.exit ?_))
  show CG _ _ _ _ _ _ _ _
  refine cSL (lL hs [.m 19 3,.m 2 19] (lN (CG.ret ?_)))
  have hkq:ql=(zs.map (fun z:Int=>(z:Rat))):=by rw[hql,List.take_of_length_le oM]
  obtain ⟨h5,hs,hc6⟩:=hs.pubr 0 (A:=sA) (c:=sc) (l:=ql) (f:=qc) (ty:=56) (sz:=5) 0 (fun _=>rfl)
  exact hs.ret [] (.slice sA ((ql).length) sc) (by rw[←hkq];exact ⟨_,_,rfl,hc6,(hs.f.1)⟩)
 have phb4:=oT hb4
 refine lB 8 hb4 ?_
 refine lN (cIT (CG.skipN (CG.seq (CG.block (CG.listed (lL hs [.m 11 3,.m 12 0,.m 13 4] (lX 14 A zs.length c 1 (k:Nat) k ((hs.f.1).ok oM) ?_)))))))
 refine lH 15 (.int .i64 (zs.getD k 0)) hs ((hs.f.1).el k oM) ?_
 refine lC 16 hs (fOf (zs.getD k 0) (hz k).1 (hz k).2 _ _ hs.g) ?_
 rintro _ w8 h9 hs rfl
 refine lR 17 56 1 (qc ((zs.getD k 0:Int):Rat)) hs (fun b10 w11 h12 hs=>?_)
 refine lY 18 0 56 5 sc sA ql qc ((zs.getD k 0:Int):Rat) 56 b10 (.agg #[.bool false,.int .u64 0,.string ⟨#[]⟩,.int .u64 0,.string ⟨#[]⟩]) hs (hs.f.1) (fun A14 c15 w16 h17 hs=>?_)
 refine lL hs [.m 3 18] (lN (CG.listed (lL hs [.m 9 4] (lIn 10 ((k:Nat)+1) (k+1) ?_))))
 refine lL hs [.m 4 10] (lD ?_)
 intro a_ ka
 have q19:(k+1)≤zs.length:=by omega
 have q20:(ql++[((zs.getD k 0:Int):Rat)])=(zs.take (k+1)).map (fun z:Int=>(z:Rat)):=(by rw[take_snoc' 0 oM,List.map_append,hql];rfl)
 replace hs:=hs.tl
 refine ⟨_,_,?_,⟨k+1,A14,c15,ql++[((zs.getD k 0:Int):Rat)],h17,rfl,rfl,hs.to _ _,q19,q20⟩,ka.to [(0,.slice A zs.length c),(2,.slice none 0 0),(4,.int .i64 ((k+1):Nat)),(3,.slice A14 (((ql++[((zs.getD k 0:Int):Rat)])).length) c15)] kR⟩
 omega
def CjR (W:List (List Rat))(bl xl:List Rat)(t:Nat)(e:Int):Prop:=(SymP W∧bl.length=W.length∧xl.length=W.length)∧CjEnd W.length (mA W) (fun i=>bl.getD i 0) (fun i=>xl.getD i 0) t e∨¬(SymP W∧bl.length=W.length∧xl.length=W.length)∧t=0∧e=cjE W bl xl
theorem CjR.uniq {W:List (List Rat)}{bl xl:List Rat}{t t':Nat}{e e':Int}(h:CjR W bl xl t e)(h':CjR W bl xl t' e'):t=t'∧e=e':=by
  rcases h with ⟨a,b⟩|⟨a,b,c⟩<;>rcases h' with ⟨a',b'⟩|⟨a',b',c'⟩
  · exact b.uniq b'
  · exact absurd a a'
  · exact absurd a' a
  · exact ⟨by rw[b,b'],by rw[c,c']⟩
theorem cjE_ne (W:List (List Rat))(bl xl:List Rat):cjE W bl xl≠0:=by unfold cjE;split<;>decide
structure Rwq (l:List Rat):Prop where
  len:l.length≤5
  cd:∀ n,CD n 8 (fun i=>l.getD i 0)
theorem Rwq.lq {l:List Rat}(h:Rwq l)(i:Nat):LQ 1 (l.getD i 0):=((h.cd (i+1)).at_ (Nat.lt_succ_self i)).lq kD
theorem rwq_row (zs:List Int){n:Nat}(hn:n≤5):Rwq (rowq zs n):=⟨by rw[rowq_len];exact hn,fun m=>cd_row zs n m⟩
theorem cj_B {n:Nat}{W:List (List Rat)}(hD:Dfn n W)(hn:n≤4){bl xl:List Rat}(hb:Rwq bl)(hx:Rwq xl){t:Nat}(ht:t≤W.length):CgB W.length (mA W) (fun i=>bl.getD i 0) (fun i=>xl.getD i 0) t:=cg_B (by have:=hD.len;omega) hD.md (hb.cd _) (hx.cd _) (by have:=hD.len;omega)
theorem CjR.le {W:List (List Rat)}{bl xl:List Rat}{t:Nat}{e:Int}(h:CjR W bl xl t e):t≤W.length:=by
  rcases h with ⟨a,b⟩|⟨a,b,c⟩
  · exact cg_ends a.1.all (fun i hi=>goes_of (b.1 i hi))
  · omega
theorem cConjA (A:Option Addr)(cap:Nat)(us:List Value)(W:List (List Rat))(n:Nat)(hD:Dfn n W)(hn:n≤4)(D:Option Addr)(cD:Nat)(bl:List Rat)(X:Option Addr)(cX:Nat)(xl:List Rat)(hb:Rwq bl)(hx:Rwq xl)(w:World)(h:Hp)(g:G w h)(hA:SlO 1 vc undef h A us)(hU:QVs h us W)(hDb:SlO 5 qc 0 h D bl)(hX:SlO 5 qc 0 h X xl)(tb:Tab h) :
    Calls Tryz.prog 8 #[.slice A us.length cap,.slice D bl.length cD,.slice X xl.length cX] w (Ret w h fun v h1=>∃ (t:Nat) (e:Int) (A:Option Addr) (c:Nat) (al:List TV),CjR W bl xl t e∧v=.tuple #[.slice A al.length c,.int .i64 e]∧SlO 3 tvc tv0 h1 A al∧CTr W.length (mA W) (fun i=>bl.getD i 0) (fun i=>xl.getD i 0) h1 al∧al.length=(if e=0 then t+1 else 0)):=by
  have hlW:=hD.len
  have hl:W.length≤1000:=by omega
  have hls:∀ i,i<W.length→(W.getD i []).length≤1000:=fun i _=>by have:=hD.wd i;omega
  have hbl:=hb.len;have hxl:=hx.len
  by_cases hc:SymP W∧bl.length=W.length∧xl.length=W.length
  · have e1:bl=vec W.length (fun i=>bl.getD i 0):=vec_eq hc.2.1 (fun _ _=>rfl)
    have e2:xl=vec W.length (fun i=>xl.getD i 0):=vec_eq hc.2.2 (fun _ _=>rfl)
    rw[e1] at hDb
    rw[e2] at hX
    have x:=cConj0 A cap us W hl hls (fun i=>bl.getD i 0) (fun i=>xl.getD i 0) W.length oM D cD X cX hc.1 rfl (fun i j=>hD.lq i j) (fun i _=>(hb.lq i).mono kD) (fun i _=>(hx.lq i).mono kD) (fun t ht=>cj_B hD hn hb hx ht) w h g hA hU hDb hX tb
    rw[←e1,←e2] at x
    refine x.mono ?_
    rintro _ w' ⟨v,h',rfl,u,t,e,A',c',al,k1,k2,k3,k4,k5⟩
    exact ⟨v,h',rfl,u,t,e,A',c',al,.inl ⟨hc,k1⟩,k2,k3,k4,k5⟩
  · have x:=cConjE A cap us W hl hls D cD bl X cX xl oM oM (fun i j=>(hD.lq i j).mono kD) (by
      by_cases a:SymP W
      · by_cases b:bl.length=W.length
        · exact .inr (.inr (fun c=>hc ⟨a,b,c⟩))
        · exact .inr (.inl b)
      · exact .inl a) w h g hA hU hDb hX tb
    refine x.mono ?_
    rintro _ w' ⟨v,h',rfl,u,k⟩
    exact ⟨v,h',rfl,u,0,_,none,0,[],.inr ⟨hc,rfl,rfl⟩,k,SlO.nil,CTr.nil,by rw[if_neg (cjE_ne _ _ _)];rfl⟩
theorem rConjA (A:Option Addr)(cap:Nat)(us:List Value)(W:List (List Rat))(n:Nat)(hD:Dfn n W)(hn:n≤4)(D:Option Addr)(cD:Nat)(tD:List RT)(bl:List Rat)(X:Option Addr)(cX:Nat)(tX:List RT)(xl:List Rat)(hb:Rwq bl)(hx:Rwq xl)(w:World)(h:Hp)(g:G w h)(hA:SlO 1 vc undef h A us)(hU:RVs h us W)(hSD:SlO 3 rqc rqd h D tD)(hTD:RTs h tD bl)(hSX:SlO 3 rqc rqd h X tX)(hTX:RTs h tX xl) :
    Calls Tryz.prog 11 #[.slice A us.length cap,.slice D tD.length cD,.slice X tX.length cX] w (Ret w h fun v h1=>∃ (t:Nat) (e:Int) (A:Option Addr) (c:Nat) (al:List TV),CjR W bl xl t e∧v=.tuple #[.slice A al.length c,.int .i64 e]∧SlO 3 tvc tv0 h1 A al∧CRr W.length (mA W) (fun i=>bl.getD i 0) (fun i=>xl.getD i 0) h1 al∧al.length=(if e=0 then t+1 else 0)):=by
  have hlW:=hD.len
  have hl:W.length≤1000:=by omega
  have hls:∀ i,i<W.length→(W.getD i []).length≤1000:=fun i _=>by have:=hD.wd i;omega
  have hbl:=hb.len;have hxl:=hx.len
  by_cases hc:SymP W∧bl.length=W.length∧xl.length=W.length
  · have e1:bl=vec W.length (fun i=>bl.getD i 0):=vec_eq hc.2.1 (fun _ _=>rfl)
    have e2:xl=vec W.length (fun i=>xl.getD i 0):=vec_eq hc.2.2 (fun _ _=>rfl)
    rw[e1] at hTD
    rw[e2] at hTX
    have x:=rConj0 A cap us W hl hls W.length oM (fun i=>bl.getD i 0) (fun i=>xl.getD i 0) D cD tD X cX tX hc.1 rfl (fun i j=>hD.lq i j) (fun i _=>(hb.lq i).mono kD) (fun i _=>(hx.lq i).mono kD) (fun t ht=>cj_B hD hn hb hx ht) w h g hA hU hSD hTD hSX hTX
    refine x.mono ?_
    rintro _ w' ⟨v,h',rfl,u,t,e,A',c',al,k1,k2,k3,k4,k5⟩
    exact ⟨v,h',rfl,u,t,e,A',c',al,.inl ⟨hc,k1⟩,k2,k3,k4,k5⟩
  · have x:=rConjE A cap us W hl hls D cD tD bl X cX tX xl oM oM (fun i j=>(hD.lq i j).mono kD) (by
      by_cases a:SymP W
      · by_cases b:bl.length=W.length
        · exact .inr (.inr (fun c=>hc ⟨a,b,c⟩))
        · exact .inr (.inl b)
      · exact .inl a) w h g hA hU hSD hTD hSX hTX
    refine x.mono ?_
    rintro _ w' ⟨v,h',rfl,u,k⟩
    exact ⟨v,h',rfl,u,0,_,none,0,[],.inr ⟨hc,rfl,rfl⟩,k,SlO.nil,CRr.nil,by rw[if_neg (cjE_ne _ _ _)];rfl⟩
def knW:List (List Rat):=[[((2:Int):Rat),((0:Int):Rat)],[((0:Int):Rat),((1:Int):Rat)]]
def knb:List Rat:=[((2:Int):Rat),((1:Int):Rat)]
def knx:List Rat:=[((0:Int):Rat),((0:Int):Rat)]
theorem kn_tw (i j:Nat):Tw 144 262144 ((knW.getD i []).getD j 0):=by
  have h0:∀ z:Int,z.natAbs≤2→Tw 144 262144 ((z:Int):Rat):=fun z hz=>⟨z*144,by rw[Int.natAbs_mul];exact Nat.le_trans (Nat.mul_le_mul_right _ hz) kD,by rw[Rat.intCast_mul];rfl⟩
  match i,j with
  | 0,0=>exact h0 2 kD
  | 0,1=>exact h0 0 kD
  | 0,j+2=>exact Tw.zero
  | 1,0=>exact h0 0 kD
  | 1,1=>exact h0 1 kD
  | 1,j+2=>exact Tw.zero
  | i+2,j=>exact Tw.zero
theorem kn_dfn:Dfn 2 knW:=⟨rfl,fun i=>by
  match i with
  | 0=>exact Nat.le_refl _
  | 1=>exact Nat.le_refl _
  | i+2=>exact Nat.zero_le _,kn_tw⟩
theorem kn_cd (n:Nat){a b:Int}(ha:a.natAbs≤2)(hb:b.natAbs≤2):CD n 8 (fun i=>([(a:Rat),(b:Rat)]:List Rat).getD i 0):=⟨1,by decide,by decide,fun i _=>by
  match i with
  | 0=>exact ⟨a,Nat.le_trans ha kD,by show (a:Rat)*((1:Nat):Rat)=_;rw[show ((1:Nat):Rat)=1 from rfl,Rat.mul_one]⟩
  | 1=>exact ⟨b,Nat.le_trans hb kD,by show (b:Rat)*((1:Nat):Rat)=_;rw[show ((1:Nat):Rat)=1 from rfl,Rat.mul_one]⟩
  | i+2=>exact ⟨0,Nat.zero_le _,by show (0:Rat)*_=_;rw[Rat.zero_mul];rfl⟩⟩
theorem kn_sym:SymP knW:=⟨⟨⟨by decide,by decide,fun i hi=>by
  match i,hi with
  | 0,_=>rfl
  | 1,_=>rfl
  | i+2,hi=>exact absurd hi (by show ¬i+2<2;omega)⟩,rfl⟩,fun i hi k hk=>by
  match i,hi with
  | 0,_=>exact absurd hk (Nat.not_lt_zero _)
  | 1,_ =>
    obtain rfl:k=0:=by omega
    rfl
  | i+2,hi=>exact absurd hi (by show ¬i+2<2;omega)⟩
abbrev knC (t:Nat):Cst:=cg 2 (mA knW) (fun i=>knb.getD i 0) (fun i=>knx.getD i 0) t
theorem kn_0:dt 2 (knC 0).r (knC 0).r≠0∧0<(dt 2 (knC 0).w (mv 2 (mA knW) (knC 0).w)).num:=by decide +kernel
theorem kn_1:dt 2 (knC 1).r (knC 1).r≠0∧0<(dt 2 (knC 1).w (mv 2 (mA knW) (knC 1).w)).num:=by decide +kernel
theorem kn_2:dt 2 (knC 2).r (knC 2).r=0∧(knC 2).x 0=1∧(knC 2).x 1=1:=by decide +kernel
theorem kn_end:CjR knW knb knx 2 0:=.inl ⟨⟨kn_sym,rfl,rfl⟩,fun i hi=>by
  rcases (by omega:i=0∨i=1) with rfl|rfl
  · exact kn_0
  · exact kn_1,.inl ⟨rfl,kn_2.1⟩⟩
theorem kn_rows {h:Hp}{Q1 Q2:Option Addr}{c1 c2:Nat}(h1:SlO 5 qc 0 h Q1 (([2,0]:List Int).map (fun z:Int=>(z:Rat))))(h2:SlO 5 qc 0 h Q2 (([0,1]:List Int).map (fun z:Int=>(z:Rat))))(hc1:(([2,0]:List Int).map (fun z:Int=>(z:Rat))).length≤c1)(hc2:(([0,1]:List Int).map (fun z:Int=>(z:Rat))).length≤c2):∀ i,i<knW.length→∃ A cap,([.slice Q1 2 c1,.slice Q2 2 c2]:List Value).getD i undef=.slice A (knW.getD i []).length cap∧(knW.getD i []).length≤cap∧SlO 5 qc 0 h A (knW.getD i []):=fun i hi=>by
  match i,hi with
  | 0,_=>exact ⟨Q1,c1,rfl,hc1,h1⟩
  | 1,_=>exact ⟨Q2,c2,rfl,hc2,h2⟩
  | i+2,hi=>exact absurd hi (by show ¬i+2<2;omega)
theorem cConjK (A:Option Addr)(cap:Nat)(us:List Value)(D:Option Addr)(cD:Nat)(X:Option Addr)(cX:Nat)(w:World)(h:Hp)(g:G w h)(hA:SlO 1 vc undef h A us)(hU:QVs h us knW)(hDb:SlO 5 qc 0 h D knb)(hX:SlO 5 qc 0 h X knx)(tb:Tab h) :
    Calls Tryz.prog 8 #[.slice A 2 cap,.slice D 2 cD,.slice X 2 cX] w (Ret w h fun v h1=>∃ (A:Option Addr) (c:Nat) (al:List TV) (B:Option Addr) (d:Nat),v=.tuple #[.slice A 3 c,.int .i64 0]∧al.length=3∧(al.getD 2 tv0).1=.slice B 2 d∧SlO 3 tvc tv0 h1 A al∧SlO 5 qc 0 h1 B [1,1]):=by
  have x:=cConjA A cap us knW 2 kn_dfn kD D cD knb X cX knx ⟨by decide,fun n=>kn_cd n kD kD⟩ ⟨by decide,fun n=>kn_cd n kD kD⟩ w h g hA hU hDb hX tb
  rw[show us.length=2 from hU.len] at x
  refine x.mono ?_
  rintro _ w' ⟨v,h',rfl,u,t,e,A',c',al,k1,k2,k3,k4,k5⟩
  obtain ⟨rfl,rfl⟩:=k1.uniq kn_end
  rw[if_pos rfl] at k5
  obtain ⟨⟨B,d,e1,s1⟩,_,_⟩:=k4.at_ 2 oM
  refine ⟨v,h',rfl,u,A',c',al,B,d,by rw[k2,k5],k5,?_,k3,?_⟩
  · rw[e1,vec_len];rfl
  · have e2:vec knW.length (cg knW.length (mA knW) (fun i=>knb.getD i 0) (fun i=>knx.getD i 0) 2).x=[1,1]:=by
      show [(knC 2).x 0,(knC 2).x 1]=[1,1]
      rw[kn_2.2.1,kn_2.2.2]
    rw[e2] at s1
    exact s1
theorem lKnown29  (w:World)(h:Hp)(g:G w h)(tb:Tab h) :
    Calls Tryz.prog 12 #[] w (Ret w h fun v _=>v=.bool true):=by
 have hs:=SS.start g
 replace hs:=(hs.add (K:=fun h_=>Tab h_) tb)
 refine go Tryz.func12 [] rfl ?_
 refine cSL (lL hs [.v 0 (.bool false)] (lNS (lR 4 2 2 ([.int .i64 2,.int .i64 0]) hs (fun b1 w2 h3 hs=>?_))))
 replace hs:=hs.a_SlO (SlO.of_flat (sz:=1) (f:=i64c) (d:=0) (b:=b1) (o:=0) (l:=([2,0]:List Int)) (fun _=>rfl) (hs.f.1))
 refine lC 5 hs (lQ_ (some ⟨b1,0,none⟩) 2 ([2,0]:List Int) kD (by intro k_;rcases k_ with _|_|_<;>simp[List.getD]) _ _ hs.g (hs.f.1)) ?_
 rintro _ w6 h7 hs ⟨Q1,cQ1,rfl,hcQ1,hQ1⟩
 replace hs:=(hs.a_SlO hQ1)
 refine lR 6 2 2 ([.int .i64 0,.int .i64 1]) hs (fun b8 w9 h10 hs=>?_)
 replace hs:=hs.a_SlO (SlO.of_flat (sz:=1) (f:=i64c) (d:=0) (b:=b8) (o:=0) (l:=([0,1]:List Int)) (fun _=>rfl) (hs.f.1))
 refine lC 7 hs (lQ_ (some ⟨b8,0,none⟩) 2 ([0,1]:List Int) kD (by intro k_;rcases k_ with _|_|_<;>simp[List.getD]) _ _ hs.g (hs.f.1)) ?_
 rintro _ w13 h14 hs ⟨Q2,cQ2,rfl,hcQ2,hQ2⟩
 replace hs:=(hs.a_SlO hQ2)
 refine lR 8 35 2 ([.slice Q1 2 cQ1,.slice Q2 2 cQ2]) hs (fun b15 w16 h17 hs=>?_)
 replace hs:=hs.a_SlO (SlO.of_flat (sz:=1) (f:=vc) (d:=undef) (b:=b15) (o:=0) (l:=([.slice Q1 2 cQ1,.slice Q2 2 cQ2]:List Value)) (fun _=>rfl) (hs.f.1))
 refine lR 9 2 2 ([.int .i64 2,.int .i64 1]) hs (fun b19 w20 h21 hs=>?_)
 replace hs:=hs.a_SlO (SlO.of_flat (sz:=1) (f:=i64c) (d:=0) (b:=b19) (o:=0) (l:=([2,1]:List Int)) (fun _=>rfl) (hs.f.1))
 refine lC 10 hs (lQ_ (some ⟨b19,0,none⟩) 2 ([2,1]:List Int) kD (by intro k_;rcases k_ with _|_|_<;>simp[List.getD]) _ _ hs.g (hs.f.1)) ?_
 rintro _ w24 h25 hs ⟨Q3,cQ3,rfl,hcQ3,hQ3⟩
 replace hs:=(hs.a_SlO hQ3)
 refine lR 11 2 2 ([.int .i64 0,.int .i64 0]) hs (fun b26 w27 h28 hs=>?_)
 replace hs:=hs.a_SlO (SlO.of_flat (sz:=1) (f:=i64c) (d:=0) (b:=b26) (o:=0) (l:=([0,0]:List Int)) (fun _=>rfl) (hs.f.1))
 refine lC 12 hs (lQ_ (some ⟨b26,0,none⟩) 2 ([0,0]:List Int) kD (by intro k_;rcases k_ with _|_|_<;>simp[List.getD]) _ _ hs.g (hs.f.1)) ?_
 rintro _ w31 h32 hs ⟨Q4,cQ4,rfl,hcQ4,hQ4⟩
 replace hs:=(hs.a_SlO hQ4)
 refine lC 13 hs (cConjK (some ⟨b15,0,none⟩) 2 _ Q3 cQ3 Q4 cQ4 _ _ hs.g (hs.f.2.2.2.2.2.2.1) ⟨rfl,kn_rows (hs.f.2.2.2.2.2.2.2.2.2.2.2.1) (hs.f.2.2.2.2.2.2.2.2.1) hcQ1 hcQ2⟩ (hs.f.2.2.2.1) (hs.f.1) (hs.f.2.2.2.2.2.2.2.2.2.2.2.2.2.2.1)) ?_
 rintro _ w33 h34 hs ⟨Ak,ck,alk,Bk,dk,rfl,hl3,ek,hAk,hBk⟩
 replace hs:=((hs.a_SlO hAk).a_SlO hBk)
 have hl2_:([1,1]:List Rat).length=2:=rfl
 refine lL hs [.m 3 13,.v 14 (.slice Ak 3 ck),.v 15 (.int .i64 0),.m 1 14,.m 2 15] (lNS (lL hs [.m 16 2,.v 17 (.bool true),.m 18 17,.m 19 1,.v 20 (.int .i64 3),.v 21 (.bool true),.v 22 (.bool true),.m 23 22,.m 24 1] (lX 25 Ak 3 ck 3 2 2 ((hs.f.2.1).ok oM) ?_)))
 refine lL hs [.v 26 (.pointer (some ⟨(aB Ak),aO Ak+2*3,none⟩))] (lHe 27 ((alk.getD 2 tv0).1) hs (((hs.f.2.1).el 2 oM).part 0 1) ek ?_)
 refine lL hs [.v 28 (.int .i64 2),.v 29 (.bool true),.v 30 (.bool true),.m 31 30,.m 32 1] (lX 33 Ak 3 ck 3 2 2 ((hs.f.2.1).ok oM) ?_)
 refine lL hs [.v 34 (.pointer (some ⟨(aB Ak),aO Ak+2*3,none⟩))] (lHe 35 ((alk.getD 2 tv0).1) hs (((hs.f.2.1).el 2 oM).part 0 1) ek ?_)
 refine lX 36 Bk 2 dk 5 0 0 ((hs.f.1).ok oM) ?_
 refine lH 37 (qv 1) hs ((hs.f.1).el 0 kD) ?_
 refine lC 38 hs (hIs 1 1 1 (LQ.lit (z:=1) kD).up8 kD kD kD kD kD _ _ hs.g) ?_
 rintro _ w35 h36 hs rfl
 have hb37:(sameQ 1 (mkR 1 1))=true:=(decide_eq_true (by decide +kernel))
 rw[hb37]
 refine lL hs [.v 39 (.bool true),.m 40 39,.m 41 1] (lX 42 Ak 3 ck 3 2 2 ((hs.f.2.1).ok oM) ?_)
 refine lL hs [.v 43 (.pointer (some ⟨(aB Ak),aO Ak+2*3,none⟩))] (lHe 44 ((alk.getD 2 tv0).1) hs (((hs.f.2.1).el 2 oM).part 0 1) ek ?_)
 refine lX 45 Bk 2 dk 5 1 1 ((hs.f.1).ok oM) ?_
 refine lH 46 (qv 1) hs ((hs.f.1).el 1 kD) ?_
 refine lC 47 hs (hIs 1 1 1 (LQ.lit (z:=1) kD).up8 kD kD kD kD kD _ _ hs.g) ?_
 rintro _ w38 h39 hs rfl
 have hb40:(sameQ 1 (mkR 1 1))=true:=(decide_eq_true (by decide +kernel))
 rw[hb40]
 refine lL hs [.v 48 (.bool true),.m 0 48] (lN (cTo [(0,.bool true)] ?_))
 exact CG.ret (hs.ret [] (.bool true) rfl)
theorem lDescentConj (A0:Option Addr)(c0:Nat)(zl:List Int)(A1:Option Addr)(c1:Nat)(zb:List Int)(A2:Option Addr)(c2:Nat)(zx:List Int)(n_ way at_ by_ odd:Int)(hl0:zl.length≤9223372036854775807)(hz0:I64s zl)(hl1:zb.length≤9223372036854775807)(hz1:I64s zb)(hl2:zx.length≤9223372036854775807)(hz2:I64s zx)(hc0:zl.length≤c0)(hby : -9223372036854775808≤by_∧by_≤9223372036854775807)(w:World)(h:Hp)(g:G w h)(hA0:SlO 1 i64c 0 h A0 zl)(hA1:SlO 1 i64c 0 h A1 zb)(hA2:SlO 1 i64c 0 h A2 zx)(tb:Tab h) :
    Calls Tryz.prog 3 #[.slice A0 zl.length c0,.slice A1 zb.length c1,.slice A2 zx.length c2,.int .i64 n_,.int .i64 way,.int .i64 at_,.int .i64 by_,.int .i64 odd] w (Ret w h fun v _=>v=.bool true):=by
 have hs:=SS.start g
 replace hs:=((((hs.a_SlO hA0).a_SlO hA1).a_SlO hA2).add (K:=fun h_=>Tab h_) tb)
 obtain ⟨n,hn_⟩:∃ n,n=pick n_ 4+1:=⟨_,rfl⟩
 have hp4:=pick_lt n_ 4 oM
 refine go Tryz.func3 [(0,.slice A0 zl.length c0),(1,.slice A1 zb.length c1),(2,.slice A2 zx.length c2),(3,.int .i64 n_),(4,.int .i64 way),(5,.int .i64 at_),(6,.int .i64 by_),(7,.int .i64 odd)] rfl ?_
 refine cSL (lL hs [.v 16 (.bool false)] (lNS (lL hs [.m 26 0,.m 27 3,.m 28 4,.m 29 5,.m 30 6] (lC 31 hs (lDef A0 c0 zl n_ way at_ by_ n hn_ hl0 hz0 hc0 hby.1 hby.2 _ _ hs.g (hs.f.2.2.2.1)) ?_))))
 rintro _ w1 h2 hs ⟨Aa,ca,ua,W,rfl,hca,hAa,hUa,hD,-⟩
 replace hs:=((hs.a_SlO hAa).add (K:=fun h_=>RVs h_ ua W) hUa)
 have hlW:=hD.len
 have hlua:=(hs.f.1).len
 refine lL hs [.m 17 31] (lNS (lL hs [.m 32 17,.v 33 (.int .i64 (ua.length:Nat)),.m 18 33] (lN (CG.seq (cSL (lL hs [.m 34 7] (lC 35 hs (hPick (odd) 9 oM oM _ _ hs.g) ?_)))))))
 rintro _ w4 h5 hs rfl
 have lp3:=pick_lt (odd) 9 oM
 cases hb6:(((pick (odd) 9:Nat):Int) == (8:Int))
 ·
  have phb6:=neOfBeq hb6
  refine lB 36 hb6 ?_
  refine lN (cIF (CG.skipN (cSL (lL hs [.m 39 1,.m 40 18] (lC 41 hs (hRow A1 c1 zb ua.length oM hl1 hz1 _ _ hs.g (hs.f.2.2.2.2.1)) ?_)))))
  rintro _ w7 h8 hs ⟨Au,cu,tu,rfl,hcu,hAu,hTu0⟩
  obtain ⟨mm,hmm⟩:∃ mm,mm=ua.length:=⟨_,rfl⟩
  have hTu:=hTu0
  rw[←hmm] at hTu
  have hRb:=rwq_row zb (n:=mm) oM
  replace hs:=((hs.a_SlO hAu).add (K:=fun h_=>RTs h_ tu (rowq zb mm)) hTu)
  refine lL hs [.m 42 2,.m 43 17,.v 44 (.int .i64 (ua.length:Nat))] (lC 45 hs (hRow A2 c2 zx ua.length oM hl2 hz2 _ _ hs.g (hs.f.2.2.2.2.2.1)) ?_)
  rintro _ w9 h10 hs ⟨Av,cv,tv,rfl,hcv,hAv,hTv⟩
  replace hs:=((hs.a_SlO hAv).add (K:=fun h_=>RTs h_ tv (rowq zx ua.length)) hTv)
  have hRx:=rwq_row zx (n:=ua.length) oM
  refine lL hs [.m 19 41,.m 20 45] (lNS (lL hs [.m 47 17] (lC 48 hs (hInRows Aa ca ua W oM (fun i _=>by have:=hD.wd i;omega) (fun i _ j _=>(hD.lq i j).mono kD) _ _ hs.g (hs.f.2.2.2.2.2.1) (hs.f.2.2.2.2.1) (hs.f.2.2.2.2.2.2.1)) ?_)))
  rintro _ w11 h12 hs ⟨Ap,cp,up,rfl,hcp,hAp,hUp⟩
  replace hs:=((hs.a_SlO hAp).add (K:=fun h_=>QVs h_ up W) hUp)
  refine lL hs [.m 49 19] (lC 50 hs (hInRow Au cu tu (rowq zb mm) (by have:=hRb.len;omega) (fun i _=>(hRb.lq i).mono kD) _ _ hs.g (hs.f.2.2.2.2.2.1) (hs.f.2.2.2.2.1) (hs.f.2.2.2.2.2.2.2.2.1)) ?_)
  rintro _ w13 h14 hs ⟨Ab,cb,rfl,hcb,hAb⟩
  replace hs:=(hs.a_SlO hAb)
  refine lL hs [.m 51 20] (lC 52 hs (hInRow Av cv tv (rowq zx ua.length) (by have:=hRx.len;omega) (fun i _=>(hRx.lq i).mono kD) _ _ hs.g (hs.f.2.2.2.2.1) (hs.f.2.2.2.1) (hs.f.2.2.2.2.2.2.2.2.2.1)) ?_)
  rintro _ w15 h16 hs ⟨Ax,cx,rfl,hcx,hAx⟩
  replace hs:=(hs.a_SlO hAx)
  refine lC 53 hs (cConjA Ap cp up W n hD oM Ab cb (rowq zb mm) Ax cx (rowq zx ua.length) hRb hRx _ _ hs.g (hs.f.2.2.2.1) (hs.f.2.2.1) (hs.f.2.1) (hs.f.1) (hs.f.2.2.2.2.2.2.2.2.2.2.1)) ?_
  rintro _ w17 h18 hs ⟨t1,e1,At,ct,al,hR1,rfl,hAt,hC1,hL1⟩
  replace hs:=((hs.a_SlO hAt).add (K:=fun h_=>CTr W.length (mA W) (fun i=>(rowq zb mm).getD i 0) (fun i=>(rowq zx ua.length).getD i 0) h_ al) hC1)
  refine lL hs [.m 46 53,.v 54 (.slice At al.length ct),.v 55 (.int .i64 e1),.m 21 54,.m 22 55] (lN (cTo [(16,.bool false),(17,.slice Aa ua.length ca),(19,.slice Au tu.length cu),(20,.slice Av tv.length cv),(21,.slice At al.length ct),(22,.int .i64 e1)] ?_))
  refine cSL (lL hs [.m 57 17,.m 58 19,.m 59 20] (lC 60 hs (rConjA Aa ca ua W n hD oM Au cu tu (rowq zb mm) Av cv tv (rowq zx ua.length) hRb hRx _ _ hs.g (hs.f.2.2.2.2.2.2.2.2.2.2.2.1) (hs.f.2.2.2.2.2.2.2.2.2.2.1) (hs.f.2.2.2.2.2.2.2.2.2.1) (hs.f.2.2.2.2.2.2.2.2.1) (hs.f.2.2.2.2.2.2.2.1) (hs.f.2.2.2.2.2.2.1)) ?_))
  rintro _ w19 h20 hs ⟨t2,e2,Ao,co,ao,hR2,rfl,hAo,hC2,hL2⟩
  replace hs:=((hs.a_SlO hAo).add (K:=fun h_=>CRr W.length (mA W) (fun i=>(rowq zb mm).getD i 0) (fun i=>(rowq zx ua.length).getD i 0) h_ ao) hC2)
  obtain ⟨ht12,he12⟩:=hR1.uniq hR2
  have hl12:al.length=ao.length:=by rw[hL1,hL2,ht12,he12]
  have htW:=hR1.le
  have hlal:al.length≤t1+1:=by rw[hL1];split<;>omega
  refine lL hs [.m 56 60,.v 61 (.slice Ao ao.length co),.v 62 (.int .i64 e2),.m 23 61,.m 24 62] (lN (CG.seq (cSL (lC 63 hs (lKnown29 _ _ hs.g (hs.f.2.2.2.2.2.2.2.2.2.2.2.2.2.2.1)) ?_))))
  rintro _ w21 h22 hs rfl
  refine lL hs [.v 64 (.bool false),.m 65 64,.m 66 22,.m 67 24] ?_
  have hb23:((e1:Int) != (e2:Int))=false:=bneF oM
  have phb23:=eqOfBne hb23
  refine lB 68 hb23 ?_
  refine lL hs [.v 69 (.bool false),.m 70 69,.m 71 21,.v 72 (.int .i64 (al.length:Nat)),.m 73 23,.v 74 (.int .i64 (ao.length:Nat))] ?_
  have hb24:(((al.length:Nat):Int) != ((ao.length:Nat):Int))=false:=bneF oM
  have phb24:=eqOfBne hb24
  refine lB 75 hb24 ?_
  refine lL hs [.v 76 (.bool false)] (lN (cIF (CG.skipN (CG.seq (cSL (lL hs [.v 25 (.int .i64 0)] (lN (CG.block (cTo [(21,.slice At al.length ct),(23,.slice Ao ao.length co),(25,.int .i64 0)] ?_)))))))))
  refine CG.loop (fun μ_ Γ w_=>∃ (k:Nat) (h_:Hp),μ_=al.length-k∧Γ=[(21,.slice At al.length ct),(23,.slice Ao ao.length co),(25,.int .i64 (k:Nat))]∧SS w h w_ h_ [] [] [fun h_=>CRr W.length (mA W) (fun i=>(rowq zb mm).getD i 0) (fun i=>(rowq zx ua.length).getD i 0) h_ ao,fun h_=>SlO 3 tvc tv0 h_ Ao ao,fun h_=>CTr W.length (mA W) (fun i=>(rowq zb mm).getD i 0) (fun i=>(rowq zx ua.length).getD i 0) h_ al,fun h_=>SlO 3 tvc tv0 h_ At al,fun h_=>SlO 5 qc 0 h_ Ax (rowq zx ua.length),fun h_=>SlO 5 qc 0 h_ Ab (rowq zb mm),fun h_=>QVs h_ up W,fun h_=>SlO 1 vc undef h_ Ap up,fun h_=>RTs h_ tv (rowq zx ua.length),fun h_=>SlO 3 rqc rqd h_ Av tv,fun h_=>RTs h_ tu (rowq zb mm),fun h_=>SlO 3 rqc rqd h_ Au tu,fun h_=>RVs h_ ua W,fun h_=>SlO 1 vc undef h_ Aa ua,fun h_=>Tab h_,fun h_=>SlO 1 i64c 0 h_ A2 zx,fun h_=>SlO 1 i64c 0 h_ A1 zb,fun h_=>SlO 1 i64c 0 h_ A0 zl]∧(k≤al.length)) _ ⟨0,h22,rfl,rfl,hs.to _ _,Nat.zero_le _⟩ ?_
  rintro _ _ w25 ⟨k,h26,hm27,rfl,hs,hk⟩
  refine CG.seq (cSL (lL hs [.m 77 25,.m 78 21,.v 79 (.int .i64 (al.length:Nat))] ?_))
  cases hb28:(decide (((k:Nat):Int)<((al.length:Nat):Int)))
  ·
   have phb28:=oF hb28
   refine lB 80 hb28 ?_
   refine lN (cIF (CG.exit ?_))
   show CG _ _ _ _ _ _ _ _
   exact cSL (lL hs [.v 16 (.bool true)] (lN (CG.ret (hs.ret [] (.bool true) rfl))))
  have phb28:=oT hb28
  refine lB 80 hb28 ?_
  refine lN (cIT (CG.skipN (CG.seq (CG.block (CG.seq (cR 40 [] mixed hs al_nil ?_))))))
  refine eV 0 83 (.slice At al.length ct) ?_
  refine eV 1 84 (.int .i64 (k:Nat)) ?_
  refine eX 2 85 At al.length ct 3 (k:Nat) k ((hs.f.2.2.2.1).ok oM) ?_
  refine eV 3 86 (.pointer (some ⟨(aB At),aO At+k*3,none⟩)) ?_
  have hBk:=cj_B hD oM hRb hRx (t:=k) oM
  obtain ⟨⟨Gx,cgx,ex,hGx⟩,⟨Gr,cgr,er,hGr⟩,Gw,cgw,ew,hGw⟩:=(hs.f.2.2.1).at_ k oM
  obtain ⟨⟨Zx,czx,tzx,fx,hZx,hTzx⟩,⟨Zr,czr,tzr,fr,hZr,hTzr⟩,Zw,czw,tzw,fw,hZw,hTzw⟩:=(hs.f.1).at_ k oM
  replace hs:=(((hs.a_SlO hGx).a_SlO hZx).add (K:=fun h_=>RTs h_ tzx (vec W.length (cg W.length (mA W) (fun i=>(rowq zb mm).getD i 0) (fun i=>(rowq zx ua.length).getD i 0) k).x)) hTzx)
  replace hs:=(((hs.a_SlO hGr).a_SlO hZr).add (K:=fun h_=>RTs h_ tzr (vec W.length (cg W.length (mA W) (fun i=>(rowq zb mm).getD i 0) (fun i=>(rowq zx ua.length).getD i 0) k).r)) hTzr)
  replace hs:=(((hs.a_SlO hGw).a_SlO hZw).add (K:=fun h_=>RTs h_ tzw (vec W.length (cg W.length (mA W) (fun i=>(rowq zb mm).getD i 0) (fun i=>(rowq zx ua.length).getD i 0) k).w)) hTzw)
  refine eHe 4 87 ((al.getD k tv0).1) hs (((hs.f.2.2.2.2.2.2.2.2.2.2.2.2.1).el k oM).part 0 1) ex ?_
  refine eV 5 88 (.slice Ao ao.length co) ?_
  refine eV 6 89 (.int .i64 (k:Nat)) ?_
  refine eX 7 90 Ao ao.length co 3 (k:Nat) k ((hs.f.2.2.2.2.2.2.2.2.2.2.1).ok oM) ?_
  refine eV 8 91 (.pointer (some ⟨(aB Ao),aO Ao+k*3,none⟩)) ?_
  refine eHe 9 92 ((ao.getD k tv0).1) hs (((hs.f.2.2.2.2.2.2.2.2.2.2.1).el k oM).part 0 1) fx ?_
  refine eC 10 93 hs (fun _ _ hs=>hSameRow Gx cgx (vec W.length (cg W.length (mA W) (fun i=>(rowq zb mm).getD i 0) (fun i=>(rowq zx ua.length).getD i 0) k).x) (vec W.length (cg W.length (mA W) (fun i=>(rowq zb mm).getD i 0) (fun i=>(rowq zx ua.length).getD i 0) k).x) Zx czx tzx (by rw[vec_len];omega) (by rw[vec_len];omega) (fun i hi=>by rw[vec_len] at hi;rw[vec_get _ hi];exact (hBk.xx i hi).mono kD) (fun i hi=>by rw[vec_len] at hi;rw[vec_get _ hi];exact (hBk.xx i hi).mono kD) _ _ hs.g (hs.f.2.2.2.2.2.2.2.2.1) (hs.f.2.2.2.2.2.2.2.1) (hs.f.2.2.2.2.2.2.1)) ?_
  rintro _ _ _ w29 h30 hs rfl
  have hb31:(decide ((vec W.length (cg W.length (mA W) (fun i=>(rowq zb mm).getD i 0) (fun i=>(rowq zx ua.length).getD i 0) k).x)=(vec W.length (cg W.length (mA W) (fun i=>(rowq zb mm).getD i 0) (fun i=>(rowq zx ua.length).getD i 0) k).x)))=true:=decide_eq_true rfl
  rw[hb31]
  have phb31:=oT hb31
  refine eV 11 94 (.bool false) ?_
  refine eV 12 95 (.bool false) ?_
  refine eV 13 96 (.slice At al.length ct) ?_
  refine eV 14 97 (.int .i64 (k:Nat)) ?_
  refine eX 15 98 At al.length ct 3 (k:Nat) k ((hs.f.2.2.2.2.2.2.2.2.2.2.2.2.1).ok oM) ?_
  refine eV 16 99 (.pointer (some ⟨(aB At),aO At+k*3+1,none⟩)) ?_
  refine eHe 17 100 ((al.getD k tv0).2.1) hs (((hs.f.2.2.2.2.2.2.2.2.2.2.2.2.1).el k oM).part 1 1) er ?_
  refine eV 18 101 (.slice Ao ao.length co) ?_
  refine eV 19 102 (.int .i64 (k:Nat)) ?_
  refine eX 20 103 Ao ao.length co 3 (k:Nat) k ((hs.f.2.2.2.2.2.2.2.2.2.2.1).ok oM) ?_
  refine eV 21 104 (.pointer (some ⟨(aB Ao),aO Ao+k*3+1,none⟩)) ?_
  refine eHe 22 105 ((ao.getD k tv0).2.1) hs (((hs.f.2.2.2.2.2.2.2.2.2.2.1).el k oM).part 1 1) fr ?_
  refine eC 23 106 hs (fun _ _ hs=>hSameRow Gr cgr (vec W.length (cg W.length (mA W) (fun i=>(rowq zb mm).getD i 0) (fun i=>(rowq zx ua.length).getD i 0) k).r) (vec W.length (cg W.length (mA W) (fun i=>(rowq zb mm).getD i 0) (fun i=>(rowq zx ua.length).getD i 0) k).r) Zr czr tzr (by rw[vec_len];omega) (by rw[vec_len];omega) (fun i hi=>by rw[vec_len] at hi;rw[vec_get _ hi];exact (hBk.r i hi).mono kD) (fun i hi=>by rw[vec_len] at hi;rw[vec_get _ hi];exact (hBk.r i hi).mono kD) _ _ hs.g (hs.f.2.2.2.2.2.1) (hs.f.2.2.2.2.1) (hs.f.2.2.2.1)) ?_
  rintro _ _ _ w32 h33 hs rfl
  have hb34:(decide ((vec W.length (cg W.length (mA W) (fun i=>(rowq zb mm).getD i 0) (fun i=>(rowq zx ua.length).getD i 0) k).r)=(vec W.length (cg W.length (mA W) (fun i=>(rowq zb mm).getD i 0) (fun i=>(rowq zx ua.length).getD i 0) k).r)))=true:=decide_eq_true rfl
  rw[hb34]
  have phb34:=oT hb34
  refine eV 24 107 (.bool false) ?_
  refine eV 25 108 (.bool false) ?_
  refine eV 26 109 (.bool false) ?_
  refine eV 27 110 (.slice At al.length ct) ?_
  refine eV 28 111 (.int .i64 (k:Nat)) ?_
  refine eX 29 112 At al.length ct 3 (k:Nat) k ((hs.f.2.2.2.2.2.2.2.2.2.2.2.2.1).ok oM) ?_
  refine eV 30 113 (.pointer (some ⟨(aB At),aO At+k*3+2,none⟩)) ?_
  refine eHe 31 114 ((al.getD k tv0).2.2) hs (((hs.f.2.2.2.2.2.2.2.2.2.2.2.2.1).el k oM).part 2 1) ew ?_
  refine eV 32 115 (.slice Ao ao.length co) ?_
  refine eV 33 116 (.int .i64 (k:Nat)) ?_
  refine eX 34 117 Ao ao.length co 3 (k:Nat) k ((hs.f.2.2.2.2.2.2.2.2.2.2.1).ok oM) ?_
  refine eV 35 118 (.pointer (some ⟨(aB Ao),aO Ao+k*3+2,none⟩)) ?_
  refine eHe 36 119 ((ao.getD k tv0).2.2) hs (((hs.f.2.2.2.2.2.2.2.2.2.2.1).el k oM).part 2 1) fw ?_
  refine eC 37 120 hs (fun _ _ hs=>hSameRow Gw cgw (vec W.length (cg W.length (mA W) (fun i=>(rowq zb mm).getD i 0) (fun i=>(rowq zx ua.length).getD i 0) k).w) (vec W.length (cg W.length (mA W) (fun i=>(rowq zb mm).getD i 0) (fun i=>(rowq zx ua.length).getD i 0) k).w) Zw czw tzw (by rw[vec_len];omega) (by rw[vec_len];omega) (fun i hi=>by rw[vec_len] at hi;rw[vec_get _ hi];exact (hBk.w i hi).mono kD) (fun i hi=>by rw[vec_len] at hi;rw[vec_get _ hi];exact (hBk.w i hi).mono kD) _ _ hs.g (hs.f.2.2.1) (hs.f.2.1) (hs.f.1)) ?_
  rintro _ _ _ w35 h36 hs rfl
  have hb37:(decide ((vec W.length (cg W.length (mA W) (fun i=>(rowq zb mm).getD i 0) (fun i=>(rowq zx ua.length).getD i 0) k).w)=(vec W.length (cg W.length (mA W) (fun i=>(rowq zb mm).getD i 0) (fun i=>(rowq zx ua.length).getD i 0) k).w)))=true:=decide_eq_true rfl
  rw[hb37]
  have phb37:=oT hb37
  refine eV 38 121 (.bool false) ?_
  refine eV 39 122 (.bool false) ?_
  refine eD0 hs (fun w38 h39 hs=>?_)
  refine tN (cTo [(21,.slice At al.length ct),(23,.slice Ao ao.length co),(25,.int .i64 (k:Nat)),(122,.bool false)] ?_)
  refine cIF (CG.skipN (CG.listed (lL hs [.m 81 25] (lIn 82 ((k:Nat)+1) (k+1) ?_))))
  refine lL hs [.m 25 82] (lD ?_)
  intro a_ ka
  have q40:(k+1)≤al.length:=by omega
  replace hs:=hs.tl.tl.tl.tl.tl.tl.tl.tl.tl
  refine ⟨_,_,?_,⟨k+1,h39,rfl,rfl,hs.to _ _,q40⟩,ka.to [(21,.slice At al.length ct),(23,.slice Ao ao.length co),(25,.int .i64 ((k+1):Nat))] kR⟩
  omega
 have phb6:=eq_of_beq hb6
 refine lB 36 hb6 ?_
 refine lN (cIT (CG.listed (lL hs [.m 37 18] (lIn 38 ((ua.length:Nat)+1) (ua.length+1) ?_))))
 refine lL hs [.m 18 38] (lNS (lL hs [.m 39 1,.m 40 18] (lC 41 hs (hRow A1 c1 zb (ua.length+1) oM hl1 hz1 _ _ hs.g (hs.f.2.2.2.2.1)) ?_)))
 rintro _ w41 h42 hs ⟨Au,cu,tu,rfl,hcu,hAu,hTu0⟩
 obtain ⟨mm,hmm⟩:∃ mm,mm=(ua.length+1):=⟨_,rfl⟩
 have hTu:=hTu0
 rw[←hmm] at hTu
 have hRb:=rwq_row zb (n:=mm) oM
 replace hs:=((hs.a_SlO hAu).add (K:=fun h_=>RTs h_ tu (rowq zb mm)) hTu)
 refine lL hs [.m 42 2,.m 43 17,.v 44 (.int .i64 (ua.length:Nat))] (lC 45 hs (hRow A2 c2 zx ua.length oM hl2 hz2 _ _ hs.g (hs.f.2.2.2.2.2.1)) ?_)
 rintro _ w43 h44 hs ⟨Av,cv,tv,rfl,hcv,hAv,hTv⟩
 replace hs:=((hs.a_SlO hAv).add (K:=fun h_=>RTs h_ tv (rowq zx ua.length)) hTv)
 have hRx:=rwq_row zx (n:=ua.length) oM
 refine lL hs [.m 19 41,.m 20 45] (lNS (lL hs [.m 47 17] (lC 48 hs (hInRows Aa ca ua W oM (fun i _=>by have:=hD.wd i;omega) (fun i _ j _=>(hD.lq i j).mono kD) _ _ hs.g (hs.f.2.2.2.2.2.1) (hs.f.2.2.2.2.1) (hs.f.2.2.2.2.2.2.1)) ?_)))
 rintro _ w45 h46 hs ⟨Ap,cp,up,rfl,hcp,hAp,hUp⟩
 replace hs:=((hs.a_SlO hAp).add (K:=fun h_=>QVs h_ up W) hUp)
 refine lL hs [.m 49 19] (lC 50 hs (hInRow Au cu tu (rowq zb mm) (by have:=hRb.len;omega) (fun i _=>(hRb.lq i).mono kD) _ _ hs.g (hs.f.2.2.2.2.2.1) (hs.f.2.2.2.2.1) (hs.f.2.2.2.2.2.2.2.2.1)) ?_)
 rintro _ w47 h48 hs ⟨Ab,cb,rfl,hcb,hAb⟩
 replace hs:=(hs.a_SlO hAb)
 refine lL hs [.m 51 20] (lC 52 hs (hInRow Av cv tv (rowq zx ua.length) (by have:=hRx.len;omega) (fun i _=>(hRx.lq i).mono kD) _ _ hs.g (hs.f.2.2.2.2.1) (hs.f.2.2.2.1) (hs.f.2.2.2.2.2.2.2.2.2.1)) ?_)
 rintro _ w49 h50 hs ⟨Ax,cx,rfl,hcx,hAx⟩
 replace hs:=(hs.a_SlO hAx)
 refine lC 53 hs (cConjA Ap cp up W n hD oM Ab cb (rowq zb mm) Ax cx (rowq zx ua.length) hRb hRx _ _ hs.g (hs.f.2.2.2.1) (hs.f.2.2.1) (hs.f.2.1) (hs.f.1) (hs.f.2.2.2.2.2.2.2.2.2.2.1)) ?_
 rintro _ w51 h52 hs ⟨t1,e1,At,ct,al,hR1,rfl,hAt,hC1,hL1⟩
 replace hs:=((hs.a_SlO hAt).add (K:=fun h_=>CTr W.length (mA W) (fun i=>(rowq zb mm).getD i 0) (fun i=>(rowq zx ua.length).getD i 0) h_ al) hC1)
 refine lL hs [.m 46 53,.v 54 (.slice At al.length ct),.v 55 (.int .i64 e1),.m 21 54,.m 22 55] (lN (cTo [(16,.bool false),(17,.slice Aa ua.length ca),(19,.slice Au tu.length cu),(20,.slice Av tv.length cv),(21,.slice At al.length ct),(22,.int .i64 e1)] ?_))
 refine cSL (lL hs [.m 57 17,.m 58 19,.m 59 20] (lC 60 hs (rConjA Aa ca ua W n hD oM Au cu tu (rowq zb mm) Av cv tv (rowq zx ua.length) hRb hRx _ _ hs.g (hs.f.2.2.2.2.2.2.2.2.2.2.2.1) (hs.f.2.2.2.2.2.2.2.2.2.2.1) (hs.f.2.2.2.2.2.2.2.2.2.1) (hs.f.2.2.2.2.2.2.2.2.1) (hs.f.2.2.2.2.2.2.2.1) (hs.f.2.2.2.2.2.2.1)) ?_))
 rintro _ w53 h54 hs ⟨t2,e2,Ao,co,ao,hR2,rfl,hAo,hC2,hL2⟩
 replace hs:=((hs.a_SlO hAo).add (K:=fun h_=>CRr W.length (mA W) (fun i=>(rowq zb mm).getD i 0) (fun i=>(rowq zx ua.length).getD i 0) h_ ao) hC2)
 obtain ⟨ht12,he12⟩:=hR1.uniq hR2
 have hl12:al.length=ao.length:=by rw[hL1,hL2,ht12,he12]
 have htW:=hR1.le
 have hlal:al.length≤t1+1:=by rw[hL1];split<;>omega
 refine lL hs [.m 56 60,.v 61 (.slice Ao ao.length co),.v 62 (.int .i64 e2),.m 23 61,.m 24 62] (lN (CG.seq (cSL (lC 63 hs (lKnown29 _ _ hs.g (hs.f.2.2.2.2.2.2.2.2.2.2.2.2.2.2.1)) ?_))))
 rintro _ w55 h56 hs rfl
 refine lL hs [.v 64 (.bool false),.m 65 64,.m 66 22,.m 67 24] ?_
 have hb57:((e1:Int) != (e2:Int))=false:=bneF oM
 have phb57:=eqOfBne hb57
 refine lB 68 hb57 ?_
 refine lL hs [.v 69 (.bool false),.m 70 69,.m 71 21,.v 72 (.int .i64 (al.length:Nat)),.m 73 23,.v 74 (.int .i64 (ao.length:Nat))] ?_
 have hb58:(((al.length:Nat):Int) != ((ao.length:Nat):Int))=false:=bneF oM
 have phb58:=eqOfBne hb58
 refine lB 75 hb58 ?_
 refine lL hs [.v 76 (.bool false)] (lN (cIF (CG.skipN (CG.seq (cSL (lL hs [.v 25 (.int .i64 0)] (lN (CG.block (cTo [(21,.slice At al.length ct),(23,.slice Ao ao.length co),(25,.int .i64 0)] ?_)))))))))
 refine CG.loop (fun μ_ Γ w_=>∃ (k:Nat) (h_:Hp),μ_=al.length-k∧Γ=[(21,.slice At al.length ct),(23,.slice Ao ao.length co),(25,.int .i64 (k:Nat))]∧SS w h w_ h_ [] [] [fun h_=>CRr W.length (mA W) (fun i=>(rowq zb mm).getD i 0) (fun i=>(rowq zx ua.length).getD i 0) h_ ao,fun h_=>SlO 3 tvc tv0 h_ Ao ao,fun h_=>CTr W.length (mA W) (fun i=>(rowq zb mm).getD i 0) (fun i=>(rowq zx ua.length).getD i 0) h_ al,fun h_=>SlO 3 tvc tv0 h_ At al,fun h_=>SlO 5 qc 0 h_ Ax (rowq zx ua.length),fun h_=>SlO 5 qc 0 h_ Ab (rowq zb mm),fun h_=>QVs h_ up W,fun h_=>SlO 1 vc undef h_ Ap up,fun h_=>RTs h_ tv (rowq zx ua.length),fun h_=>SlO 3 rqc rqd h_ Av tv,fun h_=>RTs h_ tu (rowq zb mm),fun h_=>SlO 3 rqc rqd h_ Au tu,fun h_=>RVs h_ ua W,fun h_=>SlO 1 vc undef h_ Aa ua,fun h_=>Tab h_,fun h_=>SlO 1 i64c 0 h_ A2 zx,fun h_=>SlO 1 i64c 0 h_ A1 zb,fun h_=>SlO 1 i64c 0 h_ A0 zl]∧(k≤al.length)) _ ⟨0,h56,rfl,rfl,hs.to _ _,Nat.zero_le _⟩ ?_
 rintro _ _ w59 ⟨k,h60,hm61,rfl,hs,hk⟩
 refine CG.seq (cSL (lL hs [.m 77 25,.m 78 21,.v 79 (.int .i64 (al.length:Nat))] ?_))
 cases hb62:(decide (((k:Nat):Int)<((al.length:Nat):Int)))
 ·
  have phb62:=oF hb62
  refine lB 80 hb62 ?_
  refine lN (cIF (CG.exit ?_))
  show CG _ _ _ _ _ _ _ _
  exact cSL (lL hs [.v 16 (.bool true)] (lN (CG.ret (hs.ret [] (.bool true) rfl))))
 have phb62:=oT hb62
 refine lB 80 hb62 ?_
 refine lN (cIT (CG.skipN (CG.seq (CG.block (CG.seq (cR 40 [] mixed hs al_nil ?_))))))
 refine eV 0 83 (.slice At al.length ct) ?_
 refine eV 1 84 (.int .i64 (k:Nat)) ?_
 refine eX 2 85 At al.length ct 3 (k:Nat) k ((hs.f.2.2.2.1).ok oM) ?_
 refine eV 3 86 (.pointer (some ⟨(aB At),aO At+k*3,none⟩)) ?_
 have hBk:=cj_B hD oM hRb hRx (t:=k) oM
 obtain ⟨⟨Gx,cgx,ex,hGx⟩,⟨Gr,cgr,er,hGr⟩,Gw,cgw,ew,hGw⟩:=(hs.f.2.2.1).at_ k oM
 obtain ⟨⟨Zx,czx,tzx,fx,hZx,hTzx⟩,⟨Zr,czr,tzr,fr,hZr,hTzr⟩,Zw,czw,tzw,fw,hZw,hTzw⟩:=(hs.f.1).at_ k oM
 replace hs:=(((hs.a_SlO hGx).a_SlO hZx).add (K:=fun h_=>RTs h_ tzx (vec W.length (cg W.length (mA W) (fun i=>(rowq zb mm).getD i 0) (fun i=>(rowq zx ua.length).getD i 0) k).x)) hTzx)
 replace hs:=(((hs.a_SlO hGr).a_SlO hZr).add (K:=fun h_=>RTs h_ tzr (vec W.length (cg W.length (mA W) (fun i=>(rowq zb mm).getD i 0) (fun i=>(rowq zx ua.length).getD i 0) k).r)) hTzr)
 replace hs:=(((hs.a_SlO hGw).a_SlO hZw).add (K:=fun h_=>RTs h_ tzw (vec W.length (cg W.length (mA W) (fun i=>(rowq zb mm).getD i 0) (fun i=>(rowq zx ua.length).getD i 0) k).w)) hTzw)
 refine eHe 4 87 ((al.getD k tv0).1) hs (((hs.f.2.2.2.2.2.2.2.2.2.2.2.2.1).el k oM).part 0 1) ex ?_
 refine eV 5 88 (.slice Ao ao.length co) ?_
 refine eV 6 89 (.int .i64 (k:Nat)) ?_
 refine eX 7 90 Ao ao.length co 3 (k:Nat) k ((hs.f.2.2.2.2.2.2.2.2.2.2.1).ok oM) ?_
 refine eV 8 91 (.pointer (some ⟨(aB Ao),aO Ao+k*3,none⟩)) ?_
 refine eHe 9 92 ((ao.getD k tv0).1) hs (((hs.f.2.2.2.2.2.2.2.2.2.2.1).el k oM).part 0 1) fx ?_
 refine eC 10 93 hs (fun _ _ hs=>hSameRow Gx cgx (vec W.length (cg W.length (mA W) (fun i=>(rowq zb mm).getD i 0) (fun i=>(rowq zx ua.length).getD i 0) k).x) (vec W.length (cg W.length (mA W) (fun i=>(rowq zb mm).getD i 0) (fun i=>(rowq zx ua.length).getD i 0) k).x) Zx czx tzx (by rw[vec_len];omega) (by rw[vec_len];omega) (fun i hi=>by rw[vec_len] at hi;rw[vec_get _ hi];exact (hBk.xx i hi).mono kD) (fun i hi=>by rw[vec_len] at hi;rw[vec_get _ hi];exact (hBk.xx i hi).mono kD) _ _ hs.g (hs.f.2.2.2.2.2.2.2.2.1) (hs.f.2.2.2.2.2.2.2.1) (hs.f.2.2.2.2.2.2.1)) ?_
 rintro _ _ _ w63 h64 hs rfl
 have hb65:(decide ((vec W.length (cg W.length (mA W) (fun i=>(rowq zb mm).getD i 0) (fun i=>(rowq zx ua.length).getD i 0) k).x)=(vec W.length (cg W.length (mA W) (fun i=>(rowq zb mm).getD i 0) (fun i=>(rowq zx ua.length).getD i 0) k).x)))=true:=decide_eq_true rfl
 rw[hb65]
 have phb65:=oT hb65
 refine eV 11 94 (.bool false) ?_
 refine eV 12 95 (.bool false) ?_
 refine eV 13 96 (.slice At al.length ct) ?_
 refine eV 14 97 (.int .i64 (k:Nat)) ?_
 refine eX 15 98 At al.length ct 3 (k:Nat) k ((hs.f.2.2.2.2.2.2.2.2.2.2.2.2.1).ok oM) ?_
 refine eV 16 99 (.pointer (some ⟨(aB At),aO At+k*3+1,none⟩)) ?_
 refine eHe 17 100 ((al.getD k tv0).2.1) hs (((hs.f.2.2.2.2.2.2.2.2.2.2.2.2.1).el k oM).part 1 1) er ?_
 refine eV 18 101 (.slice Ao ao.length co) ?_
 refine eV 19 102 (.int .i64 (k:Nat)) ?_
 refine eX 20 103 Ao ao.length co 3 (k:Nat) k ((hs.f.2.2.2.2.2.2.2.2.2.2.1).ok oM) ?_
 refine eV 21 104 (.pointer (some ⟨(aB Ao),aO Ao+k*3+1,none⟩)) ?_
 refine eHe 22 105 ((ao.getD k tv0).2.1) hs (((hs.f.2.2.2.2.2.2.2.2.2.2.1).el k oM).part 1 1) fr ?_
 refine eC 23 106 hs (fun _ _ hs=>hSameRow Gr cgr (vec W.length (cg W.length (mA W) (fun i=>(rowq zb mm).getD i 0) (fun i=>(rowq zx ua.length).getD i 0) k).r) (vec W.length (cg W.length (mA W) (fun i=>(rowq zb mm).getD i 0) (fun i=>(rowq zx ua.length).getD i 0) k).r) Zr czr tzr (by rw[vec_len];omega) (by rw[vec_len];omega) (fun i hi=>by rw[vec_len] at hi;rw[vec_get _ hi];exact (hBk.r i hi).mono kD) (fun i hi=>by rw[vec_len] at hi;rw[vec_get _ hi];exact (hBk.r i hi).mono kD) _ _ hs.g (hs.f.2.2.2.2.2.1) (hs.f.2.2.2.2.1) (hs.f.2.2.2.1)) ?_
 rintro _ _ _ w66 h67 hs rfl
 have hb68:(decide ((vec W.length (cg W.length (mA W) (fun i=>(rowq zb mm).getD i 0) (fun i=>(rowq zx ua.length).getD i 0) k).r)=(vec W.length (cg W.length (mA W) (fun i=>(rowq zb mm).getD i 0) (fun i=>(rowq zx ua.length).getD i 0) k).r)))=true:=decide_eq_true rfl
 rw[hb68]
 have phb68:=oT hb68
 refine eV 24 107 (.bool false) ?_
 refine eV 25 108 (.bool false) ?_
 refine eV 26 109 (.bool false) ?_
 refine eV 27 110 (.slice At al.length ct) ?_
 refine eV 28 111 (.int .i64 (k:Nat)) ?_
 refine eX 29 112 At al.length ct 3 (k:Nat) k ((hs.f.2.2.2.2.2.2.2.2.2.2.2.2.1).ok oM) ?_
 refine eV 30 113 (.pointer (some ⟨(aB At),aO At+k*3+2,none⟩)) ?_
 refine eHe 31 114 ((al.getD k tv0).2.2) hs (((hs.f.2.2.2.2.2.2.2.2.2.2.2.2.1).el k oM).part 2 1) ew ?_
 refine eV 32 115 (.slice Ao ao.length co) ?_
 refine eV 33 116 (.int .i64 (k:Nat)) ?_
 refine eX 34 117 Ao ao.length co 3 (k:Nat) k ((hs.f.2.2.2.2.2.2.2.2.2.2.1).ok oM) ?_
 refine eV 35 118 (.pointer (some ⟨(aB Ao),aO Ao+k*3+2,none⟩)) ?_
 refine eHe 36 119 ((ao.getD k tv0).2.2) hs (((hs.f.2.2.2.2.2.2.2.2.2.2.1).el k oM).part 2 1) fw ?_
 refine eC 37 120 hs (fun _ _ hs=>hSameRow Gw cgw (vec W.length (cg W.length (mA W) (fun i=>(rowq zb mm).getD i 0) (fun i=>(rowq zx ua.length).getD i 0) k).w) (vec W.length (cg W.length (mA W) (fun i=>(rowq zb mm).getD i 0) (fun i=>(rowq zx ua.length).getD i 0) k).w) Zw czw tzw (by rw[vec_len];omega) (by rw[vec_len];omega) (fun i hi=>by rw[vec_len] at hi;rw[vec_get _ hi];exact (hBk.w i hi).mono kD) (fun i hi=>by rw[vec_len] at hi;rw[vec_get _ hi];exact (hBk.w i hi).mono kD) _ _ hs.g (hs.f.2.2.1) (hs.f.2.1) (hs.f.1)) ?_
 rintro _ _ _ w69 h70 hs rfl
 have hb71:(decide ((vec W.length (cg W.length (mA W) (fun i=>(rowq zb mm).getD i 0) (fun i=>(rowq zx ua.length).getD i 0) k).w)=(vec W.length (cg W.length (mA W) (fun i=>(rowq zb mm).getD i 0) (fun i=>(rowq zx ua.length).getD i 0) k).w)))=true:=decide_eq_true rfl
 rw[hb71]
 have phb71:=oT hb71
 refine eV 38 121 (.bool false) ?_
 refine eV 39 122 (.bool false) ?_
 refine eD0 hs (fun w72 h73 hs=>?_)
 refine tN (cTo [(21,.slice At al.length ct),(23,.slice Ao ao.length co),(25,.int .i64 (k:Nat)),(122,.bool false)] ?_)
 refine cIF (CG.skipN (CG.listed (lL hs [.m 81 25] (lIn 82 ((k:Nat)+1) (k+1) ?_))))
 refine lL hs [.m 25 82] (lD ?_)
 intro a_ ka
 have q74:(k+1)≤al.length:=by omega
 replace hs:=hs.tl.tl.tl.tl.tl.tl.tl.tl.tl
 refine ⟨_,_,?_,⟨k+1,h73,rfl,rfl,hs.to _ _,q74⟩,ka.to [(21,.slice At al.length ct),(23,.slice Ao ao.length co),(25,.int .i64 ((k+1):Nat))] kR⟩
 omega
theorem getD_mem {α:Type}{l:List α}{i:Nat}{d:α}(h:i<l.length):l.getD i d∈l:=by
  rw[List.getD_eq_getElem?_getD,List.getElem?_eq_getElem h];exact List.getElem_mem h
theorem getD_over {α:Type}{l:List α}{i:Nat}{d:α}(h:l.length≤i):l.getD i d=d:=by
  rw[List.getD_eq_getElem?_getD,List.getElem?_eq_none h];rfl
end Go.Proofs.YtnbjahmpennmkaaGreatDoor
