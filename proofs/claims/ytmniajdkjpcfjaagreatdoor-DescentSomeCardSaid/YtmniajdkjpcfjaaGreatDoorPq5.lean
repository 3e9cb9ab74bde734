/- Laws and contracts that the card of this claim stands on, part 6. No condition of ours. -/
import Derived.Test.YtmniajdkjpcfjaaGreatDoorPq0
import Derived.Test.YtmniajdkjpcfjaaGreatDoorPq1
import Derived.Test.YtmniajdkjpcfjaaGreatDoorPq2
import Derived.Test.YtmniajdkjpcfjaaGreatDoorPq3
import Derived.Test.YtmniajdkjpcfjaaGreatDoorPq4
set_option maxRecDepth 100000
set_option maxHeartbeats 4000000
namespace Go.Proofs.YtmniajdkjpcfjaaGreatDoor
open Go.RowKit
open Go.RowKit Go.Shelf
theorem qValue (A:Option Addr)(cap:Nat)(us:List Value)(W:List (List Rat))(hl:W.length≤1000)(hls:∀ i,i<W.length→(W.getD i []).length≤1000)(x:Nat→Rat)(n:Nat)(hn4:n≤5)(X:Option Addr)(cX:Nat)(hS:SymP W)(hn:W.length=n)(K1 K2 K3:Nat)(hK1:∀ i j,LQ K1 ((W.getD i []).getD j 0))(hK2:∀ i,i<n→LQ K2 (x i))(hK3:∀ i,i<n→LQ K3 (mv n (mA W) x i))(hKb:1≤K1∧1≤K2∧K1+K2≤1000000)(hKc:K2+K3≤1000000)(w:World)(h:Hp)(g:G w h)(hA:SlO 1 vc undef h A us)(hU:QVs h us W)(hX:SlO 5 qc 0 h X (vec n x))(tb:Tab h) :
    Calls Tryz.prog 39 #[.slice A us.length cap,.slice X ((vec n x).length) cX] w (Ret w h fun v _=>v=.tuple #[qv (dt n x (mv n (mA W) x)),.int .i64 0]):=by
 have hs:=SS.start g
 replace hs:=((((hs.a_SlO hA).add (K:=fun h_=>QVs h_ us W) hU).a_SlO hX).add (K:=fun h_=>Tab h_) tb)
 have hlu:=(hs.f.2.2.1).len
 have hvl:=vec_len n x
 refine go Tryz.func39 [(0,.slice A us.length cap),(1,.slice X ((vec n x).length) cX)] rfl ?_
 refine cSL (lA 4 40 ([.bool false,.int .u64 0,.string ⟨#[]⟩,.int .u64 0,.string ⟨#[]⟩]) hs (fun b1 w2 h3 hs=>?_))
 refine lL hs [.v 5 (.int .i64 0)] (lN (CG.seq (cSL (lL hs [.m 10 0] (lC 11 hs (mSymT A cap us W hl hls (fun i j=>(hK1 i j).mono oM) hS _ _ hs.g (hs.f.2.2.2.1) (hs.f.2.2.1)) ?_)))))
 rintro _ w4 h5 hs rfl
 refine lL hs [.v 12 (.bool false),.m 13 12,.m 14 0,.v 15 (.int .i64 (us.length:Nat)),.m 16 1,.v 17 (.int .i64 ((vec n x).length:Nat))] ?_
 have hb6:(((us.length:Nat):Int) != (((vec n x).length:Nat):Int))=false:=bneF oM
 have phb6:=eqOfBne hb6
 refine lB 18 hb6 ?_
 refine lL hs [.v 19 (.bool false)] (lN (cIF (CG.skipN (cSL (lL hs [.m 22 0,.m 23 1] (lC 24 hs (mApply A cap us W hl hls x n hn4 X cX hS.1.1 hn (by rw[←hn];exact hS.1.2.symm) K1 K2 hK1 hK2 hKb _ _ hs.g (hs.f.2.2.2.1) (hs.f.2.2.1) (hs.f.2.1) (hs.f.1)) ?_))))))
 rintro _ w7 h8 hs ⟨Ay,cy,rfl,hcy,hAy⟩
 replace hs:=(hs.a_SlO hAy)
 refine lL hs [.m 21 24,.v 25 (.slice Ay ((vec n (mv n (mA W) x)).length) cy),.v 26 (.int .i64 0),.m 6 25,.m 7 26] (lNS (lL hs [.m 28 1,.m 29 6] (lC 30 hs (cjDotV x (mv n (mA W) x) n X cX Ay cy K2 K3 hn4 oM hK2 hK3 _ _ hs.g (hs.f.2.2.1) (hs.f.1) (hs.f.2.1)) ?_)))
 rintro _ w9 h10 hs rfl
 refine lL hs [.m 27 30,.v 31 (qv (dt n x (mv n (mA W) x))),.v 32 (.bool true)] (lA 8 40 ([.bool false,.int .u64 0,.string ⟨#[]⟩,.int .u64 0,.string ⟨#[]⟩]) hs (fun b11 w12 h13 hs=>?_))
 refine lP 0 0 (qc (dt n x (mv n (mA W) x))) hs (fun w14 hs=>?_)
 refine lL hs [.m 9 32] (lNS (lL hs [.o 33 (qv (dt n x (mv n (mA W) x))) 0 0 5] (lP 1 0 (qc (dt n x (mv n (mA W) x))) hs (fun w15 hs=>?_))))
 exact lL hs [.v 5 (.int .i64 0)] (lN (CG.ret (hs.ret [(1,0,5)] (.tuple #[qv (dt n x (mv n (mA W) x)),.int .i64 0]) rfl)))
theorem sClone0 (b o c:Nat)(l:List Rat)(hpos:0<l.length)(hl:l.length≤1000000)(w:World)(h:Hp)(g:G w h)(hA:SlO 5 qc 0 h (some ⟨b,o,none⟩) l) :
    Calls Tryz.prog 37 #[.slice (some ⟨b,o,none⟩) l.length c] w (Ret w h fun v h1=>SlN h.size 40 qc h1 v l):=by
 have hs:=SS.start g
 replace hs:=(hs.a_SlO hA)
 have hnil:([]:List Rat).length=0:=rfl
 refine go Tryz.func37 [(0,.slice (some ⟨b,o,none⟩) l.length c)] rfl ?_
 refine cSL (lL hs [.v 2 (.slice none 0 0)] (lN (CG.seq (cSL (lL hs [.m 3 0,.v 4 (.bool false)] (lN (cIF (CG.skipN (cSL (lRw 5 40 5 qc ([]:List Rat) hs (fun b1 w2 h3 hs=>?_)))))))))))
 refine lL hs [.m 6 0] (lYs 7 0 40 5 ((([]:List Rat)).length) (some ⟨b1,0,none⟩) ([]:List Rat) qc 0 (some ⟨b,o,none⟩) l c 56 (.agg #[.bool false,.int .u64 0,.string ⟨#[]⟩,.int .u64 0,.string ⟨#[]⟩]) hs (hs.f.1) oM (fun A6 c7 w8 h9 hs=>?_))
 refine lL hs [.m 2 7] (lN (CG.ret ?_))
 obtain ⟨hq,bq,spq,hs,hbq,hcq⟩:=hs.pubn 0 (A:=A6) (c:=c7) (ty:=40) (sz:=5) (l:=([]:List Rat)++l) (f:=qc) (by simpa using hpos)
 subst hbq
 exact hs.ret [] (.slice (some ⟨bq,0,none⟩) l.length c7) (⟨bq,_,spq,rfl,hcq,hs.f.1⟩)
theorem sClone (A:Option Addr)(n c:Nat)(l:List Rat)(hn:l.length=n)(hpos:0<n)(hl:n≤1000000)(w:World)(h:Hp)(g:G w h)(hA:SlO 5 qc 0 h A l):Calls Tryz.prog 37 #[.slice A n c] w (Ret w h fun v h1=>SlN h.size 40 qc h1 v l):=by
  subst hn
  have e:=hA.ok hpos
  rw[e] at hA ⊢
  exact sClone0 _ _ c l hpos hl w h g hA
theorem cjPlus  (a b:Nat→Rat)(n:Nat)(hn4:n≤5)(A:Option Addr)(cA:Nat)(D:Option Addr)(cD:Nat)(k:Rat)(K1 K2 K3:Nat)(hK1:∀ i,i<n→LQ K1 (a i))(hK2:∀ i,i<n→LQ K2 (b i))(hK3:LQ K3 k)(hKb:K1+K2+K3+1≤100000000)(w:World)(h:Hp)(g:G w h)(hA:SlO 5 qc 0 h A (vec n a))(hD:SlO 5 qc 0 h D (vec n b))(tb:Tab h) :
    Calls Tryz.prog 36 #[.slice A ((vec n a).length) cA,.slice D ((vec n b).length) cD,qv k] w (Ret w h fun v h1=>∃ A c,v=.slice A (vec n fun i=>a i+b i*k).length c∧(vec n fun i=>a i+b i*k).length≤c∧SlO 5 qc 0 h1 A (vec n fun i=>a i+b i*k)):=by
 have hs:=SS.start g
 replace hs:=(((hs.a_SlO hA).a_SlO hD).add (K:=fun h_=>Tab h_) tb)
 have hva:=vec_len n a
 have hvb:=vec_len n b
 refine go Tryz.func36 [(0,.slice A ((vec n a).length) cA),(1,.slice D ((vec n b).length) cD),(2,qv k)] rfl ?_
 refine cSL (lA 5 40 (qc k) hs (fun b1 w2 h3 hs=>?_))
 refine lL hs [.v 6 (.slice none 0 0)] (lNS (lL hs [.m 9 0,.v 10 (.int .i64 ((vec n a).length:Nat))] (lK 11 40 ((vec n a).length) 5 56 (.agg #[.bool false,.int .u64 0,.string ⟨#[]⟩,.int .u64 0,.string ⟨#[]⟩]) qc 0 hs (fun b4 w5 h6 hs=>?_))))
 have hl7:(List.replicate ((vec n a).length) 0).length=((vec n a).length):=by simp
 refine lL hs [.m 7 11] (lN (CG.seq (cSL (lL hs [.m 12 7,.v 13 (.int .i64 (((vec n a).length):Nat)),.v 14 (.int .i64 0)] (lN (CG.block (cTo [(0,.slice A ((vec n a).length) cA),(1,.slice D ((vec n b).length) cD),(5,.pointer (some ⟨b1,0,none⟩)),(6,.slice none 0 0),(7,.slice (some ⟨b4,0,none⟩) ((vec n a).length) ((vec n a).length)),(13,.int .i64 (((vec n a).length):Nat)),(14,.int .i64 0)] ?_)))))))
 refine CG.loop (fun μ_ Γ w_=>∃ (i:Nat) (L:List Rat) (h_:Hp),μ_=n-i∧Γ=[(0,.slice A ((vec n a).length) cA),(1,.slice D ((vec n b).length) cD),(5,.pointer (some ⟨b1,0,none⟩)),(6,.slice none 0 0),(7,.slice (some ⟨b4,0,none⟩) ((vec n a).length) ((vec n a).length)),(13,.int .i64 (((vec n a).length):Nat)),(14,.int .i64 (i:Nat))]∧SS w h w_ h_ [⟨b4,40,(L).flatMap qc⟩,⟨b1,40,qc k⟩] [] [fun h_=>Tab h_,fun h_=>SlO 5 qc 0 h_ D (vec n b),fun h_=>SlO 5 qc 0 h_ A (vec n a)]∧(i≤n)∧(L.length=((vec n a).length))∧(∀ j,L.getD j 0=if j<i then (fun i_=>a i_+b i_*k) j else 0)) _ ⟨0,List.replicate ((vec n a).length) (0:Rat),h6,rfl,rfl,hs.to _ _,Nat.zero_le _,(by simp),(fun j=>by rw[rep_zero,if_neg (Nat.not_lt_zero j)])⟩ ?_
 rintro _ _ w8 ⟨i,L,h9,hm10,rfl,hs,hi,hLl,hLv⟩
 refine cSL ?_
 cases hb11:(decide (((i:Nat):Int)<((((vec n a).length):Nat):Int)))
 ·
  have phb11:=oF hb11
  refine lB 15 hb11 ?_
  refine lN (CG.seq (cIF (CG.exit ?_)))
  show CG _ _ _ _ _ _ _ _
  refine cSL ?_
  have hin:i=n:=by omega
  have hLe:L=vec n (fun i=>a i+b i*k):=vec_of (hLl.trans oM) (fun j=>by rw[hLv j,hin])
  obtain ⟨h12,hs,sg13,lo14,bc15⟩:=hs.pub 0
  replace hs:=(hs.to [⟨b1,40,qc k⟩] []).a_SlO (SlO.of_flat (sz:=5) (f:=qc) (d:=0) (b:=b4) (o:=0) (l:=L) (fun _=>rfl) sg13)
  replace hs:=hs.a_SlO (show SlO 5 qc 0 _ (some ⟨b4,0,none⟩) (vec n (fun i=>a i+b i*k)) from by rw[←hLe];exact (hs.f.1))
  exact lL hs [.m 32 7,.m 6 32] (lN (CG.ret (hs.ret [] (.slice (some ⟨b4,0,none⟩) ((vec n a).length) ((vec n a).length)) (⟨(some ⟨b4,0,none⟩),((vec n a).length),sl_len (by rw[vec_len,vec_len]),(by rw[vec_len,vec_len];exact Nat.le_refl _),(hs.f.1)⟩))))
 have phb11:=oT hb11
 refine lB 15 hb11 ?_
 refine lN (CG.seq (cIT (CG.skipN (CG.seq (CG.block (cSL (lL hs [.m 16 14,.m 8 16] (lN (cR 13 [] mixed hs al_nil ?_)))))))))
 refine eV 0 17 (.slice (some ⟨b4,0,none⟩) ((vec n a).length) ((vec n a).length)) ?_
 refine eV 1 18 (.int .i64 (i:Nat)) ?_
 refine eV 2 19 (.slice A ((vec n a).length) cA) ?_
 refine eV 3 20 (.int .i64 (i:Nat)) ?_
 refine eX 4 21 A ((vec n a).length) cA 5 (i:Nat) i ((hs.f.2.2.1).ok oM) ?_
 refine eH 5 22 (qv ((vec n a).getD i 0)) hs ((hs.f.2.2.1).el i oM) ?_
 refine eV 6 23 (.slice D ((vec n b).length) cD) ?_
 refine eV 7 24 (.int .i64 (i:Nat)) ?_
 refine eX 8 25 D ((vec n b).length) cD 5 (i:Nat) i ((hs.f.2.1).ok oM) ?_
 refine eH 9 26 (qv ((vec n b).getD i 0)) hs ((hs.f.2.1).el i oM) ?_
 refine eO 10 27 [(1,0,5)] (qv k) hs ?_
 have hq17:=LQ.mul (show LQ K2 ((vec n b).getD i 0) from by rw[vec_get b oM];exact hK2 i oM) hK3
 refine eC 11 28 hs (fun _ _ hs=>fMul ((vec n b).getD i 0) k (LQ.mono (show LQ K2 ((vec n b).getD i 0) from by rw[vec_get b oM];exact hK2 i oM) oM) (LQ.mono hK3 oM) _ _ hs.g (hs.f.1)) ?_
 rintro _ _ _ w18 h19 hs rfl
 have hq20:=LQ.add (show LQ K1 ((vec n a).getD i 0) from by rw[vec_get a oM];exact hK1 i oM) hq17
 refine eC 12 29 hs (fun _ _ hs=>fAdd ((vec n a).getD i 0) (((vec n b).getD i 0)*k) (LQ.mono (show LQ K1 ((vec n a).getD i 0) from by rw[vec_get a oM];exact hK1 i oM) oM) (LQ.mono hq17 oM) _ _ hs.g (hs.f.1)) ?_
 rintro _ _ _ w21 h22 hs rfl
 refine eD0 hs (fun w23 h24 hs=>?_)
 refine tX 13 30 (some ⟨b4,0,none⟩) ((vec n a).length) ((vec n a).length) 5 (i:Nat) i rfl ?_
 refine tW 14 0 L qc 5 i (((vec n a).getD i 0)+(((vec n b).getD i 0)*k)) hs oM (fun w25 hs=>?_)
 have hl26:((L).set i (((vec n a).getD i 0)+(((vec n b).getD i 0)*k))).length=((vec n a).length):=by rw[List.length_set];exact hLl
 replace hs:=hs.to [⟨b4,40,((L).set i (((vec n a).getD i 0)+(((vec n b).getD i 0)*k))).flatMap qc⟩,⟨b1,40,qc k⟩] []
 refine tN (CG.listed (lIn 31 ((i:Nat)+1) (i+1) ?_))
 refine lL hs [.m 14 31] (lD ?_)
 intro a_ ka
 have q27:(i+1)≤n:=by omega
 have q28:((L).set i (((vec n a).getD i 0)+(((vec n b).getD i 0)*k))).length=((vec n a).length):=hl26
 have q29:∀ j,((L).set i (((vec n a).getD i 0)+(((vec n b).getD i 0)*k))).getD j 0=if j<(i+1) then (fun i_=>a i_+b i_*k) j else 0:=(vec_set hLl hLv oM (by rw[vec_get a oM,vec_get b oM]))
 refine ⟨_,_,?_,⟨i+1,(L).set i (((vec n a).getD i 0)+(((vec n b).getD i 0)*k)),h24,rfl,rfl,hs.to _ _,q27,q28,q29⟩,ka.to [(0,.slice A ((vec n a).length) cA),(1,.slice D ((vec n b).length) cD),(5,.pointer (some ⟨b1,0,none⟩)),(6,.slice none 0 0),(7,.slice (some ⟨b4,0,none⟩) ((vec n a).length) ((vec n a).length)),(13,.int .i64 (((vec n a).length):Nat)),(14,.int .i64 ((i+1):Nat))] kR⟩
 omega
abbrev TV:=Value × Value × Value
def tv0:TV:=(.slice none 0 0,.slice none 0 0,.slice none 0 0)
def tvc (t:TV):List Value:=[t.1,t.2.1,t.2.2]
def TR1 (n:Nat)(s:Cst)(h:Hp)(t:TV):Prop:=(∃ A c,t.1=.slice A (vec n s.x).length c∧SlO 5 qc 0 h A (vec n s.x))∧(∃ A c,t.2.1=.slice A (vec n s.r).length c∧SlO 5 qc 0 h A (vec n s.r))∧∃ A c,t.2.2=.slice A (vec n s.w).length c∧SlO 5 qc 0 h A (vec n s.w)
theorem TR1.gw {n:Nat}{s:Cst}{h h':Hp}{t:TV}(x:TR1 n s h t)(u:Gw h h'):TR1 n s h' t:=by
  obtain ⟨⟨A,c,e,p⟩,⟨B,d,f,q⟩,C,g,i,r⟩:=x
  exact ⟨⟨A,c,e,p.gw u⟩,⟨B,d,f,q.gw u⟩,C,g,i,r.gw u⟩
structure CTr (n:Nat) (A:Nat→Nat→Rat) (b x:Nat→Rat) (h:Hp) (al:List TV):Prop where
  at_:∀ i,i<al.length→TR1 n (cg n A b x i) h (al.getD i tv0)
theorem CTr.gw {n:Nat}{A:Nat→Nat→Rat}{b x:Nat→Rat}{h h':Hp}{al:List TV}(y:CTr n A b x h al)(u:Gw h h'):CTr n A b x h' al:=⟨fun i hi=>(y.at_ i hi).gw u⟩
theorem CTr.nil {n:Nat}{A:Nat→Nat→Rat}{b x:Nat→Rat}{h:Hp}:CTr n A b x h []:=⟨fun i hi=>absurd hi (Nat.not_lt_zero i)⟩
theorem CTr.snoc {n:Nat}{A:Nat→Nat→Rat}{b x:Nat→Rat}{h:Hp}{al:List TV}{t:TV}(y:CTr n A b x h al)(z:TR1 n (cg n A b x al.length) h t):CTr n A b x h (al++[t]):=⟨fun i hi=>by
  rw[List.length_append,List.length_singleton] at hi
  rw[getD_snoc]
  by_cases e:i<al.length
  · rw[if_pos e];exact y.at_ i e
  · rw[if_neg e,if_pos oM,show i=al.length by omega];exact z⟩
open Classical in
noncomputable def cjE (W:List (List Rat)) (bl xl:List Rat):Int:=if SqP W∧bl.length=W.length∧xl.length=W.length then 10 else 5
theorem cjE_10 {W:List (List Rat)}{bl xl:List Rat}(h:SqP W∧bl.length=W.length∧xl.length=W.length):cjE W bl xl=10:=if_pos h
theorem cjE_5 {W:List (List Rat)}{bl xl:List Rat}(h:¬SqP W∨(bl.length≠W.length∨xl.length≠W.length)):cjE W bl xl=5:=if_neg (fun x=>by
  rcases h with h|h|h
  · exact h x.1
  · exact h x.2.1
  · exact h x.2.2)
theorem mSqT (A:Option Addr)(cap:Nat)(us:List Value)(W:List (List Rat))(hl:W.length≤1000)(hls:∀ i,i<W.length→(W.getD i []).length≤1000)(hS:SqP W)(w:World)(h:Hp)(g:G w h)(hA:SlO 1 vc undef h A us)(hU:QVs h us W):Calls Tryz.prog 33 #[.slice A us.length cap] w (Ret w h fun v _=>v=.bool true):=by
  have x:=mSquare A cap us W hl hls w h g hA hU
  rw[sq_t hS] at x
  exact x
theorem cjClone (A:Option Addr)(c:Nat)(l:List Rat)(n:Nat)(hn:l.length=n)(hpos:0<n)(hl:n≤1000000)(w:World)(h:Hp)(g:G w h)(hA:SlO 5 qc 0 h A l):Calls Tryz.prog 37 #[.slice A l.length c] w (Ret w h fun v h1=>∃ B d,v=.slice B l.length d∧SlO 5 qc 0 h1 B l):=by
  refine (sClone A l.length c l rfl oM oM w h g hA).mono ?_
  rintro _ w' ⟨_,h',rfl,u,x⟩
  obtain ⟨B,d,e,_,s⟩:=x.slv (d:=0) (sz:=5) (fun _=>rfl)
  exact ⟨_,h',rfl,u,B,d,e,s⟩
section
variable {n:Nat} {A:Nat→Nat→Rat} {b x:Nat→Rat} {t:Nat}
theorem cj_z (h:(dt n (cg n A b x t).r (cg n A b x t).r).num.sign=0):dt n (cg n A b x t).r (cg n A b x t).r=0:=Rat.num_eq_zero.1 (Int.sign_eq_zero_iff_zero.1 h)
theorem cj_nz (h:(dt n (cg n A b x t).r (cg n A b x t).r).num.sign≠0):dt n (cg n A b x t).r (cg n A b x t).r≠0:=fun e=>h (by rw[e];rfl)
theorem cj_np (h:(dt n (cg n A b x t).w (mv n A (cg n A b x t).w)).num.sign≤0):¬0<(dt n (cg n A b x t).w (mv n A (cg n A b x t).w)).num:=fun e=>by rw[Int.sign_eq_one_of_pos e] at h;omega
theorem cj_go (h:(dt n (cg n A b x t).r (cg n A b x t).r).num.sign≠0)(h2:¬(dt n (cg n A b x t).w (mv n A (cg n A b x t).w)).num.sign≤0):dt n (cg n A b x t).r (cg n A b x t).r≠0∧0<(dt n (cg n A b x t).w (mv n A (cg n A b x t).w)).num:=⟨cj_nz h,by
  rcases Int.lt_trichotomy (dt n (cg n A b x t).w (mv n A (cg n A b x t).w)).num 0 with e|e|e
  · rw[Int.sign_eq_neg_one_of_neg e] at h2;omega
  · rw[e] at h2;exact absurd kD h2
  · exact e⟩
theorem cj_all (h:∀ i,i<t→dt n (cg n A b x i).r (cg n A b x i).r≠0∧0<(dt n (cg n A b x i).w (mv n A (cg n A b x i).w)).num)(h2:dt n (cg n A b x t).r (cg n A b x t).r≠0∧0<(dt n (cg n A b x t).w (mv n A (cg n A b x t).w)).num):∀ i,i<t+1→dt n (cg n A b x i).r (cg n A b x i).r≠0∧0<(dt n (cg n A b x i).w (mv n A (cg n A b x i).w)).num:=fun i hi=>by
  by_cases e:i=t
  · rw[e];exact h2
  · exact h i oM
end
theorem cConj0 (A:Option Addr)(cap:Nat)(us:List Value)(W:List (List Rat))(hl:W.length≤1000)(hls:∀ i,i<W.length→(W.getD i []).length≤1000)(b x:Nat→Rat)(n:Nat)(hn4:n≤5)(D:Option Addr)(cD:Nat)(X:Option Addr)(cX:Nat)(hS:SymP W)(hn:W.length=n)(hK1:∀ i j,LQ 3 ((W.getD i []).getD j 0))(hb:∀ i,i<n→LQ 100000 (b i))(hx:∀ i,i<n→LQ 100000 (x i))(hB:∀ t,t≤n→CgB n (mA W) b x t)(w:World)(h:Hp)(g:G w h)(hA:SlO 1 vc undef h A us)(hU:QVs h us W)(hD:SlO 5 qc 0 h D (vec n b))(hX:SlO 5 qc 0 h X (vec n x))(tb:Tab h) :
    Calls Tryz.prog 15 #[.slice A us.length cap,.slice D ((vec n b).length) cD,.slice X ((vec n x).length) cX] w (Ret w h fun v h1=>∃ (t:Nat) (e:Int) (A:Option Addr) (c:Nat) (al:List TV),CjEnd n (mA W) b x t e∧v=.tuple #[.slice A al.length c,.int .i64 e]∧SlO 3 tvc tv0 h1 A al∧CTr n (mA W) b x h1 al∧al.length=(if e=0 then t+1 else 0)):=by
 have hs:=SS.start g
 replace hs:=(((((hs.a_SlO hA).add (K:=fun h_=>QVs h_ us W) hU).a_SlO hD).a_SlO hX).add (K:=fun h_=>Tab h_) tb)
 have hlu:=(hs.f.2.2.2.1).len
 have hvb:=vec_len n b
 have hvx:=vec_len n x
 have hSy:∀ i,i<n→∀ j,j<n→mA W i j=mA W j i:=by rw[←hn];exact hS.all
 have hB0:=hB 0 (Nat.zero_le _)
 have hn0:0<n:=by have:=hS.1.1.1;omega
 refine go Tryz.func15 [(0,.slice A us.length cap),(1,.slice D ((vec n b).length) cD),(2,.slice X ((vec n x).length) cX)] rfl ?_
 refine cSL (lL hs [.v 6 (.slice none 0 0),.v 7 (.int .i64 0)] (lN (CG.seq (cSL (lL hs [.m 25 0] (lC 26 hs (mSqT A cap us W hl hls hS.1 _ _ hs.g (hs.f.2.2.2.2.1) (hs.f.2.2.2.1)) ?_))))))
 rintro _ w1 h2 hs rfl
 refine lL hs [.v 27 (.bool false),.m 28 27,.m 29 1,.v 30 (.int .i64 ((vec n b).length:Nat)),.m 31 0,.v 32 (.int .i64 (us.length:Nat))] ?_
 have hb3:((((vec n b).length:Nat):Int) != ((us.length:Nat):Int))=false:=bneF oM
 have phb3:=eqOfBne hb3
 refine lB 33 hb3 ?_
 refine lL hs [.v 34 (.bool false),.m 35 34,.m 36 2,.v 37 (.int .i64 ((vec n x).length:Nat)),.m 38 0,.v 39 (.int .i64 (us.length:Nat))] ?_
 have hb4:((((vec n x).length:Nat):Int) != ((us.length:Nat):Int))=false:=bneF oM
 have phb4:=eqOfBne hb4
 refine lB 40 hb4 ?_
 refine lL hs [.v 41 (.bool false)] (lN (cIF (CG.skipN (CG.seq (cSL (lL hs [.m 42 0] (lC 43 hs (mSymT A cap us W hl hls (fun i j=>(hK1 i j).mono oM) hS _ _ hs.g (hs.f.2.2.2.2.1) (hs.f.2.2.2.1)) ?_)))))))
 rintro _ w5 h6 hs rfl
 refine lL hs [.v 44 (.bool false)] (lN (cIF (CG.skipN (cSL (lL hs [.m 46 0,.m 47 2] (lC 48 hs (mApply A cap us W hl hls x n hn4 X cX hS.1.1 hn (by rw[←hn];exact hS.1.2.symm) 3 100000 hK1 hx kD _ _ hs.g (hs.f.2.2.2.2.1) (hs.f.2.2.2.1) (hs.f.2.1) (hs.f.1)) ?_))))))
 rintro _ w7 h8 hs ⟨Ay,cy,rfl,hcy,hAy⟩
 replace hs:=(hs.a_SlO hAy)
 refine lL hs [.m 45 48,.v 49 (.slice Ay ((vec n (mv n (mA W) x)).length) cy),.v 50 (.int .i64 0),.m 8 49,.m 9 50] (lNS (lL hs [.m 51 1,.m 52 8] (lC 53 hs (fOf (-1) oM oM _ _ hs.g) ?_)))
 rintro _ w9 h10 hs rfl
 refine lC 54 hs (cjPlus b (mv n (mA W) x) n oM D cD Ay cy ((-1:Int):Rat) 100000 100000 1 hb (hB0.ax) (LQ.int oM oM) oM _ _ hs.g (hs.f.2.2.2.1) (hs.f.1) (hs.f.2.1)) ?_
 rintro _ w11 h12 hs ⟨Xr,cr,rfl,hcr,hXr⟩
 replace hs:=(hs.a_SlO hXr)
 refine lL hs [.m 8 54] (lNS (lL hs [.m 55 2] (lC 56 hs (cjClone X cX (vec n x) n (vec_len n _) oM oM _ _ hs.g (hs.f.2.2.2.1)) ?_)))
 rintro _ w13 h14 hs ⟨K1,ck1,rfl,hK_1⟩
 replace hs:=(hs.a_SlO hK_1)
 refine lL hs [.m 57 8,.m 58 8] (lC 59 hs (cjClone Xr cr (vec n (cg n (mA W) b x 0).r) n (vec_len n _) oM oM _ _ hs.g (hs.f.2.1)) ?_)
 rintro _ w15 h16 hs ⟨K2,ck2,rfl,hK_2⟩
 replace hs:=(hs.a_SlO hK_2)
 refine lL hs [.v 60 (.agg #[.slice K1 ((vec n x).length) ck1,.slice Xr ((vec n (cg n (mA W) b x 0).r).length) cr,.slice K2 ((vec n (cg n (mA W) b x 0).r).length) ck2])] (lRw 61 61 3 tvc ([((.slice K1 ((vec n x).length) ck1,.slice Xr ((vec n (cg n (mA W) b x 0).r).length) cr,.slice K2 ((vec n (cg n (mA W) b x 0).r).length) ck2):TV)]:List TV) hs (fun b17 w18 h19 hs=>?_))
 refine lL hs [.m 10 61] (lN (cTo [(0,.slice A us.length cap),(1,.slice D ((vec n b).length) cD),(6,.slice none 0 0),(7,.int .i64 0),(10,.slice (some ⟨b17,0,none⟩) ((([((.slice K1 ((vec n x).length) ck1,.slice Xr ((vec n (cg n (mA W) b x 0).r).length) cr,.slice K2 ((vec n (cg n (mA W) b x 0).r).length) ck2):TV)]:List TV)).length) ((([((.slice K1 ((vec n x).length) ck1,.slice Xr ((vec n (cg n (mA W) b x 0).r).length) cr,.slice K2 ((vec n (cg n (mA W) b x 0).r).length) ck2):TV)]:List TV)).length))] ?_))
 refine CG.block (cTo [(0,.slice A us.length cap),(1,.slice D ((vec n b).length) cD),(10,.slice (some ⟨b17,0,none⟩) ((([((.slice K1 ((vec n x).length) ck1,.slice Xr ((vec n (cg n (mA W) b x 0).r).length) cr,.slice K2 ((vec n (cg n (mA W) b x 0).r).length) ck2):TV)]:List TV)).length) ((([((.slice K1 ((vec n x).length) ck1,.slice Xr ((vec n (cg n (mA W) b x 0).r).length) cr,.slice K2 ((vec n (cg n (mA W) b x 0).r).length) ck2):TV)]:List TV)).length))] ?_)
 replace hs:=hs.add (K:=fun h_=>CTr n (mA W) b x h_ ([((.slice K1 ((vec n x).length) ck1,.slice Xr ((vec n (cg n (mA W) b x 0).r).length) cr,.slice K2 ((vec n (cg n (mA W) b x 0).r).length) ck2):TV)]:List TV)) ((CTr.nil.snoc ⟨⟨_,_,rfl,(hs.f.2.1)⟩,⟨_,_,rfl,(hs.f.2.2.1)⟩,⟨_,_,rfl,(hs.f.1)⟩⟩))
 replace hs:=hs.add (K:=fun h_=>SlO 5 qc 0 h_ K2 (vec n (cg n (mA W) b x 0).w)) ((hs.f.2.1))
 replace hs:=hs.add (K:=fun h_=>SlO 5 qc 0 h_ Xr (vec n (cg n (mA W) b x 0).r)) ((hs.f.2.2.2.2.1))
 replace hs:=hs.add (K:=fun h_=>SlO 5 qc 0 h_ K1 (vec n (cg n (mA W) b x 0).x)) ((hs.f.2.2.2.2.1))
 refine CG.loop (fun μ_ Γ w_=>∃ (t:Nat) (saA:Option Addr) (sac:Nat) (al:List TV) (Ax:Option Addr) (cx:Nat) (Ar:Option Addr) (cr_:Nat) (Aw:Option Addr) (cw:Nat) (h_:Hp),μ_=n+1-t∧Γ=[(0,.slice A us.length cap),(1,.slice D ((vec n b).length) cD),(10,.slice saA ((al).length) sac)]∧SS w h w_ h_ [] [⟨61,3,saA,sac,(al).length,(al).flatMap tvc⟩] [fun h_=>SlO 5 qc 0 h_ Ax (vec n (cg n (mA W) b x t).x),fun h_=>SlO 5 qc 0 h_ Ar (vec n (cg n (mA W) b x t).r),fun h_=>SlO 5 qc 0 h_ Aw (vec n (cg n (mA W) b x t).w),fun h_=>CTr n (mA W) b x h_ al,fun h_=>SlO 5 qc 0 h_ K2 (vec n (cg n (mA W) b x 0).r),fun h_=>SlO 5 qc 0 h_ K1 (vec n x),fun h_=>SlO 5 qc 0 h_ Xr (vec n (cg n (mA W) b x 0).r),fun h_=>SlO 5 qc 0 h_ Ay (vec n (mv n (mA W) x)),fun h_=>Tab h_,fun h_=>SlO 5 qc 0 h_ X (vec n x),fun h_=>SlO 5 qc 0 h_ D (vec n b),fun h_=>QVs h_ us W,fun h_=>SlO 1 vc undef h_ A us]∧(al.length=t+1)∧(al.getD t tv0=(.slice Ax (vec n (cg n (mA W) b x t).x).length cx,.slice Ar (vec n (cg n (mA W) b x t).r).length cr_,.slice Aw (vec n (cg n (mA W) b x t).w).length cw))∧(∀ i,i<t→dt n (cg n (mA W) b x i).r (cg n (mA W) b x i).r≠0∧0<(dt n (cg n (mA W) b x i).w (mv n (mA W) (cg n (mA W) b x i).w)).num)) _ ⟨0,some ⟨b17,0,none⟩,(([((.slice K1 ((vec n x).length) ck1,.slice Xr ((vec n (cg n (mA W) b x 0).r).length) cr,.slice K2 ((vec n (cg n (mA W) b x 0).r).length) ck2):TV)]:List TV)).length,([((.slice K1 ((vec n x).length) ck1,.slice Xr ((vec n (cg n (mA W) b x 0).r).length) cr,.slice K2 ((vec n (cg n (mA W) b x 0).r).length) ck2):TV)]:List TV),K1,ck1,Xr,cr,K2,ck2,h19,rfl,rfl,hs.to _ _,rfl,rfl,(fun i hi=>absurd hi (Nat.not_lt_zero i))⟩ ?_
 rintro _ _ w22 ⟨t,saA,sac,al,Ax,cx,Ar,cr_,Aw,cw,h23,hm24,rfl,hs,ht,hcur,hg⟩
 have htn:=cg_ends hSy (fun i hi=>goes_of (hg i hi))
 have hBt:=hB t htn
 refine CG.block (cSL (lL hs [.m 62 10,.m 63 10,.v 64 (.int .i64 ((al).length:Nat))] (lIn 65 (((al).length:Nat)-1) t ?_)))
 obtain ⟨bR25,hbR26⟩:=hs.rowA 0 (A:=saA) (c:=sac) (m:=(al).length) (ty:=61) (sz:=3) (cs:=(al).flatMap tvc) oM
 subst hbR26
 refine lX 66 (some ⟨bR25,0,none⟩) ((al).length) sac 3 (t:Nat) t rfl ?_
 refine lRq (ty:=61) (sz:=3) (c:=sac) (m:=(al).length) (b:=bR25) (cs:=(al).flatMap tvc) 67 0 (.agg #[.slice Ax ((vec n (cg n (mA W) b x t).x).length) cx,.slice Ar ((vec n (cg n (mA W) b x t).r).length) cr_,.slice Aw ((vec n (cg n (mA W) b x t).w).length) cw]) ([.slice Ax ((vec n (cg n (mA W) b x t).x).length) cx,.slice Ar ((vec n (cg n (mA W) b x t).r).length) cr_,.slice Aw ((vec n (cg n (mA W) b x t).w).length) cw]) hs ((row_el (f:=tvc) (sz:=3) (fun _=>rfl) tv0 al t oM).trans (congrArg tvc hcur)) ?_
 refine lA 11 61 ([.slice none 0 0,.slice none 0 0,.slice none 0 0]) hs (fun b27 w28 h29 hs=>?_)
 refine lP 0 0 ([.slice Ax ((vec n (cg n (mA W) b x t).x).length) cx,.slice Ar ((vec n (cg n (mA W) b x t).r).length) cr_,.slice Aw ((vec n (cg n (mA W) b x t).w).length) cw]) hs (fun w30 hs=>?_)
 refine lNS (lL hs [.v 69 (.pointer (some ⟨b27,1,none⟩)),.o 70 (.slice Ar ((vec n (cg n (mA W) b x t).r).length) cr_) 0 1 1,.v 71 (.pointer (some ⟨b27,1,none⟩)),.o 72 (.slice Ar ((vec n (cg n (mA W) b x t).r).length) cr_) 0 1 1] (lC 73 hs (cjDotV (cg n (mA W) b x t).r (cg n (mA W) b x t).r n Ar cr_ Ar cr_ 100000 100000 oM kD hBt.r hBt.r _ _ hs.g (hs.f.2.1) (hs.f.2.1) (hs.f.2.2.2.2.2.2.2.2.1)) ?_))
 rintro _ w31 h32 hs rfl
 refine lL hs [.m 68 73,.v 74 (qv (dt n (cg n (mA W) b x t).r (cg n (mA W) b x t).r)),.v 75 (.bool true)] (lA 12 40 ([.bool false,.int .u64 0,.string ⟨#[]⟩,.int .u64 0,.string ⟨#[]⟩]) hs (fun b33 w34 h35 hs=>?_))
 refine lP 0 0 (qc (dt n (cg n (mA W) b x t).r (cg n (mA W) b x t).r)) hs (fun w36 hs=>?_)
 refine lL hs [.m 13 75] (lN (CG.seq (cSL (lL hs [.o 76 (qv (dt n (cg n (mA W) b x t).r (cg n (mA W) b x t).r)) 0 0 5] (lC 77 hs (fSign (dt n (cg n (mA W) b x t).r (cg n (mA W) b x t).r) (hBt.rr.mono oM) _ _ hs.g) ?_)))))
 rintro _ w37 h38 hs rfl
 cases hb39:(((dt n (cg n (mA W) b x t).r (cg n (mA W) b x t).r).num.sign:Int) == (0:Int))
 ·
  have phb39:=neOfBeq hb39
  refine lB 78 hb39 ?_
  refine lN (cIF (CG.skipN (cSL (lL hs [.m 81 0,.v 82 (.pointer (some ⟨b27,2,none⟩)),.o 83 (.slice Aw ((vec n (cg n (mA W) b x t).w).length) cw) 1 2 1] (lC 84 hs (qValue A cap us W hl hls (cg n (mA W) b x t).w n oM Aw cw hS hn 3 100000 100000 hK1 hBt.w hBt.aw kD kD _ _ hs.g (hs.f.2.2.2.2.2.2.2.2.2.2.2.2.1) (hs.f.2.2.2.2.2.2.2.2.2.2.2.1) (hs.f.2.2.1) (hs.f.2.2.2.2.2.2.2.2.1)) ?_)))))
  rintro _ w40 h41 hs rfl
  refine lL hs [.m 80 84,.v 85 (qv (dt n (cg n (mA W) b x t).w (mv n (mA W) (cg n (mA W) b x t).w))),.v 86 (.int .i64 0)] (lA 14 40 ([.bool false,.int .u64 0,.string ⟨#[]⟩,.int .u64 0,.string ⟨#[]⟩]) hs (fun b42 w43 h44 hs=>?_))
  refine lP 0 0 (qc (dt n (cg n (mA W) b x t).w (mv n (mA W) (cg n (mA W) b x t).w))) hs (fun w45 hs=>?_)
  refine lL hs [.m 15 86] (lN (CG.seq (cSL (lL hs [.o 87 (qv (dt n (cg n (mA W) b x t).w (mv n (mA W) (cg n (mA W) b x t).w))) 0 0 5] (lC 88 hs (fSign (dt n (cg n (mA W) b x t).w (mv n (mA W) (cg n (mA W) b x t).w)) (hBt.ww.mono oM) _ _ hs.g) ?_)))))
  rintro _ w46 h47 hs rfl
  cases hb48:(decide (((dt n (cg n (mA W) b x t).w (mv n (mA W) (cg n (mA W) b x t).w)).num.sign:Int)≤(0:Int)))
  ·
   have phb48:=oF hb48
   refine lB 89 hb48 ?_
   refine lN (cIF (CG.skipN (cSL (lL hs [.o 91 (qv (dt n (cg n (mA W) b x t).r (cg n (mA W) b x t).r)) 1 0 5,.o 92 (qv (dt n (cg n (mA W) b x t).w (mv n (mA W) (cg n (mA W) b x t).w))) 0 0 5] ?_))))
   have hgo:=cj_go (n:=n) (A:=(mA W)) (b:=b) (x:=x) (t:=t) oM oM
   have hg1:∀ i,i<t+1→_:=cj_all hg hgo
   have htn1:=cg_ends hSy (fun i hi=>goes_of (hg1 i hi))
   have hB1:=hB (t+1) htn1
   refine lC 93 hs (fDivN (dt n (cg n (mA W) b x t).r (cg n (mA W) b x t).r) (dt n (cg n (mA W) b x t).w (mv n (mA W) (cg n (mA W) b x t).w)) (hBt.rr.mono oM) (hBt.ww.mono oM) (by have:=Int.sign_eq_zero_iff_zero (a:=(dt n (cg n (mA W) b x t).w (mv n (mA W) (cg n (mA W) b x t).w)).num);omega) _ _ hs.g (hs.f.2.2.2.2.2.2.2.2.1)) ?_
   rintro _ w49 h50 hs rfl
   refine lL hs [.m 90 93,.v 94 (qv (cgK n (mA W) (cg n (mA W) b x t))),.v 95 (.bool true)] (lA 16 40 ([.bool false,.int .u64 0,.string ⟨#[]⟩,.int .u64 0,.string ⟨#[]⟩]) hs (fun b51 w52 h53 hs=>?_))
   refine lP 0 0 (qc (cgK n (mA W) (cg n (mA W) b x t))) hs (fun w54 hs=>?_)
   refine lL hs [.m 17 95] (lN (cTo [(0,.slice A us.length cap),(1,.slice D ((vec n b).length) cD),(10,.slice (some ⟨bR25,0,none⟩) ((al).length) sac),(11,.pointer (some ⟨b27,0,none⟩)),(12,.pointer (some ⟨b33,0,none⟩)),(16,.pointer (some ⟨b51,0,none⟩))] ?_))
   refine cSL (lL hs [.v 96 (.pointer (some ⟨b27,0,none⟩)),.o 97 (.slice Ax ((vec n (cg n (mA W) b x t).x).length) cx) 3 0 1,.v 98 (.pointer (some ⟨b27,2,none⟩)),.o 99 (.slice Aw ((vec n (cg n (mA W) b x t).w).length) cw) 3 2 1,.o 100 (qv (cgK n (mA W) (cg n (mA W) b x t))) 0 0 5] (lC 101 hs (cjPlus (cg n (mA W) b x t).x (cg n (mA W) b x t).w n oM Ax cx Aw cw (cgK n (mA W) (cg n (mA W) b x t)) 100000 100000 100000 hBt.xx hBt.w hBt.k oM _ _ hs.g (hs.f.1) (hs.f.2.2.1) (hs.f.2.2.2.2.2.2.2.2.1)) ?_))
   rintro _ w55 h56 hs ⟨Xn,cn,rfl,hcn,hXn⟩
   replace hs:=(hs.a_SlO hXn)
   refine lL hs [.v 102 (.agg #[.slice Xn ((vec n (cg n (mA W) b x (t+1)).x).length) cn,.slice none 0 0,.slice none 0 0])] (lA 18 61 ([.slice none 0 0,.slice none 0 0,.slice none 0 0]) hs (fun b57 w58 h59 hs=>?_))
   refine lP 0 0 ([.slice Xn ((vec n (cg n (mA W) b x (t+1)).x).length) cn,.slice none 0 0,.slice none 0 0]) hs (fun w60 hs=>?_)
   refine lNS (lL hs [.m 104 0,.v 105 (.pointer (some ⟨b57,0,none⟩)),.o 106 (.slice Xn ((vec n (cg n (mA W) b x (t+1)).x).length) cn) 0 0 1] (lC 107 hs (mApply A cap us W hl hls ((cg n (mA W) b x (t+1)).x) n hn4 Xn cn hS.1.1 hn (by rw[←hn];exact hS.1.2.symm) 3 100000 hK1 hB1.xx kD _ _ hs.g (hs.f.2.2.2.2.2.2.2.2.2.2.2.2.2.1) (hs.f.2.2.2.2.2.2.2.2.2.2.2.2.1) (hs.f.1) (hs.f.2.2.2.2.2.2.2.2.2.1)) ?_))
   rintro _ w61 h62 hs ⟨Az,cz,rfl,hcz,hAz⟩
   replace hs:=(hs.a_SlO hAz)
   refine lL hs [.m 103 107,.v 108 (.slice Az ((vec n (mv n (mA W) (cg n (mA W) b x (t+1)).x)).length) cz),.v 109 (.int .i64 0),.m 19 108,.m 20 109] (lNS (lL hs [.m 110 1,.m 111 19] (lC 112 hs (fOf (-1) oM oM _ _ hs.g) ?_)))
   rintro _ w63 h64 hs rfl
   refine lC 113 hs (cjPlus b (mv n (mA W) (cg n (mA W) b x (t+1)).x) n oM D cD Az cz ((-1:Int):Rat) 100000 100000 1 hb hB1.ax (LQ.int oM oM) oM _ _ hs.g (hs.f.2.2.2.2.2.2.2.2.2.2.2.2.1) (hs.f.1) (hs.f.2.2.2.2.2.2.2.2.2.2.1)) ?_
   rintro _ w65 h66 hs ⟨Xm,cm,rfl,hcm,hXm⟩
   replace hs:=(hs.a_SlO hXm)
   refine lL hs [.v 114 (.pointer (some ⟨b57,1,none⟩))] (lP 0 1 ([.slice Xm ((vec n (cg n (mA W) b x (t+1)).r).length) cm]) hs (fun w67 hs=>?_))
   refine lNS (lL hs [.v 116 (.pointer (some ⟨b57,1,none⟩)),.o 117 (.slice Xm ((vec n (cg n (mA W) b x (t+1)).r).length) cm) 0 1 1,.v 118 (.pointer (some ⟨b57,1,none⟩)),.o 119 (.slice Xm ((vec n (cg n (mA W) b x (t+1)).r).length) cm) 0 1 1] (lC 120 hs (cjDotV (cg n (mA W) b x (t+1)).r (cg n (mA W) b x (t+1)).r n Xm cm Xm cm 100000 100000 oM kD hB1.r hB1.r _ _ hs.g (hs.f.1) (hs.f.1) (hs.f.2.2.2.2.2.2.2.2.2.2.2.1)) ?_))
   rintro _ w68 h69 hs rfl
   refine lL hs [.m 115 120,.v 121 (qv (dt n (cg n (mA W) b x (t+1)).r (cg n (mA W) b x (t+1)).r)),.v 122 (.bool true)] (lA 21 40 ([.bool false,.int .u64 0,.string ⟨#[]⟩,.int .u64 0,.string ⟨#[]⟩]) hs (fun b70 w71 h72 hs=>?_))
   refine lP 0 0 (qc (dt n (cg n (mA W) b x (t+1)).r (cg n (mA W) b x (t+1)).r)) hs (fun w73 hs=>?_)
   refine lL hs [.m 22 122] (lNS (lL hs [.o 124 (qv (dt n (cg n (mA W) b x (t+1)).r (cg n (mA W) b x (t+1)).r)) 0 0 5,.o 125 (qv (dt n (cg n (mA W) b x t).r (cg n (mA W) b x t).r)) 4 0 5] (lC 126 hs (fDivN (dt n (cg n (mA W) b x (t+1)).r (cg n (mA W) b x (t+1)).r) (dt n (cg n (mA W) b x t).r (cg n (mA W) b x t).r) (hB1.rr.mono oM) (hBt.rr.mono oM) (fun e_=>hgo.1 (Rat.num_eq_zero.1 e_)) _ _ hs.g (hs.f.2.2.2.2.2.2.2.2.2.2.2.1)) ?_)))
   rintro _ w74 h75 hs rfl
   refine lL hs [.m 123 126,.v 127 (qv ((dt n (cg n (mA W) b x (t+1)).r (cg n (mA W) b x (t+1)).r)/(dt n (cg n (mA W) b x t).r (cg n (mA W) b x t).r))),.v 128 (.bool true)] (lA 23 40 ([.bool false,.int .u64 0,.string ⟨#[]⟩,.int .u64 0,.string ⟨#[]⟩]) hs (fun b76 w77 h78 hs=>?_))
   refine lP 0 0 (qc ((dt n (cg n (mA W) b x (t+1)).r (cg n (mA W) b x (t+1)).r)/(dt n (cg n (mA W) b x t).r (cg n (mA W) b x t).r))) hs (fun w79 hs=>?_)
   refine lL hs [.m 24 128] (lN (cTo [(0,.slice A us.length cap),(1,.slice D ((vec n b).length) cD),(10,.slice (some ⟨bR25,0,none⟩) ((al).length) sac),(11,.pointer (some ⟨b27,0,none⟩)),(18,.pointer (some ⟨b57,0,none⟩)),(23,.pointer (some ⟨b76,0,none⟩))] ?_))
   refine cSL (lL hs [.v 129 (.pointer (some ⟨b57,1,none⟩)),.o 130 (.slice Xm ((vec n (cg n (mA W) b x (t+1)).r).length) cm) 2 1 1,.v 131 (.pointer (some ⟨b27,2,none⟩)),.o 132 (.slice Aw ((vec n (cg n (mA W) b x t).w).length) cw) 6 2 1,.o 133 (qv ((dt n (cg n (mA W) b x (t+1)).r (cg n (mA W) b x (t+1)).r)/(dt n (cg n (mA W) b x t).r (cg n (mA W) b x t).r))) 0 0 5] (lC 134 hs (cjPlus (cg n (mA W) b x (t+1)).r (cg n (mA W) b x t).w n oM Xm cm Aw cw ((dt n (cg n (mA W) b x (t+1)).r (cg n (mA W) b x (t+1)).r)/(dt n (cg n (mA W) b x t).r (cg n (mA W) b x t).r)) 100000 100000 200000 hB1.r hBt.w (hB1.rr.div hBt.rr) oM _ _ hs.g (hs.f.1) (hs.f.2.2.2.2.2.1) (hs.f.2.2.2.2.2.2.2.2.2.2.2.1)) ?_))
   rintro _ w80 h81 hs ⟨Xv,cv,rfl,hcv,hXv⟩
   replace hs:=(hs.a_SlO hXv)
   refine lL hs [.v 135 (.pointer (some ⟨b57,2,none⟩))] (lP 2 2 ([.slice Xv ((vec n (cg n (mA W) b x (t+1)).w).length) cv]) hs (fun w82 hs=>?_))
   refine lN (CG.listed (lL hs [.m 136 10,.o 137 (.agg #[.slice Xn ((vec n (cg n (mA W) b x (t+1)).x).length) cn,.slice Xm ((vec n (cg n (mA W) b x (t+1)).r).length) cm,.slice Xv ((vec n (cg n (mA W) b x (t+1)).w).length) cv]) 2 0 3] (lR 138 61 1 ([.slice Xn ((vec n (cg n (mA W) b x (t+1)).x).length) cn,.slice Xm ((vec n (cg n (mA W) b x (t+1)).r).length) cm,.slice Xv ((vec n (cg n (mA W) b x (t+1)).w).length) cv]) hs (fun b83 w84 h85 hs=>?_))))
   refine lY 139 0 61 3 sac (some ⟨bR25,0,none⟩) al tvc ((.slice Xn ((vec n (cg n (mA W) b x (t+1)).x).length) cn,.slice Xm ((vec n (cg n (mA W) b x (t+1)).r).length) cm,.slice Xv ((vec n (cg n (mA W) b x (t+1)).w).length) cv):TV) 72 b83 (.agg #[.slice none 0 0,.slice none 0 0,.slice none 0 0]) hs (hs.f.1) (fun A87 c88 w89 h90 hs=>?_)
   refine lL hs [.m 10 139] (lD ?_)
   intro a_ ka
   have q92:SlO 5 qc 0 h90 Xn (vec n (cg n (mA W) b x (t+1)).x):=(hs.f.2.2.2.2.1)
   have q93:SlO 5 qc 0 h90 Xm (vec n (cg n (mA W) b x (t+1)).r):=(hs.f.2.2.1)
   have q94:SlO 5 qc 0 h90 Xv (vec n (cg n (mA W) b x (t+1)).w):=(hs.f.2.1)
   have q95:CTr n (mA W) b x h90 (al++[((.slice Xn ((vec n (cg n (mA W) b x (t+1)).x).length) cn,.slice Xm ((vec n (cg n (mA W) b x (t+1)).r).length) cm,.slice Xv ((vec n (cg n (mA W) b x (t+1)).w).length) cv):TV)]):=((hs.f.2.2.2.2.2.2.2.2.1).snoc (by rw[ht];exact ⟨⟨_,_,rfl,(hs.f.2.2.2.2.1)⟩,⟨_,_,rfl,(hs.f.2.2.1)⟩,⟨_,_,rfl,(hs.f.2.1)⟩⟩))
   have q96:(al++[((.slice Xn ((vec n (cg n (mA W) b x (t+1)).x).length) cn,.slice Xm ((vec n (cg n (mA W) b x (t+1)).r).length) cm,.slice Xv ((vec n (cg n (mA W) b x (t+1)).w).length) cv):TV)]).length=(t+1)+1:=(by rw[List.length_append,ht];rfl)
   have q97:(al++[((.slice Xn ((vec n (cg n (mA W) b x (t+1)).x).length) cn,.slice Xm ((vec n (cg n (mA W) b x (t+1)).r).length) cm,.slice Xv ((vec n (cg n (mA W) b x (t+1)).w).length) cv):TV)]).getD (t+1) tv0=(.slice Xn (vec n (cg n (mA W) b x (t+1)).x).length cn,.slice Xm (vec n (cg n (mA W) b x (t+1)).r).length cm,.slice Xv (vec n (cg n (mA W) b x (t+1)).w).length cv):=(by rw[getD_snoc,if_neg oM,if_pos oM])
   have q98:∀ i,i<(t+1)→dt n (cg n (mA W) b x i).r (cg n (mA W) b x i).r≠0∧0<(dt n (cg n (mA W) b x i).w (mv n (mA W) (cg n (mA W) b x i).w)).num:=hg1
   replace hs:=((((hs.tl.tl.tl.tl.tl.tl.tl.tl.tl.add (K:=fun h_=>CTr n (mA W) b x h_ (al++[((.slice Xn ((vec n (cg n (mA W) b x (t+1)).x).length) cn,.slice Xm ((vec n (cg n (mA W) b x (t+1)).r).length) cm,.slice Xv ((vec n (cg n (mA W) b x (t+1)).w).length) cv):TV)])) q95).add (K:=fun h_=>SlO 5 qc 0 h_ Xv (vec n (cg n (mA W) b x (t+1)).w)) q94).add (K:=fun h_=>SlO 5 qc 0 h_ Xm (vec n (cg n (mA W) b x (t+1)).r)) q93).add (K:=fun h_=>SlO 5 qc 0 h_ Xn (vec n (cg n (mA W) b x (t+1)).x)) q92)
   replace hs:=hs.drop 7 0
   refine ⟨_,_,?_,⟨t+1,A87,c88,al++[((.slice Xn ((vec n (cg n (mA W) b x (t+1)).x).length) cn,.slice Xm ((vec n (cg n (mA W) b x (t+1)).r).length) cm,.slice Xv ((vec n (cg n (mA W) b x (t+1)).w).length) cv):TV)],Xn,cn,Xm,cm,Xv,cv,h90,rfl,rfl,hs.to _ _,q96,q97,q98⟩,ka.to [(0,.slice A us.length cap),(1,.slice D ((vec n b).length) cD),(10,.slice A87 (((al++[((.slice Xn ((vec n (cg n (mA W) b x (t+1)).x).length) cn,.slice Xm ((vec n (cg n (mA W) b x (t+1)).r).length) cm,.slice Xv ((vec n (cg n (mA W) b x (t+1)).w).length) cv):TV)])).length) c88)] kR⟩
   omega
  have phb48:=oT hb48
  refine lB 89 hb48 ?_
  exact lN (cIT (cSL (lL hs [.v 6 (.slice none 0 0),.v 7 (.int .i64 9)] (lN (CG.ret (hs.ret [] (.tuple #[.slice none 0 0,.int .i64 9]) (⟨t,9,none,0,[],⟨hg,.inr ⟨rfl,cj_nz oM,cj_np oM⟩⟩,rfl,SlO.nil,CTr.nil,by rw[if_neg kD];rfl⟩)))))))
 have phb39:=eq_of_beq hb39
 refine lB 78 hb39 ?_
 refine lN (cIT (cSL ?_))
 obtain ⟨h99,hs,hc100⟩:=hs.pubr 0 (A:=some ⟨bR25,0,none⟩) (c:=sac) (l:=al) (f:=tvc) (ty:=61) (sz:=3) tv0 (fun _=>rfl)
 exact lL hs [.m 79 10,.m 6 79,.v 7 (.int .i64 0)] (lN (CG.ret (hs.ret [] (.tuple #[.slice (some ⟨bR25,0,none⟩) ((al).length) sac,.int .i64 0]) (⟨t,0,_,_,al,⟨hg,.inl ⟨rfl,cj_z oM⟩⟩,rfl,(hs.f.1),(hs.f.2.2.2.2.1),by rw[if_pos rfl];exact ht⟩))))
theorem cConjE (A:Option Addr)(cap:Nat)(us:List Value)(W:List (List Rat))(hl:W.length≤1000)(hls:∀ i,i<W.length→(W.getD i []).length≤1000)(D:Option Addr)(cD:Nat)(bl:List Rat)(X:Option Addr)(cX:Nat)(xl:List Rat)(hbl:bl.length≤1000)(hxl:xl.length≤1000)(hq:∀ i j,LQ 100000000 ((W.getD i []).getD j 0))(hE:¬SymP W∨bl.length≠W.length∨xl.length≠W.length)(w:World)(h:Hp)(g:G w h)(hA:SlO 1 vc undef h A us)(hU:QVs h us W)(hD:SlO 5 qc 0 h D bl)(hX:SlO 5 qc 0 h X xl)(tb:Tab h) :
    Calls Tryz.prog 15 #[.slice A us.length cap,.slice D bl.length cD,.slice X xl.length cX] w (Ret w h fun v _=>v=.tuple #[.slice none 0 0,.int .i64 (cjE W bl xl)]):=by
 have hs:=SS.start g
 replace hs:=(((((hs.a_SlO hA).add (K:=fun h_=>QVs h_ us W) hU).a_SlO hD).a_SlO hX).add (K:=fun h_=>Tab h_) tb)
 have hlu:=(hs.f.2.2.2.1).len
 refine go Tryz.func15 [(0,.slice A us.length cap),(1,.slice D bl.length cD),(2,.slice X xl.length cX)] rfl ?_
 refine cSL (lL hs [.v 6 (.slice none 0 0),.v 7 (.int .i64 0)] (lN (CG.seq (cSL (lL hs [.m 25 0] (lC 26 hs (mSquare A cap us W hl hls _ _ hs.g (hs.f.2.2.2.2.1) (hs.f.2.2.2.1)) ?_))))))
 rintro _ w1 h2 hs rfl
 cases hb3:(sqq W)
 ·
  refine lL hs [.v 27 (.bool true),.m 28 27] (lG 29 ?_)
  refine lG 30 ?_
  refine lG 31 ?_
  refine lG 32 ?_
  refine lG 33 ?_
  refine lL hs [.v 34 (.bool true),.m 35 34] (lG 36 ?_)
  refine lG 37 ?_
  refine lG 38 ?_
  refine lG 39 ?_
  refine lG 40 ?_
  exact lL hs [.v 41 (.bool true)] (lN (cIT (cSL (lL hs [.v 6 (.slice none 0 0),.v 7 (.int .i64 5)] (lN (CG.ret (hs.ret [] (.tuple #[.slice none 0 0,.int .i64 5]) (by rw[cjE_5 (by first|exact .inl (sq_not aM)|exact .inr oM)]))))))))
 refine lL hs [.v 27 (.bool false),.m 28 27,.m 29 1,.v 30 (.int .i64 (bl.length:Nat)),.m 31 0,.v 32 (.int .i64 (us.length:Nat))] ?_
 cases hb4:(((bl.length:Nat):Int) != ((us.length:Nat):Int))
 ·
  have phb4:=eqOfBne hb4
  refine lB 33 hb4 ?_
  refine lL hs [.v 34 (.bool false),.m 35 34,.m 36 2,.v 37 (.int .i64 (xl.length:Nat)),.m 38 0,.v 39 (.int .i64 (us.length:Nat))] ?_
  cases hb5:(((xl.length:Nat):Int) != ((us.length:Nat):Int))
  ·
   have phb5:=eqOfBne hb5
   refine lB 40 hb5 ?_
   refine lL hs [.v 41 (.bool false)] (lN (cIF (CG.skipN (CG.seq (cSL (lL hs [.m 42 0] (lC 43 hs (mSym A cap us W hl hls hq _ _ hs.g (hs.f.2.2.2.2.1) (hs.f.2.2.2.1)) ?_)))))))
   rintro _ w6 h7 hs rfl
   have hb8:(symq W)=false:=sym_f (fun h_=>by rcases hE with e_|e_|e_;exact e_ h_;all_goals omega)
   rw[hb8]
   exact lL hs [.v 44 (.bool true)] (lN (cIT (cSL (lL hs [.v 6 (.slice none 0 0),.v 7 (.int .i64 10)] (lN (CG.ret (hs.ret [] (.tuple #[.slice none 0 0,.int .i64 10]) (by rw[cjE_10 ⟨sq_is aM,by omega,by omega⟩]))))))))
  have phb5:=neOfBne hb5
  refine lB 40 hb5 ?_
  exact lL hs [.v 41 (.bool true)] (lN (cIT (cSL (lL hs [.v 6 (.slice none 0 0),.v 7 (.int .i64 5)] (lN (CG.ret (hs.ret [] (.tuple #[.slice none 0 0,.int .i64 5]) (by rw[cjE_5 (by first|exact .inl (sq_not aM)|exact .inr oM)]))))))))
 have phb4:=neOfBne hb4
 refine lB 33 hb4 ?_
 refine lL hs [.v 34 (.bool true),.m 35 34] (lG 36 ?_)
 refine lG 37 ?_
 refine lG 38 ?_
 refine lG 39 ?_
 refine lG 40 ?_
 exact lL hs [.v 41 (.bool true)] (lN (cIT (cSL (lL hs [.v 6 (.slice none 0 0),.v 7 (.int .i64 5)] (lN (CG.ret (hs.ret [] (.tuple #[.slice none 0 0,.int .i64 5]) (by rw[cjE_5 (by first|exact .inl (sq_not aM)|exact .inr oM)]))))))))
def Tw (D E:Nat)(q:Rat):Prop:=∃ N:Int,N.natAbs≤E∧q*((D:Nat):Rat)=(N:Rat)
theorem Tw.zero {D E:Nat}:Tw D E 0:=⟨0,Nat.zero_le _,by rw[Rat.zero_mul];rfl⟩
structure Dfn (n:Nat) (W:List (List Rat)):Prop where
  len:W.length=n
  wd:∀ i,(W.getD i []).length≤n
  e:∀ i j,Tw 144 262144 ((W.getD i []).getD j 0)
theorem Dfn.md {n m:Nat}{W:List (List Rat)}(h:Dfn n W):MD m 18 (mA W):=⟨144,by decide,by decide,fun i _ j _=>by
  obtain ⟨N,a,b⟩:=h.e i j
  exact ⟨N,a,b⟩⟩
theorem Dfn.lq {n:Nat}{W:List (List Rat)}(h:Dfn n W)(i j:Nat):LQ 3 ((W.getD i []).getD j 0):=by
  obtain ⟨N,a,b⟩:=h.e i j
  exact (SD.lq (e:=18) (k:=1) ⟨N,144,by decide,by decide,a,b⟩ kD).mono kD
theorem LQ.up8 {q:Rat}(h:LQ 1 q):LQ 100000000 q:=h.mono kD
theorem lQ_ (A:Option Addr)(c:Nat)(zs:List Int)(hl:zs.length≤1000)(hz:I64s zs)(w:World)(h:Hp)(g:G w h)(hA:SlO 1 i64c 0 h A zs) :
    Calls Tryz.prog 16 #[.slice A zs.length c] w (Ret w h fun v h1=>∃ A c,v=.slice A (zs.map (fun z:Int=>(z:Rat))).length c∧(zs.map (fun z:Int=>(z:Rat))).length≤c∧SlO 5 qc 0 h1 A (zs.map (fun z:Int=>(z:Rat)))):=by
 have hs:=SS.start g
 replace hs:=(hs.a_SlO hA)
 refine go Tryz.func16 [(0,.slice A zs.length c)] rfl ?_
 refine cSL (lL hs [.v 2 (.slice none 0 0)] (lNS (lL hs [.v 3 (.slice none 0 0)] (lN (CG.seq (cSL (lL hs [.v 4 (.int .i64 0)] (lN (CG.block ?_)))))))))
 replace hs:=hs.nil 40 5
 refine cTo [(0,.slice A zs.length c),(2,.slice none 0 0),(4,.int .i64 0),(3,.slice none 0 0)] ?_
 refine CG.loop (fun μ_ Γ w_=>∃ (k:Nat) (sA:Option Addr) (sc:Nat) (ql:List Rat) (h_:Hp),μ_=zs.length-k∧Γ=[(0,.slice A zs.length c),(2,.slice none 0 0),(4,.int .i64 (k:Nat)),(3,.slice sA ((ql).length) sc)]∧SS w h w_ h_ [] [⟨40,5,sA,sc,(ql).length,(ql).flatMap qc⟩] [fun h_=>SlO 1 i64c 0 h_ A zs]∧(k≤zs.length)∧(ql=(zs.take k).map (fun z:Int=>(z:Rat)))) _ ⟨0,none,0,[],h,rfl,rfl,hs.to _ _,Nat.zero_le _,rfl⟩ ?_
 rintro _ _ w1 ⟨k,sA,sc,ql,h2,hm3,rfl,hs,hk,hql⟩
 have htk:ql.length=k:=by rw[hql];simp;omega
 refine CG.seq (cSL (lL hs [.m 5 4,.m 6 0,.v 7 (.int .i64 (zs.length:Nat))] ?_))
 cases hb4:(decide (((k:Nat):Int)<((zs.length:Nat):Int)))
 ·
  have phb4:=oF hb4
  refine lB 8 hb4 ?_
  refine lN (cIF (CG.exit ?_))
  show CG _ _ _ _ _ _ _ _
  refine cSL (lL hs [.m 19 3,.m 2 19] (lN (CG.ret ?_)))
  have hkq:ql=(zs.map (fun z:Int=>(z:Rat))):=by rw[hql,List.take_of_length_le oM]
  obtain ⟨h5,hs,hc6⟩:=hs.pubr 0 (A:=sA) (c:=sc) (l:=ql) (f:=qc) (ty:=40) (sz:=5) 0 (fun _=>rfl)
  exact hs.ret [] (.slice sA ((ql).length) sc) (by rw[←hkq];exact ⟨_,_,rfl,hc6,(hs.f.1)⟩)
 have phb4:=oT hb4
 refine lB 8 hb4 ?_
 refine lN (cIT (CG.skipN (CG.seq (CG.block (CG.listed (lL hs [.m 11 3,.m 12 0,.m 13 4] (lX 14 A zs.length c 1 (k:Nat) k ((hs.f.1).ok oM) ?_)))))))
 refine lH 15 (.int .i64 (zs.getD k 0)) hs ((hs.f.1).el k oM) ?_
 refine lC 16 hs (fOf (zs.getD k 0) (hz k).1 (hz k).2 _ _ hs.g) ?_
 rintro _ w8 h9 hs rfl
 refine lR 17 40 1 (qc ((zs.getD k 0:Int):Rat)) hs (fun b10 w11 h12 hs=>?_)
 refine lY 18 0 40 5 sc sA ql qc ((zs.getD k 0:Int):Rat) 56 b10 (.agg #[.bool false,.int .u64 0,.string ⟨#[]⟩,.int .u64 0,.string ⟨#[]⟩]) hs (hs.f.1) (fun A14 c15 w16 h17 hs=>?_)
 refine lL hs [.m 3 18] (lN (CG.listed (lL hs [.m 9 4] (lIn 10 ((k:Nat)+1) (k+1) ?_))))
 refine lL hs [.m 4 10] (lD ?_)
 intro a_ ka
 have q19:(k+1)≤zs.length:=by omega
 have q20:(ql++[((zs.getD k 0:Int):Rat)])=(zs.take (k+1)).map (fun z:Int=>(z:Rat)):=(by rw[take_snoc' 0 oM,List.map_append,hql];rfl)
 replace hs:=hs.tl
 refine ⟨_,_,?_,⟨k+1,A14,c15,ql++[((zs.getD k 0:Int):Rat)],h17,rfl,rfl,hs.to _ _,q19,q20⟩,ka.to [(0,.slice A zs.length c),(2,.slice none 0 0),(4,.int .i64 ((k+1):Nat)),(3,.slice A14 (((ql++[((zs.getD k 0:Int):Rat)])).length) c15)] kR⟩
 omega
def CjR (W:List (List Rat))(bl xl:List Rat)(t:Nat)(e:Int):Prop:=(SymP W∧bl.length=W.length∧xl.length=W.length)∧CjEnd W.length (mA W) (fun i=>bl.getD i 0) (fun i=>xl.getD i 0) t e∨¬(SymP W∧bl.length=W.length∧xl.length=W.length)∧t=0∧e=cjE W bl xl
theorem CjR.uniq {W:List (List Rat)}{bl xl:List Rat}{t t':Nat}{e e':Int}(h:CjR W bl xl t e)(h':CjR W bl xl t' e'):t=t'∧e=e':=by
  rcases h with ⟨a,b⟩|⟨a,b,c⟩<;>rcases h' with ⟨a',b'⟩|⟨a',b',c'⟩
  · exact b.uniq b'
  · exact absurd a a'
  · exact absurd a' a
  · exact ⟨by rw[b,b'],by rw[c,c']⟩
theorem cjE_ne (W:List (List Rat))(bl xl:List Rat):cjE W bl xl≠0:=by unfold cjE;split<;>decide
structure Rwq (l:List Rat):Prop where
  len:l.length≤5
  cd:∀ n,CD n 8 (fun i=>l.getD i 0)
theorem Rwq.lq {l:List Rat}(h:Rwq l)(i:Nat):LQ 1 (l.getD i 0):=((h.cd (i+1)).at_ (Nat.lt_succ_self i)).lq kD
theorem cj_B {n:Nat}{W:List (List Rat)}(hD:Dfn n W)(hn:n≤4){bl xl:List Rat}(hb:Rwq bl)(hx:Rwq xl){t:Nat}(ht:t≤W.length):CgB W.length (mA W) (fun i=>bl.getD i 0) (fun i=>xl.getD i 0) t:=cg_B (by have:=hD.len;omega) hD.md (hb.cd _) (hx.cd _) (by have:=hD.len;omega)
theorem cConjA (A:Option Addr)(cap:Nat)(us:List Value)(W:List (List Rat))(n:Nat)(hD:Dfn n W)(hn:n≤4)(D:Option Addr)(cD:Nat)(bl:List Rat)(X:Option Addr)(cX:Nat)(xl:List Rat)(hb:Rwq bl)(hx:Rwq xl)(w:World)(h:Hp)(g:G w h)(hA:SlO 1 vc undef h A us)(hU:QVs h us W)(hDb:SlO 5 qc 0 h D bl)(hX:SlO 5 qc 0 h X xl)(tb:Tab h) :
    Calls Tryz.prog 15 #[.slice A us.length cap,.slice D bl.length cD,.slice X xl.length cX] w (Ret w h fun v h1=>∃ (t:Nat) (e:Int) (A:Option Addr) (c:Nat) (al:List TV),CjR W bl xl t e∧v=.tuple #[.slice A al.length c,.int .i64 e]∧SlO 3 tvc tv0 h1 A al∧CTr W.length (mA W) (fun i=>bl.getD i 0) (fun i=>xl.getD i 0) h1 al∧al.length=(if e=0 then t+1 else 0)):=by
  have hlW:=hD.len
  have hl:W.length≤1000:=by omega
  have hls:∀ i,i<W.length→(W.getD i []).length≤1000:=fun i _=>by have:=hD.wd i;omega
  have hbl:=hb.len;have hxl:=hx.len
  by_cases hc:SymP W∧bl.length=W.length∧xl.length=W.length
  · have e1:bl=vec W.length (fun i=>bl.getD i 0):=vec_eq hc.2.1 (fun _ _=>rfl)
    have e2:xl=vec W.length (fun i=>xl.getD i 0):=vec_eq hc.2.2 (fun _ _=>rfl)
    rw[e1] at hDb
    rw[e2] at hX
    have x:=cConj0 A cap us W hl hls (fun i=>bl.getD i 0) (fun i=>xl.getD i 0) W.length oM D cD X cX hc.1 rfl (fun i j=>hD.lq i j) (fun i _=>(hb.lq i).mono kD) (fun i _=>(hx.lq i).mono kD) (fun t ht=>cj_B hD hn hb hx ht) w h g hA hU hDb hX tb
    rw[←e1,←e2] at x
    refine x.mono ?_
    rintro _ w' ⟨v,h',rfl,u,t,e,A',c',al,k1,k2,k3,k4,k5⟩
    exact ⟨v,h',rfl,u,t,e,A',c',al,.inl ⟨hc,k1⟩,k2,k3,k4,k5⟩
  · have x:=cConjE A cap us W hl hls D cD bl X cX xl oM oM (fun i j=>(hD.lq i j).mono kD) (by
      by_cases a:SymP W
      · by_cases b:bl.length=W.length
        · exact .inr (.inr (fun c=>hc ⟨a,b,c⟩))
        · exact .inr (.inl b)
      · exact .inl a) w h g hA hU hDb hX tb
    refine x.mono ?_
    rintro _ w' ⟨v,h',rfl,u,k⟩
    exact ⟨v,h',rfl,u,0,_,none,0,[],.inr ⟨hc,rfl,rfl⟩,k,SlO.nil,CTr.nil,by rw[if_neg (cjE_ne _ _ _)];rfl⟩
def knW:List (List Rat):=[[((2:Int):Rat),((0:Int):Rat)],[((0:Int):Rat),((1:Int):Rat)]]
def knb:List Rat:=[((2:Int):Rat),((1:Int):Rat)]
def knx:List Rat:=[((0:Int):Rat),((0:Int):Rat)]
theorem kn_tw (i j:Nat):Tw 144 262144 ((knW.getD i []).getD j 0):=by
  have h0:∀ z:Int,z.natAbs≤2→Tw 144 262144 ((z:Int):Rat):=fun z hz=>⟨z*144,by rw[Int.natAbs_mul];exact Nat.le_trans (Nat.mul_le_mul_right _ hz) kD,by rw[Rat.intCast_mul];rfl⟩
  match i,j with
  | 0,0=>exact h0 2 kD
  | 0,1=>exact h0 0 kD
  | 0,j+2=>exact Tw.zero
  | 1,0=>exact h0 0 kD
  | 1,1=>exact h0 1 kD
  | 1,j+2=>exact Tw.zero
  | i+2,j=>exact Tw.zero
theorem kn_dfn:Dfn 2 knW:=⟨rfl,fun i=>by
  match i with
  | 0=>exact Nat.le_refl _
  | 1=>exact Nat.le_refl _
  | i+2=>exact Nat.zero_le _,kn_tw⟩
theorem kn_cd (n:Nat){a b:Int}(ha:a.natAbs≤2)(hb:b.natAbs≤2):CD n 8 (fun i=>([(a:Rat),(b:Rat)]:List Rat).getD i 0):=⟨1,by decide,by decide,fun i _=>by
  match i with
  | 0=>exact ⟨a,Nat.le_trans ha kD,by show (a:Rat)*((1:Nat):Rat)=_;rw[show ((1:Nat):Rat)=1 from rfl,Rat.mul_one]⟩
  | 1=>exact ⟨b,Nat.le_trans hb kD,by show (b:Rat)*((1:Nat):Rat)=_;rw[show ((1:Nat):Rat)=1 from rfl,Rat.mul_one]⟩
  | i+2=>exact ⟨0,Nat.zero_le _,by show (0:Rat)*_=_;rw[Rat.zero_mul];rfl⟩⟩
theorem kn_sym:SymP knW:=⟨⟨⟨by decide,by decide,fun i hi=>by
  match i,hi with
  | 0,_=>rfl
  | 1,_=>rfl
  | i+2,hi=>exact absurd hi (by show ¬i+2<2;omega)⟩,rfl⟩,fun i hi k hk=>by
  match i,hi with
  | 0,_=>exact absurd hk (Nat.not_lt_zero _)
  | 1,_ =>
    obtain rfl:k=0:=by omega
    rfl
  | i+2,hi=>exact absurd hi (by show ¬i+2<2;omega)⟩
abbrev knC (t:Nat):Cst:=cg 2 (mA knW) (fun i=>knb.getD i 0) (fun i=>knx.getD i 0) t
theorem kn_0:dt 2 (knC 0).r (knC 0).r≠0∧0<(dt 2 (knC 0).w (mv 2 (mA knW) (knC 0).w)).num:=by decide +kernel
theorem kn_1:dt 2 (knC 1).r (knC 1).r≠0∧0<(dt 2 (knC 1).w (mv 2 (mA knW) (knC 1).w)).num:=by decide +kernel
theorem kn_2:dt 2 (knC 2).r (knC 2).r=0∧(knC 2).x 0=1∧(knC 2).x 1=1:=by decide +kernel
theorem kn_end:CjR knW knb knx 2 0:=.inl ⟨⟨kn_sym,rfl,rfl⟩,fun i hi=>by
  rcases (by omega:i=0∨i=1) with rfl|rfl
  · exact kn_0
  · exact kn_1,.inl ⟨rfl,kn_2.1⟩⟩
theorem kn_rows {h:Hp}{Q1 Q2:Option Addr}{c1 c2:Nat}(h1:SlO 5 qc 0 h Q1 (([2,0]:List Int).map (fun z:Int=>(z:Rat))))(h2:SlO 5 qc 0 h Q2 (([0,1]:List Int).map (fun z:Int=>(z:Rat))))(hc1:(([2,0]:List Int).map (fun z:Int=>(z:Rat))).length≤c1)(hc2:(([0,1]:List Int).map (fun z:Int=>(z:Rat))).length≤c2):∀ i,i<knW.length→∃ A cap,([.slice Q1 2 c1,.slice Q2 2 c2]:List Value).getD i undef=.slice A (knW.getD i []).length cap∧(knW.getD i []).length≤cap∧SlO 5 qc 0 h A (knW.getD i []):=fun i hi=>by
  match i,hi with
  | 0,_=>exact ⟨Q1,c1,rfl,hc1,h1⟩
  | 1,_=>exact ⟨Q2,c2,rfl,hc2,h2⟩
  | i+2,hi=>exact absurd hi (by show ¬i+2<2;omega)
theorem cConjK (A:Option Addr)(cap:Nat)(us:List Value)(D:Option Addr)(cD:Nat)(X:Option Addr)(cX:Nat)(w:World)(h:Hp)(g:G w h)(hA:SlO 1 vc undef h A us)(hU:QVs h us knW)(hDb:SlO 5 qc 0 h D knb)(hX:SlO 5 qc 0 h X knx)(tb:Tab h) :
    Calls Tryz.prog 15 #[.slice A 2 cap,.slice D 2 cD,.slice X 2 cX] w (Ret w h fun v h1=>∃ (A:Option Addr) (c:Nat) (al:List TV) (B:Option Addr) (d:Nat),v=.tuple #[.slice A 3 c,.int .i64 0]∧al.length=3∧(al.getD 2 tv0).1=.slice B 2 d∧SlO 3 tvc tv0 h1 A al∧SlO 5 qc 0 h1 B [1,1]):=by
  have x:=cConjA A cap us knW 2 kn_dfn kD D cD knb X cX knx ⟨by decide,fun n=>kn_cd n kD kD⟩ ⟨by decide,fun n=>kn_cd n kD kD⟩ w h g hA hU hDb hX tb
  rw[show us.length=2 from hU.len] at x
  refine x.mono ?_
  rintro _ w' ⟨v,h',rfl,u,t,e,A',c',al,k1,k2,k3,k4,k5⟩
  obtain ⟨rfl,rfl⟩:=k1.uniq kn_end
  rw[if_pos rfl] at k5
  obtain ⟨⟨B,d,e1,s1⟩,_,_⟩:=k4.at_ 2 oM
  refine ⟨v,h',rfl,u,A',c',al,B,d,by rw[k2,k5],k5,?_,k3,?_⟩
  · rw[e1,vec_len];rfl
  · have e2:vec knW.length (cg knW.length (mA knW) (fun i=>knb.getD i 0) (fun i=>knx.getD i 0) 2).x=[1,1]:=by
      show [(knC 2).x 0,(knC 2).x 1]=[1,1]
      rw[kn_2.2.1,kn_2.2.2]
    rw[e2] at s1
    exact s1
theorem lKnown29  (w:World)(h:Hp)(g:G w h)(tb:Tab h) :
    Calls Tryz.prog 6 #[] w (Ret w h fun v _=>v=.bool true):=by
 have hs:=SS.start g
 replace hs:=(hs.add (K:=fun h_=>Tab h_) tb)
 refine go Tryz.func6 [] rfl ?_
 refine cSL (lL hs [.v 0 (.bool false)] (lNS (lR 4 2 2 ([.int .i64 2,.int .i64 0]) hs (fun b1 w2 h3 hs=>?_))))
 replace hs:=hs.a_SlO (SlO.of_flat (sz:=1) (f:=i64c) (d:=0) (b:=b1) (o:=0) (l:=([2,0]:List Int)) (fun _=>rfl) (hs.f.1))
 refine lC 5 hs (lQ_ (some ⟨b1,0,none⟩) 2 ([2,0]:List Int) kD (by intro k_;rcases k_ with _|_|_<;>simp[List.getD]) _ _ hs.g (hs.f.1)) ?_
 rintro _ w6 h7 hs ⟨Q1,cQ1,rfl,hcQ1,hQ1⟩
 replace hs:=(hs.a_SlO hQ1)
 refine lR 6 2 2 ([.int .i64 0,.int .i64 1]) hs (fun b8 w9 h10 hs=>?_)
 replace hs:=hs.a_SlO (SlO.of_flat (sz:=1) (f:=i64c) (d:=0) (b:=b8) (o:=0) (l:=([0,1]:List Int)) (fun _=>rfl) (hs.f.1))
 refine lC 7 hs (lQ_ (some ⟨b8,0,none⟩) 2 ([0,1]:List Int) kD (by intro k_;rcases k_ with _|_|_<;>simp[List.getD]) _ _ hs.g (hs.f.1)) ?_
 rintro _ w13 h14 hs ⟨Q2,cQ2,rfl,hcQ2,hQ2⟩
 replace hs:=(hs.a_SlO hQ2)
 refine lR 8 57 2 ([.slice Q1 2 cQ1,.slice Q2 2 cQ2]) hs (fun b15 w16 h17 hs=>?_)
 replace hs:=hs.a_SlO (SlO.of_flat (sz:=1) (f:=vc) (d:=undef) (b:=b15) (o:=0) (l:=([.slice Q1 2 cQ1,.slice Q2 2 cQ2]:List Value)) (fun _=>rfl) (hs.f.1))
 refine lR 9 2 2 ([.int .i64 2,.int .i64 1]) hs (fun b19 w20 h21 hs=>?_)
 replace hs:=hs.a_SlO (SlO.of_flat (sz:=1) (f:=i64c) (d:=0) (b:=b19) (o:=0) (l:=([2,1]:List Int)) (fun _=>rfl) (hs.f.1))
 refine lC 10 hs (lQ_ (some ⟨b19,0,none⟩) 2 ([2,1]:List Int) kD (by intro k_;rcases k_ with _|_|_<;>simp[List.getD]) _ _ hs.g (hs.f.1)) ?_
 rintro _ w24 h25 hs ⟨Q3,cQ3,rfl,hcQ3,hQ3⟩
 replace hs:=(hs.a_SlO hQ3)
 refine lR 11 2 2 ([.int .i64 0,.int .i64 0]) hs (fun b26 w27 h28 hs=>?_)
 replace hs:=hs.a_SlO (SlO.of_flat (sz:=1) (f:=i64c) (d:=0) (b:=b26) (o:=0) (l:=([0,0]:List Int)) (fun _=>rfl) (hs.f.1))
 refine lC 12 hs (lQ_ (some ⟨b26,0,none⟩) 2 ([0,0]:List Int) kD (by intro k_;rcases k_ with _|_|_<;>simp[List.getD]) _ _ hs.g (hs.f.1)) ?_
 rintro _ w31 h32 hs ⟨Q4,cQ4,rfl,hcQ4,hQ4⟩
 replace hs:=(hs.a_SlO hQ4)
 refine lC 13 hs (cConjK (some ⟨b15,0,none⟩) 2 _ Q3 cQ3 Q4 cQ4 _ _ hs.g (hs.f.2.2.2.2.2.2.1) ⟨rfl,kn_rows (hs.f.2.2.2.2.2.2.2.2.2.2.2.1) (hs.f.2.2.2.2.2.2.2.2.1) hcQ1 hcQ2⟩ (hs.f.2.2.2.1) (hs.f.1) (hs.f.2.2.2.2.2.2.2.2.2.2.2.2.2.2.1)) ?_
 rintro _ w33 h34 hs ⟨Ak,ck,alk,Bk,dk,rfl,hl3,ek,hAk,hBk⟩
 replace hs:=((hs.a_SlO hAk).a_SlO hBk)
 have hl2_:([1,1]:List Rat).length=2:=rfl
 refine lL hs [.m 3 13,.v 14 (.slice Ak 3 ck),.v 15 (.int .i64 0),.m 1 14,.m 2 15] (lNS (lL hs [.m 16 2,.v 17 (.bool true),.m 18 17,.m 19 1,.v 20 (.int .i64 3),.v 21 (.bool true),.v 22 (.bool true),.m 23 22,.m 24 1] (lX 25 Ak 3 ck 3 2 2 ((hs.f.2.1).ok oM) ?_)))
 refine lL hs [.v 26 (.pointer (some ⟨(aB Ak),aO Ak+2*3,none⟩))] (lHe 27 ((alk.getD 2 tv0).1) hs (((hs.f.2.1).el 2 oM).part 0 1) ek ?_)
 refine lL hs [.v 28 (.int .i64 2),.v 29 (.bool true),.v 30 (.bool true),.m 31 30,.m 32 1] (lX 33 Ak 3 ck 3 2 2 ((hs.f.2.1).ok oM) ?_)
 refine lL hs [.v 34 (.pointer (some ⟨(aB Ak),aO Ak+2*3,none⟩))] (lHe 35 ((alk.getD 2 tv0).1) hs (((hs.f.2.1).el 2 oM).part 0 1) ek ?_)
 refine lX 36 Bk 2 dk 5 0 0 ((hs.f.1).ok oM) ?_
 refine lH 37 (qv 1) hs ((hs.f.1).el 0 kD) ?_
 refine lC 38 hs (hIs 1 1 1 (LQ.lit (z:=1) kD).up8 kD kD kD kD kD _ _ hs.g) ?_
 rintro _ w35 h36 hs rfl
 have hb37:(sameQ 1 (mkR 1 1))=true:=(decide_eq_true (by decide +kernel))
 rw[hb37]
 refine lL hs [.v 39 (.bool true),.m 40 39,.m 41 1] (lX 42 Ak 3 ck 3 2 2 ((hs.f.2.1).ok oM) ?_)
 refine lL hs [.v 43 (.pointer (some ⟨(aB Ak),aO Ak+2*3,none⟩))] (lHe 44 ((alk.getD 2 tv0).1) hs (((hs.f.2.1).el 2 oM).part 0 1) ek ?_)
 refine lX 45 Bk 2 dk 5 1 1 ((hs.f.1).ok oM) ?_
 refine lH 46 (qv 1) hs ((hs.f.1).el 1 kD) ?_
 refine lC 47 hs (hIs 1 1 1 (LQ.lit (z:=1) kD).up8 kD kD kD kD kD _ _ hs.g) ?_
 rintro _ w38 h39 hs rfl
 have hb40:(sameQ 1 (mkR 1 1))=true:=(decide_eq_true (by decide +kernel))
 rw[hb40]
 refine lL hs [.v 48 (.bool true),.m 0 48] (lN (cTo [(0,.bool true)] ?_))
 exact CG.ret (hs.ret [] (.bool true) rfl)
theorem mem_take_idx {l:List Int}{x:Int}{b:Nat}(hx:x∈l):x∈l.take b↔l.idxOf x<b:=by
  induction l generalizing b with
  | nil=>cases hx
  | cons y l ih =>
    cases b with
    | zero=>simp
    | succ b =>
      rw[List.take_succ_cons,List.idxOf_cons]
      by_cases e:y=x
      · subst e
        simp
      · rw[beq_false_of_ne e]
        show x∈y::l.take b↔l.idxOf x+1<b+1
        have hx2:x∈l:=(List.mem_cons.1 hx).resolve_left (fun h=>e h.symm)
        rw[List.mem_cons,ih hx2]
        constructor
        · rintro (h|h)
          · exact absurd h.symm e
          · omega
        · intro h
          exact .inr oM
theorem rngI_succ (i:Nat):rngI (i+1)=rngI i++[(i:Int)]:=by unfold rngI;rw[List.range_succ,List.map_append];rfl
theorem rngI_mem {m:Nat}{x:Int}:x∈rngI m↔∃ i:Nat,i<m∧x=(i:Int):=by
  unfold rngI
  rw[List.mem_map]
  constructor
  · rintro ⟨i,hi,rfl⟩;exact ⟨i,List.mem_range.1 hi,rfl⟩
  · rintro ⟨i,hi,rfl⟩;exact ⟨i,List.mem_range.2 hi,rfl⟩
theorem rngI_nodup (m:Nat):(rngI m).Nodup:=by
  induction m with
  | zero=>exact List.nodup_nil
  | succ m ih =>
    rw[rngI_succ,List.nodup_append]
    refine ⟨ih,by simp,fun a ha b hb e=>?_⟩
    obtain ⟨i,hi,rfl⟩:=rngI_mem.1 ha
    rw[List.mem_singleton.1 hb] at e
    omega
theorem fltL_mem (l:List Int)(ba:Nat)(x:Int):∀ i,x∈fltL l ba i↔∃ j:Nat,j<i∧x=(j:Int)∧(ba=0∨l.idxOf (j:Int)<ba)
  | 0=>⟨fun h=>(by cases h),fun ⟨j,hj,_⟩=>absurd hj (Nat.not_lt_zero j)⟩
  | i + 1=>by
    have ih:=fltL_mem l ba x i
    rw[fltL_succ]
    split
    · rename_i hc
      rw[List.mem_append,ih,List.mem_singleton]
      constructor
      · rintro (⟨j,hj,e⟩|rfl)
        · exact ⟨j,by omega,e⟩
        · exact ⟨i,by omega,rfl,hc⟩
      · rintro ⟨j,hj,rfl,e⟩
        by_cases h:j=i
        · subst h;exact .inr rfl
        · exact .inl ⟨j,by omega,rfl,e⟩
    · rename_i hc
      rw[ih]
      constructor
      · rintro ⟨j,hj,e⟩;exact ⟨j,by omega,e⟩
      · rintro ⟨j,hj,rfl,e⟩
        by_cases h:j=i
        · subst h;exact absurd e hc
        · exact ⟨j,by omega,rfl,e⟩
theorem fltL_sorted (l:List Int)(ba:Nat):∀ i,(fltL l ba i).Pairwise (fun a b=>a<b)
  | 0=>List.Pairwise.nil
  | i + 1=>by
    have ih:=fltL_sorted l ba i
    rw[fltL_succ]
    split
    · rw[List.pairwise_append]
      refine ⟨ih,List.pairwise_singleton _ _,fun a ha b hb=>?_⟩
      obtain ⟨j,hj,rfl,_⟩:=(fltL_mem l ba a i).1 ha
      rw[List.mem_singleton.1 hb]
      omega
    · exact ih
theorem flt_all {l:List Int}{ba m:Nat}(hl:l.length=m)(hp:l.Perm (rngI m))(h:ba=0∨m≤ba):∀ i,i≤m→fltL l ba i=rngI i
  | 0,_=>rfl
  | i+1,hi=>by
    have hm:(i:Int)∈l:=hp.mem_iff.2 (rngI_mem.2 ⟨i,by omega,rfl⟩)
    have hx:=List.idxOf_lt_length_of_mem hm
    rw[fltL_succ,if_pos oM,flt_all hl hp h i oM,rngI_succ]
theorem flt_some {l:List Int}{ba m:Nat}(hp:l.Perm (rngI m))(h0:ba≠0):fltL l ba m=(l.take ba).mergeSort fun x y=>decide (x≤y):=by
  have hn:l.Nodup:=hp.symm.nodup (rngI_nodup m)
  have hs1:(fltL l ba m).Pairwise (fun a b=>(decide (a≤b))=true):=(fltL_sorted l ba m).imp fun h=>decide_eq_true (Int.le_of_lt h)
  have hs2:((l.take ba).mergeSort fun x y=>decide (x≤y)).Pairwise (fun a b=>(decide (a≤b))=true):=List.pairwise_mergeSort (le:=fun x y:Int=>decide (x≤y)) (fun a b c h1 h2=>decide_eq_true (Int.le_trans (oT h1) (oT h2))) (fun a b=>by
    rcases Int.le_total a b with h|h
    · simp[h]
    · simp[h]) _
  refine List.Perm.eq_of_pairwise (le:=fun a b=>(decide (a≤b))=true) (fun a b _ _ h1 h2=>Int.le_antisymm (oT h1) (oT h2)) hs1 hs2 ?_
  refine List.Perm.trans ?_ (List.mergeSort_perm _ _).symm
  refine (List.perm_ext_iff_of_nodup ((fltL_sorted l ba m).imp fun h=>Int.ne_of_lt h) (hn.sublist (List.take_sublist _ _))).2 fun x=>?_
  rw[fltL_mem]
  constructor
  · rintro ⟨j,hj,rfl,h⟩
    exact (mem_take_idx (hp.mem_iff.2 (rngI_mem.2 ⟨j,hj,rfl⟩))).2 (h.resolve_left h0)
  · intro h
    have hx:x∈l:=(List.take_sublist _ _).subset h
    obtain ⟨j,hj,rfl⟩:=rngI_mem.1 (hp.mem_iff.1 hx)
    exact ⟨j,hj,rfl,.inr ((mem_take_idx hx).1 h)⟩
theorem flt_pick {dr:Nat→Nat→Nat × Nat}(hdr:dr=belowq){ba sd m k:Nat}(hs:sd<18446744073709551616)(hm:0<m):fltL (ordS dr m sd (k+1)).1 ba m=pickL dr ba sd m k:=by
  by_cases h:ba=0∨m≤ba
  · rw[pickL_all h];exact flt_all (ordS_len hdr hs hm k) (ordS_perm hdr hs hm k) h m (Nat.le_refl _)
  · rw[pickL_some h];exact flt_some (ordS_perm hdr hs hm k) (fun e=>h (.inl e))
theorem pickL_len {dr:Nat→Nat→Nat × Nat}(hdr:dr=belowq){ba sd m k:Nat}(hs:sd<18446744073709551616)(hm:0<m):(pickL dr ba sd m k).length≤m:=by rw[←flt_pick hdr hs hm];exact fltL_len _ _ _
def someL (dr:Nat→Nat→Nat × Nat)(ra ke:Rat)(sp ba bi:Int)(sd:Nat)(n r:Int):List Int:=if fineD ra ke sp ba bi∧1≤n∧0≤r then pickL dr ba.toNat sd n.toNat r.toNat else []
theorem hSameS (A:Option Addr)(ca:Nat)(D:Option Addr)(cd:Nat)(xs:List Int)(hl:xs.length≤1000000)(w:World)(h:Hp)(g:G w h)(hA:SlO 1 i64c 0 h A xs)(hD:SlO 1 i64c 0 h D xs):Calls Tryz.prog 10 #[.slice A xs.length ca,.slice D xs.length cd] w (Ret w h fun v _=>v=.bool true):=by
  have x:=hSameInts A ca xs xs D cd hl hl w h g hA hD
  rw[decide_eq_true (rfl:xs=xs)] at x
  exact x
theorem dFineB (ra ke:Rat)(sp ba bi:Int)(sd:Nat)(hra:LQ 100000000 ra)(hke:LQ 100000000 ke)(w:World)(h:Hp)(g:G w h):Calls Tryz.prog 7 #[.agg #[.bool (ineg ra.num),.int .u64 (lo (iabs ra.num)),.string (hi (iabs ra.num)),.int .u64 (lo (qd ra)),.string (hi (qd ra)),.bool (ineg ke.num),.int .u64 (lo (iabs ke.num)),.string (hi (iabs ke.num)),.int .u64 (lo (qd ke)),.string (hi (qd ke)),.int .i64 sp,.int .i64 ba,.int .i64 bi,.int .u64 (sd:Nat)]] w (Ret w h fun v _=>∃ b:Bool,v=.bool b∧b=decide (fineD ra ke sp ba bi)):=by
  refine (dFine ra ke sp ba bi sd hra hke w h g).mono ?_
  rintro _ w' ⟨v,h',rfl,u,rfl⟩
  exact ⟨_,h',rfl,u,_,rfl,rfl⟩
theorem rFineB (ra ke:Rat)(A1:Option Addr)(c1:Nat)(D1:Option Addr)(d1:Nat)(hc1:(lim (iabs ra.num)).length≤c1)(hd1:(lim ra.den).length≤d1)(A2:Option Addr)(c2:Nat)(D2:Option Addr)(d2:Nat)(hc2:(lim (iabs ke.num)).length≤c2)(hd2:(lim ke.den).length≤d2)(sp ba bi:Int)(sd:Nat)(hra:LQ 100000000 ra)(hke:LQ 100000000 ke)(fb:Bool)(hfb:fb=decide (fineD ra ke sp ba bi))(w:World)(h:Hp)(g:G w h)(hA1:SlO 1 u32c 0 h A1 (lim (iabs ra.num)))(hD1:SlO 1 u32c 0 h D1 (lim ra.den))(hA2:SlO 1 u32c 0 h A2 (lim (iabs ke.num)))(hD2:SlO 1 u32c 0 h D2 (lim ke.den)):Calls Tryz.prog 9 #[.agg #[.bool (ineg ra.num),.slice A1 ((lim (iabs ra.num)).length) c1,.slice D1 ((lim ra.den).length) d1,.bool (ineg ke.num),.slice A2 ((lim (iabs ke.num)).length) c2,.slice D2 ((lim ke.den).length) d2,.int .i64 sp,.int .i64 ba,.int .i64 bi,.int .u64 (sd:Nat)]] w (Ret w h fun v _=>v=.bool fb):=by
  subst hfb
  exact rFine ra ke A1 c1 D1 d1 hc1 hd1 A2 c2 D2 d2 hc2 hd2 sp ba bi sd hra hke w h g hA1 hD1 hA2 hD2
theorem dSome0 (ra ke:Rat)(sp ba bi:Int)(sd:Nat)(hra:LQ 100000000 ra)(hke:LQ 100000000 ke)(n r:Int)(hn:n≤300)(hr:r≤200)(hbad:¬(fineD ra ke sp ba bi∧1≤n∧0≤r))(w:World)(h:Hp)(g:G w h) :
    Calls Tryz.prog 11 #[.agg #[.bool (ineg ra.num),.int .u64 (lo (iabs ra.num)),.string (hi (iabs ra.num)),.int .u64 (lo (qd ra)),.string (hi (qd ra)),.bool (ineg ke.num),.int .u64 (lo (iabs ke.num)),.string (hi (iabs ke.num)),.int .u64 (lo (qd ke)),.string (hi (qd ke)),.int .i64 sp,.int .i64 ba,.int .i64 bi,.int .u64 (sd:Nat)],.int .i64 n,.int .i64 r] w (Ret w h fun v _=>v=.slice none 0 0):=by
 have hs:=SS.start g
 refine go Tryz.func11 [(0,.agg #[.bool (ineg ra.num),.int .u64 (lo (iabs ra.num)),.string (hi (iabs ra.num)),.int .u64 (lo (qd ra)),.string (hi (qd ra)),.bool (ineg ke.num),.int .u64 (lo (iabs ke.num)),.string (hi (iabs ke.num)),.int .u64 (lo (qd ke)),.string (hi (qd ke)),.int .i64 sp,.int .i64 ba,.int .i64 bi,.int .u64 (sd:Nat)]),(1,.int .i64 n),(2,.int .i64 r)] rfl ?_
 refine cSL (lA 3 42 ([.bool (ineg ra.num),.int .u64 (lo (iabs ra.num)),.string (hi (iabs ra.num)),.int .u64 (lo (qd ra)),.string (hi (qd ra)),.bool (ineg ke.num),.int .u64 (lo (iabs ke.num)),.string (hi (iabs ke.num)),.int .u64 (lo (qd ke)),.string (hi (qd ke)),.int .i64 sp,.int .i64 ba,.int .i64 bi,.int .u64 (sd:Nat)]) hs (fun b1 w2 h3 hs=>?_))
 refine lL hs [.v 6 (.slice none 0 0)] (lN (CG.seq (cSL (lL hs [.m 11 1] ?_))))
 cases hb4:(decide ((n:Int)<(1:Int)))
 ·
  have phb4:=oF hb4
  refine lB 12 hb4 ?_
  refine lL hs [.m 13 12,.m 14 1] ?_
  have ⟨hb5,phb5⟩:=dF (p:=(300:Int)<(n:Int)) oM
  refine lB 15 hb5 ?_
  refine lL hs [.v 16 (.bool false),.m 17 16,.m 18 2] ?_
  cases hb6:(decide ((r:Int)<(0:Int)))
  ·
   have phb6:=oF hb6
   refine lB 19 hb6 ?_
   refine lL hs [.v 20 (.bool false),.m 21 20,.m 22 2] ?_
   have ⟨hb7,phb7⟩:=dF (p:=(200:Int)<(r:Int)) oM
   refine lB 23 hb7 ?_
   refine lL hs [.v 24 (.bool false),.m 25 24,.o 26 (.agg #[.bool (ineg ra.num),.int .u64 (lo (iabs ra.num)),.string (hi (iabs ra.num)),.int .u64 (lo (qd ra)),.string (hi (qd ra)),.bool (ineg ke.num),.int .u64 (lo (iabs ke.num)),.string (hi (iabs ke.num)),.int .u64 (lo (qd ke)),.string (hi (qd ke)),.int .i64 sp,.int .i64 ba,.int .i64 bi,.int .u64 (sd:Nat)]) 0 0 14] (lC 27 hs (dFine ra ke sp ba bi sd hra hke _ _ hs.g) ?_)
   rintro _ w8 h9 hs rfl
   have hb10:(decide (fineD ra ke sp ba bi))=false:=decide_eq_false (fun h_=>hbad ⟨h_,by omega,by omega⟩)
   rw[hb10]
   have phb10:=oF hb10
   exact lL hs [.v 28 (.bool true),.v 29 (.bool true)] (lN (cIT (cSL (lL hs [.v 6 (.slice none 0 0)] (lN (CG.ret (hs.ret [] (.slice none 0 0) rfl)))))))
  have phb6:=oT hb6
  refine lB 19 hb6 ?_
  refine lL hs [.v 20 (.bool true),.m 21 20] (lG 22 ?_)
  refine lG 23 ?_
  refine lL hs [.v 24 (.bool true),.m 25 24] (lG 26 ?_)
  refine lG 27 ?_
  refine lG 28 ?_
  exact lL hs [.v 29 (.bool true)] (lN (cIT (cSL (lL hs [.v 6 (.slice none 0 0)] (lN (CG.ret (hs.ret [] (.slice none 0 0) rfl)))))))
 have phb4:=oT hb4
 refine lB 12 hb4 ?_
 refine lL hs [.m 13 12] (lG 14 ?_)
 refine lG 15 ?_
 refine lL hs [.v 16 (.bool true),.m 17 16] (lG 18 ?_)
 refine lG 19 ?_
 refine lL hs [.v 20 (.bool true),.m 21 20] (lG 22 ?_)
 refine lG 23 ?_
 refine lL hs [.v 24 (.bool true),.m 25 24] (lG 26 ?_)
 refine lG 27 ?_
 refine lG 28 ?_
 exact lL hs [.v 29 (.bool true)] (lN (cIT (cSL (lL hs [.v 6 (.slice none 0 0)] (lN (CG.ret (hs.ret [] (.slice none 0 0) rfl)))))))
theorem rSome0 (ra ke:Rat)(A1:Option Addr)(c1:Nat)(D1:Option Addr)(d1:Nat)(hc1:(lim (iabs ra.num)).length≤c1)(hd1:(lim ra.den).length≤d1)(A2:Option Addr)(c2:Nat)(D2:Option Addr)(d2:Nat)(hc2:(lim (iabs ke.num)).length≤c2)(hd2:(lim ke.den).length≤d2)(sp ba bi:Int)(sd:Nat)(hra:LQ 100000000 ra)(hke:LQ 100000000 ke)(n r:Int)(hn:n≤300)(hr:r≤200)(hbad:¬(fineD ra ke sp ba bi∧1≤n∧0≤r))(w:World)(h:Hp)(g:G w h)(hA1:SlO 1 u32c 0 h A1 (lim (iabs ra.num)))(hD1:SlO 1 u32c 0 h D1 (lim ra.den))(hA2:SlO 1 u32c 0 h A2 (lim (iabs ke.num)))(hD2:SlO 1 u32c 0 h D2 (lim ke.den)) :
    Calls Tryz.prog 12 #[.agg #[.bool (ineg ra.num),.slice A1 ((lim (iabs ra.num)).length) c1,.slice D1 ((lim ra.den).length) d1,.bool (ineg ke.num),.slice A2 ((lim (iabs ke.num)).length) c2,.slice D2 ((lim ke.den).length) d2,.int .i64 sp,.int .i64 ba,.int .i64 bi,.int .u64 (sd:Nat)],.int .i64 n,.int .i64 r] w (Ret w h fun v _=>v=.slice none 0 0):=by
 have hs:=SS.start g
 replace hs:=((((hs.a_SlO hA1).a_SlO hD1).a_SlO hA2).a_SlO hD2)
 refine go Tryz.func12 [(0,.agg #[.bool (ineg ra.num),.slice A1 ((lim (iabs ra.num)).length) c1,.slice D1 ((lim ra.den).length) d1,.bool (ineg ke.num),.slice A2 ((lim (iabs ke.num)).length) c2,.slice D2 ((lim ke.den).length) d2,.int .i64 sp,.int .i64 ba,.int .i64 bi,.int .u64 (sd:Nat)]),(1,.int .i64 n),(2,.int .i64 r)] rfl ?_
 refine cSL (lA 3 30 ([.bool (ineg ra.num),.slice A1 ((lim (iabs ra.num)).length) c1,.slice D1 ((lim ra.den).length) d1,.bool (ineg ke.num),.slice A2 ((lim (iabs ke.num)).length) c2,.slice D2 ((lim ke.den).length) d2,.int .i64 sp,.int .i64 ba,.int .i64 bi,.int .u64 (sd:Nat)]) hs (fun b1 w2 h3 hs=>?_))
 refine lL hs [.v 6 (.slice none 0 0)] (lN (CG.seq (cSL (lL hs [.o 13 (.agg #[.bool (ineg ra.num),.slice A1 ((lim (iabs ra.num)).length) c1,.slice D1 ((lim ra.den).length) d1,.bool (ineg ke.num),.slice A2 ((lim (iabs ke.num)).length) c2,.slice D2 ((lim ke.den).length) d2,.int .i64 sp,.int .i64 ba,.int .i64 bi,.int .u64 (sd:Nat)]) 0 0 10] (lC 14 hs (rFine ra ke A1 c1 D1 d1 hc1 hd1 A2 c2 D2 d2 hc2 hd2 sp ba bi sd hra hke _ _ hs.g (hs.f.2.2.2.1) (hs.f.2.2.1) (hs.f.2.1) (hs.f.1)) ?_)))))
 rintro _ w4 h5 hs rfl
 cases hb6:(decide (fineD ra ke sp ba bi))
 ·
  have phb6:=oF hb6
  refine lL hs [.v 15 (.bool true),.m 16 15] (lG 17 ?_)
  refine lG 18 ?_
  refine lL hs [.v 19 (.bool true),.m 20 19] (lG 21 ?_)
  refine lG 22 ?_
  refine lL hs [.v 23 (.bool true),.m 24 23] (lG 25 ?_)
  refine lG 26 ?_
  refine lL hs [.v 27 (.bool true),.m 28 27] (lG 29 ?_)
  refine lG 30 ?_
  exact lL hs [.v 31 (.bool true)] (lN (cIT (cSL (lL hs [.v 6 (.slice none 0 0)] (lN (CG.ret (hs.ret [] (.slice none 0 0) rfl)))))))
 have phb6:=oT hb6
 refine lL hs [.v 15 (.bool false),.m 16 15,.m 17 1] ?_
 cases hb7:(decide ((n:Int)<(1:Int)))
 ·
  have phb7:=oF hb7
  refine lB 18 hb7 ?_
  refine lL hs [.v 19 (.bool false),.m 20 19,.m 21 1] ?_
  have ⟨hb8,phb8⟩:=dF (p:=(300:Int)<(n:Int)) oM
  refine lB 22 hb8 ?_
  refine lL hs [.v 23 (.bool false),.m 24 23,.m 25 2] ?_
  have ⟨hb9,phb9⟩:=dT (p:=(r:Int)<(0:Int)) (by rcases Int.lt_or_le r 0 with h_|h_;exact h_;exact absurd ⟨‹fineD ra ke sp ba bi›,by omega,h_⟩ hbad)
  refine lB 26 hb9 ?_
  refine lL hs [.v 27 (.bool true),.m 28 27] (lG 29 ?_)
  refine lG 30 ?_
  exact lL hs [.v 31 (.bool true)] (lN (cIT (cSL (lL hs [.v 6 (.slice none 0 0)] (lN (CG.ret (hs.ret [] (.slice none 0 0) rfl)))))))
 have phb7:=oT hb7
 refine lB 18 hb7 ?_
 refine lL hs [.v 19 (.bool true),.m 20 19] (lG 21 ?_)
 refine lG 22 ?_
 refine lL hs [.v 23 (.bool true),.m 24 23] (lG 25 ?_)
 refine lG 26 ?_
 refine lL hs [.v 27 (.bool true),.m 28 27] (lG 29 ?_)
 refine lG 30 ?_
 exact lL hs [.v 31 (.bool true)] (lN (cIT (cSL (lL hs [.v 6 (.slice none 0 0)] (lN (CG.ret (hs.ret [] (.slice none 0 0) rfl)))))))
theorem someL_le {ra ke:Rat}{sp ba bi:Int}{sd:Nat}{n r:Int}(hsd:sd<18446744073709551616)(hn:n≤300):(someL belowq ra ke sp ba bi sd n r).length≤1000000:=by
  unfold someL
  split
  · rename_i h
    have:=pickL_len (dr:=belowq) rfl (ba:=ba.toNat) (k:=r.toNat) hsd (m:=n.toNat) oM
    omega
  · exact Nat.zero_le _
theorem dSomeA (ra ke:Rat)(sp ba bi:Int)(sd:Nat)(hra:LQ 100000000 ra)(hke:LQ 100000000 ke)(hsd:sd<18446744073709551616)(n r:Int)(hn:n≤300)(hr:r≤200)(w:World)(h:Hp)(g:G w h) :
    Calls Tryz.prog 11 #[.agg #[.bool (ineg ra.num),.int .u64 (lo (iabs ra.num)),.string (hi (iabs ra.num)),.int .u64 (lo (qd ra)),.string (hi (qd ra)),.bool (ineg ke.num),.int .u64 (lo (iabs ke.num)),.string (hi (iabs ke.num)),.int .u64 (lo (qd ke)),.string (hi (qd ke)),.int .i64 sp,.int .i64 ba,.int .i64 bi,.int .u64 (sd:Nat)],.int .i64 n,.int .i64 r] w (Ret w h fun v h1=>∃ A c,v=.slice A (someL belowq ra ke sp ba bi sd n r).length c∧(someL belowq ra ke sp ba bi sd n r).length≤c∧SlO 1 i64c 0 h1 A (someL belowq ra ke sp ba bi sd n r)):=by
  by_cases hc:fineD ra ke sp ba bi∧1≤n∧0≤r
  · have e:someL belowq ra ke sp ba bi sd n r=pickL belowq ba.toNat sd n.toNat r.toNat:=if_pos hc
    rw[e]
    have hF:=hc.1
    obtain ⟨m,rfl⟩:∃ m:Nat,n=m:=⟨n.toNat,by omega⟩
    obtain ⟨k,rfl⟩:∃ k:Nat,r=k:=⟨r.toNat,by omega⟩
    obtain ⟨b,rfl⟩:∃ b:Nat,ba=b:=⟨ba.toNat,by unfold fineD at hF;omega⟩
    exact dSomeF ra ke sp bi b sd m k hra hke belowq rfl hsd hF oM oM oM w h g
  · have e:someL belowq ra ke sp ba bi sd n r=[]:=if_neg hc
    rw[e]
    refine (dSome0 ra ke sp ba bi sd hra hke n r hn hr hc w h g).mono ?_
    rintro _ w' ⟨v,h',rfl,u,rfl⟩
    exact ⟨_,h',rfl,u,none,0,rfl,Nat.le_refl _,SlO.nil⟩
theorem rSomeA (ra ke:Rat)(A1:Option Addr)(c1:Nat)(D1:Option Addr)(d1:Nat)(hc1:(lim (iabs ra.num)).length≤c1)(hd1:(lim ra.den).length≤d1)(A2:Option Addr)(c2:Nat)(D2:Option Addr)(d2:Nat)(hc2:(lim (iabs ke.num)).length≤c2)(hd2:(lim ke.den).length≤d2)(sp ba bi:Int)(sd:Nat)(hra:LQ 100000000 ra)(hke:LQ 100000000 ke)(hsd:sd<18446744073709551616)(n r:Int)(hn:n≤300)(hr:r≤200)(w:World)(h:Hp)(g:G w h)(hA1:SlO 1 u32c 0 h A1 (lim (iabs ra.num)))(hD1:SlO 1 u32c 0 h D1 (lim ra.den))(hA2:SlO 1 u32c 0 h A2 (lim (iabs ke.num)))(hD2:SlO 1 u32c 0 h D2 (lim ke.den)) :
    Calls Tryz.prog 12 #[.agg #[.bool (ineg ra.num),.slice A1 ((lim (iabs ra.num)).length) c1,.slice D1 ((lim ra.den).length) d1,.bool (ineg ke.num),.slice A2 ((lim (iabs ke.num)).length) c2,.slice D2 ((lim ke.den).length) d2,.int .i64 sp,.int .i64 ba,.int .i64 bi,.int .u64 (sd:Nat)],.int .i64 n,.int .i64 r] w (Ret w h fun v h1=>∃ A c,v=.slice A (someL belowq ra ke sp ba bi sd n r).length c∧(someL belowq ra ke sp ba bi sd n r).length≤c∧SlO 1 i64c 0 h1 A (someL belowq ra ke sp ba bi sd n r)):=by
  by_cases hc:fineD ra ke sp ba bi∧1≤n∧0≤r
  · have e:someL belowq ra ke sp ba bi sd n r=pickL belowq ba.toNat sd n.toNat r.toNat:=if_pos hc
    rw[e]
    have hF:=hc.1
    obtain ⟨m,rfl⟩:∃ m:Nat,n=m:=⟨n.toNat,by omega⟩
    obtain ⟨k,rfl⟩:∃ k:Nat,r=k:=⟨r.toNat,by omega⟩
    obtain ⟨b,rfl⟩:∃ b:Nat,ba=b:=⟨ba.toNat,by unfold fineD at hF;omega⟩
    have x:=rSomeF ra ke A1 c1 D1 d1 hc1 hd1 A2 c2 D2 d2 hc2 hd2 sp bi b sd m k hra hke belowq rfl hsd hF oM oM oM w h g hA1 hD1 hA2 hD2
    rw[flt_pick rfl hsd oM] at x
    exact x
  · have e:someL belowq ra ke sp ba bi sd n r=[]:=if_neg hc
    rw[e]
    refine (rSome0 ra ke A1 c1 D1 d1 hc1 hd1 A2 c2 D2 d2 hc2 hd2 sp ba bi sd hra hke n r hn hr hc w h g hA1 hD1 hA2 hD2).mono ?_
    rintro _ w' ⟨v,h',rfl,u,rfl⟩
    exact ⟨_,h',rfl,u,none,0,rfl,Nat.le_refl _,SlO.nil⟩
theorem lDescentSome (rate keep steps batch bits way n_ round_:Int)(seed:Nat)(hrate0 : -9223372036854775808≤rate)(hrate1:rate≤9223372036854775807)(hsd:seed<18446744073709551616)(w:World)(h:Hp)(g:G w h)(tb:Tab h) :
    Calls Tryz.prog 3 #[.int .i64 rate,.int .i64 keep,.int .i64 steps,.int .i64 batch,.int .i64 bits,.int .i64 way,.int .i64 n_,.int .i64 round_,.int .u64 (seed:Nat)] w (Ret w h fun v _=>v=.bool true):=by
 have hs:=SS.start g
 replace hs:=(hs.add (K:=fun h_=>Tab h_) tb)
 have hp9:=pick_lt n_ 9 oM
 have hp6:=pick_lt round_ 6 oM
 refine go Tryz.func3 [(0,.int .i64 rate),(1,.int .i64 keep),(2,.int .i64 steps),(3,.int .i64 batch),(4,.int .i64 bits),(5,.int .i64 way),(6,.int .i64 n_),(7,.int .i64 round_),(8,.int .u64 (seed:Nat))] rfl ?_
 refine cSL (lL hs [.v 18 (.bool false)] (lNS (lL hs [.m 20 0,.m 21 1,.m 22 2,.m 23 3,.m 24 4,.m 25 5,.m 26 8] (lC 27 hs (lDrawn29 rate keep steps batch bits way seed hrate0 hrate1 hsd _ _ hs.g) ?_))))
 rintro _ w1 h2 hs ⟨ra,ke,A1,c1,D1,d1,A2,c2,D2,d2,sp,ba,bi,rfl,hc1,hd1,hc2,hd2,hA1,hD1,hA2,hD2,hra,hke,hbd⟩
 replace hs:=((((hs.a_SlO hA1).a_SlO hD1).a_SlO hA2).a_SlO hD2)
 refine lA 19 30 ([.bool false,.slice none 0 0,.slice none 0 0,.bool false,.slice none 0 0,.slice none 0 0,.int .i64 0,.int .i64 0,.int .i64 0,.int .u64 0]) hs (fun b3 w4 h5 hs=>?_)
 refine lP 0 0 ([.bool (ineg ra.num),.slice A1 ((lim (iabs ra.num)).length) c1,.slice D1 ((lim ra.den).length) d1,.bool (ineg ke.num),.slice A2 ((lim (iabs ke.num)).length) c2,.slice D2 ((lim ke.den).length) d2,.int .i64 sp,.int .i64 ba,.int .i64 bi,.int .u64 (seed:Nat)]) hs (fun w6 hs=>?_)
 refine lNS (lL hs [.m 28 6] (lC 29 hs (hPick (n_) 9 oM oM _ _ hs.g) ?_))
 rintro _ w8 h9 hs rfl
 have lp7:=pick_lt (n_) 9 oM
 refine lI 30 ((pick (n_) 9:Nat)-1) ?_
 refine lL hs [.m 31 7] (lC 32 hs (hPick (round_) 6 oM oM _ _ hs.g) ?_)
 rintro _ w11 h12 hs rfl
 have lp10:=pick_lt (round_) 6 oM
 refine lI 33 ((pick (round_) 6:Nat)-1) ?_
 refine lL hs [.m 6 30,.m 7 33] (lN (CG.seq (cR 21 [] mixed hs al_nil ?_)))
 refine eC 0 34 hs (fun _ _ hs=>lKnown29 _ _ hs.g (hs.f.2.2.2.2.1)) ?_
 rintro _ _ _ w13 h14 hs rfl
 refine eV 1 35 (.bool true) ?_
 refine eO 2 36 [(0,0,10)] (.agg #[.bool (ineg ra.num),.slice A1 ((lim (iabs ra.num)).length) c1,.slice D1 ((lim ra.den).length) d1,.bool (ineg ke.num),.slice A2 ((lim (iabs ke.num)).length) c2,.slice D2 ((lim ke.den).length) d2,.int .i64 sp,.int .i64 ba,.int .i64 bi,.int .u64 (seed:Nat)]) hs ?_
 refine eO 5 39 [(0,0,10)] (.agg #[.bool (ineg ra.num),.slice A1 ((lim (iabs ra.num)).length) c1,.slice D1 ((lim ra.den).length) d1,.bool (ineg ke.num),.slice A2 ((lim (iabs ke.num)).length) c2,.slice D2 ((lim ke.den).length) d2,.int .i64 sp,.int .i64 ba,.int .i64 bi,.int .u64 (seed:Nat)]) hs ?_
 refine eC 3 37 hs (fun _ _ hs=>lIn29 ra ke A1 c1 D1 d1 hc1 hd1 A2 c2 D2 d2 hc2 hd2 sp ba bi seed hra hke _ _ hs.g (hs.f.2.2.2.1) (hs.f.2.2.1) (hs.f.2.1) (hs.f.1) (hs.f.2.2.2.2.1)) ?_
 rintro _ _ _ w15 h16 hs rfl
 refine eC 4 38 hs (fun _ _ hs=>dFineB ra ke sp ba bi seed hra hke _ _ hs.g) ?_
 rintro _ _ _ w17 h18 hs ⟨fb,rfl,hfb⟩
 refine eC 6 40 hs (fun _ _ hs=>rFineB ra ke A1 c1 D1 d1 hc1 hd1 A2 c2 D2 d2 hc2 hd2 sp ba bi seed hra hke fb hfb _ _ hs.g (hs.f.2.2.2.1) (hs.f.2.2.1) (hs.f.2.1) (hs.f.1)) ?_
 rintro _ _ _ w19 h20 hs rfl
 have hb21:(fb == fb)=true:=(by cases fb<;>rfl)
 refine eB 7 41 hb21 ?_
 refine eV 8 42 (.bool true) ?_
 refine eV 9 43 (.bool true) ?_
 refine eO 10 44 [(0,0,10)] (.agg #[.bool (ineg ra.num),.slice A1 ((lim (iabs ra.num)).length) c1,.slice D1 ((lim ra.den).length) d1,.bool (ineg ke.num),.slice A2 ((lim (iabs ke.num)).length) c2,.slice D2 ((lim ke.den).length) d2,.int .i64 sp,.int .i64 ba,.int .i64 bi,.int .u64 (seed:Nat)]) hs ?_
 refine eV 12 46 (.int .i64 ((pick (n_) 9:Nat)-1)) ?_
 refine eV 13 47 (.int .i64 ((pick (round_) 6:Nat)-1)) ?_
 refine eO 15 49 [(0,0,10)] (.agg #[.bool (ineg ra.num),.slice A1 ((lim (iabs ra.num)).length) c1,.slice D1 ((lim ra.den).length) d1,.bool (ineg ke.num),.slice A2 ((lim (iabs ke.num)).length) c2,.slice D2 ((lim ke.den).length) d2,.int .i64 sp,.int .i64 ba,.int .i64 bi,.int .u64 (seed:Nat)]) hs ?_
 refine eV 16 50 (.int .i64 ((pick (n_) 9:Nat)-1)) ?_
 refine eV 17 51 (.int .i64 ((pick (round_) 6:Nat)-1)) ?_
 refine eC 11 45 hs (fun _ _ hs=>lIn29 ra ke A1 c1 D1 d1 hc1 hd1 A2 c2 D2 d2 hc2 hd2 sp ba bi seed hra hke _ _ hs.g (hs.f.2.2.2.1) (hs.f.2.2.1) (hs.f.2.1) (hs.f.1) (hs.f.2.2.2.2.1)) ?_
 rintro _ _ _ w22 h23 hs rfl
 refine eC 14 48 hs (fun _ _ hs=>dSomeA ra ke sp ba bi seed hra hke hsd (((pick (n_) 9:Nat):Int)-1) (((pick (round_) 6:Nat):Int)-1) oM oM _ _ hs.g) ?_
 rintro _ _ _ w24 h25 hs ⟨Ap,cp,rfl,hcp,hAp⟩
 replace hs:=(hs.a_SlO hAp)
 refine eC 18 52 hs (fun _ _ hs=>rSomeA ra ke A1 c1 D1 d1 hc1 hd1 A2 c2 D2 d2 hc2 hd2 sp ba bi seed hra hke hsd (((pick (n_) 9:Nat):Int)-1) (((pick (round_) 6:Nat):Int)-1) oM oM _ _ hs.g (hs.f.2.2.2.2.1) (hs.f.2.2.2.1) (hs.f.2.2.1) (hs.f.2.1)) ?_
 rintro _ _ _ w26 h27 hs ⟨Ar,cr,rfl,hcr,hAr⟩
 replace hs:=(hs.a_SlO hAr)
 refine eC 19 53 hs (fun _ _ hs=>hSameS Ap cp Ar cr (someL belowq ra ke sp ba bi seed (((pick (n_) 9:Nat):Int)-1) (((pick (round_) 6:Nat):Int)-1)) (someL_le hsd oM) _ _ hs.g (hs.f.2.1) (hs.f.1)) ?_
 rintro _ _ _ w28 h29 hs rfl
 refine eV 20 54 (.bool true) ?_
 refine eD0 hs (fun w30 h31 hs=>?_)
 refine tV 21 18 (.bool true) ?_
 refine tN (cTo [(18,.bool true)] ?_)
 exact CG.ret (hs.ret [] (.bool true) rfl)
end Go.Proofs.YtmniajdkjpcfjaaGreatDoor
