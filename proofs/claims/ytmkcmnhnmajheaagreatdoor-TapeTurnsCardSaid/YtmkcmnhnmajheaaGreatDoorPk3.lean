/- Laws and contracts that the card of this claim stands on, part 4. No condition of ours. -/
import Derived.Test.YtmkcmnhnmajheaaGreatDoorPk0
import Derived.Test.YtmkcmnhnmajheaaGreatDoorPk1
import Derived.Test.YtmkcmnhnmajheaaGreatDoorPk2
set_option maxRecDepth 100000
set_option maxHeartbeats 4000000
namespace Go.Proofs.YtmkcmnhnmajheaaGreatDoor
open Go.RowKit
open Go.RowKit Go.Shelf
theorem Tz.le {n k m:Nat}(t:Tz n k m):m≤n:=by rw[t.1];exact Nat.le_mul_of_pos_left m (Nat.two_pow_pos k)
theorem cmpN_cases (a b:Nat):(cmpN a b=0∧a=b)∨(cmpN a b = -1∧a<b)∨(cmpN a b=1∧b<a):=by
  rcases Nat.lt_trichotomy a b with h|h|h
  · exact .inr (.inl ⟨cmpN_lt h,h⟩)
  · exact .inl ⟨cmpN_eq h,h⟩
  · exact .inr (.inr ⟨cmpN_gt h,h⟩)
theorem wCompareW (A:Option Addr)(c:Nat)(D:Option Addr)(d:Nat)(x y n m_:Nat)(lx ly:List Nat)(ex:lx=wds x)(ey:ly=wds y)(hn:lx.length=n)(hm_:ly.length=m_)(hlx:n≤1000000000)(hly:m_≤1000000000)(w:World)(h:Hp)(g:G w h)(hA:SlO 1 u64c 0 h A lx)(hD:SlO 1 u64c 0 h D ly):CV 194 #[.slice A n c,.slice D m_ d] w h (iV (cmpN x y)):=by
  subst ex ey;exact wCompare A c D d x y n m_ hn hm_ oM oM w h g hA hD
theorem wNumW (A:Option Addr)(c:Nat)(l:List Nat)(n x:Nat)(ex:l=wds x)(hn:l.length=n)(hl:n≤1000000000)(w:World)(h:Hp)(g:G w h)(hA:SlO 1 u64c 0 h A l):CV 196 #[.slice A n c] w h (nv x):=by
  subst ex;have:=wNumber A c (wds x) n hn (Wd.wds x) oM w h g hA
  rwa [wval_wds] at this
theorem wSubtW (rb:Nat)(l0:List Nat)(o n c x:Nat)(hl0:l0.length≤1000000000)(hon:o+n≤l0.length)(hnc:n≤c)(hW0:Wd l0)(hwin:win l0 o n=wds x)(D:Option Addr)(d y m:Nat)(ly:List Nat)(ey:ly=wds y)(hm:ly.length=m)(hmd:m≤d)(hyx:y≤x)(w:World)(h:Hp)(g:G w h)(ho:Own w rb 49 (l0.flatMap u64c))(hj:h[rb]?=some junk)(hD:SlO 1 u64c 0 h D ly):Calls Tryz.prog 195 #[.slice (some ⟨rb,o,none⟩) n c,.slice D m d] w (RetM rb w h fun v w' _=>∃ z:List Nat,∃ o' n' c':Nat,v=.slice (some ⟨rb,o',none⟩) n' c'∧z.length=l0.length∧Wd z∧o'+n'≤z.length∧n'≤c'∧win z o' n'=wds (x-y)∧Own w' rb 49 (z.flatMap u64c)):=by
  subst ey;exact wSubt rb l0 o n c x hl0 hon hnc hW0 hwin D d y m hm hmd hyx w h g ho hj hD
theorem wBinary (x y:Nat)(hx:0<x)(hy:0<y)(hlx:(wds x).length≤1000000000)(hly:(wds y).length≤1000000000)(w:World)(h:Hp)(g:G w h)(tb:Tab h):CV 167 #[nv x,nv y] w h (nv (Nat.gcd x y)):=by
 have hs:=((sS g).aB tb);have hpx:=hx;have hpy:=hy;refine go Tryz.func167 [(0,nv x),(1,nv y)] rfl (cSL (lA 2 51 (nc x) hs (fun b1 w2 h3 hs=>lA 3 51 (nc y) hs (fun b4 w5 h6 hs=>lA 4 51 ([uV 0,eS]) hs (fun b7 w8 h9 hs=>lN (cQ ?_))))));obtain ⟨K_,hK_⟩:∃ K_,K_=w8.heap.size:=⟨_,rfl⟩;have hk_b7:b7<K_:=by rw[hK_];exact zblk hs 0
 have hk_b4:b4<K_:=by rw[hK_];exact zblk hs 1
 have hk_b1:b1<K_:=by rw[hK_];exact zblk hs 2
 refine cRa ⟨[],some (K_,[])⟩ 0 mixed ?_;have hszK:=hs.g.size;replace hs:=hs.drew;have hKl:=Nat.le_of_eq hK_;refine zO 0 10 [(2,0,2)] (nv x) rfl hKl hs (fun p hp=>by obtain rfl:=List.mem_singleton.1 hp;exact hk_b1) (zO 2 12 [(1,0,2)] (nv y) rfl hKl hs (fun p hp=>by obtain rfl:=List.mem_singleton.1 hp;exact hk_b4) (zCu 1 11 (wWords x oM oM _ _ hs.g) rfl hKl ?_));rintro _ w10 h11 u12 hKl ⟨bwx,rfl,hlox,hbcx,hslx⟩;obtain ⟨h13,hs,-,-⟩:=hs.take u12 hlox hbcx;replace hs:=hs.to [⟨bwx,49,(wds x).flatMap u64c⟩,⟨b7,51,[uV 0,eS]⟩,⟨b4,51,nc y⟩,⟨b1,51,nc x⟩] [];refine zCu 3 13 (wWords y oM oM _ _ hs.g) rfl hKl ?_;rintro _ w14 h15 u16 hKl ⟨bwy,rfl,hloy,hbcy,hsly⟩;obtain ⟨h17,hs,-,-⟩:=hs.take u16 hloy hbcy;replace hs:=hs.to [⟨bwy,49,(wds y).flatMap u64c⟩,⟨bwx,49,(wds x).flatMap u64c⟩,⟨b7,51,[uV 0,eS]⟩,⟨b4,51,nc y⟩,⟨b1,51,nc x⟩] [];refine zV 4 5 (.slice (sB bwx) ((wds x).length) ((wds x).length)) (zV 5 6 (.slice (sB bwy) ((wds y).length) ((wds y).length)) (tNS (lL hs [.m 14 5] (lCl 15 1 hs (fun _ g_ f_ sg_=>wZeros (sB bwx) (wds x).length (wds x) (wds x).length rfl (Wd.wds x) (by rw[wval_wds];omega) oM _ _ g_ (f_.1) (SlO.of_flat (sz:=1) (f:=u64c) (d:=0) (b:=bwx) (o:=0) (l:=wds x) (fun _=>rfl) sg_)) ?_))));rintro _ w19 h20 hs ⟨kx,mx,rfl,htx,hkx⟩;rw[wval_wds] at htx
 refine lL hs [.m 16 6] (lCl 17 0 hs (fun _ g_ f_ sg_=>wZeros (sB bwy) (wds y).length (wds y) (wds y).length rfl (Wd.wds y) (by rw[wval_wds];omega) oM _ _ g_ (f_.1) (SlO.of_flat (sz:=1) (f:=u64c) (d:=0) (b:=bwy) (o:=0) (l:=wds y) (fun _=>rfl) sg_)) ?_);rintro _ w22 h23 hs ⟨ky,my,rfl,hty,hky⟩;rw[wval_wds] at hty
 refine lV 18 (nV (min kx ky)) ?_ (hr:=rint (n:=if (ky:Int)<(kx:Int) then (ky:Int) else (kx:Int)) kR (by split<;>omega));refine lL hs [.m 7 18] (lNS (lL hs [.m 19 5] (lCm 20 (wDown bwx (wds x) 0 ((wds x).length) ((wds x).length) x hpx oM oM (nR _) (Wd.wds x) (win_all _ _ (nR _)) _ _ hs.g (hs.own 1) (hs.jk 1) hs.f.1) ?_)));rintro _ w25 h26 u27 ⟨z24,o24,n24,c24,rfl,hzl24,hzW24,hzo24,hzc24,⟨kk24,mm24,htt24,hzw24⟩,hO24⟩;replace hs:=(hs.stepM 1 u27 hO24).to [⟨bwy,49,(wds y).flatMap u64c⟩,⟨bwx,49,(z24).flatMap u64c⟩,⟨b7,51,[uV 0,eS]⟩,⟨b4,51,nc y⟩,⟨b1,51,nc x⟩] [];have hmp24:=htt24.odd_pos;have hle24:=htt24.le;refine lL hs [.m 21 6] (lCm 22 (wDown bwy (wds y) 0 ((wds y).length) ((wds y).length) y hpy oM oM (nR _) (Wd.wds y) (win_all _ _ (nR _)) _ _ hs.g (hs.own 0) (hs.jk 0) hs.f.1) ?_);rintro _ w29 h30 u31 ⟨z28,o28,n28,c28,rfl,hzl28,hzW28,hzo28,hzc28,⟨kk28,mm28,htt28,hzw28⟩,hO28⟩;replace hs:=(hs.stepM 0 u31 hO28).to [⟨bwy,49,(z28).flatMap u64c⟩,⟨bwx,49,(z24).flatMap u64c⟩,⟨b7,51,[uV 0,eS]⟩,⟨b4,51,nc y⟩,⟨b1,51,nc x⟩] [];have hmp28:=htt28.odd_pos;have hle28:=htt28.le;refine lL hs [.m 5 20,.m 6 22] (lN (cQ (kZ ?_)));refine cTo _ (CG.loop (fun μ_ Γ w_=>∃ (pv:Nat) (l1:List Nat) (o1:Nat) (n1:Nat) (c1:Nat) (pw:Nat) (l2:List Nat) (o2:Nat) (n2:Nat) (c2:Nat) (x1:Nat) (y1:Nat) (h_:Hp),μ_=x1+y1∧Γ=[(4,pB b7),(7,nV (min kx ky)),(5,.slice (some ⟨pv,o1,none⟩) n1 c1),(6,.slice (some ⟨pw,o2,none⟩) n2 c2)]∧SS w h w_ h_ [⟨pw,49,(l2).flatMap u64c⟩,⟨pv,49,(l1).flatMap u64c⟩,⟨b7,51,[uV 0,eS]⟩,⟨b4,51,nc y⟩,⟨b1,51,nc x⟩] [] [fun h_=>Tab h_]∧l1.length≤1000000000∧Wd l1∧o1+n1≤l1.length∧n1≤c1∧win l1 o1 n1=wds x1∧0<x1∧l2.length≤1000000000∧Wd l2∧o2+n2≤l2.length∧n2≤c2∧win l2 o2 n2=wds y1∧0<y1∧x1%2=1∧y1%2=1∧Nat.gcd x1 y1*2^min kx ky=Nat.gcd x y) _ ⟨bwx,z24,o24,n24,c24,bwy,z28,o28,n28,c28,mm24,mm28,h30,rfl,rfl,hs.to _ _,oM,hzW24,hzo24,hzc24,hzw24,hmp24,oM,hzW28,hzo28,hzc28,hzw28,hmp28,htt24.2,htt28.2,(by rw[(htx.uniq htt24).1,(hty.uniq htt28).1];exact (gcd_twos htt24 htt28).symm)⟩ ?_);rintro _ _ w32 ⟨pv,l1,o1,n1,c1,pw,l2,o2,n2,c2,x1,y1,h33,hm34,rfl,hs,hl1,hW1,hon1,hnc1,hwin1,hx1,hl2,hW2,hon2,hnc2,hwin2,hy1,hxo,hyo,hG⟩;have hcmp:=cmpN_cases x1 y1;have hwl1:=congrArg List.length hwin1;rw[win_len hon1] at hwl1
 have hwl2:=congrArg List.length hwin2;rw[win_len hon2] at hwl2
 refine kZ (cSL (lL hs [.m 23 5,.m 24 6] (lCl2 25 1 0 hs (fun _ g_ f_ sg_ sh_=>wCompareW (some ⟨pv,o1,none⟩) c1 (some ⟨pw,o2,none⟩) c2 x1 y1 n1 n2 (win l1 o1 n1) (win l2 o2 n2) hwin1 hwin2 (win_len hon1) (win_len hon2) oM oM _ _ g_ (SlO.win (f:=u64c) (d:=0) (b:=pv) (l:=l1) (fun _=>rfl) sg_ o1 n1) (SlO.win (f:=u64c) (d:=0) (b:=pw) (l:=l2) (fun _=>rfl) sh_ o2 n2)) ?_)));rintro _ w36 h37 hs rfl;refine lL hs [.m 8 25] (lN (cQ (cSL (lL hs [.m 26 8] ?_))));cases hb39:((cmpN x1 y1:Int) == (0:Int))
 ·
  have phb39:=neOfBeq hb39;refine lB 27 hb39 (lN (cIF (cK (cQ (cSL (lL hs [.m 28 8] ?_))))));cases hb40:(decide ((cmpN x1 y1:Int)<(0:Int)))
  ·
   have phb40:=oF hb40;refine lB 29 hb40 (lN (cIF (cK (kQ (lL hs [.m 32 5,.m 33 6] (lCml 34 1 0 hs (fun _ g_ f_ hj_ sh_=>wSubtW pv l1 o1 n1 c1 x1 oM hon1 hnc1 hW1 hwin1 (some ⟨pw,o2,none⟩) c2 y1 n2 (win l2 o2 n2) hwin2 (win_len hon2) hnc2 oM _ _ g_ (hs.own 1) hj_ (SlO.win (f:=u64c) (d:=0) (b:=pw) (l:=l2) (fun _=>rfl) sh_ o2 n2)) ?_))))));rintro _ w42 h43 u44 ⟨s41,so41,sn41,sc41,rfl,hsl41,hsW41,hso41,hsc41,hsw41,hS41⟩;replace hs:=(hs.stepM 1 u44 hS41).to [⟨pw,49,(l2).flatMap u64c⟩,⟨pv,49,(s41).flatMap u64c⟩,⟨b7,51,[uV 0,eS]⟩,⟨b4,51,nc y⟩,⟨b1,51,nc x⟩] [];refine lCm 35 (wDown pv s41 so41 sn41 sc41 (x1-y1) oM oM hso41 hsc41 hsW41 hsw41 _ _ hs.g (hs.own 1) (hs.jk 1) hs.f.1) ?_;rintro _ w46 h47 u48 ⟨z45,o45,n45,c45,rfl,hzl45,hzW45,hzo45,hzc45,⟨kk45,mm45,htt45,hzw45⟩,hO45⟩;replace hs:=(hs.stepM 1 u48 hO45).to [⟨pw,49,(l2).flatMap u64c⟩,⟨pv,49,(z45).flatMap u64c⟩,⟨b7,51,[uV 0,eS]⟩,⟨b4,51,nc y⟩,⟨b1,51,nc x⟩] [];have hmp45:=htt45.odd_pos;have hle45:=htt45.le;refine lL hs [.m 5 35] (lD ?_);intro a_ ka;refine ⟨_,_,?_,⟨pv,z45,o45,n45,c45,pw,l2,o2,n2,c2,mm45,y1,h47,rfl,rfl,hs.to _ _,oM,hzW45,hzo45,hzc45,hzw45,hmp45,oM,hW2,hon2,hnc2,hwin2,hy1,htt45.2,hyo,(by rw[gcd_sub oM hyo htt45];exact hG)⟩,ka.to _ kR⟩
   omega
  have phb40:=oT hb40;refine lB 29 hb40 (lN (cIT (kQ (lL hs [.m 30 6,.m 31 5,.m 5 30,.m 6 31] (lN (kQ (lL hs [.m 32 5,.m 33 6] (lCml 34 0 1 hs (fun _ g_ f_ hj_ sh_=>wSubtW pw l2 o2 n2 c2 y1 oM hon2 hnc2 hW2 hwin2 (some ⟨pv,o1,none⟩) c1 x1 n1 (win l1 o1 n1) hwin1 (win_len hon1) hnc1 oM _ _ g_ (hs.own 0) hj_ (SlO.win (f:=u64c) (d:=0) (b:=pv) (l:=l1) (fun _=>rfl) sh_ o1 n1)) ?_))))))));rintro _ w65 h66 u67 ⟨s64,so64,sn64,sc64,rfl,hsl64,hsW64,hso64,hsc64,hsw64,hS64⟩;replace hs:=(hs.stepM 0 u67 hS64).to [⟨pw,49,(s64).flatMap u64c⟩,⟨pv,49,(l1).flatMap u64c⟩,⟨b7,51,[uV 0,eS]⟩,⟨b4,51,nc y⟩,⟨b1,51,nc x⟩] [];refine lCm 35 (wDown pw s64 so64 sn64 sc64 (y1-x1) oM oM hso64 hsc64 hsW64 hsw64 _ _ hs.g (hs.own 0) (hs.jk 0) hs.f.1) ?_;rintro _ w69 h70 u71 ⟨z68,o68,n68,c68,rfl,hzl68,hzW68,hzo68,hzc68,⟨kk68,mm68,htt68,hzw68⟩,hO68⟩;replace hs:=(hs.stepM 0 u71 hO68).to [⟨pw,49,(z68).flatMap u64c⟩,⟨pv,49,(l1).flatMap u64c⟩,⟨b7,51,[uV 0,eS]⟩,⟨b4,51,nc y⟩,⟨b1,51,nc x⟩] [];have hmp68:=htt68.odd_pos;have hle68:=htt68.le;refine lL hs [.m 5 35] (lD ?_);replace hs:=hs.perm (List.Perm.swap _ _ _);intro a_ ka;refine ⟨_,_,?_,⟨pw,z68,o68,n68,c68,pv,l1,o1,n1,c1,mm68,x1,h70,rfl,rfl,hs.to _ _,oM,hzW68,hzo68,hzc68,hzw68,hmp68,oM,hW1,hon1,hnc1,hwin1,hx1,htt68.2,hxo,(by rw[gcd_sub oM hxo htt68,Nat.gcd_comm];exact hG)⟩,ka.to _ kR⟩
  omega
 have phb39:=eq_of_beq hb39;refine lB 27 hb39 (lN (cIT (CG.exit ?_)))
 show CG _ _ _ _ _ _ _ _
 refine cSL (lL hs [.m 36 5] (lCl 37 1 hs (fun _ g_ f_ sg_=>wNumW (some ⟨pv,o1,none⟩) c1 (win l1 o1 n1) n1 x1 hwin1 (win_len hon1) oM _ _ g_ (SlO.win (f:=u64c) (d:=0) (b:=pv) (l:=l1) (fun _=>rfl) sg_ o1 n1)) ?_));rintro _ w88 h89 hs rfl;refine lA 9 51 ([uV 0,eS]) hs (fun b91 w92 h93 hs=>lP 0 0 (nc x1) hs (fun w94 hs=>lN (cQ (kZ ?_))));refine cTo _ (CG.loop (fun μ_ Γ w_=>∃ (z:Int) (a:Nat) (h_:Hp),μ_=z.toNat∧Γ=[(4,pB b7),(9,pB b91),(7,iV z)]∧SS w h w_ h_ [⟨b91,51,nc a⟩,⟨pw,49,(l2).flatMap u64c⟩,⟨pv,49,(l1).flatMap u64c⟩,⟨b7,51,[uV 0,eS]⟩,⟨b4,51,nc y⟩,⟨b1,51,nc x⟩] [] [fun h_=>Tab h_]∧z≤64000000000∧a*2^z.toNat=Nat.gcd x y) _ ⟨((min kx ky:Nat):Int),x1,h93,rfl,rfl,hs.to _ _,oM,(by rw[show x1=y1 by omega,Nat.gcd_self] at hG;rw[show x1=y1 by omega];rw[show (((min kx ky:Nat):Int)).toNat=min kx ky by omega];exact hG)⟩ ?_);rintro _ _ w95 ⟨z,a,h96,hm97,rfl,hs,hz,ha⟩;refine cQ (cSL (lL hs [.m 38 7] ?_));cases hb98:(decide ((0:Int)<(z:Int)))
 ·
  have phb98:=oF hb98;refine lB 39 hb98 (lN (cIF (CG.exit ?_)))
  show CG _ _ _ _ _ _ _ _
  exact cSL (lL hs [.o 46 (nv a) 0 0 2] (lP 3 0 (nc a) hs (fun w99 hs=>lN (kX (hs.ret [(3,0,2)] (nv a) (by rw[show z.toNat=0 by omega,Nat.pow_zero,Nat.mul_one] at ha;rw[ha]))))))
 have phb98:=oT hb98;refine lB 39 hb98 (lN (cIT (cK (cQ (kZ (kQ (lL hs [.o 42 (nv a) 0 0 2,.m 43 7] (lV 44 (nV (min z.toNat 65536)) ?_ (hr:=rint (n:=if (65536:Int)<z then (65536:Int) else z) kR (by split<;>omega))))))))));refine lC 45 hs (nShift a (min z.toNat 65536) (by have:=wds_len_mono (show a≤x by exact Nat.le_trans (Nat.le_mul_of_pos_right a (Nat.two_pow_pos z.toNat)) (by rw[ha];exact Nat.gcd_le_left y hx));omega) oM _ _ hs.g) ?_;rintro _ w100 h101 hs rfl;refine lP 0 0 (nc (a*2^min z.toNat 65536)) hs (fun w102 hs=>lN (kQ (lL hs [.m 40 7] (lI 41 (z-65536) ?_))));refine lL hs [.m 7 41] (lD ?_);intro a_ ka;refine ⟨_,_,?_,⟨z-65536,a*2^min z.toNat 65536,h101,rfl,rfl,hs.to _ _,oM,(by rw[Nat.mul_assoc,←Nat.pow_add,show min z.toNat 65536+(z-65536).toNat=z.toNat by omega];exact ha)⟩,ka.to _ kR⟩
 omega
theorem nb_cases (n:Nat):(n=0∧nb n=0)∨(0<n∧0<nb n):=by
  rcases Nat.eq_zero_or_pos n with h|h
  · subst h;exact .inl ⟨rfl,rfl⟩
  · exact .inr ⟨h,(nb_spec h).2.2⟩
theorem gcd_mod_swap (x y:Nat):Nat.gcd y (x%y)=Nat.gcd x y:=by rw[Nat.gcd_comm y,←Nat.gcd_rec,Nat.gcd_comm]
theorem nSmall (n:Nat)(w:World)(h:Hp)(g:G w h):CR 166 #[nv n] w h (fun v _=>∃ s:Nat,∃ ok:Bool,v=.tuple #[mV s,.bool ok]∧(ok=true→s=n∧n<18446744073709551616)):=by
  rcases Nat.lt_or_ge n 18446744073709551616 with hn|hn
  · refine (nSmallS n hn w h g).mono ?_
    rintro _ w' ⟨_,h',rfl,u,rfl⟩;exact ⟨_,h',rfl,u,n,true,rfl,fun _=>⟨rfl,hn⟩⟩
  · refine (nSmallB n hn w h g).mono ?_
    rintro _ w' ⟨_,h',rfl,u,rfl⟩;exact ⟨_,h',rfl,u,0,false,rfl,fun e=>by cases e⟩
theorem wGcd (a b:Int)(hla:(wds (iabs a)).length≤1000000000)(hlb:(wds (iabs b)).length≤1000000000)(w:World)(h:Hp)(g:G w h)(tb:Tab h):CV 118 #[iv a,iv b] w h (nv (Nat.gcd (iabs a) (iabs b))):=by
 have hs:=((sS g).aB tb);refine go Tryz.func118 [(0,iv a),(1,iv b)] rfl (cSL (lA 2 53 (ic a) hs (fun b1 w2 h3 hs=>lA 3 53 (ic b) hs (fun b4 w5 h6 hs=>lA 4 51 ([uV 0,eS]) hs (fun b7 w8 h9 hs=>lN (cQ ?_))))));have hsr:=hs;refine cRz 6 [⟨4,5,.cells (List.toArray [uV 0,eS]) 51 (0,0)⟩,⟨5,6,.cells (List.toArray [uV 0,eS]) 51 (0,0)⟩] [] mixed hs (al_cons (alOk kR (fun _ _=>by kernel_rfl)) (al_cons (alOk kR (fun _ _=>by kernel_rfl)) al_nil)) (eV 0 14 (.pointer (some ⟨b1,1,none⟩)) (eO 1 15 [(2,1,2)] (nv (iabs a)) hs (eV 2 16 (.pointer (some ⟨b4,1,none⟩)) (eOz 3 17 [(1,1,2)] (nv (iabs b)) hsr hs (eD2z hsr hs 51 [uV 0,eS] 51 [uV 0,eS] (fun w10 h11 b12 b13 hz14 hz15 hs=>tP 6 0 0 (nc (iabs a)) hs (fun w16 hs=>?_) (hz:=tlz_new hz14)))))));refine tP 7 1 0 (nc (iabs b)) hs (fun w17 hs=>?_) (hz:=tlz_new hz15);refine tN (cQ (cSL (lL hs [.o 18 (nv (iabs a)) 0 0 2,.o 19 (nv (iabs b)) 1 0 2] (lC 20 hs (nCmp (iabs a) (iabs b) aM aM _ _ hs.g) ?_))));rintro _ w18 h19 hs rfl;have hcm:=cmpN_cases (iabs a) (iabs b);cases hb20:(decide ((cmpN (iabs a) (iabs b):Int)<(0:Int)))
 ·
  have phb20:=oF hb20;refine lB 21 hb20 (lN (cIF (cK (cQ (cSL ?_)))));have hgc:Nat.gcd (iabs a) (iabs b)=Nat.gcd (iabs a) (iabs b):=by first|rfl|exact Nat.gcd_comm _ _
  refine lL hs [.o 24 (nv (iabs b)) 1 0 2] (lC 25 hs (nBits (iabs b) (by first|assumption|exact wds_len_le (Nat.le_of_lt (Nat.mod_lt _ oM)) aM) _ _ hs.g) ?_);rintro _ w21 h22 hs rfl;have hnb4:=nb_cases (iabs b);cases hb23:(((nb (iabs b):Nat):Int) == (0:Int))
  ·
   have phb23:=neOfBeq hb23;refine lB 26 hb23 (lN (cIF (cK (cSL (lL hs [.o 29 (nv (iabs a)) 0 0 2,.o 30 (nv (iabs b)) 1 0 2] (lC 31 hs (nDiv (iabs a) (iabs b) oM aM aM _ _ hs.g) ?_))))));rintro _ w24 h25 hs rfl;have hmd:=Nat.mod_lt (iabs a) (show 0<(iabs b) by omega);refine lL hs [.m 28 31,.v 32 (nv ((iabs a)/(iabs b))),.v 33 (nv ((iabs a)%(iabs b))),.v 34 (.bool true)] (lA 7 51 ([uV 0,eS]) hs (fun b26 w27 h28 hs=>lA 8 51 ([uV 0,eS]) hs (fun b29 w30 h31 hs=>lP 1 0 (nc ((iabs a)/(iabs b))) hs (fun w32 hs=>lP 0 0 (nc ((iabs a)%(iabs b))) hs (fun w33 hs=>lL hs [.m 9 34] (lN (cQ ?_)))))));have hsr:=hs;refine cRz 2 [] [b12,b13] mixed hs al_nil (eO 0 35 [(3,0,2)] (nv (iabs b)) hs (eOz 1 36 [(0,0,2)] (nv ((iabs a)%(iabs b))) hsr hs ?_ (hM:=fun p hp=>by obtain rfl:=List.mem_singleton.1 hp;exact fun hm=>by rcases List.mem_cons.1 hm with e|hm;exact bx_ne hs.st (i:=0) (j:=2) kR kR kR e;rcases List.mem_cons.1 hm with e|hm;exact bx_ne hs.st (i:=0) (j:=3) kR kR kR e;cases hm)));refine eD0 hs (fun w34 h35 hs=>tP 2 2 0 (nc (iabs b)) hs (fun w36 hs=>?_) (hz:=tlz_mem (List.mem_cons_self)));refine tP 3 3 0 (nc ((iabs a)%(iabs b))) hs (fun w37 hs=>?_) (hz:=tlz_mem (List.mem_cons_of_mem _<|List.mem_cons_self));refine tN (cQ (cSL ?_));have hg2:Nat.gcd (iabs b) ((iabs a)%(iabs b))=Nat.gcd (iabs a) (iabs b):=by rw[←hgc];exact gcd_mod_swap _ _
   refine lL hs [.o 37 (nv ((iabs a)%(iabs b))) 3 0 2] (lC 38 hs (nBits ((iabs a)%(iabs b)) (by first|assumption|exact wds_len_le (Nat.le_of_lt (Nat.mod_lt _ oM)) aM) _ _ hs.g) ?_);rintro _ w38 h39 hs rfl;have hnb8:=nb_cases ((iabs a)%(iabs b));cases hb40:(((nb ((iabs a)%(iabs b)):Nat):Int) == (0:Int))
   ·
    have phb40:=neOfBeq hb40;refine lB 39 hb40 (lN (cIF (cK (cQ (cSL (lL hs [.o 42 (nv (iabs b)) 2 0 2] (lC 43 hs (nSmall (iabs b) _ _ hs.g) ?_)))))));rintro _ w41 h42 hs ⟨sp,ok,rfl,hok⟩;refine lL hs [.m 41 43,.v 44 (mV sp),.v 45 (.bool ok),.m 10 44,.m 11 45] (lNS (lL hs [.m 46 11] (lN (cTo [(4,pB b7),(6,pB b13),(5,pB b12),(10,mV sp),(46,.bool ok)] ?_))));cases hb43:(ok)
    ·
     try rw[hb43] at hs
     try rw[hb43]
     refine cIF (cK (cSL (lL hs [.o 60 (nv (iabs b)) 2 0 2,.o 61 (nv ((iabs a)%(iabs b))) 3 0 2] (lC 62 hs (wBinary (iabs b) ((iabs a)%(iabs b)) oM oM (by first|assumption|exact wds_len_le (Nat.le_of_lt (Nat.mod_lt _ oM)) aM) (by first|assumption|exact wds_len_le (Nat.le_of_lt (Nat.mod_lt _ oM)) aM) _ _ hs.g hs.f.1) ?_))));rintro _ w44 h45 hs rfl;exact lP 4 0 (nc (Nat.gcd (iabs b) ((iabs a)%(iabs b)))) hs (fun w46 hs=>lN (kX (hs.ret [(4,0,2)] (nv (Nat.gcd (iabs b) ((iabs a)%(iabs b)))) (congrArg nv hg2))))
    try rw[hb43] at hs
    try rw[hb43]
    refine cIT (cSL (lL hs [.o 48 (nv ((iabs a)%(iabs b))) 3 0 2] (lC 49 hs (nSmallS ((iabs a)%(iabs b)) (by have hok_:=hok aM;omega) _ _ hs.g) ?_)));rintro _ w47 h48 hs rfl;refine lL hs [.m 47 49,.v 50 (mV ((iabs a)%(iabs b))),.v 51 (.bool true),.m 12 50,.m 13 51] (lN (cQ (kZ ?_)));refine cTo _ (CG.loop (fun μ_ Γ w_=>∃ (p:Nat) (q:Nat) (h_:Hp),μ_=q∧Γ=[(4,pB b7),(6,pB b13),(5,pB b12),(10,mV p),(12,mV q)]∧SS w h w_ h_ [⟨b29,51,nc ((iabs a)%(iabs b))⟩,⟨b26,51,nc ((iabs a)/(iabs b))⟩,⟨b12,51,nc (iabs b)⟩,⟨b13,51,nc ((iabs a)%(iabs b))⟩,⟨b7,51,[uV 0,eS]⟩,⟨b4,53,ic b⟩,⟨b1,53,ic a⟩] [] [fun h_=>Tab h_]∧p<18446744073709551616∧q<18446744073709551616∧Nat.gcd p q=Nat.gcd (iabs a) (iabs b)) _ ⟨sp,((iabs a)%(iabs b)),h48,rfl,rfl,hs.to _ _,(by have hok_:=hok aM;omega),(by have hok_:=hok aM;omega),(by rw[(hok aM).1];exact hg2)⟩ ?_);rintro _ _ w49 ⟨p,q,h50,hm51,rfl,hs,hp,hq,hG⟩;refine cQ (cSL (lL hs [.m 52 12] ?_));cases hb52:(decide ((0:Int)<(q:Int)))
    ·
     have phb52:=oF hb52;refine lB 53 hb52 (lN (cIF (CG.exit ?_)))
     show CG _ _ _ _ _ _ _ _
     refine cSL (lL hs [.m 58 10] (lC 59 hs (nOf p hp _ _ hs.g) ?_));rintro _ w53 h54 hs rfl;exact lP 4 0 (nc p) hs (fun w55 hs=>lN (kX (hs.ret [(4,0,2)] (nv p) (congrArg nv (by rw[←hG,show q=0 by omega,Nat.gcd_zero_right])))))
    have phb52:=oT hb52;refine lB 53 hb52 (lN (cIT (cK (kZ (cR 4 [] mixed hs al_nil ?_)))));refine eV 0 54 (mV q) (eV 1 55 (mV p) (eV 2 56 (mV q) (eV 3 57 (mV (p%q)) ?_ (hv:=fun _=>rint (opRem (t:=49) (u:=49) (x:=.tmp 55) (y:=.tmp 56) (k:=.u64) (a:=(p:Int)) (b:=(q:Int)) kR kR kR oM _) (tmodNat p q)))));refine eD0 hs (fun w56 h57 hs=>tV 4 10 (mV q) (tV 5 12 (mV (p%q)) (tD ?_)));intro a_ ka;refine ⟨_,_,?_,⟨q,p%q,h57,rfl,rfl,hs.to _ _,hq,(by have:=Nat.mod_lt p (show 0<q by omega);omega),(by rw[gcd_mod_swap];exact hG)⟩,ka.to _ kR⟩;have hmq_:=Nat.mod_lt p (show 0<q by omega)
    omega
   have phb40:=eq_of_beq hb40;exact lB 39 hb40 (lN (cIT (cSL (lL hs [.o 40 (nv (iabs b)) 2 0 2] (lP 4 0 (nc (iabs b)) hs (fun w61 hs=>lN (kX (hs.ret [(4,0,2)] (nv (iabs b)) (congrArg nv (by rw[←hg2,show ((iabs a)%(iabs b))=0 by omega,Nat.gcd_zero_right]))))))))))
  have phb23:=eq_of_beq hb23;exact lB 26 hb23 (lN (cIT (cSL (lL hs [.o 27 (nv (iabs a)) 0 0 2] (lP 2 0 (nc (iabs a)) hs (fun w62 hs=>lN (kX (hs.ret [(2,0,2)] (nv (iabs a)) (congrArg nv (by rw[←hgc,show (iabs b)=0 by omega,Nat.gcd_zero_right]))))))))))
 have phb20:=oT hb20;refine lB 21 hb20 (lN (cIT (kQ (lL hs [.o 22 (nv (iabs b)) 1 0 2,.o 23 (nv (iabs a)) 0 0 2] (lP 0 0 (nc (iabs b)) hs (fun w63 hs=>lP 1 0 (nc (iabs a)) hs (fun w64 hs=>lN (cQ (cSL ?_)))))))));have hgc:Nat.gcd (iabs b) (iabs a)=Nat.gcd (iabs a) (iabs b):=by first|rfl|exact Nat.gcd_comm _ _
 refine lL hs [.o 24 (nv (iabs a)) 1 0 2] (lC 25 hs (nBits (iabs a) (by first|assumption|exact wds_len_le (Nat.le_of_lt (Nat.mod_lt _ oM)) aM) _ _ hs.g) ?_);rintro _ w65 h66 hs rfl;have hnb4:=nb_cases (iabs a);cases hb67:(((nb (iabs a):Nat):Int) == (0:Int))
 ·
  have phb67:=neOfBeq hb67;refine lB 26 hb67 (lN (cIF (cK (cSL (lL hs [.o 29 (nv (iabs b)) 0 0 2,.o 30 (nv (iabs a)) 1 0 2] (lC 31 hs (nDiv (iabs b) (iabs a) oM aM aM _ _ hs.g) ?_))))));rintro _ w68 h69 hs rfl;have hmd:=Nat.mod_lt (iabs b) (show 0<(iabs a) by omega);refine lL hs [.m 28 31,.v 32 (nv ((iabs b)/(iabs a))),.v 33 (nv ((iabs b)%(iabs a))),.v 34 (.bool true)] (lA 7 51 ([uV 0,eS]) hs (fun b70 w71 h72 hs=>lA 8 51 ([uV 0,eS]) hs (fun b73 w74 h75 hs=>lP 1 0 (nc ((iabs b)/(iabs a))) hs (fun w76 hs=>lP 0 0 (nc ((iabs b)%(iabs a))) hs (fun w77 hs=>lL hs [.m 9 34] (lN (cQ ?_)))))));have hsr:=hs;refine cRz 2 [] [b12,b13] mixed hs al_nil (eO 0 35 [(3,0,2)] (nv (iabs a)) hs (eOz 1 36 [(0,0,2)] (nv ((iabs b)%(iabs a))) hsr hs ?_ (hM:=fun p hp=>by obtain rfl:=List.mem_singleton.1 hp;exact fun hm=>by rcases List.mem_cons.1 hm with e|hm;exact bx_ne hs.st (i:=0) (j:=2) kR kR kR e;rcases List.mem_cons.1 hm with e|hm;exact bx_ne hs.st (i:=0) (j:=3) kR kR kR e;cases hm)));refine eD0 hs (fun w78 h79 hs=>tP 2 2 0 (nc (iabs a)) hs (fun w80 hs=>?_) (hz:=tlz_mem (List.mem_cons_self)));refine tP 3 3 0 (nc ((iabs b)%(iabs a))) hs (fun w81 hs=>?_) (hz:=tlz_mem (List.mem_cons_of_mem _<|List.mem_cons_self));refine tN (cQ (cSL ?_));have hg2:Nat.gcd (iabs a) ((iabs b)%(iabs a))=Nat.gcd (iabs a) (iabs b):=by rw[←hgc];exact gcd_mod_swap _ _
  refine lL hs [.o 37 (nv ((iabs b)%(iabs a))) 3 0 2] (lC 38 hs (nBits ((iabs b)%(iabs a)) (by first|assumption|exact wds_len_le (Nat.le_of_lt (Nat.mod_lt _ oM)) aM) _ _ hs.g) ?_);rintro _ w82 h83 hs rfl;have hnb8:=nb_cases ((iabs b)%(iabs a));cases hb84:(((nb ((iabs b)%(iabs a)):Nat):Int) == (0:Int))
  ·
   have phb84:=neOfBeq hb84;refine lB 39 hb84 (lN (cIF (cK (cQ (cSL (lL hs [.o 42 (nv (iabs a)) 2 0 2] (lC 43 hs (nSmall (iabs a) _ _ hs.g) ?_)))))));rintro _ w85 h86 hs ⟨sp,ok,rfl,hok⟩;refine lL hs [.m 41 43,.v 44 (mV sp),.v 45 (.bool ok),.m 10 44,.m 11 45] (lN (cTo [(4,pB b7),(6,pB b13),(5,pB b12),(10,mV sp),(11,.bool ok)] ?_));refine cSL (lL hs [.m 46 11] (lN ?_));cases hb87:(ok)
   ·
    try rw[hb87] at hs
    try rw[hb87]
    refine cIF (cK (cSL (lL hs [.o 60 (nv (iabs a)) 2 0 2,.o 61 (nv ((iabs b)%(iabs a))) 3 0 2] (lC 62 hs (wBinary (iabs a) ((iabs b)%(iabs a)) oM oM (by first|assumption|exact wds_len_le (Nat.le_of_lt (Nat.mod_lt _ oM)) aM) (by first|assumption|exact wds_len_le (Nat.le_of_lt (Nat.mod_lt _ oM)) aM) _ _ hs.g hs.f.1) ?_))));rintro _ w88 h89 hs rfl;exact lP 4 0 (nc (Nat.gcd (iabs a) ((iabs b)%(iabs a)))) hs (fun w90 hs=>lN (kX (hs.ret [(4,0,2)] (nv (Nat.gcd (iabs a) ((iabs b)%(iabs a)))) (congrArg nv hg2))))
   try rw[hb87] at hs
   try rw[hb87]
   refine cIT (cSL (lL hs [.o 48 (nv ((iabs b)%(iabs a))) 3 0 2] (lC 49 hs (nSmallS ((iabs b)%(iabs a)) (by have hok_:=hok aM;omega) _ _ hs.g) ?_)));rintro _ w91 h92 hs rfl;refine lL hs [.m 47 49,.v 50 (mV ((iabs b)%(iabs a))),.v 51 (.bool true),.m 12 50,.m 13 51] (lN (cQ (kZ ?_)));refine cTo _ (CG.loop (fun μ_ Γ w_=>∃ (p:Nat) (q:Nat) (h_:Hp),μ_=q∧Γ=[(4,pB b7),(6,pB b13),(5,pB b12),(10,mV p),(12,mV q)]∧SS w h w_ h_ [⟨b73,51,nc ((iabs b)%(iabs a))⟩,⟨b70,51,nc ((iabs b)/(iabs a))⟩,⟨b12,51,nc (iabs a)⟩,⟨b13,51,nc ((iabs b)%(iabs a))⟩,⟨b7,51,[uV 0,eS]⟩,⟨b4,53,ic b⟩,⟨b1,53,ic a⟩] [] [fun h_=>Tab h_]∧p<18446744073709551616∧q<18446744073709551616∧Nat.gcd p q=Nat.gcd (iabs a) (iabs b)) _ ⟨sp,((iabs b)%(iabs a)),h92,rfl,rfl,hs.to _ _,(by have hok_:=hok aM;omega),(by have hok_:=hok aM;omega),(by rw[(hok aM).1];exact hg2)⟩ ?_);rintro _ _ w93 ⟨p,q,h94,hm95,rfl,hs,hp,hq,hG⟩;refine cQ (cSL (lL hs [.m 52 12] ?_));cases hb96:(decide ((0:Int)<(q:Int)))
   ·
    have phb96:=oF hb96;refine lB 53 hb96 (lN (cIF (CG.exit ?_)))
    show CG _ _ _ _ _ _ _ _
    refine cSL (lL hs [.m 58 10] (lC 59 hs (nOf p hp _ _ hs.g) ?_));rintro _ w97 h98 hs rfl;exact lP 4 0 (nc p) hs (fun w99 hs=>lN (kX (hs.ret [(4,0,2)] (nv p) (congrArg nv (by rw[←hG,show q=0 by omega,Nat.gcd_zero_right])))))
   have phb96:=oT hb96;refine lB 53 hb96 (lN (cIT (cK (kZ (cR 4 [] mixed hs al_nil ?_)))));refine eV 0 54 (mV q) (eV 1 55 (mV p) (eV 2 56 (mV q) (eV 3 57 (mV (p%q)) ?_ (hv:=fun _=>rint (opRem (t:=49) (u:=49) (x:=.tmp 55) (y:=.tmp 56) (k:=.u64) (a:=(p:Int)) (b:=(q:Int)) kR kR kR oM _) (tmodNat p q)))));refine eD0 hs (fun w100 h101 hs=>tV 4 10 (mV q) (tV 5 12 (mV (p%q)) (tD ?_)));intro a_ ka;refine ⟨_,_,?_,⟨q,p%q,h101,rfl,rfl,hs.to _ _,hq,(by have:=Nat.mod_lt p (show 0<q by omega);omega),(by rw[gcd_mod_swap];exact hG)⟩,ka.to _ kR⟩;have hmq_:=Nat.mod_lt p (show 0<q by omega)
   omega
  have phb84:=eq_of_beq hb84;exact lB 39 hb84 (lN (cIT (cSL (lL hs [.o 40 (nv (iabs a)) 2 0 2] (lP 4 0 (nc (iabs a)) hs (fun w105 hs=>lN (kX (hs.ret [(4,0,2)] (nv (iabs a)) (congrArg nv (by rw[←hg2,show ((iabs b)%(iabs a))=0 by omega,Nat.gcd_zero_right]))))))))))
 have phb67:=eq_of_beq hb67;exact lB 26 hb67 (lN (cIT (cSL (lL hs [.o 27 (nv (iabs b)) 0 0 2] (lP 2 0 (nc (iabs b)) hs (fun w106 hs=>lN (kX (hs.ret [(2,0,2)] (nv (iabs b)) (congrArg nv (by rw[←hgc,show (iabs a)=0 by omega,Nat.gcd_zero_right]))))))))))
theorem sgn_part (z:Int)(b:Nat)(hd:(b:Int)∣z):sgn (decide (z.sign<0)) (iabs z/b)=z/b:=by
  obtain ⟨k,rfl⟩:=hd
  rcases Nat.eq_zero_or_pos b with hb|hb
  · subst hb;simp[sgn,iabs]
  have e1:iabs ((b:Int)*k)/b=k.natAbs:=by
    unfold iabs
    rw[Int.natAbs_mul,Int.natAbs_natCast,Nat.mul_div_cancel_left _ hb]
  have e2:((b:Int)*k)/b=k:=Int.mul_ediv_cancel_left _ oM;have e3:((b:Int)*k).sign=k.sign:=by rw[Int.sign_mul,Int.sign_natCast_of_ne_zero oM,Int.one_mul]
  rw[e1,e2,e3]
  unfold sgn
  rcases Int.lt_trichotomy k 0 with h|h|h
  · rw[Int.sign_eq_neg_one_of_neg h];simp;omega
  · subst h;simp
  · rw[Int.sign_eq_one_of_pos h];simp;omega
theorem rat_add (a b:Rat):∀ g h:Nat,∀ up:Int,g=Nat.gcd a.den b.den→up=a.num*((b.den/g:Nat):Int)+b.num*((a.den/g:Nat):Int)→h=Nat.gcd (iabs up) g →
    (a+b).num=up/h∧(a+b).den=(a.den/g)*(b.den/h)∧(h:Int)∣up∧h∣b.den∧0<h∧0<g:=by
  intro g h up hg hup hh;have hgp:0<g:=by rw[hg];exact Nat.gcd_pos_of_pos_left _ a.den_pos
  have hhp:0<h:=by rw[hh];exact Nat.gcd_pos_of_pos_right _ hgp
  have hga:g∣a.den:=by rw[hg];exact Nat.gcd_dvd_left _ _
  have hgb:g∣b.den:=by rw[hg];exact Nat.gcd_dvd_right _ _
  have hhg:h∣g:=by rw[hh];exact Nat.gcd_dvd_right _ _
  have hhu:(h:Int)∣up:=by
    have h1:h∣up.natAbs:=by rw[hh];exact Nat.gcd_dvd_left _ _
    exact Int.dvd_trans (Int.natCast_dvd_natCast.2 h1) (Int.natAbs_dvd.2 (Int.dvd_refl _))
  have hhb:h∣b.den:=Nat.dvd_trans hhg hgb;refine ⟨?_,?_,hhu,hhb,hhp,hgp⟩
  · show (Rat.add a b).num=_
    delta Rat.add
    dsimp only
    split
    · rename_i h1
      have g1:g=1:=by rw[hg];exact h1
      dsimp only
      clear h1 hg
      subst g1;have hh1:h=1:=by rw[hh];simp
      rw[hh1,hup];simp
    · subst hg hup hh
      dsimp only[Rat.maybeNormalize]
      split
      · rename_i h1
        dsimp only
        unfold iabs
        rw[h1];simp
      · dsimp only
        rw[Int.divExact_eq_ediv]
        rfl
  · show (Rat.add a b).den=_
    delta Rat.add
    dsimp only
    split
    · rename_i h1
      have g1:g=1:=by rw[hg];exact h1
      dsimp only
      clear h1 hg
      subst g1;have hh1:h=1:=by rw[hh];simp
      rw[hh1];simp
    · subst hg hup hh
      dsimp only[Rat.maybeNormalize]
      split
      · rename_i h1
        dsimp only
        unfold iabs
        rw[h1];simp
      · dsimp only
        rw[Nat.divExact_eq_div]
        unfold iabs at *
        rw[Nat.mul_div_assoc _ hhb]
theorem rat_mul (a b:Rat):∀ g h:Nat,g=Nat.gcd (iabs a.num) b.den→h=Nat.gcd (iabs b.num) a.den →
    (a*b).num=(a.num/g)*(b.num/h)∧(a*b).den=(a.den/h)*(b.den/g)∧(g:Int)∣a.num∧(h:Int)∣b.num∧0<g∧0<h:=by
  intro g h hg hh;have hgp:0<g:=by rw[hg];exact Nat.gcd_pos_of_pos_right _ b.den_pos
  have hhp:0<h:=by rw[hh];exact Nat.gcd_pos_of_pos_right _ a.den_pos
  have d1:(g:Int)∣a.num:=by
    have h1:g∣a.num.natAbs:=by rw[hg];exact Nat.gcd_dvd_left _ _
    exact Int.dvd_trans (Int.natCast_dvd_natCast.2 h1) (Int.natAbs_dvd.2 (Int.dvd_refl _))
  have d2:(h:Int)∣b.num:=by
    have h1:h∣b.num.natAbs:=by rw[hh];exact Nat.gcd_dvd_left _ _
    exact Int.dvd_trans (Int.natCast_dvd_natCast.2 h1) (Int.natAbs_dvd.2 (Int.dvd_refl _))
  refine ⟨?_,?_,d1,d2,hgp,hhp⟩
  · show (Rat.mul a b).num=_
    delta Rat.mul
    dsimp only
    rw[Int.divExact_eq_ediv,Int.divExact_eq_ediv,hg,hh];rfl
  · show (Rat.mul a b).den=_
    delta Rat.mul
    dsimp only
    rw[Nat.divExact_eq_div,Nat.divExact_eq_div,hg,hh];rfl
theorem mkRat_parts (n:Int)(d:Nat)(hd:0<d):(mkRat n d).num=n/(Nat.gcd (iabs n) d:Nat)∧(mkRat n d).den=d/Nat.gcd (iabs n) d∧((Nat.gcd (iabs n) d:Nat):Int)∣n∧0<Nat.gcd (iabs n) d:=by
  have d1:((Nat.gcd (iabs n) d:Nat):Int)∣n:=by
    have h1:Nat.gcd (iabs n) d∣n.natAbs:=Nat.gcd_dvd_left _ _;exact Int.dvd_trans (Int.natCast_dvd_natCast.2 h1) (Int.natAbs_dvd.2 (Int.dvd_refl _))
  unfold mkRat
  rw[dif_neg oM,Rat.normalize_eq];exact ⟨rfl,rfl,d1,Nat.gcd_pos_of_pos_right _ hd⟩
theorem rat_inv (b:Rat)(h:b.num≠0):(b⁻¹).num=sgn (decide (b.num.sign<0)) b.den∧(b⁻¹).den=iabs b.num:=by
  have e:b⁻¹=Rat.inv b:=rfl;rw[e]
  delta Rat.inv
  split
  · rename_i h1
    rw[Int.sign_eq_neg_one_of_neg h1];simp[sgn,iabs]
  · split
    · rename_i h1
      rw[Int.sign_eq_one_of_pos h1];simp[sgn,iabs]
    · omega
def LQ (k:Nat)(q:Rat):Prop:=(wds (iabs q.num)).length≤k∧(wds q.den).length≤k
theorem wFromN (n:Nat)(w:World)(h:Hp)(g:G w h):CV 99 #[.bool false,nv n] w h (iv (n:Int)):=wFromF n w h g
theorem wGcdE (x y:Int)(d:Nat)(hd:d=Nat.gcd (iabs x) (iabs y))(hla:(wds (iabs x)).length≤1000000000)(hlb:(wds (iabs y)).length≤1000000000)(w:World)(h:Hp)(g:G w h)(tb:Tab h):CV 118 #[iv x,iv y] w h (nv d):=by
  subst hd;exact wGcd x y hla hlb w h g tb
theorem nb_one {n:Nat}:nb n=1↔n=1:=by
  rcases Nat.eq_zero_or_pos n with h|h
  · subst h;simp[nb]
  · have h1:=nb_spec h
    constructor
    · intro e;rw[e] at h1;omega
    · intro e;subst e;rfl
theorem nb_zero_iff {n:Nat}:nb n=0↔n=0:=by
  rcases nb_cases n with ⟨h1,h2⟩|⟨h1,h2⟩<;>omega
theorem qd_one {q:Rat}(h:q.den=1):qd q=0:=by unfold qd;rw[if_pos h]
theorem qd_ne {q:Rat}(h:q.den≠1):qd q=q.den:=by unfold qd;rw[if_neg h]
theorem qd_zero {q:Rat}:qd q=0↔q.den=1:=by
  unfold qd
  have:=q.den_pos
  split<;>omega
theorem isw (q:Rat):(((nb (qd q):Nat):Int) == (0:Int))=decide (q.den=1):=by
  rw[Bool.eq_iff_iff]
  simp only[beq_iff_eq,decide_eq_true_eq]
  rw[←qd_zero,←nb_zero_iff]
  omega
theorem qv_lit {q:Rat}{z:Int}{d:Nat}(hz:q.num=z)(hd:qd q=d):Value.agg #[.bool (ineg z),.int .u64 (lo (iabs z)),.string (hi (iabs z)),.int .u64 (lo d),.string (hi d)]=qv q:=by subst hz hd;rfl
theorem LQ.qd {k:Nat}{q:Rat}(h:LQ k q):(wds (qd q)).length≤k:=by
  unfold Go.Proofs.YtmkcmnhnmajheaaGreatDoor.qd
  split
  · exact Nat.zero_le _
  · exact h.2
theorem fPack (a:Rat)(ha:LQ 1000000000 a)(w:World)(h:Hp)(g:G w h):CV 119 #[iv a.num,nv a.den] w h (qv a):=by
 have hs:=sS g;obtain ⟨ha1,ha2⟩:=ha;have hn1:=@nb_one a.den;refine go Tryz.func119 [(0,iv a.num),(1,nv a.den)] rfl (cSL (lA 2 53 (ic a.num) hs (fun b1 w2 h3 hs=>lA 3 51 (nc a.den) hs (fun b4 w5 h6 hs=>lA 4 55 ([.bool false,uV 0,eS,uV 0,eS]) hs (fun b7 w8 h9 hs=>lN (cQ (cSL (lL hs [.o 5 (nv a.den) 1 0 2] (lC 6 hs (nBits a.den aOM _ _ hs.g) ?_)))))))));rintro _ w10 h11 hs rfl;cases hb12:(((nb a.den:Nat):Int) == (1:Int))
 ·
  have phb12:=neOfBeq hb12;exact lB 7 hb12 (lN (cIF (cK (cSL (lL hs [.o 10 (iv a.num) 2 0 3,.o 11 (nv a.den) 1 0 2,.v 12 (.agg #[.bool (ineg a.num),uV (lo (iabs a.num)),.string (hi (iabs a.num)),uV (lo a.den),.string (hi a.den)])] (lP 0 0 ([.bool (ineg a.num),uV (lo (iabs a.num)),.string (hi (iabs a.num)),uV (lo a.den),.string (hi a.den)]) hs (fun w13 hs=>lN (kX (hs.ret [(0,0,5)] (.agg #[.bool (ineg a.num),uV (lo (iabs a.num)),.string (hi (iabs a.num)),uV (lo a.den),.string (hi a.den)]) (qv_lit (q:=a) (d:=a.den) rfl (qd_ne oM)))))))))))
 have phb12:=eq_of_beq hb12;exact lB 7 hb12 (lN (cIT (cSL (lL hs [.o 8 (iv a.num) 2 0 3,.v 9 (.agg #[.bool (ineg a.num),uV (lo (iabs a.num)),.string (hi (iabs a.num)),uV 0,eS])] (lP 0 0 ([.bool (ineg a.num),uV (lo (iabs a.num)),.string (hi (iabs a.num)),uV 0,eS]) hs (fun w14 hs=>lN (kX (hs.ret [(0,0,5)] (.agg #[.bool (ineg a.num),uV (lo (iabs a.num)),.string (hi (iabs a.num)),uV 0,eS]) (qv_lit (q:=a) (d:=0) rfl (qd_one oM))))))))))
theorem fPackE (q:Rat)(z:Int)(d:Nat)(hz:q.num=z)(hd:d=q.den)(hq:LQ 1000000000 q)(w:World)(h:Hp)(g:G w h):CV 119 #[iv z,nv d] w h (qv q):=by
  subst hz hd;exact fPack q hq w h g
theorem iabs_div_le (z:Int)(g:Nat)(hd:(g:Int)∣z):iabs (z/g)≤iabs z:=by
  unfold iabs
  rcases Nat.eq_zero_or_pos g with h|h
  · subst h;simp
  · obtain ⟨k,rfl⟩:=hd
    rw[Int.mul_ediv_cancel_left _ oM,Int.natAbs_mul,Int.natAbs_natCast];exact Nat.le_mul_of_pos_left _ h
theorem fOver (a b:Nat)(hb:0<b)(hla:(wds a).length≤1000000000)(hlb:(wds b).length≤1000000000)(w:World)(h:Hp)(g:G w h):CV 121 #[nv a,nv b] w h (nv (a/b)):=by
 have hs:=sS g;have hn1:=@nb_one b;refine go Tryz.func121 [(0,nv a),(1,nv b)] rfl (cSL (lA 2 51 (nc a) hs (fun b1 w2 h3 hs=>lA 3 51 (nc b) hs (fun b4 w5 h6 hs=>lA 4 51 ([uV 0,eS]) hs (fun b7 w8 h9 hs=>lN (cQ (cSL (lL hs [.o 8 (nv b) 1 0 2] (lC 9 hs (nBits b aOM _ _ hs.g) ?_)))))))));rintro _ w10 h11 hs rfl;cases hb12:(((nb b:Nat):Int) == (1:Int))
 ·
  have phb12:=neOfBeq hb12;refine lB 10 hb12 (lN (cIF (cK (cSL (lL hs [.o 13 (nv a) 2 0 2,.o 14 (nv b) 1 0 2] (lC 15 hs (nDiv a b oM aM aM _ _ hs.g) ?_))))));rintro _ w13 h14 hs rfl;exact lL hs [.m 12 15,.v 16 (nv (a/b)),.v 17 (nv (a%b)),.v 18 (.bool true)] (lA 5 51 ([uV 0,eS]) hs (fun b15 w16 h17 hs=>lA 6 51 ([uV 0,eS]) hs (fun b18 w19 h20 hs=>lP 1 0 (nc (a/b)) hs (fun w21 hs=>lP 0 0 (nc (a%b)) hs (fun w22 hs=>lL hs [.m 7 18] (lNS (lL hs [.o 19 (nv (a/b)) 1 0 2] (lP 2 0 (nc (a/b)) hs (fun w23 hs=>lN (kX (hs.ret [(2,0,2)] (nv (a/b)) rfl)))))))))))
 have phb12:=eq_of_beq hb12;exact lB 10 hb12 (lN (cIT (cSL (lL hs [.o 11 (nv a) 2 0 2] (lP 0 0 (nc a) hs (fun w24 hs=>lN (kX (hs.ret [(0,0,2)] (nv a) (by rw[show b=1 by omega,Nat.div_one])))))))))
theorem fPart (z:Int)(b:Nat)(hb:0<b)(hd:(b:Int)∣z)(hla:(wds (iabs z)).length≤1000000000)(hlb:(wds b).length≤1000000000)(w:World)(h:Hp)(g:G w h):CV 120 #[iv z,nv b] w h (iv (z/b)):=by
 have hs:=sS g;have hdl:(wds (iabs z/b)).length≤1000000000:=wds_len_le (Nat.div_le_self _ _) hla;refine go Tryz.func120 [(0,iv z),(1,nv b)] rfl (cSL (lA 2 53 (ic z) hs (fun b1 w2 h3 hs=>lA 3 51 (nc b) hs (fun b4 w5 h6 hs=>lA 4 53 ([.bool false,uV 0,eS]) hs (fun b7 w8 h9 hs=>lN (cQ (cR 8 [] mixed hs al_nil ?_)))))));refine eO 0 5 [(2,0,3)] (iv z) hs (eO 3 8 [(2,0,3)] (iv z) hs (eO 5 10 [(1,0,2)] (nv b) hs (eC 1 6 hs (fun _ _ hs=>wSign z aOM _ _ hs.g) ?_)));rintro _ _ _ w10 h11 hs rfl;refine eV 2 7 (.bool (decide (((z).sign:Int)<(0:Int)))) (eC 4 9 hs (fun _ _ hs=>wAbs z _ _ hs.g) ?_);rintro _ _ _ w12 h13 hs rfl;refine eC 6 11 hs (fun _ _ hs=>fOver (iabs z) b aM aOM aOM _ _ hs.g) ?_;rintro _ _ _ w14 h15 hs rfl;refine eC 7 12 hs (fun _ _ hs=>wFrom (decide (((z).sign:Int)<(0:Int))) ((iabs z)/b) aOM _ _ hs.g) ?_;rintro _ _ _ w16 h17 hs rfl;exact eD0 hs (fun w18 h19 hs=>tP 8 0 0 (ic (sgn (decide (((z).sign:Int)<(0:Int))) ((iabs z)/b))) hs (fun w20 hs=>tN (kX (hs.ret [(0,0,3)] (iv (sgn (decide (((z).sign:Int)<(0:Int))) ((iabs z)/b))) (congrArg iv (sgn_part z b hd))))))
theorem fTimes (z:Int)(d:Nat)(hl:(wds (iabs z)).length+(wds d).length≤1000000000)(w:World)(h:Hp)(g:G w h):CV 66 #[iv z,nv d] w h (iv (z*d)):=by
 have hs:=sS g;refine go Tryz.func66 [(0,iv z),(1,nv d)] rfl (cSL (lA 2 53 (ic z) hs (fun b1 w2 h3 hs=>lA 3 51 (nc d) hs (fun b4 w5 h6 hs=>lA 4 53 ([.bool false,uV 0,eS]) hs (fun b7 w8 h9 hs=>lN (cQ (cR 4 [] mixed hs al_nil ?_)))))));refine eO 0 5 [(2,0,3)] (iv z) hs (eO 1 6 [(1,0,2)] (nv d) hs (eC 2 7 hs (fun _ _ hs=>wFromN d _ _ hs.g) ?_));rintro _ _ _ w10 h11 hs rfl;refine eC 3 8 hs (fun _ _ hs=>wMul z (d:Int) aOM _ _ hs.g) ?_;rintro _ _ _ w12 h13 hs rfl;exact eD0 hs (fun w14 h15 hs=>tP 4 0 0 (ic (z*(d:Int))) hs (fun w16 hs=>tN (kX (hs.ret [(0,0,3)] (iv (z*(d:Int))) rfl))))
theorem fIsWhole (a:Rat)(ha:LQ 100000000 a)(w:World)(h:Hp)(g:G w h):CV 64 #[qv a] w h (.bool (decide (a.den=1))):=by
 have hs:=sS g;have hqd:=ha.qd;refine go Tryz.func64 [(0,qv a)] rfl (cSL (lA 1 55 (qc a) hs (fun b1 w2 h3 hs=>lL hs [.v 2 (.bool false)] (lNS (lL hs [.v 3 (.pointer (some ⟨b1,3,none⟩)),.o 4 (nv (qd a)) 0 3 2] (lC 5 hs (nBits (qd a) aOM _ _ hs.g) ?_))))));rintro _ w4 h5 hs rfl;exact lL hs [.v 6 (.bool (((nb (qd a):Nat):Int) == (0:Int))),.m 2 6] (lN (kX (hs.ret [] (.bool (((nb (qd a):Nat):Int) == (0:Int))) (congrArg Value.bool (isw a)))))
theorem fDen (a:Rat)(ha:LQ 100000000 a)(w:World)(h:Hp)(g:G w h):CV 67 #[qv a] w h (nv a.den):=by
 have hs:=sS g;refine go Tryz.func67 [(0,qv a)] rfl (cSL (lA 1 55 (qc a) hs (fun b1 w2 h3 hs=>lA 2 51 ([uV 0,eS]) hs (fun b4 w5 h6 hs=>lN (cQ (cSL (lL hs [.o 3 (qv a) 1 0 5] (lC 4 hs (fIsWhole a aM _ _ hs.g) ?_))))))));rintro _ w7 h8 hs rfl;cases hb9:(decide (a.den=1))
 ·
  have phb9:=oF hb9;exact lN (cIF (cK (cSL (lL hs [.v 6 (.pointer (some ⟨b1,3,none⟩)),.o 7 (nv (qd a)) 1 3 2] (lP 0 0 (nc (qd a)) hs (fun w10 hs=>lN (kX (hs.ret [(0,0,2)] (nv (qd a)) (by rw[qd_ne (by simpa using (by assumption:decide (a.den=1)=false))])))))))))
 have phb9:=oT hb9;refine lN (cIT (cSL (lC 5 hs (nOf 1 oM _ _ hs.g) ?_)));rintro _ w11 h12 hs rfl;exact lP 0 0 (nc 1) hs (fun w13 hs=>lN (kX (hs.ret [(0,0,2)] (nv 1) (by rw[show a.den=1 by simpa using (by assumption:decide (a.den=1)=true)]))))
theorem fNum (a:Rat)(w:World)(h:Hp)(g:G w h):CV 139 #[qv a] w h (iv a.num):=by
 have hs:=sS g;exact go Tryz.func139 [(0,qv a)] rfl (cSL (lA 1 55 (qc a) hs (fun b1 w2 h3 hs=>lA 2 53 ([.bool false,uV 0,eS]) hs (fun b4 w5 h6 hs=>lNS (lL hs [.v 3 (pB b1),.o 4 (iv a.num) 1 0 3] (lP 0 0 (ic a.num) hs (fun w7 hs=>lN (kX (hs.ret [(0,0,3)] (iv a.num) rfl)))))))))
theorem fSign (a:Rat)(ha:LQ 100000000 a)(w:World)(h:Hp)(g:G w h):CV 61 #[qv a] w h (iV a.num.sign):=by
 have hs:=sS g;obtain ⟨ha1,ha2⟩:=ha;refine go Tryz.func61 [(0,qv a)] rfl (cSL (lA 1 55 (qc a) hs (fun b1 w2 h3 hs=>lL hs [.v 2 (iV 0)] (lNS (lL hs [.v 3 (pB b1),.o 4 (iv a.num) 0 0 3] (lC 5 hs (wSign a.num aOM _ _ hs.g) ?_))))));rintro _ w4 h5 hs rfl;exact lL hs [.m 2 5] (lN (kX (hs.ret [] (iV ((a.num).sign)) rfl)))
theorem fOf (z:Int)(h0 : -9223372036854775808≤z)(h1:z≤9223372036854775807)(w:World)(h:Hp)(g:G w h):CV 38 #[iV z] w h (qv (z:Rat)):=by
 have hs:=sS g;refine go Tryz.func38 [(0,iV z)] rfl (cSL (lA 2 55 ([.bool false,uV 0,eS,uV 0,eS]) hs (fun b1 w2 h3 hs=>lNS (lL hs [.m 3 0] (lC 4 hs (wOf z oM oM _ _ hs.g) ?_)))));rintro _ w4 h5 hs rfl;exact lL hs [.v 5 (.agg #[.bool (ineg z),uV (lo (iabs z)),.string (hi (iabs z)),uV 0,eS])] (lP 0 0 ([.bool (ineg z),uV (lo (iabs z)),.string (hi (iabs z)),uV 0,eS]) hs (fun w6 hs=>lN (kX (hs.ret [(0,0,5)] (.agg #[.bool (ineg z),uV (lo (iabs z)),.string (hi (iabs z)),uV 0,eS]) (qv_lit (d:=0) (Rat.num_intCast z) (qd_one (Rat.den_intCast z)))))))
theorem fNeg (a:Rat)(ha:LQ 100000000 a)(w:World)(h:Hp)(g:G w h):CV 113 #[qv a] w h (qv (-a)):=by
 have hs:=sS g;obtain ⟨ha1,ha2⟩:=ha;refine go Tryz.func113 [(0,qv a)] rfl (cSL (lA 1 55 (qc a) hs (fun b1 w2 h3 hs=>lA 2 55 ([.bool false,uV 0,eS,uV 0,eS]) hs (fun b4 w5 h6 hs=>lN (cQ (cR 6 [] mixed hs al_nil ?_))))));refine eV 0 3 (pB b1) (eO 1 4 [(1,0,3)] (iv a.num) hs (eV 3 6 (.pointer (some ⟨b1,3,none⟩)) (eO 4 7 [(1,3,2)] (nv (qd a)) hs (eC 2 5 hs (fun _ _ hs=>wNeg a.num aOM _ _ hs.g) ?_))));rintro _ _ _ w7 h8 hs rfl;exact eV 5 8 (.agg #[.bool (ineg (-a.num)),uV (lo (iabs (-a.num))),.string (hi (iabs (-a.num))),uV (lo (qd a)),.string (hi (qd a))]) (eD0 hs (fun w9 h10 hs=>tP 6 0 0 ([.bool (ineg (-a.num)),uV (lo (iabs (-a.num))),.string (hi (iabs (-a.num))),uV (lo (qd a)),.string (hi (qd a))]) hs (fun w11 hs=>tN (kX (hs.ret [(0,0,5)] (.agg #[.bool (ineg (-a.num)),uV (lo (iabs (-a.num))),.string (hi (iabs (-a.num))),uV (lo (qd a)),.string (hi (qd a))]) (qv_lit (Rat.neg_num a) (by unfold qd;rw[Rat.neg_den])))))))
theorem fLowest (z:Int)(d:Nat)(hd:0<d)(hla:(wds (iabs z)).length≤1000000000)(hlb:(wds d).length≤1000000000)(w:World)(h:Hp)(g:G w h)(tb:Tab h):CV 154 #[iv z,nv d] w h (qv (mkRat z d)):=by
 have hs:=((sS g).aB tb);obtain ⟨hm1,hm2,hm3,hm4⟩:=mkRat_parts z d hd;obtain ⟨q,hq⟩:∃ q,q=Nat.gcd (iabs z) d:=⟨_,rfl⟩;rw[←hq] at hm1 hm2 hm3 hm4
 have hql:(wds q).length≤1000000000:=wds_len_le (by rw[hq];exact Nat.gcd_le_right _ hd) hlb;have hLQ:LQ 1000000000 (mkRat z d):=⟨by rw[hm1];exact wds_len_le (iabs_div_le z q hm3) hla,by rw[hm2];exact wds_len_le (Nat.div_le_self _ _) hlb⟩;refine go Tryz.func154 [(0,iv z),(1,nv d)] rfl (cSL (lA 2 53 (ic z) hs (fun b1 w2 h3 hs=>lA 3 51 (nc d) hs (fun b4 w5 h6 hs=>lA 4 55 ([.bool false,uV 0,eS,uV 0,eS]) hs (fun b7 w8 h9 hs=>lN (cQ ?_))))));have hsr:=hs;refine cR 5 [⟨4,5,.cells (List.toArray [uV 0,eS]) 51 (0,0)⟩] mixed hs (al_cons (alOk kR (fun _ _=>by kernel_rfl)) al_nil) (eO 0 6 [(2,0,3)] (iv z) hs (eO 1 7 [(1,0,2)] (nv d) hs (eC 2 8 hs (fun _ _ hs=>wFromN d _ _ hs.g) ?_)));rintro _ _ _ w10 h11 hs rfl;refine eC 3 9 hs (fun _ _ hs=>wGcdE z (d:Int) q (by first|assumption|exact hq) aOM (show (wds d).length≤1000000000 by first|assumption|omega) _ _ hs.g hs.f.1) ?_;rintro _ _ _ w12 h13 hs rfl;refine eD1p [] hsr hs 51 [uV 0,eS] (fun w14 h15 b16 hs=>tP 5 0 0 (nc q) hs (fun w17 hs=>tN (cQ (cR 7 [] mixed hs al_nil ?_))));refine eO 0 10 [(3,0,3)] (iv z) hs (eO 1 11 [(0,0,2)] (nv q) hs (eO 3 13 [(2,0,2)] (nv d) hs (eO 4 14 [(0,0,2)] (nv q) hs (eC 2 12 hs (fun _ _ hs=>fPart z q aM aM aOM aOM _ _ hs.g) ?_))));rintro _ _ _ w18 h19 hs rfl;refine eC 5 15 hs (fun _ _ hs=>fOver d q aM aOM aOM _ _ hs.g) ?_;rintro _ _ _ w20 h21 hs rfl;refine eC 6 16 hs (fun _ _ hs=>fPackE (mkRat z d) (z/(q:Int)) (d/q) (by first|assumption|exact hm1|exact (hm1).symm) (by first|assumption|exact hm2.symm) aM _ _ hs.g) ?_;rintro _ _ _ w22 h23 hs rfl;exact eD0 hs (fun w24 h25 hs=>tP 7 1 0 (qc (mkRat z d)) hs (fun w26 hs=>tN (kX (hs.ret [(1,0,5)] (qv (mkRat z d)) rfl))))
theorem fIsWholeT (a:Rat)(ha:LQ 100000000 a)(h1:a.den=1)(w:World)(h:Hp)(g:G w h):CV 64 #[qv a] w h (.bool true):=by
  have:=fIsWhole a ha w h g;rwa [decide_eq_true h1] at this
theorem fIsWholeF (a:Rat)(ha:LQ 100000000 a)(h1:a.den≠1)(w:World)(h:Hp)(g:G w h):CV 64 #[qv a] w h (.bool false):=by
  have:=fIsWhole a ha w h g;rwa [decide_eq_false h1] at this
theorem wAddE (x y z:Int)(e:z=x+y)(hl:(wds (iabs x)).length+(wds (iabs y)).length≤999999999)(w:World)(h:Hp)(g:G w h):CV 123 #[iv x,iv y] w h (iv z):=by
  subst e;exact wAdd x y hl w h g
theorem len_imul2 (x y:Int):(wds (iabs (x*y))).length≤(wds (iabs x)).length+(wds (iabs y)).length:=by
  have:iabs (x*y)=iabs x*iabs y:=Int.natAbs_mul x y;rw[this];exact wds_len_mul
theorem len_imul (x:Int)(d:Nat):(wds (iabs (x*((d:Nat):Int)))).length≤(wds (iabs x)).length+(wds d).length:=len_imul2 x (d:Int)
theorem len_iadd (x y:Int):(wds (iabs (x+y))).length≤(wds (iabs x)).length+(wds (iabs y)).length+1 :=
  Nat.le_trans (wds_len_mono (show iabs (x+y)≤iabs x+iabs y from Int.natAbs_add_le x y)) wds_len_add
theorem rat_add_whole {a b:Rat}(ha:a.den=1)(hb:b.den=1):(a+b).num=a.num+b.num∧(a+b).den=1:=by
  obtain ⟨e1,e2,e3,e4,e5,e6⟩:=rat_add a b 1 1 (a.num+b.num) (by rw[ha,hb];rfl) (by rw[ha,hb];simp) (by simp);rw[ha,hb] at e2
  exact ⟨by simpa using e1,by simpa using e2⟩
theorem rat_mul_whole {a b:Rat}(ha:a.den=1)(hb:b.den=1):(a*b).num=a.num*b.num∧(a*b).den=1:=by
  obtain ⟨e1,e2,e3,e4,e5,e6⟩:=rat_mul a b 1 1 (by rw[hb];simp) (by rw[ha];simp);rw[ha,hb] at e2
  exact ⟨by simpa using e1,by simpa using e2⟩
theorem fAddWW (a b:Rat)(ha:LQ 100000000 a)(hb:LQ 100000000 b)(hwa:a.den=1)(hwb:b.den=1)(w:World)(h:Hp)(g:G w h)(tb:Tab h):CV 56 #[qv a,qv b] w h (qv (a+b)):=by
 have hs:=((sS g).aB tb);have ha_:=ha;have hb_:=hb;obtain ⟨ha1,ha2⟩:=ha_;obtain ⟨hb1,hb2⟩:=hb_;refine go Tryz.func56 [(0,qv a),(1,qv b)] rfl (cSL (lA 2 55 (qc a) hs (fun b1 w2 h3 hs=>lA 3 55 (qc b) hs (fun b4 w5 h6 hs=>lA 4 55 ([.bool false,uV 0,eS,uV 0,eS]) hs (fun b7 w8 h9 hs=>lN (cQ (cSL (lL hs [.o 10 (qv a) 2 0 5] (lC 11 hs (fIsWholeT a aM aM _ _ hs.g) ?_)))))))));rintro _ w10 h11 hs rfl;refine lL hs [.m 12 11,.o 13 (qv b) 1 0 5] (lC 14 hs (fIsWholeT b aM aM _ _ hs.g) ?_);rintro _ w12 h13 hs rfl;refine lL hs [.v 15 (.bool true)] (lN (cIT (cSL (lL hs [.v 16 (pB b1),.o 17 (iv a.num) 2 0 3,.v 18 (pB b4),.o 19 (iv b.num) 1 0 3] (lC 20 hs (wAdd a.num b.num aOM _ _ hs.g) ?_)))));rintro _ w14 h15 hs rfl;exact lL hs [.v 21 (.agg #[.bool (ineg (a.num+b.num)),uV (lo (iabs (a.num+b.num))),.string (hi (iabs (a.num+b.num))),uV 0,eS])] (lP 0 0 ([.bool (ineg (a.num+b.num)),uV (lo (iabs (a.num+b.num))),.string (hi (iabs (a.num+b.num))),uV 0,eS]) hs (fun w16 hs=>lN (kX (hs.ret [(0,0,5)] (.agg #[.bool (ineg (a.num+b.num)),uV (lo (iabs (a.num+b.num))),.string (hi (iabs (a.num+b.num))),uV 0,eS]) (qv_lit (d:=0) (rat_add_whole hwa hwb).1 (qd_one (rat_add_whole hwa hwb).2))))))
theorem fAddNN (a b:Rat)(ha:LQ 100000000 a)(hb:LQ 100000000 b)(hwa:a.den≠1)(w:World)(h:Hp)(g:G w h)(tb:Tab h):CV 56 #[qv a,qv b] w h (qv (a+b)):=by
 have hs:=((sS g).aB tb);have ha_:=ha;have hb_:=hb;obtain ⟨ha1,ha2⟩:=ha;obtain ⟨hb1,hb2⟩:=hb;obtain ⟨q,hq⟩:∃ q,q=Nat.gcd a.den b.den:=⟨_,rfl⟩;obtain ⟨up,hup⟩:∃ up,up=a.num*((b.den/q:Nat):Int)+b.num*((a.den/q:Nat):Int):=⟨_,rfl⟩;obtain ⟨r,hr⟩:∃ r,r=Nat.gcd (iabs up) q:=⟨_,rfl⟩;obtain ⟨hm1,hm2,hd1,hd2,hr0,hq0⟩:=rat_add a b q r up hq hup hr;have hql:(wds q).length≤100000000:=wds_len_le (by rw[hq];exact Nat.gcd_le_left _ a.den_pos) ha2;have hrl:(wds r).length≤100000000:=wds_len_le (by rw[hr];exact Nat.gcd_le_right _ hq0) hql;have haq:(wds (a.den/q)).length≤100000000:=wds_len_le (Nat.div_le_self _ _) ha2;have hbq:(wds (b.den/q)).length≤100000000:=wds_len_le (Nat.div_le_self _ _) hb2;have hbr:(wds (b.den/r)).length≤100000000:=wds_len_le (Nat.div_le_self _ _) hb2;have hx1:=len_imul a.num (b.den/q);have hx2:=len_imul b.num (a.den/q);have hul:(wds (iabs up)).length≤999999999:=Nat.le_trans (by rw[hup];exact len_iadd _ _) oM;have hdl:=@wds_len_mul (a.den/q) (b.den/r);have hLQ:LQ 1000000000 (a+b):=⟨by rw[hm1];exact wds_len_le (iabs_div_le up r hd1) oM,by rw[hm2];omega⟩;have ha:=ha_;have hb:=hb_;refine go Tryz.func56 [(0,qv a),(1,qv b)] rfl (cSL (lA 2 55 (qc a) hs (fun b1 w2 h3 hs=>lA 3 55 (qc b) hs (fun b4 w5 h6 hs=>lA 4 55 ([.bool false,uV 0,eS,uV 0,eS]) hs (fun b7 w8 h9 hs=>lN (cQ (cSL (lL hs [.o 10 (qv a) 2 0 5] (lC 11 hs (fIsWholeF a aM aM _ _ hs.g) ?_)))))))));rintro _ w10 h11 hs rfl;refine lL hs [.m 12 11] (lG 13 ?_);refine lG 14 (lL hs [.v 15 (.bool false)] (lN (cIF (cK (cQ ?_)))));have hsr:=hs;refine cR 8 [⟨7,5,.cells (List.toArray [uV 0,eS]) 51 (0,0)⟩] mixed hs (al_cons (alOk kR (fun _ _=>by kernel_rfl)) al_nil) (eO 0 22 [(2,0,5)] (qv a) hs (eO 3 25 [(1,0,5)] (qv b) hs (eC 1 23 hs (fun _ _ hs=>fDen a aM _ _ hs.g) ?_)));rintro _ _ _ w12 h13 hs rfl;refine eC 2 24 hs (fun _ _ hs=>wFromN a.den _ _ hs.g) ?_;rintro _ _ _ w14 h15 hs rfl;refine eC 4 26 hs (fun _ _ hs=>fDen b aM _ _ hs.g) ?_;rintro _ _ _ w16 h17 hs rfl;refine eC 5 27 hs (fun _ _ hs=>wFromN b.den _ _ hs.g) ?_;rintro _ _ _ w18 h19 hs rfl;refine eC 6 28 hs (fun _ _ hs=>wGcdE (a.den:Int) (b.den:Int) q (by first|assumption|exact hq) (show (wds a.den).length≤1000000000 by first|assumption|omega) (show (wds b.den).length≤1000000000 by first|assumption|omega) _ _ hs.g hs.f.1) ?_;rintro _ _ _ w20 h21 hs rfl;refine eD1p [] hsr hs 51 [uV 0,eS] (fun w22 h23 b24 hs=>tP 8 0 0 (nc q) hs (fun w25 hs=>tN (cQ ?_)));have hsr:=hs;refine cRz 10 [⟨8,6,.cells (List.toArray [uV 0,eS]) 51 (0,0)⟩,⟨9,7,.cells (List.toArray [uV 0,eS]) 51 (0,0)⟩] [] mixed hs (al_cons (alOk kR (fun _ _=>by kernel_rfl)) (al_cons (alOk kR (fun _ _=>by kernel_rfl)) al_nil)) (eO 0 29 [(3,0,5)] (qv a) hs (eO 2 31 [(0,0,2)] (nv q) hs (eOz 4 33 [(2,0,5)] (qv b) hsr hs (eOz 6 35 [(0,0,2)] (nv q) hsr hs (eC 1 30 hs (fun _ _ hs=>fDen a aM _ _ hs.g) ?_)))));rintro _ _ _ w26 h27 hs rfl;refine eC 3 32 hs (fun _ _ hs=>fOver a.den q aM aOM aOM _ _ hs.g) ?_;rintro _ _ _ w28 h29 hs rfl;refine eC 5 34 hs (fun _ _ hs=>fDen b aM _ _ hs.g) ?_;rintro _ _ _ w30 h31 hs rfl;refine eC 7 36 hs (fun _ _ hs=>fOver b.den q aM aOM aOM _ _ hs.g) ?_;rintro _ _ _ w32 h33 hs rfl;refine eD2z hsr hs 51 [uV 0,eS] 51 [uV 0,eS] (fun w34 h35 b36 b37 hz38 hz39 hs=>tP 10 0 0 (nc (a.den/q)) hs (fun w40 hs=>?_) (hz:=tlz_new hz38));refine tP 11 1 0 (nc (b.den/q)) hs (fun w41 hs=>?_) (hz:=tlz_new hz39);refine tN (cQ ?_);have hsr:=hs;refine cR 10 [⟨9,8,.cells (List.toArray [.bool false,uV 0,eS]) 53 (0,0)⟩] mixed hs (al_cons (alOk kR (fun _ _=>by kernel_rfl)) al_nil) (eV 0 37 (pB b1) (eO 1 38 [(5,0,3)] (iv a.num) hs (eO 2 39 [(1,0,2)] (nv (b.den/q)) hs (eV 4 41 (pB b4) (eO 5 42 [(4,0,3)] (iv b.num) hs (eO 6 43 [(0,0,2)] (nv (a.den/q)) hs (eC 3 40 hs (fun _ _ hs=>fTimes a.num (b.den/q) aOM _ _ hs.g) ?_)))))));rintro _ _ _ w42 h43 hs rfl;refine eC 7 44 hs (fun _ _ hs=>fTimes b.num (a.den/q) aOM _ _ hs.g) ?_;rintro _ _ _ w44 h45 hs rfl;refine eC 8 45 hs (fun _ _ hs=>wAddE (a.num*(((b.den/q):Nat):Int)) (b.num*(((a.den/q):Nat):Int)) up hup oM _ _ hs.g) ?_;rintro _ _ _ w46 h47 hs rfl;refine eD1p [] hsr hs 53 [.bool false,uV 0,eS] (fun w48 h49 b50 hs=>tP 10 0 0 (ic up) hs (fun w51 hs=>tN (cQ ?_)));have hsr:=hs;refine cR 5 [⟨4,9,.cells (List.toArray [uV 0,eS]) 51 (0,0)⟩] mixed hs (al_cons (alOk kR (fun _ _=>by kernel_rfl)) al_nil) (eO 0 46 [(0,0,3)] (iv up) hs (eO 1 47 [(3,0,2)] (nv q) hs (eC 2 48 hs (fun _ _ hs=>wFromN q _ _ hs.g) ?_)));rintro _ _ _ w52 h53 hs rfl;refine eC 3 49 hs (fun _ _ hs=>wGcdE up (q:Int) r (by first|assumption|exact hr) aOM (show (wds q).length≤1000000000 by first|assumption|omega) _ _ hs.g hs.f.1) ?_;rintro _ _ _ w54 h55 hs rfl;refine eD1p [] hsr hs 51 [uV 0,eS] (fun w56 h57 b58 hs=>tP 5 0 0 (nc r) hs (fun w59 hs=>tN (cTo [(3,pB b4),(4,pB b7),(6,pB b36),(8,pB b50),(9,pB b58)] ?_)));refine cQ (cR 10 [] mixed hs al_nil ?_);refine eO 0 50 [(1,0,3)] (iv up) hs (eO 1 51 [(0,0,2)] (nv r) hs (eO 3 53 [(2,0,2)] (nv (a.den/q)) hs (eO 4 54 [(6,0,5)] (qv b) hs (eO 6 56 [(0,0,2)] (nv r) hs (eC 2 52 hs (fun _ _ hs=>fPart up r aM aM aOM aOM _ _ hs.g) ?_)))));rintro _ _ _ w60 h61 hs rfl;refine eC 5 55 hs (fun _ _ hs=>fDen b aM _ _ hs.g) ?_;rintro _ _ _ w62 h63 hs rfl;refine eC 7 57 hs (fun _ _ hs=>fOver b.den r aM aOM aOM _ _ hs.g) ?_;rintro _ _ _ w64 h65 hs rfl;refine eC 8 58 hs (fun _ _ hs=>nMul (a.den/q) (b.den/r) aOM aOM _ _ hs.g) ?_;rintro _ _ _ w66 h67 hs rfl;refine eC 9 59 hs (fun _ _ hs=>fPackE (a+b) (up/(r:Int)) ((a.den/q)*(b.den/r)) (by first|assumption|exact hm1|exact (hm1).symm) (by first|assumption|exact hm2.symm) aM _ _ hs.g) ?_;rintro _ _ _ w68 h69 hs rfl;exact eD0 hs (fun w70 h71 hs=>tP 10 5 0 (qc (a+b)) hs (fun w72 hs=>tN (kX (hs.ret [(5,0,5)] (qv (a+b)) rfl))))
theorem fAddWN (a b:Rat)(ha:LQ 100000000 a)(hb:LQ 100000000 b)(hwa:a.den=1)(hwb:b.den≠1)(w:World)(h:Hp)(g:G w h)(tb:Tab h):CV 56 #[qv a,qv b] w h (qv (a+b)):=by
 have hs:=((sS g).aB tb);have ha_:=ha;have hb_:=hb;obtain ⟨ha1,ha2⟩:=ha;obtain ⟨hb1,hb2⟩:=hb;obtain ⟨q,hq⟩:∃ q,q=Nat.gcd a.den b.den:=⟨_,rfl⟩;obtain ⟨up,hup⟩:∃ up,up=a.num*((b.den/q:Nat):Int)+b.num*((a.den/q:Nat):Int):=⟨_,rfl⟩;obtain ⟨r,hr⟩:∃ r,r=Nat.gcd (iabs up) q:=⟨_,rfl⟩;obtain ⟨hm1,hm2,hd1,hd2,hr0,hq0⟩:=rat_add a b q r up hq hup hr;have hql:(wds q).length≤100000000:=wds_len_le (by rw[hq];exact Nat.gcd_le_left _ a.den_pos) ha2;have hrl:(wds r).length≤100000000:=wds_len_le (by rw[hr];exact Nat.gcd_le_right _ hq0) hql;have haq:(wds (a.den/q)).length≤100000000:=wds_len_le (Nat.div_le_self _ _) ha2;have hbq:(wds (b.den/q)).length≤100000000:=wds_len_le (Nat.div_le_self _ _) hb2;have hbr:(wds (b.den/r)).length≤100000000:=wds_len_le (Nat.div_le_self _ _) hb2;have hx1:=len_imul a.num (b.den/q);have hx2:=len_imul b.num (a.den/q);have hul:(wds (iabs up)).length≤999999999:=Nat.le_trans (by rw[hup];exact len_iadd _ _) oM;have hdl:=@wds_len_mul (a.den/q) (b.den/r);have hLQ:LQ 1000000000 (a+b):=⟨by rw[hm1];exact wds_len_le (iabs_div_le up r hd1) oM,by rw[hm2];omega⟩;have ha:=ha_;have hb:=hb_;refine go Tryz.func56 [(0,qv a),(1,qv b)] rfl (cSL (lA 2 55 (qc a) hs (fun b1 w2 h3 hs=>lA 3 55 (qc b) hs (fun b4 w5 h6 hs=>lA 4 55 ([.bool false,uV 0,eS,uV 0,eS]) hs (fun b7 w8 h9 hs=>lN (cQ (cSL (lL hs [.o 10 (qv a) 2 0 5] (lC 11 hs (fIsWholeT a aM aM _ _ hs.g) ?_)))))))));rintro _ w10 h11 hs rfl;refine lL hs [.m 12 11,.o 13 (qv b) 1 0 5] (lC 14 hs (fIsWholeF b aM aM _ _ hs.g) ?_);rintro _ w12 h13 hs rfl;refine lL hs [.v 15 (.bool false)] (lN (cIF (cK (cQ ?_))));have hsr:=hs;refine cR 8 [⟨7,5,.cells (List.toArray [uV 0,eS]) 51 (0,0)⟩] mixed hs (al_cons (alOk kR (fun _ _=>by kernel_rfl)) al_nil) (eO 0 22 [(2,0,5)] (qv a) hs (eO 3 25 [(1,0,5)] (qv b) hs (eC 1 23 hs (fun _ _ hs=>fDen a aM _ _ hs.g) ?_)));rintro _ _ _ w14 h15 hs rfl;refine eC 2 24 hs (fun _ _ hs=>wFromN a.den _ _ hs.g) ?_;rintro _ _ _ w16 h17 hs rfl;refine eC 4 26 hs (fun _ _ hs=>fDen b aM _ _ hs.g) ?_;rintro _ _ _ w18 h19 hs rfl;refine eC 5 27 hs (fun _ _ hs=>wFromN b.den _ _ hs.g) ?_;rintro _ _ _ w20 h21 hs rfl;refine eC 6 28 hs (fun _ _ hs=>wGcdE (a.den:Int) (b.den:Int) q (by first|assumption|exact hq) (show (wds a.den).length≤1000000000 by first|assumption|omega) (show (wds b.den).length≤1000000000 by first|assumption|omega) _ _ hs.g hs.f.1) ?_;rintro _ _ _ w22 h23 hs rfl;refine eD1p [] hsr hs 51 [uV 0,eS] (fun w24 h25 b26 hs=>tP 8 0 0 (nc q) hs (fun w27 hs=>tN (cQ ?_)));have hsr:=hs;refine cRz 10 [⟨8,6,.cells (List.toArray [uV 0,eS]) 51 (0,0)⟩,⟨9,7,.cells (List.toArray [uV 0,eS]) 51 (0,0)⟩] [] mixed hs (al_cons (alOk kR (fun _ _=>by kernel_rfl)) (al_cons (alOk kR (fun _ _=>by kernel_rfl)) al_nil)) (eO 0 29 [(3,0,5)] (qv a) hs (eO 2 31 [(0,0,2)] (nv q) hs (eOz 4 33 [(2,0,5)] (qv b) hsr hs (eOz 6 35 [(0,0,2)] (nv q) hsr hs (eC 1 30 hs (fun _ _ hs=>fDen a aM _ _ hs.g) ?_)))));rintro _ _ _ w28 h29 hs rfl;refine eC 3 32 hs (fun _ _ hs=>fOver a.den q aM aOM aOM _ _ hs.g) ?_;rintro _ _ _ w30 h31 hs rfl;refine eC 5 34 hs (fun _ _ hs=>fDen b aM _ _ hs.g) ?_;rintro _ _ _ w32 h33 hs rfl;refine eC 7 36 hs (fun _ _ hs=>fOver b.den q aM aOM aOM _ _ hs.g) ?_;rintro _ _ _ w34 h35 hs rfl;refine eD2z hsr hs 51 [uV 0,eS] 51 [uV 0,eS] (fun w36 h37 b38 b39 hz40 hz41 hs=>tP 10 0 0 (nc (a.den/q)) hs (fun w42 hs=>?_) (hz:=tlz_new hz40));refine tP 11 1 0 (nc (b.den/q)) hs (fun w43 hs=>?_) (hz:=tlz_new hz41);refine tN (cQ ?_);have hsr:=hs;refine cR 10 [⟨9,8,.cells (List.toArray [.bool false,uV 0,eS]) 53 (0,0)⟩] mixed hs (al_cons (alOk kR (fun _ _=>by kernel_rfl)) al_nil) (eV 0 37 (pB b1) (eO 1 38 [(5,0,3)] (iv a.num) hs (eO 2 39 [(1,0,2)] (nv (b.den/q)) hs (eV 4 41 (pB b4) (eO 5 42 [(4,0,3)] (iv b.num) hs (eO 6 43 [(0,0,2)] (nv (a.den/q)) hs (eC 3 40 hs (fun _ _ hs=>fTimes a.num (b.den/q) aOM _ _ hs.g) ?_)))))));rintro _ _ _ w44 h45 hs rfl;refine eC 7 44 hs (fun _ _ hs=>fTimes b.num (a.den/q) aOM _ _ hs.g) ?_;rintro _ _ _ w46 h47 hs rfl;refine eC 8 45 hs (fun _ _ hs=>wAddE (a.num*(((b.den/q):Nat):Int)) (b.num*(((a.den/q):Nat):Int)) up hup oM _ _ hs.g) ?_;rintro _ _ _ w48 h49 hs rfl;refine eD1p [] hsr hs 53 [.bool false,uV 0,eS] (fun w50 h51 b52 hs=>tP 10 0 0 (ic up) hs (fun w53 hs=>tN (cQ ?_)));have hsr:=hs;refine cR 5 [⟨4,9,.cells (List.toArray [uV 0,eS]) 51 (0,0)⟩] mixed hs (al_cons (alOk kR (fun _ _=>by kernel_rfl)) al_nil) (eO 0 46 [(0,0,3)] (iv up) hs (eO 1 47 [(3,0,2)] (nv q) hs (eC 2 48 hs (fun _ _ hs=>wFromN q _ _ hs.g) ?_)));rintro _ _ _ w54 h55 hs rfl;refine eC 3 49 hs (fun _ _ hs=>wGcdE up (q:Int) r (by first|assumption|exact hr) aOM (show (wds q).length≤1000000000 by first|assumption|omega) _ _ hs.g hs.f.1) ?_;rintro _ _ _ w56 h57 hs rfl;refine eD1p [] hsr hs 51 [uV 0,eS] (fun w58 h59 b60 hs=>tP 5 0 0 (nc r) hs (fun w61 hs=>tN (cTo [(3,pB b4),(4,pB b7),(6,pB b38),(8,pB b52),(9,pB b60)] ?_)));refine cQ (cR 10 [] mixed hs al_nil ?_);refine eO 0 50 [(1,0,3)] (iv up) hs (eO 1 51 [(0,0,2)] (nv r) hs (eO 3 53 [(2,0,2)] (nv (a.den/q)) hs (eO 4 54 [(6,0,5)] (qv b) hs (eO 6 56 [(0,0,2)] (nv r) hs (eC 2 52 hs (fun _ _ hs=>fPart up r aM aM aOM aOM _ _ hs.g) ?_)))));rintro _ _ _ w62 h63 hs rfl;refine eC 5 55 hs (fun _ _ hs=>fDen b aM _ _ hs.g) ?_;rintro _ _ _ w64 h65 hs rfl;refine eC 7 57 hs (fun _ _ hs=>fOver b.den r aM aOM aOM _ _ hs.g) ?_;rintro _ _ _ w66 h67 hs rfl;refine eC 8 58 hs (fun _ _ hs=>nMul (a.den/q) (b.den/r) aOM aOM _ _ hs.g) ?_;rintro _ _ _ w68 h69 hs rfl;refine eC 9 59 hs (fun _ _ hs=>fPackE (a+b) (up/(r:Int)) ((a.den/q)*(b.den/r)) (by first|assumption|exact hm1|exact (hm1).symm) (by first|assumption|exact hm2.symm) aM _ _ hs.g) ?_;rintro _ _ _ w70 h71 hs rfl;exact eD0 hs (fun w72 h73 hs=>tP 10 5 0 (qc (a+b)) hs (fun w74 hs=>tN (kX (hs.ret [(5,0,5)] (qv (a+b)) rfl))))
theorem fAdd (a b:Rat)(ha:LQ 100000000 a)(hb:LQ 100000000 b)(w:World)(h:Hp)(g:G w h)(tb:Tab h):CV 56 #[qv a,qv b] w h (qv (a+b)):=by
  by_cases h1:a.den=1
  · by_cases h2:b.den=1
    · exact fAddWW a b ha hb h1 h2 w h g tb
    · exact fAddWN a b ha hb h1 h2 w h g tb
  · exact fAddNN a b ha hb h1 w h g tb
theorem fMulWW (a b:Rat)(ha:LQ 100000000 a)(hb:LQ 100000000 b)(hwa:a.den=1)(hwb:b.den=1)(w:World)(h:Hp)(g:G w h)(tb:Tab h):CV 55 #[qv a,qv b] w h (qv (a*b)):=by
 have hs:=((sS g).aB tb);have ha_:=ha;have hb_:=hb;obtain ⟨ha1,ha2⟩:=ha_;obtain ⟨hb1,hb2⟩:=hb_;refine go Tryz.func55 [(0,qv a),(1,qv b)] rfl (cSL (lA 2 55 (qc a) hs (fun b1 w2 h3 hs=>lA 3 55 (qc b) hs (fun b4 w5 h6 hs=>lA 4 55 ([.bool false,uV 0,eS,uV 0,eS]) hs (fun b7 w8 h9 hs=>lN (cQ (cSL (lL hs [.o 7 (qv a) 2 0 5] (lC 8 hs (fIsWholeT a aM aM _ _ hs.g) ?_)))))))));rintro _ w10 h11 hs rfl;refine lL hs [.m 9 8,.o 10 (qv b) 1 0 5] (lC 11 hs (fIsWholeT b aM aM _ _ hs.g) ?_);rintro _ w12 h13 hs rfl;refine lL hs [.v 12 (.bool true)] (lN (cIT (cSL (lL hs [.v 13 (pB b1),.o 14 (iv a.num) 2 0 3,.v 15 (pB b4),.o 16 (iv b.num) 1 0 3] (lC 17 hs (wMul a.num b.num aOM _ _ hs.g) ?_)))));rintro _ w14 h15 hs rfl;exact lL hs [.v 18 (.agg #[.bool (ineg (a.num*b.num)),uV (lo (iabs (a.num*b.num))),.string (hi (iabs (a.num*b.num))),uV 0,eS])] (lP 0 0 ([.bool (ineg (a.num*b.num)),uV (lo (iabs (a.num*b.num))),.string (hi (iabs (a.num*b.num))),uV 0,eS]) hs (fun w16 hs=>lN (kX (hs.ret [(0,0,5)] (.agg #[.bool (ineg (a.num*b.num)),uV (lo (iabs (a.num*b.num))),.string (hi (iabs (a.num*b.num))),uV 0,eS]) (qv_lit (d:=0) (rat_mul_whole hwa hwb).1 (qd_one (rat_mul_whole hwa hwb).2))))))
theorem fMulNN (a b:Rat)(ha:LQ 100000000 a)(hb:LQ 100000000 b)(hwa:a.den≠1)(w:World)(h:Hp)(g:G w h)(tb:Tab h):CV 55 #[qv a,qv b] w h (qv (a*b)):=by
 have hs:=((sS g).aB tb);have ha_:=ha;have hb_:=hb;obtain ⟨ha1,ha2⟩:=ha;obtain ⟨hb1,hb2⟩:=hb;obtain ⟨q,hq⟩:∃ q,q=Nat.gcd (iabs a.num) b.den:=⟨_,rfl⟩;obtain ⟨r,hr⟩:∃ r,r=Nat.gcd (iabs b.num) a.den:=⟨_,rfl⟩;obtain ⟨hm1,hm2,hd1,hd2,hq0,hr0⟩:=rat_mul a b q r hq hr;have hql:(wds q).length≤100000000:=wds_len_le (by rw[hq];exact Nat.gcd_le_right _ b.den_pos) hb2;have hrl:(wds r).length≤100000000:=wds_len_le (by rw[hr];exact Nat.gcd_le_right _ a.den_pos) ha2;have haq:(wds (iabs (a.num/(q:Int)))).length≤100000000:=wds_len_le (iabs_div_le _ _ hd1) ha1;have hbr:(wds (iabs (b.num/(r:Int)))).length≤100000000:=wds_len_le (iabs_div_le _ _ hd2) hb1;have har:(wds (a.den/r)).length≤100000000:=wds_len_le (Nat.div_le_self _ _) ha2;have hbq:(wds (b.den/q)).length≤100000000:=wds_len_le (Nat.div_le_self _ _) hb2;have hdl:=@wds_len_mul (a.den/r) (b.den/q);have hnl:=len_imul2 (a.num/(q:Int)) (b.num/(r:Int));have hLQ:LQ 1000000000 (a*b):=⟨by rw[hm1];omega,by rw[hm2];omega⟩;have ha:=ha_;have hb:=hb_;refine go Tryz.func55 [(0,qv a),(1,qv b)] rfl (cSL (lA 2 55 (qc a) hs (fun b1 w2 h3 hs=>lA 3 55 (qc b) hs (fun b4 w5 h6 hs=>lA 4 55 ([.bool false,uV 0,eS,uV 0,eS]) hs (fun b7 w8 h9 hs=>lN (cQ (cSL (lL hs [.o 7 (qv a) 2 0 5] (lC 8 hs (fIsWholeF a aM aM _ _ hs.g) ?_)))))))));rintro _ w10 h11 hs rfl;refine lL hs [.m 9 8] (lG 10 ?_);refine lG 11 (lL hs [.v 12 (.bool false)] (lN (cIF (cK (cQ ?_)))));have hsr:=hs;refine cR 7 [⟨6,5,.cells (List.toArray [uV 0,eS]) 51 (0,0)⟩] mixed hs (al_cons (alOk kR (fun _ _=>by kernel_rfl)) al_nil) (eV 0 19 (pB b1) (eO 1 20 [(2,0,3)] (iv a.num) hs (eO 2 21 [(1,0,5)] (qv b) hs (eC 3 22 hs (fun _ _ hs=>fDen b aM _ _ hs.g) ?_))));rintro _ _ _ w12 h13 hs rfl;refine eC 4 23 hs (fun _ _ hs=>wFromN b.den _ _ hs.g) ?_;rintro _ _ _ w14 h15 hs rfl;refine eC 5 24 hs (fun _ _ hs=>wGcdE a.num (b.den:Int) q (by first|assumption|exact hq) aOM (show (wds b.den).length≤1000000000 by first|assumption|omega) _ _ hs.g hs.f.1) ?_;rintro _ _ _ w16 h17 hs rfl;refine eD1p [] hsr hs 51 [uV 0,eS] (fun w18 h19 b20 hs=>tP 7 0 0 (nc q) hs (fun w21 hs=>tN (cQ ?_)));have hsr:=hs;refine cR 7 [⟨6,6,.cells (List.toArray [uV 0,eS]) 51 (0,0)⟩] mixed hs (al_cons (alOk kR (fun _ _=>by kernel_rfl)) al_nil) (eV 0 25 (pB b4) (eO 1 26 [(2,0,3)] (iv b.num) hs (eO 2 27 [(3,0,5)] (qv a) hs (eC 3 28 hs (fun _ _ hs=>fDen a aM _ _ hs.g) ?_))));rintro _ _ _ w22 h23 hs rfl;refine eC 4 29 hs (fun _ _ hs=>wFromN a.den _ _ hs.g) ?_;rintro _ _ _ w24 h25 hs rfl;refine eC 5 30 hs (fun _ _ hs=>wGcdE b.num (a.den:Int) r (by first|assumption|exact hr) aOM (show (wds a.den).length≤1000000000 by first|assumption|omega) _ _ hs.g hs.f.1) ?_;rintro _ _ _ w26 h27 hs rfl;refine eD1p [] hsr hs 51 [uV 0,eS] (fun w28 h29 b30 hs=>tP 7 0 0 (nc r) hs (fun w31 hs=>tN (cQ (cR 19 [] mixed hs al_nil ?_))));refine eV 0 31 (pB b1) (eO 1 32 [(4,0,3)] (iv a.num) hs (eO 2 33 [(1,0,2)] (nv q) hs (eV 4 35 (pB b4) (eO 5 36 [(3,0,3)] (iv b.num) hs (eO 6 37 [(0,0,2)] (nv r) hs (eO 9 40 [(4,0,5)] (qv a) hs (eO 11 42 [(0,0,2)] (nv r) hs (eO 13 44 [(3,0,5)] (qv b) hs (eO 15 46 [(1,0,2)] (nv q) hs (eC 3 34 hs (fun _ _ hs=>fPart a.num q aM aM aOM aOM _ _ hs.g) ?_))))))))));rintro _ _ _ w32 h33 hs rfl;refine eC 7 38 hs (fun _ _ hs=>fPart b.num r aM aM aOM aOM _ _ hs.g) ?_;rintro _ _ _ w34 h35 hs rfl;refine eC 8 39 hs (fun _ _ hs=>wMul (a.num/(q:Int)) (b.num/(r:Int)) aOM _ _ hs.g) ?_;rintro _ _ _ w36 h37 hs rfl;refine eC 10 41 hs (fun _ _ hs=>fDen a aM _ _ hs.g) ?_;rintro _ _ _ w38 h39 hs rfl;refine eC 12 43 hs (fun _ _ hs=>fOver a.den r aM aOM aOM _ _ hs.g) ?_;rintro _ _ _ w40 h41 hs rfl;refine eC 14 45 hs (fun _ _ hs=>fDen b aM _ _ hs.g) ?_;rintro _ _ _ w42 h43 hs rfl;refine eC 16 47 hs (fun _ _ hs=>fOver b.den q aM aOM aOM _ _ hs.g) ?_;rintro _ _ _ w44 h45 hs rfl;refine eC 17 48 hs (fun _ _ hs=>nMul (a.den/r) (b.den/q) aOM aOM _ _ hs.g) ?_;rintro _ _ _ w46 h47 hs rfl;refine eC 18 49 hs (fun _ _ hs=>fPackE (a*b) ((a.num/(q:Int))*(b.num/(r:Int))) ((a.den/r)*(b.den/q)) (by first|assumption|exact hm1|exact (hm1).symm) (by first|assumption|exact hm2.symm) aM _ _ hs.g) ?_;rintro _ _ _ w48 h49 hs rfl;refine eD0 hs (fun w50 h51 hs=>tP 19 2 0 (qc (a*b)) hs (fun w52 hs=>tN (cTo [(4,pB b7)] ?_)));exact kX (hs.ret [(2,0,5)] (qv (a*b)) rfl)
theorem fMulWN (a b:Rat)(ha:LQ 100000000 a)(hb:LQ 100000000 b)(hwa:a.den=1)(hwb:b.den≠1)(w:World)(h:Hp)(g:G w h)(tb:Tab h):CV 55 #[qv a,qv b] w h (qv (a*b)):=by
 have hs:=((sS g).aB tb);have ha_:=ha;have hb_:=hb;obtain ⟨ha1,ha2⟩:=ha;obtain ⟨hb1,hb2⟩:=hb;obtain ⟨q,hq⟩:∃ q,q=Nat.gcd (iabs a.num) b.den:=⟨_,rfl⟩;obtain ⟨r,hr⟩:∃ r,r=Nat.gcd (iabs b.num) a.den:=⟨_,rfl⟩;obtain ⟨hm1,hm2,hd1,hd2,hq0,hr0⟩:=rat_mul a b q r hq hr;have hql:(wds q).length≤100000000:=wds_len_le (by rw[hq];exact Nat.gcd_le_right _ b.den_pos) hb2;have hrl:(wds r).length≤100000000:=wds_len_le (by rw[hr];exact Nat.gcd_le_right _ a.den_pos) ha2;have haq:(wds (iabs (a.num/(q:Int)))).length≤100000000:=wds_len_le (iabs_div_le _ _ hd1) ha1;have hbr:(wds (iabs (b.num/(r:Int)))).length≤100000000:=wds_len_le (iabs_div_le _ _ hd2) hb1;have har:(wds (a.den/r)).length≤100000000:=wds_len_le (Nat.div_le_self _ _) ha2;have hbq:(wds (b.den/q)).length≤100000000:=wds_len_le (Nat.div_le_self _ _) hb2;have hdl:=@wds_len_mul (a.den/r) (b.den/q);have hnl:=len_imul2 (a.num/(q:Int)) (b.num/(r:Int));have hLQ:LQ 1000000000 (a*b):=⟨by rw[hm1];omega,by rw[hm2];omega⟩;have ha:=ha_;have hb:=hb_;refine go Tryz.func55 [(0,qv a),(1,qv b)] rfl (cSL (lA 2 55 (qc a) hs (fun b1 w2 h3 hs=>lA 3 55 (qc b) hs (fun b4 w5 h6 hs=>lA 4 55 ([.bool false,uV 0,eS,uV 0,eS]) hs (fun b7 w8 h9 hs=>lN (cQ (cSL (lL hs [.o 7 (qv a) 2 0 5] (lC 8 hs (fIsWholeT a aM aM _ _ hs.g) ?_)))))))));rintro _ w10 h11 hs rfl;refine lL hs [.m 9 8,.o 10 (qv b) 1 0 5] (lC 11 hs (fIsWholeF b aM aM _ _ hs.g) ?_);rintro _ w12 h13 hs rfl;refine lL hs [.v 12 (.bool false)] (lN (cIF (cK (cQ ?_))));have hsr:=hs;refine cR 7 [⟨6,5,.cells (List.toArray [uV 0,eS]) 51 (0,0)⟩] mixed hs (al_cons (alOk kR (fun _ _=>by kernel_rfl)) al_nil) (eV 0 19 (pB b1) (eO 1 20 [(2,0,3)] (iv a.num) hs (eO 2 21 [(1,0,5)] (qv b) hs (eC 3 22 hs (fun _ _ hs=>fDen b aM _ _ hs.g) ?_))));rintro _ _ _ w14 h15 hs rfl;refine eC 4 23 hs (fun _ _ hs=>wFromN b.den _ _ hs.g) ?_;rintro _ _ _ w16 h17 hs rfl;refine eC 5 24 hs (fun _ _ hs=>wGcdE a.num (b.den:Int) q (by first|assumption|exact hq) aOM (show (wds b.den).length≤1000000000 by first|assumption|omega) _ _ hs.g hs.f.1) ?_;rintro _ _ _ w18 h19 hs rfl;refine eD1p [] hsr hs 51 [uV 0,eS] (fun w20 h21 b22 hs=>tP 7 0 0 (nc q) hs (fun w23 hs=>tN (cQ ?_)));have hsr:=hs;refine cR 7 [⟨6,6,.cells (List.toArray [uV 0,eS]) 51 (0,0)⟩] mixed hs (al_cons (alOk kR (fun _ _=>by kernel_rfl)) al_nil) (eV 0 25 (pB b4) (eO 1 26 [(2,0,3)] (iv b.num) hs (eO 2 27 [(3,0,5)] (qv a) hs (eC 3 28 hs (fun _ _ hs=>fDen a aM _ _ hs.g) ?_))));rintro _ _ _ w24 h25 hs rfl;refine eC 4 29 hs (fun _ _ hs=>wFromN a.den _ _ hs.g) ?_;rintro _ _ _ w26 h27 hs rfl;refine eC 5 30 hs (fun _ _ hs=>wGcdE b.num (a.den:Int) r (by first|assumption|exact hr) aOM (show (wds a.den).length≤1000000000 by first|assumption|omega) _ _ hs.g hs.f.1) ?_;rintro _ _ _ w28 h29 hs rfl;refine eD1p [] hsr hs 51 [uV 0,eS] (fun w30 h31 b32 hs=>tP 7 0 0 (nc r) hs (fun w33 hs=>tN (cQ (cR 19 [] mixed hs al_nil ?_))));refine eV 0 31 (pB b1) (eO 1 32 [(4,0,3)] (iv a.num) hs (eO 2 33 [(1,0,2)] (nv q) hs (eV 4 35 (pB b4) (eO 5 36 [(3,0,3)] (iv b.num) hs (eO 6 37 [(0,0,2)] (nv r) hs (eO 9 40 [(4,0,5)] (qv a) hs (eO 11 42 [(0,0,2)] (nv r) hs (eO 13 44 [(3,0,5)] (qv b) hs (eO 15 46 [(1,0,2)] (nv q) hs (eC 3 34 hs (fun _ _ hs=>fPart a.num q aM aM aOM aOM _ _ hs.g) ?_))))))))));rintro _ _ _ w34 h35 hs rfl;refine eC 7 38 hs (fun _ _ hs=>fPart b.num r aM aM aOM aOM _ _ hs.g) ?_;rintro _ _ _ w36 h37 hs rfl;refine eC 8 39 hs (fun _ _ hs=>wMul (a.num/(q:Int)) (b.num/(r:Int)) aOM _ _ hs.g) ?_;rintro _ _ _ w38 h39 hs rfl;refine eC 10 41 hs (fun _ _ hs=>fDen a aM _ _ hs.g) ?_;rintro _ _ _ w40 h41 hs rfl;refine eC 12 43 hs (fun _ _ hs=>fOver a.den r aM aOM aOM _ _ hs.g) ?_;rintro _ _ _ w42 h43 hs rfl;refine eC 14 45 hs (fun _ _ hs=>fDen b aM _ _ hs.g) ?_;rintro _ _ _ w44 h45 hs rfl;refine eC 16 47 hs (fun _ _ hs=>fOver b.den q aM aOM aOM _ _ hs.g) ?_;rintro _ _ _ w46 h47 hs rfl;refine eC 17 48 hs (fun _ _ hs=>nMul (a.den/r) (b.den/q) aOM aOM _ _ hs.g) ?_;rintro _ _ _ w48 h49 hs rfl;refine eC 18 49 hs (fun _ _ hs=>fPackE (a*b) ((a.num/(q:Int))*(b.num/(r:Int))) ((a.den/r)*(b.den/q)) (by first|assumption|exact hm1|exact (hm1).symm) (by first|assumption|exact hm2.symm) aM _ _ hs.g) ?_;rintro _ _ _ w50 h51 hs rfl;refine eD0 hs (fun w52 h53 hs=>tP 19 2 0 (qc (a*b)) hs (fun w54 hs=>tN (cTo [(4,pB b7)] ?_)));exact kX (hs.ret [(2,0,5)] (qv (a*b)) rfl)
theorem fMul (a b:Rat)(ha:LQ 100000000 a)(hb:LQ 100000000 b)(w:World)(h:Hp)(g:G w h)(tb:Tab h):CV 55 #[qv a,qv b] w h (qv (a*b)):=by
  by_cases h1:a.den=1
  · by_cases h2:b.den=1
    · exact fMulWW a b ha hb h1 h2 w h g tb
    · exact fMulWN a b ha hb h1 h2 w h g tb
  · exact fMulNN a b ha hb h1 w h g tb
theorem LQ.neg {k:Nat}{a:Rat}(h:LQ k a):LQ k (-a):=⟨by rw[Rat.neg_num];unfold iabs;rw[Int.natAbs_neg];exact h.1,by rw[Rat.neg_den];exact h.2⟩
theorem fSub (a b:Rat)(ha:LQ 100000000 a)(hb:LQ 100000000 b)(w:World)(h:Hp)(g:G w h)(tb:Tab h):CV 143 #[qv a,qv b] w h (qv (a-b)):=by
 have hs:=((sS g).aB tb);have hnb:=hb.neg;refine go Tryz.func143 [(0,qv a),(1,qv b)] rfl (cSL (lA 2 55 (qc a) hs (fun b1 w2 h3 hs=>lA 3 55 (qc b) hs (fun b4 w5 h6 hs=>lA 4 55 ([.bool false,uV 0,eS,uV 0,eS]) hs (fun b7 w8 h9 hs=>lN (cQ (cR 4 [] mixed hs al_nil ?_)))))));refine eO 0 5 [(2,0,5)] (qv a) hs (eO 1 6 [(1,0,5)] (qv b) hs (eC 2 7 hs (fun _ _ hs=>fNeg b aM _ _ hs.g) ?_));rintro _ _ _ w10 h11 hs rfl;refine eC 3 8 hs (fun _ _ hs=>fAdd a (-b) aM aM _ _ hs.g hs.f.1) ?_;rintro _ _ _ w12 h13 hs rfl;exact eD0 hs (fun w14 h15 hs=>tP 4 0 0 (qc (a+(-b))) hs (fun w16 hs=>tN (kX (hs.ret [(0,0,5)] (qv (a+(-b))) (by rw[Rat.sub_eq_add_neg])))))
theorem LQ.add {k l:Nat}{a b:Rat}(ha:LQ k a)(hb:LQ l b):LQ (k+l+1) (a+b):=by
  obtain ⟨ha1,ha2⟩:=ha;obtain ⟨hb1,hb2⟩:=hb;obtain ⟨q,hq⟩:∃ q,q=Nat.gcd a.den b.den:=⟨_,rfl⟩;obtain ⟨up,hup⟩:∃ up,up=a.num*((b.den/q:Nat):Int)+b.num*((a.den/q:Nat):Int):=⟨_,rfl⟩;obtain ⟨r,hr⟩:∃ r,r=Nat.gcd (iabs up) q:=⟨_,rfl⟩;obtain ⟨hm1,hm2,hd1,hd2,hr0,hq0⟩:=rat_add a b q r up hq hup hr;have haq:=wds_len_le (Nat.div_le_self a.den q) ha2;have hbq:=wds_len_le (Nat.div_le_self b.den q) hb2;have hbr:=wds_len_le (Nat.div_le_self b.den r) hb2;have hx1:=len_imul a.num (b.den/q);have hx2:=len_imul b.num (a.den/q);have hdl:=@wds_len_mul (a.den/q) (b.den/r);refine ⟨?_,by rw[hm2];omega⟩;rw[hm1];refine wds_len_le (iabs_div_le up r hd1) ?_;rw[hup];exact Nat.le_trans (wds_len_mono (show iabs _≤iabs _+iabs _ from Int.natAbs_add_le _ _)) (wds_len_max oM oM)
theorem LQ.mul {k l:Nat}{a b:Rat}(ha:LQ k a)(hb:LQ l b):LQ (k+l) (a*b):=by
  obtain ⟨ha1,ha2⟩:=ha;obtain ⟨hb1,hb2⟩:=hb;obtain ⟨hm1,hm2,hd1,hd2,hq0,hr0⟩:=rat_mul a b _ _ rfl rfl;refine ⟨?_,?_⟩
  · rw[hm1]
    have h1:=wds_len_le (iabs_div_le _ _ hd1) ha1;have h2:=wds_len_le (iabs_div_le _ _ hd2) hb1;exact Nat.le_trans (len_imul2 _ _) oM
  · rw[hm2]
    have h1:=wds_len_le (Nat.div_le_self a.den (Nat.gcd (iabs b.num) a.den)) ha2;have h2:=wds_len_le (Nat.div_le_self b.den (Nat.gcd (iabs a.num) b.den)) hb2;exact Nat.le_trans wds_len_mul oM
theorem LQ.mono {k l:Nat}{a:Rat}(h:LQ k a)(hkl:k≤l):LQ l a:=⟨Nat.le_trans h.1 hkl,Nat.le_trans h.2 hkl⟩
def cmpR (a b:Rat):Int:=cmpI (a.num*b.den) (b.num*a.den)
theorem cmpR_whole {a b:Rat}(h1:a.den=1)(h2:b.den=1):cmpI a.num b.num=cmpR a b:=by unfold cmpR;rw[h1,h2];simp
theorem cmpR_sign {a b:Rat}(h:(a.num.sign != b.num.sign)=true):cmpI a.num b.num=cmpR a b:=by
  have h:a.num.sign≠b.num.sign:=by simpa using h
  have ha:=a.den_pos;have hb:=b.den_pos
  unfold cmpR cmpI
  rcases Int.lt_trichotomy a.num 0 with p|p|p<;>rcases Int.lt_trichotomy b.num 0 with q|q|q
  · exact absurd (by rw[Int.sign_eq_neg_one_of_neg p,Int.sign_eq_neg_one_of_neg q]) h
  · have:a.num*(b.den:Int)<0:=Int.mul_neg_of_neg_of_pos p oM
    rw[q];simp;rw[if_pos p,if_pos this]
  · have t1:a.num*(b.den:Int)<0:=Int.mul_neg_of_neg_of_pos p oM
    have t2:0<b.num*(a.den:Int):=Int.mul_pos q oM;rw[if_pos oM,if_pos oM]
  · have:b.num*(a.den:Int)<0:=Int.mul_neg_of_neg_of_pos q oM
    rw[p];simp;rw[if_neg oM,if_pos q,if_neg oM,if_pos this]
  · exact absurd (by rw[p,q]) h
  · have:0<b.num*(a.den:Int):=Int.mul_pos q oM
    rw[p];simp;rw[if_pos q,if_pos this]
  · have t1:0<a.num*(b.den:Int):=Int.mul_pos p oM
    have t2:b.num*(a.den:Int)<0:=Int.mul_neg_of_neg_of_pos q oM;rw[if_neg oM,if_pos oM,if_neg oM,if_pos oM]
  · have:0<a.num*(b.den:Int):=Int.mul_pos p oM
    rw[q];simp;rw[if_neg oM,if_pos p,if_neg oM,if_pos this]
  · exact absurd (by rw[Int.sign_eq_one_of_pos p,Int.sign_eq_one_of_pos q]) h
theorem fCmpWW (a b:Rat)(ha:LQ 100000000 a)(hb:LQ 100000000 b)(hwa:a.den=1)(hwb:b.den=1)(w:World)(h:Hp)(g:G w h):CV 23 #[qv a,qv b] w h (iV (cmpR a b)):=by
 have hs:=sS g;have ha_:=ha;have hb_:=hb;obtain ⟨ha1,ha2⟩:=ha_;obtain ⟨hb1,hb2⟩:=hb_;have hx1:=len_imul a.num b.den;have hx2:=len_imul b.num a.den;refine go Tryz.func23 [(0,qv a),(1,qv b)] rfl (cSL (lA 2 55 (qc a) hs (fun b1 w2 h3 hs=>lA 3 55 (qc b) hs (fun b4 w5 h6 hs=>lL hs [.v 4 (iV 0)] (lN (cQ (cQ (cR 13 [] mixed hs al_nil ?_))))))));refine eO 0 5 [(1,0,5)] (qv a) hs (eC 1 6 hs (fun _ _ hs=>fIsWholeT a aM aM _ _ hs.g) ?_);rintro _ _ _ w7 h8 hs rfl;refine eV 2 7 (.bool true) (eO 3 8 [(0,0,5)] (qv b) hs (eC 4 9 hs (fun _ _ hs=>fIsWholeT b aM aM _ _ hs.g) ?_));rintro _ _ _ w9 h10 hs rfl;refine eV 5 10 (.bool true) (eV 6 11 (.bool true) (eG 7 12 (eG 8 13 (eG 9 14 (eG 10 15 (eG 11 16 (eV 12 17 (.bool true) (eD0 hs (fun w11 h12 hs=>tN (cIT (cSL (lL hs [.v 18 (pB b1),.o 19 (iv a.num) 1 0 3,.v 20 (pB b4),.o 21 (iv b.num) 0 0 3] (lC 22 hs (wCmp a.num b.num aOM aOM _ _ hs.g) ?_)))))))))))));rintro _ w13 h14 hs rfl;exact lL hs [.m 4 22] (lN (kX (hs.ret [] (iV (cmpI a.num b.num)) (congrArg (Value.int .i64) (by first|rfl|exact cmpR_whole hwa hwb|exact cmpR_sign ‹_›)))))
theorem fCmpNN (a b:Rat)(ha:LQ 100000000 a)(hb:LQ 100000000 b)(hwa:a.den≠1)(w:World)(h:Hp)(g:G w h):CV 23 #[qv a,qv b] w h (iV (cmpR a b)):=by
 have hs:=sS g;have ha_:=ha;have hb_:=hb;obtain ⟨ha1,ha2⟩:=ha_;obtain ⟨hb1,hb2⟩:=hb_;have hx1:=len_imul a.num b.den;have hx2:=len_imul b.num a.den;refine go Tryz.func23 [(0,qv a),(1,qv b)] rfl (cSL (lA 2 55 (qc a) hs (fun b1 w2 h3 hs=>lA 3 55 (qc b) hs (fun b4 w5 h6 hs=>lL hs [.v 4 (iV 0)] (lN (cQ (cQ (cR 13 [] mixed hs al_nil ?_))))))));refine eO 0 5 [(1,0,5)] (qv a) hs (eC 1 6 hs (fun _ _ hs=>fIsWholeF a aM aM _ _ hs.g) ?_);rintro _ _ _ w7 h8 hs rfl;refine eV 2 7 (.bool false) (eG 3 8 (eG 4 9 (eV 5 10 (.bool false) (eV 6 11 (.bool false) (eO 7 12 [(1,0,5)] (qv a) hs (eO 9 14 [(0,0,5)] (qv b) hs (eC 8 13 hs (fun _ _ hs=>fSign a aM _ _ hs.g) ?_)))))));rintro _ _ _ w9 h10 hs rfl;refine eC 10 15 hs (fun _ _ hs=>fSign b aM _ _ hs.g) ?_;rintro _ _ _ w11 h12 hs rfl;cases hb13:(((a.num).sign:Int) != ((b.num).sign:Int))
 ·
  have phb13:=eqOfBne hb13;refine eB 11 16 hb13 (eV 12 17 (.bool false) (eD0 hs (fun w14 h15 hs=>tN (cIF (cK (cQ (cR 11 [] mixed hs al_nil ?_)))))));refine eV 0 23 (pB b1) (eO 1 24 [(1,0,3)] (iv a.num) hs (eO 2 25 [(0,0,5)] (qv b) hs (eV 5 28 (pB b4) (eO 6 29 [(0,0,3)] (iv b.num) hs (eO 7 30 [(1,0,5)] (qv a) hs (eC 3 26 hs (fun _ _ hs=>fDen b aM _ _ hs.g) ?_))))));rintro _ _ _ w16 h17 hs rfl;refine eC 4 27 hs (fun _ _ hs=>fTimes a.num b.den aOM _ _ hs.g) ?_;rintro _ _ _ w18 h19 hs rfl;refine eC 8 31 hs (fun _ _ hs=>fDen a aM _ _ hs.g) ?_;rintro _ _ _ w20 h21 hs rfl;refine eC 9 32 hs (fun _ _ hs=>fTimes b.num a.den aOM _ _ hs.g) ?_;rintro _ _ _ w22 h23 hs rfl;refine eC 10 33 hs (fun _ _ hs=>wCmp (a.num*(b.den:Int)) (b.num*(a.den:Int)) aOM aOM _ _ hs.g) ?_;rintro _ _ _ w24 h25 hs rfl;exact eD0 hs (fun w26 h27 hs=>tV 11 4 (iV (cmpI (a.num*(b.den:Int)) (b.num*(a.den:Int)))) (tN (kX (hs.ret [] (iV (cmpI (a.num*(b.den:Int)) (b.num*(a.den:Int)))) (congrArg (Value.int .i64) (by first|rfl|exact cmpR_whole hwa hwb|exact cmpR_sign ‹_›))))))
 have phb13:=neOfBne hb13;refine eB 11 16 hb13 (eV 12 17 (.bool true) (eD0 hs (fun w28 h29 hs=>tN (cIT (cSL (lL hs [.v 18 (pB b1),.o 19 (iv a.num) 1 0 3,.v 20 (pB b4),.o 21 (iv b.num) 0 0 3] (lC 22 hs (wCmp a.num b.num aOM aOM _ _ hs.g) ?_)))))));rintro _ w30 h31 hs rfl;exact lL hs [.m 4 22] (lN (kX (hs.ret [] (iV (cmpI a.num b.num)) (congrArg (Value.int .i64) (by first|rfl|exact cmpR_whole hwa hwb|exact cmpR_sign ‹_›)))))
theorem fCmpWN (a b:Rat)(ha:LQ 100000000 a)(hb:LQ 100000000 b)(hwa:a.den=1)(hwb:b.den≠1)(w:World)(h:Hp)(g:G w h):CV 23 #[qv a,qv b] w h (iV (cmpR a b)):=by
 have hs:=sS g;have ha_:=ha;have hb_:=hb;obtain ⟨ha1,ha2⟩:=ha_;obtain ⟨hb1,hb2⟩:=hb_;have hx1:=len_imul a.num b.den;have hx2:=len_imul b.num a.den;refine go Tryz.func23 [(0,qv a),(1,qv b)] rfl (cSL (lA 2 55 (qc a) hs (fun b1 w2 h3 hs=>lA 3 55 (qc b) hs (fun b4 w5 h6 hs=>lL hs [.v 4 (iV 0)] (lN (cQ (cQ (cR 13 [] mixed hs al_nil ?_))))))));refine eO 0 5 [(1,0,5)] (qv a) hs (eC 1 6 hs (fun _ _ hs=>fIsWholeT a aM aM _ _ hs.g) ?_);rintro _ _ _ w7 h8 hs rfl;refine eV 2 7 (.bool true) (eO 3 8 [(0,0,5)] (qv b) hs (eC 4 9 hs (fun _ _ hs=>fIsWholeF b aM aM _ _ hs.g) ?_));rintro _ _ _ w9 h10 hs rfl;refine eV 5 10 (.bool false) (eV 6 11 (.bool false) (eO 7 12 [(1,0,5)] (qv a) hs (eO 9 14 [(0,0,5)] (qv b) hs (eC 8 13 hs (fun _ _ hs=>fSign a aM _ _ hs.g) ?_))));rintro _ _ _ w11 h12 hs rfl;refine eC 10 15 hs (fun _ _ hs=>fSign b aM _ _ hs.g) ?_;rintro _ _ _ w13 h14 hs rfl;cases hb15:(((a.num).sign:Int) != ((b.num).sign:Int))
 ·
  have phb15:=eqOfBne hb15;refine eB 11 16 hb15 (eV 12 17 (.bool false) (eD0 hs (fun w16 h17 hs=>tN (cIF (cK (cQ (cR 11 [] mixed hs al_nil ?_)))))));refine eV 0 23 (pB b1) (eO 1 24 [(1,0,3)] (iv a.num) hs (eO 2 25 [(0,0,5)] (qv b) hs (eV 5 28 (pB b4) (eO 6 29 [(0,0,3)] (iv b.num) hs (eO 7 30 [(1,0,5)] (qv a) hs (eC 3 26 hs (fun _ _ hs=>fDen b aM _ _ hs.g) ?_))))));rintro _ _ _ w18 h19 hs rfl;refine eC 4 27 hs (fun _ _ hs=>fTimes a.num b.den aOM _ _ hs.g) ?_;rintro _ _ _ w20 h21 hs rfl;refine eC 8 31 hs (fun _ _ hs=>fDen a aM _ _ hs.g) ?_;rintro _ _ _ w22 h23 hs rfl;refine eC 9 32 hs (fun _ _ hs=>fTimes b.num a.den aOM _ _ hs.g) ?_;rintro _ _ _ w24 h25 hs rfl;refine eC 10 33 hs (fun _ _ hs=>wCmp (a.num*(b.den:Int)) (b.num*(a.den:Int)) aOM aOM _ _ hs.g) ?_;rintro _ _ _ w26 h27 hs rfl;exact eD0 hs (fun w28 h29 hs=>tV 11 4 (iV (cmpI (a.num*(b.den:Int)) (b.num*(a.den:Int)))) (tN (kX (hs.ret [] (iV (cmpI (a.num*(b.den:Int)) (b.num*(a.den:Int)))) (congrArg (Value.int .i64) (by first|rfl|exact cmpR_whole hwa hwb|exact cmpR_sign ‹_›))))))
 have phb15:=neOfBne hb15;refine eB 11 16 hb15 (eV 12 17 (.bool true) (eD0 hs (fun w30 h31 hs=>tN (cIT (cSL (lL hs [.v 18 (pB b1),.o 19 (iv a.num) 1 0 3,.v 20 (pB b4),.o 21 (iv b.num) 0 0 3] (lC 22 hs (wCmp a.num b.num aOM aOM _ _ hs.g) ?_)))))));rintro _ w32 h33 hs rfl;exact lL hs [.m 4 22] (lN (kX (hs.ret [] (iV (cmpI a.num b.num)) (congrArg (Value.int .i64) (by first|rfl|exact cmpR_whole hwa hwb|exact cmpR_sign ‹_›)))))
theorem fCmp (a b:Rat)(ha:LQ 100000000 a)(hb:LQ 100000000 b)(w:World)(h:Hp)(g:G w h):CV 23 #[qv a,qv b] w h (iV (cmpR a b)):=by
  by_cases h1:a.den=1
  · by_cases h2:b.den=1
    · exact fCmpWW a b ha hb h1 h2 w h g
    · exact fCmpWN a b ha hb h1 h2 w h g
  · exact fCmpNN a b ha hb h1 w h g
theorem cmpR_lt {a b:Rat}:cmpR a b<0↔a<b:=by
  unfold cmpR cmpI
  rw[Rat.lt_iff]
  split
  · simp;assumption
  · split<;>simp<;>omega
theorem cmpR_gt {a b:Rat}:cmpR a b>0↔b<a:=by
  unfold cmpR cmpI
  rw[Rat.lt_iff]
  split
  · simp;omega
  · split<;>simp<;>omega
def mkR (n d:Int):Rat:=mkRat (if d<0 then -n else n) (iabs d)
theorem fMax (a b:Rat)(ha:LQ 100000000 a)(hb:LQ 100000000 b)(w:World)(h:Hp)(g:G w h):CV 151 #[qv a,qv b] w h (qv (if a<b then b else a)):=by
 have hs:=sS g;refine go Tryz.func151 [(0,qv a),(1,qv b)] rfl (cSL (lA 2 55 (qc a) hs (fun b1 w2 h3 hs=>lA 3 55 (qc b) hs (fun b4 w5 h6 hs=>lA 4 55 ([.bool false,uV 0,eS,uV 0,eS]) hs (fun b7 w8 h9 hs=>lN (cQ (cSL (lL hs [.o 5 (qv b) 1 0 5,.o 6 (qv a) 2 0 5] (lC 7 hs (fCmp b a aM aM _ _ hs.g) ?_)))))))));rintro _ w10 h11 hs rfl;cases hb12:(decide ((0:Int)<(cmpR b a:Int)))
 ·
  have phb12:=oF hb12;exact lB 8 hb12 (lN (cIF (cK (cSL (lL hs [.o 10 (qv a) 2 0 5] (lP 0 0 (qc a) hs (fun w13 hs=>lN (kX (hs.ret [(0,0,5)] (qv a) (by rw[if_neg (fun h_=>by have:=cmpR_gt.2 h_;omega)]))))))))))
 have phb12:=oT hb12;exact lB 8 hb12 (lN (cIT (cSL (lL hs [.o 9 (qv b) 1 0 5] (lP 0 0 (qc b) hs (fun w14 hs=>lN (kX (hs.ret [(0,0,5)] (qv b) (by rw[if_pos (cmpR_gt.1 oM)])))))))))
theorem fMakeN (n d:Int)(hd:d<0)(hla:(wds (iabs n)).length≤1000000000)(hlb:(wds (iabs d)).length≤1000000000)(w:World)(h:Hp)(g:G w h)(tb:Tab h):CV 97 #[iv n,iv d] w h (.tuple #[qv (mkR n d),.bool true]):=by
 have hs:=((sS g).aB tb);have hds:=Int.sign_eq_neg_one_of_neg hd;have hd0:0<iabs d:=by unfold iabs;omega
 have hln:(wds (iabs (-n))).length≤1000000000:=by unfold iabs;rw[Int.natAbs_neg];exact hla
 refine go Tryz.func97 [(0,iv n),(1,iv d)] rfl (cSL (lA 2 53 (ic n) hs (fun b1 w2 h3 hs=>lA 3 53 (ic d) hs (fun b4 w5 h6 hs=>lA 4 55 ([.bool false,uV 0,eS,uV 0,eS]) hs (fun b7 w8 h9 hs=>lL hs [.v 5 (.bool false)] (lN (cQ (cSL (lL hs [.o 6 (iv d) 1 0 3] (lC 7 hs (wSign d aOM _ _ hs.g) ?_))))))))));rintro _ w10 h11 hs rfl;have hb12:(((d).sign:Int) == (0:Int))=false:=beqF oM;have phb12:=neOfBeq hb12;refine lB 8 hb12 (lN (cIF (cK (cQ (cSL (lL hs [.o 10 (iv d) 1 0 3] (lC 11 hs (wSign d aOM _ _ hs.g) ?_)))))));rintro _ w13 h14 hs rfl;have ⟨hb15,phb15⟩:=dT (p:=((d).sign:Int)<(0:Int)) oM;refine lB 12 hb15 (lN (cIT (kQ (lL hs [.o 13 (iv n) 2 0 3] (lC 14 hs (wNeg n aOM _ _ hs.g) ?_)))));rintro _ w16 h17 hs rfl;refine lP 2 0 (ic (-n)) hs (fun w18 hs=>lN (cQ (cR 4 [] mixed hs al_nil ?_)));refine eO 0 15 [(2,0,3)] (iv (-n)) hs (eO 1 16 [(1,0,3)] (iv d) hs (eC 2 17 hs (fun _ _ hs=>wAbs d _ _ hs.g) ?_));rintro _ _ _ w19 h20 hs rfl;refine eC 3 18 hs (fun _ _ hs=>fLowest (-n) (iabs d) aOM aOM aOM _ _ hs.g hs.f.1) ?_;rintro _ _ _ w21 h22 hs rfl;exact eD0 hs (fun w23 h24 hs=>tP 4 0 0 (qc (mkRat (-n) (iabs d))) hs (fun w25 hs=>tV 5 5 (.bool true) (tN (kX (hs.ret [(0,0,5)] (.tuple #[qv (mkRat (-n) (iabs d)),.bool true]) (by unfold mkR;rw[if_pos hd]))))))
theorem fMakeP (n d:Int)(hd:0<d)(hla:(wds (iabs n)).length≤1000000000)(hlb:(wds (iabs d)).length≤1000000000)(w:World)(h:Hp)(g:G w h)(tb:Tab h):CV 97 #[iv n,iv d] w h (.tuple #[qv (mkR n d),.bool true]):=by
 have hs:=((sS g).aB tb);have hds:=Int.sign_eq_one_of_pos hd;have hd0:0<iabs d:=by unfold iabs;omega
 refine go Tryz.func97 [(0,iv n),(1,iv d)] rfl (cSL (lA 2 53 (ic n) hs (fun b1 w2 h3 hs=>lA 3 53 (ic d) hs (fun b4 w5 h6 hs=>lA 4 55 ([.bool false,uV 0,eS,uV 0,eS]) hs (fun b7 w8 h9 hs=>lL hs [.v 5 (.bool false)] (lN (cQ (cSL (lL hs [.o 6 (iv d) 1 0 3] (lC 7 hs (wSign d aOM _ _ hs.g) ?_))))))))));rintro _ w10 h11 hs rfl;have hb12:(((d).sign:Int) == (0:Int))=false:=beqF oM;have phb12:=neOfBeq hb12;refine lB 8 hb12 (lN (cIF (cK (cQ (cSL (lL hs [.o 10 (iv d) 1 0 3] (lC 11 hs (wSign d aOM _ _ hs.g) ?_)))))));rintro _ w13 h14 hs rfl;have ⟨hb15,phb15⟩:=dF (p:=((d).sign:Int)<(0:Int)) oM;refine lB 12 hb15 (lN (cIF (cK (cQ (cR 4 [] mixed hs al_nil ?_)))));refine eO 0 15 [(2,0,3)] (iv n) hs (eO 1 16 [(1,0,3)] (iv d) hs (eC 2 17 hs (fun _ _ hs=>wAbs d _ _ hs.g) ?_));rintro _ _ _ w16 h17 hs rfl;refine eC 3 18 hs (fun _ _ hs=>fLowest n (iabs d) aOM aOM aOM _ _ hs.g hs.f.1) ?_;rintro _ _ _ w18 h19 hs rfl;exact eD0 hs (fun w20 h21 hs=>tP 4 0 0 (qc (mkRat n (iabs d))) hs (fun w22 hs=>tV 5 5 (.bool true) (tN (kX (hs.ret [(0,0,5)] (.tuple #[qv (mkRat n (iabs d)),.bool true]) (by unfold mkR;rw[if_neg oM]))))))
theorem fMake (n d:Int)(hd:d≠0)(hla:(wds (iabs n)).length≤1000000000)(hlb:(wds (iabs d)).length≤1000000000)(w:World)(h:Hp)(g:G w h)(tb:Tab h):CV 97 #[iv n,iv d] w h (.tuple #[qv (mkR n d),.bool true]):=by
  rcases Int.lt_trichotomy d 0 with h1|h1|h1
  · exact fMakeN n d h1 hla hlb w h g tb
  · exact absurd h1 hd
  · exact fMakeP n d h1 hla hlb w h g tb
theorem fDivN (a b:Rat)(ha:LQ 100000000 a)(hb:LQ 100000000 b)(hz:b.num≠0)(w:World)(h:Hp)(g:G w h)(tb:Tab h):CV 114 #[qv a,qv b] w h (.tuple #[qv (a/b),.bool true]):=by
 have hs:=((sS g).aB tb);have ha_:=ha;have hb_:=hb;obtain ⟨ha1,ha2⟩:=ha_;obtain ⟨hb1,hb2⟩:=hb_;have hzs:((b.num).sign == (0:Int))=false:=by simpa using hz
 obtain ⟨hi1,hi2⟩:=rat_inv b hz;have hsl:(wds (iabs (sgn (decide ((b.num).sign<(0:Int))) b.den))).length≤100000000:=by rw[iabs_sgn];exact hb2
 have hli:LQ 100000000 b⁻¹:=⟨by rw[hi1];exact hsl,by rw[hi2];exact hb1⟩;have hli2:LQ 1000000000 b⁻¹:=hli.mono oM;refine go Tryz.func114 [(0,qv a),(1,qv b)] rfl (cSL (lA 2 55 (qc a) hs (fun b1 w2 h3 hs=>lA 3 55 (qc b) hs (fun b4 w5 h6 hs=>lA 4 55 ([.bool false,uV 0,eS,uV 0,eS]) hs (fun b7 w8 h9 hs=>lL hs [.v 5 (.bool false)] (lN (cQ (cSL (lL hs [.o 6 (qv b) 1 0 5] (lC 7 hs (fSign b aM _ _ hs.g) ?_))))))))));rintro _ w10 h11 hs rfl;refine lV 8 (.bool false) ?_ (hr:=rb (e:=((b.num).sign == (0:Int))) kR hzs);refine lN (cIF (cK (cQ (cR 12 [] mixed hs al_nil ?_))));refine eO 0 10 [(2,0,5)] (qv a) hs (eO 1 11 [(1,0,5)] (qv b) hs (eO 4 14 [(1,0,5)] (qv b) hs (eV 7 17 (pB b4) (eO 8 18 [(1,0,3)] (iv b.num) hs (eC 2 12 hs (fun _ _ hs=>fSign b aM _ _ hs.g) ?_)))));rintro _ _ _ w12 h13 hs rfl;refine eV 3 13 (.bool (decide (((b.num).sign:Int)<(0:Int)))) (eC 5 15 hs (fun _ _ hs=>fDen b aM _ _ hs.g) ?_);rintro _ _ _ w14 h15 hs rfl;refine eC 6 16 hs (fun _ _ hs=>wFrom (decide (((b.num).sign:Int)<(0:Int))) b.den aOM _ _ hs.g) ?_;rintro _ _ _ w16 h17 hs rfl;refine eC 9 19 hs (fun _ _ hs=>wAbs b.num _ _ hs.g) ?_;rintro _ _ _ w18 h19 hs rfl;refine eC 10 20 hs (fun _ _ hs=>fPackE b⁻¹ (sgn (decide (((b.num).sign:Int)<(0:Int))) b.den) (iabs b.num) hi1 hi2.symm aM _ _ hs.g) ?_;rintro _ _ _ w20 h21 hs rfl;refine eC 11 21 hs (fun _ _ hs=>fMul a (b⁻¹) aM aM _ _ hs.g hs.f.1) ?_;rintro _ _ _ w22 h23 hs rfl;exact eD0 hs (fun w24 h25 hs=>tP 12 0 0 (qc (a*(b⁻¹))) hs (fun w26 hs=>tV 13 5 (.bool true) (tN (kX (hs.ret [(0,0,5)] (.tuple #[qv (a*(b⁻¹)),.bool true]) (by rw[Rat.div_def]))))))
theorem fDivZ (a:Rat)(hb:LQ 100000000 (0:Rat))(w:World)(h:Hp)(g:G w h):CV 114 #[qv a,qv (0:Rat)] w h (.tuple #[qv 0,.bool false]):=by
 have hs:=sS g;have hzs:((0:Rat).num).sign=0:=rfl;refine go Tryz.func114 [(0,qv a),(1,qv (0:Rat))] rfl (cSL (lA 2 55 (qc a) hs (fun b1 w2 h3 hs=>lA 3 55 (qc (0:Rat)) hs (fun b4 w5 h6 hs=>lA 4 55 ([.bool false,uV 0,eS,uV 0,eS]) hs (fun b7 w8 h9 hs=>lL hs [.v 5 (.bool false)] (lN (cQ (cSL (lL hs [.o 6 (qv (0:Rat)) 1 0 5] (lC 7 hs (fSign (0:Rat) aM _ _ hs.g) ?_))))))))));rintro _ w10 h11 hs rfl;have hb12:((((0:Rat).num).sign:Int) == (0:Int))=true:=beqT oM;have phb12:=eq_of_beq hb12;exact lB 8 hb12 (lN (cIT (cSL (lL hs [.v 9 (.agg #[.bool false,uV 0,eS,uV 0,eS])] (lP 0 0 ([.bool false,uV 0,eS,uV 0,eS]) hs (fun w13 hs=>lL hs [.v 5 (.bool false)] (lN (kX (hs.ret [(0,0,5)] (.tuple #[.agg #[.bool false,uV 0,eS,uV 0,eS],.bool false]) rfl)))))))))
theorem rNatGcdE (a:Nat)(A:Option Addr)(c:Nat)(hc:(lim a).length≤c)(b:Nat)(D:Option Addr)(d:Nat)(hd:(lim b).length≤d)(q:Nat)(hq:q=Nat.gcd a b)(hLa:(lim a).length≤3000000000)(hLb:(lim b).length≤3000000000)(w:World)(h:Hp)(g:G w h)(hA:S3 A (lim a) h)(hD:S3 D (lim b) h):CR 183 #[.slice A (lim a).length c,.slice D (lim b).length d] w h (fun v h1=>RN h1 v q):=by
  subst hq;exact rNatGcd a A c hc b D d hd hLa hLb w h g hA hD
theorem mkR_parts (n d:Int)(hd:d≠0):(mkR n d).num=sgn (ineg n != ineg d) (iabs n/Nat.gcd (iabs n) (iabs d))∧(mkR n d).den=iabs d/Nat.gcd (iabs n) (iabs d)∧0<Nat.gcd (iabs n) (iabs d):=by
  have hd0:0<iabs d:=by unfold iabs;omega
  have hz:iabs (if d<0 then -n else n)=iabs n:=by unfold iabs;split<;>omega
  obtain ⟨h1,h2,h3,h4⟩:=mkRat_parts (if d<0 then -n else n) (iabs d) hd0;rw[hz] at h1 h2 h3 h4
  refine ⟨?_,h2,h4⟩;have hs:=sgn_part _ _ h3;rw[hz] at hs
  show (mkRat _ _).num=_
  rw[h1,←hs]
  by_cases hn:n=0
  · have hk:iabs n/Nat.gcd (iabs n) (iabs d)=0:=by rw[hn];exact Nat.zero_div _
    rw[hk]
    unfold sgn
    simp
  · have e:decide ((if d<0 then -n else n).sign<0)=(ineg n != ineg d):=by
      unfold ineg
      rcases Int.lt_trichotomy n 0 with a|a|a
      · rcases Int.lt_trichotomy d 0 with b|b|b
        · rw[if_pos b,Int.sign_eq_one_of_pos oM];simp[a,b]
        · exact absurd b hd
        · rw[if_neg oM,Int.sign_eq_neg_one_of_neg a];simp[a,show ¬d<0 by omega]
      · exact absurd a hn
      · rcases Int.lt_trichotomy d 0 with b|b|b
        · rw[if_pos b,Int.sign_eq_neg_one_of_neg oM];simp[show ¬n<0 by omega,b]
        · exact absurd b hd
        · rw[if_neg oM,Int.sign_eq_one_of_pos a];simp[show ¬n<0 by omega,show ¬d<0 by omega]
    rw[e]
theorem rMake (x:Int)(A:Option Addr)(c:Nat)(hc:(lim (iabs x)).length≤c)(hLx:(lim (iabs x)).length≤2000000000)(y:Int)(D:Option Addr)(d:Nat)(hd:(lim (iabs y)).length≤d)(hLy:(lim (iabs y)).length≤2000000000)(hd0:y≠0)(w:World)(h:Hp)(g:G w h)(hA:S3 A (lim (iabs x)) h)(hD:S3 D (lim (iabs y)) h):CR 149 #[.agg #[.bool (ineg x),.slice A ((lim (iabs x)).length) c],.agg #[.bool (ineg y),.slice D ((lim (iabs y)).length) d]] w h (fun v h1=>RQ h1 v (mkR x y)):=by
 have hs:=(((sS g).aS hA).aS hD);obtain ⟨hm1,hm2,hq0⟩:=mkR_parts x y hd0;obtain ⟨q,hq⟩:∃ q,q=Nat.gcd (iabs x) (iabs y):=⟨_,rfl⟩;rw[←hq] at hm1 hm2 hq0
 have hql:(lim q).length≤2000000000:=lim_len_le' (by rw[hq];exact Nat.gcd_le_right _ (by unfold iabs;omega)) hLy;refine go Tryz.func149 [(0,.agg #[.bool (ineg x),.slice A ((lim (iabs x)).length) c]),(1,.agg #[.bool (ineg y),.slice D ((lim (iabs y)).length) d])] rfl (cSL (lA 2 95 ([.bool (ineg x),.slice A ((lim (iabs x)).length) c]) hs (fun b1 w2 h3 hs=>lA 3 95 ([.bool (ineg y),.slice D ((lim (iabs y)).length) d]) hs (fun b4 w5 h6 hs=>lA 4 97 ([.bool false,sZ,sZ]) hs (fun b7 w8 h9 hs=>lNS (lL hs [.v 10 (.pointer (some ⟨b1,1,none⟩)),.o 11 (.slice A ((lim (iabs x)).length) c) 2 1 1,.v 12 (.pointer (some ⟨b4,1,none⟩)),.o 13 (.slice D ((lim (iabs y)).length) d) 1 1 1] (lC 14 hs (rNatGcdE (iabs x) A c hc (iabs y) D d hd q hq oM oM _ _ hs.g hs.f.2.1 hs.f.1) ?_)))))));rintro _ w14 h15 hs ⟨A10,c11,rfl,hc12,hA13⟩;replace hs:=hs.aS hA13;refine lL hs [.m 5 14] (lNS (lL hs [.v 16 (.pointer (some ⟨b1,1,none⟩)),.o 17 (.slice A ((lim (iabs x)).length) c) 2 1 1,.m 18 5] (lC 19 hs (rNatDiv (iabs x) A c hc q A10 c11 hc12 oM oM hq0 _ _ hs.g hs.f.r.1 hs.f.1) ?_)));rintro _ w20 h21 hs ⟨_,v2_A16,rfl,⟨A16,c17,rfl,hc18,hA19⟩,-⟩;replace hs:=hs.aS hA19;refine lL hs [.m 15 19,.v 20 (.slice A16 ((lim ((iabs x)/q)).length) c17),.v 21 v2_A16,.m 6 20,.m 7 21] (lNS (lL hs [.v 23 (.pointer (some ⟨b4,1,none⟩)),.o 24 (.slice D ((lim (iabs y)).length) d) 1 1 1,.m 25 5] (lC 26 hs (rNatDiv (iabs y) D d hd q A10 c11 hc12 oM oM hq0 _ _ hs.g hs.f.r.1 hs.f.2.1) ?_)));rintro _ w26 h27 hs ⟨_,v2_A22,rfl,⟨A22,c23,rfl,hc24,hA25⟩,-⟩;replace hs:=hs.aS hA25;refine lL hs [.m 22 26,.v 27 (.slice A22 ((lim ((iabs y)/q)).length) c23),.v 28 v2_A22,.m 8 27,.m 9 28] (lNS (lL hs [.v 29 (pB b1),.o 30 (.bool (ineg x)) 2 0 1,.v 31 (pB b4),.o 32 (.bool (ineg y)) 1 0 1,.v 33 (.bool ((ineg x) != (ineg y))),.m 34 6] (lC 35 hs (rI ((ineg x) != (ineg y)) ((iabs x)/q) A16 c17 hc18 _ _ hs.g hs.f.2.1) ?_)));rintro _ w32 h33 hs ⟨A28,c29,rfl,hc30,hA31⟩;replace hs:=hs.aS hA31;exact lL hs [.m 36 8,.v 37 (.agg #[.bool (ineg (sgn ((ineg x) != (ineg y)) ((iabs x)/q))),.slice A28 ((lim (iabs (sgn ((ineg x) != (ineg y)) ((iabs x)/q)))).length) c29,.slice A22 ((lim ((iabs y)/q)).length) c23])] (lP 0 0 ([.bool (ineg (sgn ((ineg x) != (ineg y)) ((iabs x)/q))),.slice A28 ((lim (iabs (sgn ((ineg x) != (ineg y)) ((iabs x)/q)))).length) c29,.slice A22 ((lim ((iabs y)/q)).length) c23]) hs (fun w34 hs=>lN (kX (hs.ret [(0,0,3)] (.agg #[.bool (ineg (sgn ((ineg x) != (ineg y)) ((iabs x)/q))),.slice A28 ((lim (iabs (sgn ((ineg x) != (ineg y)) ((iabs x)/q)))).length) c29,.slice A22 ((lim ((iabs y)/q)).length) c23]) (by unfold RQ;rw[hm1,hm2];exact ⟨_,_,_,_,rfl,hc30,hc24,hs.f.1,hs.f.2.1⟩)))))
theorem lim_small {z:Int}(h0 : -9223372036854775808≤z)(h1:z<9223372036854775808):(lim (iabs z)).length≤2:=lim_len_le (by unfold iabs;omega)
theorem rOf (z:Int)(h0 : -9223372036854775808≤z)(h1:z<9223372036854775808)(w:World)(h:Hp)(g:G w h):CR 41 #[iV z] w h (fun v h1=>RQ h1 v (z:Rat)):=by
 have hs:=sS g;refine go Tryz.func41 [(0,iV z)] rfl (cSL (lA 2 97 ([.bool false,sZ,sZ]) hs (fun b1 w2 h3 hs=>lNS (lL hs [.m 3 0] (lC 4 hs (rIntOf z oM oM _ _ hs.g) ?_)))));rintro _ w8 h9 hs ⟨A4,c5,rfl,hc6,hA7⟩;replace hs:=hs.aS hA7;refine lC 5 hs (rNatOf 1 oM _ _ hs.g) ?_;rintro _ w14 h15 hs ⟨A10,c11,rfl,hc12,hA13⟩;replace hs:=hs.aS hA13;exact lL hs [.v 6 (.agg #[.bool (ineg z),.slice A4 ((lim (iabs z)).length) c5,.slice A10 ((lim 1).length) c11])] (lP 0 0 ([.bool (ineg z),.slice A4 ((lim (iabs z)).length) c5,.slice A10 ((lim 1).length) c11]) hs (fun w16 hs=>lN (kX (hs.ret [(0,0,3)] (.agg #[.bool (ineg z),.slice A4 ((lim (iabs z)).length) c5,.slice A10 ((lim 1).length) c11]) (by unfold RQ;rw[Rat.num_intCast,Rat.den_intCast];exact ⟨_,_,_,_,rfl,hc6,hc12,hs.f.2.1,hs.f.1⟩)))))
theorem rOver (x y:Int)(hy0:y≠0)(h0 : -9223372036854775808≤x)(h1:x<9223372036854775808)(h2 : -9223372036854775808≤y)(h3:y<9223372036854775808)(w:World)(h:Hp)(g:G w h):CR 92 #[iV x,iV y] w h (fun v h1=>RQ h1 v (mkR x y)):=by
 have hs:=sS g;have hx_:=lim_small h0 h1;have hy_:=lim_small h2 h3;refine go Tryz.func92 [(0,iV x),(1,iV y)] rfl (cSL (lA 4 97 ([.bool false,sZ,sZ]) hs (fun b1 w2 h3 hs=>lNS (lL hs [.m 5 0] (lC 6 hs (rIntOf x oM oM _ _ hs.g) ?_)))));rintro _ w8 h9 hs ⟨A4,c5,rfl,hc6,hA7⟩;replace hs:=hs.aS hA7;refine lL hs [.m 7 1] (lC 8 hs (rIntOf y oM oM _ _ hs.g) ?_);rintro _ w14 h15 hs ⟨A10,c11,rfl,hc12,hA13⟩;replace hs:=hs.aS hA13;refine lC 9 hs (rMake x A4 c5 hc6 oM y A10 c11 hc12 oM hy0 _ _ hs.g hs.f.2.1 hs.f.1) ?_;rintro _ w24 h25 hs ⟨A16,c17,A20,c21,rfl,hc18,hc22,hA19,hA23⟩;replace hs:=hs.aP hA19 hA23;exact lP 0 0 (rqx (mkR x y) A16 c17 A20 c21) hs (fun w26 hs=>lN (kX (hs.ret [(0,0,3)] (rG (mkR x y) A16 c17 A20 c21) (by skip;exact ⟨_,_,_,_,rfl,hc18,hc22,hs.f.2.1,hs.f.1⟩))))
theorem opShrU {P:Program}{Γ:Env}{o:Oper}{t u:TypeId}{x y:Operand}{k ky:IntKind}{a n:Nat}(ho:o.op=.binOp .shr t x y u)(hx:ev Γ x=.int k (a:Int))(hy:ev Γ y=.int ky (n:Int))(hn:n≤k.bits)(w:World) :
    (execOp (ev Γ) o).run P w=.ok (.value (.int k ((a/2^n:Nat):Int))) w:=by
  have:=opShr (P:=P) ho hx hy hn w;rw[show ((a:Int)/2^n)=((a/2^n:Nat):Int) by simp] at this
  exact this
theorem opShlU32 {P:Program}{Γ:Env}{o:Oper}{t u:TypeId}{x y:Operand}{ky:IntKind}{a n:Nat}(ho:o.op=.binOp .shl t x y u)(hx:ev Γ x=.int .u32 (a:Int))(hy:ev Γ y=.int ky (n:Int))(hn:n≤32)(hf:a*2^n<4294967296)(w:World) :
    (execOp (ev Γ) o).run P w=.ok (.value (.int .u32 ((a*2^n:Nat):Int))) w:=by
  have:=opShl (P:=P) ho hx hy hn w;rw[show ((a:Int)*2^n)=((a*2^n:Nat):Int) by simp,fnU32 hf] at this
  exact this
theorem rNatBytes (a:Nat)(A:Option Addr)(c:Nat)(hc:(lim a).length≤c)(hLa:(lim a).length≤4000000000)(w:World)(h:Hp)(g:G w h)(hA:S3 A (lim a) h):CR 157 #[.slice A ((lim a).length) c] w h (fun v h1=>∃ A,v=.slice A ((nb a+7)/8) ((nb a+7)/8)∧SlO 1 u8c 0 h1 A (byt a ((nb a+7)/8))):=by
 have hs:=((sS g).aS hA);have hna:=nb_len a;refine go Tryz.func157 [(0,.slice A ((lim a).length) c)] rfl (cSL (lL hs [.v 2 (sZ)] (lNS (lL hs [.m 6 0] (lC 7 hs (rNatBits a A c hc hLa _ _ hs.g hs.f.1) ?_)))));rintro _ w1 h2 hs rfl;refine lIn 8 ((nb a:Nat)+7) ((nb a)+7) (lV 9 (nV (((nb a)+7)/8)) ?_ (hr:=rint (opQuo (t:=3) (u:=3) (x:=.tmp 8) (y:=.const (iV 8)) (k:=.i64) (a:=(((nb a)+7:Nat):Int)) (b:=(8:Int)) kR kR kR oM _) (quoI64 ((nb a)+7) 8 oM)));refine lL hs [.m 3 9] (lNS (lL hs [.m 10 3] (lK 11 5 (((nb a)+7)/8:Nat) 1 1 (.int .u8 0) u8c 0 hs (fun b3 w4 h5 hs=>?_))));have hl6:(List.replicate (((nb a)+7)/8:Nat) 0).length=(((nb a)+7)/8:Nat):=by simp
 refine lL hs [.m 4 11] (lN (cQ (cSL (lL hs [.v 5 (iV 0)] (lN (kZ ?_))))));refine cTo _ (CG.loop (fun μ_ Γ w_=>∃ (i:Nat) (l:List Nat) (h_:Hp),μ_=((nb a+7)/8)-i∧Γ=[(0,.slice A ((lim a).length) c),(2,sZ),(3,nV (((nb a)+7)/8)),(4,.slice (sB b3) (((nb a)+7)/8:Nat) (((nb a)+7)/8:Nat)),(5,nV i)]∧SS w h w_ h_ [⟨b3,5,(l).flatMap u8c⟩] [] [S3 A (lim a)]∧i≤((nb a+7)/8)∧l.length=((nb a+7)/8)∧(∀ j,j<i→l.getD (((nb a+7)/8)-1-j) 0=a/256^j%256)) _ ⟨0,List.replicate (((nb a)+7)/8:Nat) 0,h5,rfl,rfl,hs.to _ _,Nat.zero_le _,hl6,(fun j hj=>absurd hj oM)⟩ ?_);rintro _ _ w7 ⟨i,l,h8,hm9,rfl,hs,hi,hll,hg⟩;have hai:=(Ld.lim a).get (i/4);refine cQ (cSL (lL hs [.m 12 5,.m 13 3] ?_));cases hb10:(decide ((i:Int)<((((nb a)+7)/8:Nat):Int)))
 ·
  have phb10:=oF hb10;refine lB 14 hb10 (lN (cIF (CG.exit ?_)))
  show CG _ _ _ _ _ _ _ _
  refine cSL (lL hs [.m 34 4,.m 2 34] (lN (kX ?_)));have him:i=((nb a+7)/8):=by omega
  have hlb:l=byt a ((nb a+7)/8):=eq_byt hll (fun j hj=>hg j oM);rw[hlb] at hs
  obtain ⟨h11,hs,sg12,lo13,bc14⟩:=hs.pub 0;replace hs:=(hs.to [] []).aS (SlO.of_flat (sz:=1) (f:=u8c) (d:=0) (b:=b3) (o:=0) (l:=byt a ((nb a+7)/8)) (fun _=>rfl) sg12);exact hs.ret [] (.slice (sB b3) (((nb a)+7)/8:Nat) (((nb a)+7)/8:Nat)) (⟨sB b3,rfl,hs.f.1⟩)
 have phb10:=oT hb10;refine lB 14 hb10 (lN (cIT (cK (cQ (kZ (kQ (lL hs [.m 17 4,.m 18 3] (lIn 19 ((((nb a)+7)/8:Nat)-1) ((((nb a)+7)/8:Nat)-1) ?_))))))));refine lL hs [.m 20 5] (lIn 21 (((((nb a)+7)/8:Nat)-1:Nat)-(i:Nat)) (((((nb a)+7)/8:Nat)-1:Nat)-i) ?_);refine lL hs [.m 22 0,.m 23 5] (lV 24 (nV (i/4)) ?_ (hr:=rint (opQuo (t:=3) (u:=3) (x:=.tmp 23) (y:=.const (iV 4)) (k:=.i64) (a:=(i:Int)) (b:=(4:Int)) kR kR kR oM _) (quoI64 i 4 oM)));refine lX 25 A ((lim a).length) c 1 (i/4:Nat) (i/4) ((hs.f.1).ok oM) (lH 26 (mW ((lim a).getD (i/4) 0)) hs ((hs.f.1).el (i/4) oM) (lL hs [.m 27 5] (lV 28 (nV (i%4)) ?_ (hr:=rint (opRem (t:=3) (u:=3) (x:=.tmp 27) (y:=.const (iV 4)) (k:=.i64) (a:=(i:Int)) (b:=(4:Int)) kR kR kR oM _) (tmodNat i 4)))));refine lIn 29 (8*(i%4:Nat)) (8*(i%4)) (lV 30 (mV (8*(i%4))) ?_ (hr:=rU (((8*(i%4):Nat):Int)) kR (fitU64 oM oM)));refine lV 31 (mW ((lim a).getD (i/4) 0/2^(8*(i%4)))) ?_ (hr:=opShrU (t:=209) (u:=210) (x:=.tmp 26) (y:=.tmp 30) (k:=.u32) (ky:=.u64) (a:=(lim a).getD (i/4) 0) (n:=8*(i%4)) kR kR kR (show 8*(i%4)≤32 by omega) _);refine lV 32 (.int .u8 ((lim a).getD (i/4) 0/2^(8*(i%4))%256:Nat)) ?_ (hr:=rint (n:=IntKind.wrap .u8 (((lim a).getD (i/4) 0/2^(8*(i%4)):Nat):Int)) kR (wrU8 _));refine lX 33 (sB b3) (((nb a)+7)/8:Nat) (((nb a)+7)/8:Nat) 1 (((((nb a)+7)/8:Nat)-1:Nat)-i:Nat) (((((nb a)+7)/8:Nat)-1:Nat)-i:Nat) rfl (lW 0 l u8c 1 (((((nb a)+7)/8:Nat)-1:Nat)-i:Nat) ((lim a).getD (i/4) 0/2^(8*(i%4))%256:Nat) hs oM (fun w16 hs=>?_));have hl17:((l).set (((((nb a)+7)/8:Nat)-1:Nat)-i:Nat) ((lim a).getD (i/4) 0/2^(8*(i%4))%256:Nat)).length=(((nb a)+7)/8:Nat):=by rw[List.length_set];exact hll
 replace hs:=hs.to [⟨b3,5,((l).set (((((nb a)+7)/8:Nat)-1:Nat)-i:Nat) ((lim a).getD (i/4) 0/2^(8*(i%4))%256:Nat)).flatMap u8c⟩] [];refine lN (kQ (lL hs [.m 15 5] (lIn 16 ((i:Nat)+1) (i+1) ?_)));refine lL hs [.m 5 16] (lD ?_);intro a_ ka;refine ⟨_,_,?_,⟨i+1,(l).set (((((nb a)+7)/8:Nat)-1:Nat)-i:Nat) ((lim a).getD (i/4) 0/2^(8*(i%4))%256:Nat),h8,rfl,rfl,hs.to _ _,oM,hl17,(set_from_top hll oM hg (byte_lim a i))⟩,ka.to _ kR⟩
 omega
theorem lowL_init {n m:Nat}(h:n<256^m):∀ j,j<(m+3)/4→(List.replicate ((m+3)/4) 0).getD j 0=lowL n (m-0) j:=fun j hj=>by
  rw[Nat.sub_zero,lowL_top h];simp[hj]
theorem lowL_next {l:List Nat}{n m i x:Nat}(hi:i<m)(hl:l.length=(m+3)/4)(hv:∀ j,j<(m+3)/4→l.getD j 0=lowL n (m-i) j)(hx:x=lowL n (m-1-i) ((m-1-i)/4)) :
    ∀ j,j<(m+3)/4→(l.set ((m-1-i)/4) x).getD j 0=lowL n (m-(i+1)) j:=by
  intro j hj;rw[show m-(i+1)=m-1-i by omega]
  by_cases e:j=(m-1-i)/4
  · subst e
    have:(m-1-i)/4<l.length:=by omega
    simp[this,hx]
  · rw[lowL_step,if_neg e,show m-1-i+1=m-i by omega,←hv j hj]
    simp only[List.getD_eq_getElem?_getD]
    rw[List.getElem?_set_ne (Ne.symm e)]
theorem from_or {n k:Nat}:lowL n (k+1) (k/4) ||| (n/256^k%256)*2^(8*(k%4))=lowL n k (k/4):=by rw[lowL_step n k (k/4),if_pos rfl]
theorem shl_fit32 {b k:Nat}(hb:b<256):b*2^(8*(k%4))<4294967296:=by
  have:k%4=0∨k%4=1∨k%4=2∨k%4=3:=by omega
  rcases this with e|e|e|e<;>rw[e]<;>omega
theorem from_fin {l:List Nat}{n m:Nat}(hn:n<256^m)(hl:l.length=(m+3)/4)(hv:∀ j,j<(m+3)/4→l.getD j 0=lowL n (m-m) j):bval 4294967296 l=n∧Ld l:=by
  constructor
  · rw[←nval_bval]
    refine nval_of_digits l n (fun j hj=>by rw[hv j oM,Nat.sub_self,lowL_zero]) ?_;refine Nat.lt_of_lt_of_le hn ?_;rw[hl,show (256:Nat)=2^8 by rfl,show (4294967296:Nat)=2^32 by rfl,←Nat.pow_mul,←Nat.pow_mul];exact Nat.pow_le_pow_right oM oM
  · intro x hx
    obtain ⟨j,hj,rfl⟩:=List.mem_iff_getElem.1 hx;have:=hv j oM;have e:l[j]=l.getD j 0:=by simp[hj]
    rw[e,this];exact lowL_lt _ _ _
theorem rNatFrom (n m:Nat)(A:Option Addr)(cap:Nat)(hc:m≤cap)(hm:m≤1099511627776)(hn:n<256^m)(w:World)(h:Hp)(g:G w h)(hA:SlO 1 u8c 0 h A (byt n m)):CR 178 #[.slice A m cap] w h (fun v h1=>RN h1 v n):=by
 have hs:=((sS g).aS hA);have hbl:=byt_len n m;refine go Tryz.func178 [(0,.slice A m cap)] rfl (cSL (lL hs [.v 2 (sZ)] (lNS (lL hs [.m 6 0,.v 7 (nV m)] (lIn 8 ((m:Nat)+3) (m+3) ?_)))));refine lV 9 (nV ((m+3)/4)) ?_ (hr:=rint (opQuo (t:=3) (u:=3) (x:=.tmp 8) (y:=.const (iV 4)) (k:=.i64) (a:=((m+3:Nat):Int)) (b:=(4:Int)) kR kR kR oM _) (quoI64 (m+3) 4 oM));refine lK 10 209 ((m+3)/4) 1 4 (uW 0) u32c 0 hs (fun b1 w2 h3 hs=>?_);have hl4:(List.replicate ((m+3)/4) 0).length=((m+3)/4):=by simp
 refine lL hs [.m 3 10] (lN (cQ (cSL (lL hs [.v 4 (iV 0)] (lN (kZ ?_))))));refine cTo _ (CG.loop (fun μ_ Γ w_=>∃ (i:Nat) (l:List Nat) (h_:Hp),μ_=m-i∧Γ=[(0,.slice A m cap),(2,sZ),(3,.slice (sB b1) ((m+3)/4) ((m+3)/4)),(4,nV i)]∧SS w h w_ h_ [⟨b1,209,(l).flatMap u32c⟩] [] [fun h_=>SlO 1 u8c 0 h_ A (byt n m)]∧i≤m∧l.length=(m+3)/4∧(∀ j,j<(m+3)/4→l.getD j 0=lowL n (m-i) j)) _ ⟨0,List.replicate ((m+3)/4) 0,h3,rfl,rfl,hs.to _ _,Nat.zero_le _,hl4,(lowL_init hn)⟩ ?_);rintro _ _ w5 ⟨i,l,h6,hm7,rfl,hs,hi,hll,hv⟩;refine cQ (cSL (lL hs [.m 11 4,.m 12 0,.v 13 (nV m)] ?_));cases hb8:(decide ((i:Int)<(m:Int)))
 ·
  have phb8:=oF hb8;refine lB 14 hb8 (lN (cIF (CG.exit ?_)))
  show CG _ _ _ _ _ _ _ _
  refine cSL (lL hs [.m 42 3] ?_);have him:i=m:=by omega
  rw[him] at hv
  obtain ⟨hf1,hf2⟩:=from_fin hn hll hv;obtain ⟨h9,hs,sg10,lo11,bc12⟩:=hs.pub 0;replace hs:=(hs.to [] []).aS (SlO.of_flat (sz:=1) (f:=u32c) (d:=0) (b:=b1) (o:=0) (l:=l) (fun _=>rfl) sg10);refine lC 43 hs (rTrim (sB b1) ((m+3)/4) l ((m+3)/4) hll oM oM _ _ hs.g hs.f.1) ?_;rintro _ w14 h15 hs rfl;exact lL hs [.m 2 43] (lN (kX (hs.ret [] (.slice (sB b1) (tl l ((m+3)/4)) ((m+3)/4)) (RN.trim hf2 hf1 hll oM hs.f.1))))
 have phb8:=oT hb8;refine lB 14 hb8 (lN (cIT (cK (cQ (kZ (cSL (lL hs [.m 17 0,.v 18 (nV m)] (lIn 19 ((m:Nat)-1) (m-1) ?_))))))));refine lL hs [.m 20 4] (lIn 21 ((m-1:Nat)-(i:Nat)) ((m-1)-i) ?_);refine lL hs [.m 5 21] (lN (cR 19 [] mixed hs al_nil ?_));refine eV 0 22 (.slice (sB b1) ((m+3)/4) ((m+3)/4)) (eV 1 23 (nV ((m-1)-i)) (eV 2 24 (nV (((m-1)-i)/4)) ?_ (hv:=fun _=>rint (opQuo (t:=3) (u:=3) (x:=.tmp 23) (y:=.const (iV 4)) (k:=.i64) (a:=(((m-1)-i:Nat):Int)) (b:=(4:Int)) kR kR kR oM _) (quoI64 ((m-1)-i) 4 oM))));refine eV 3 25 (.slice (sB b1) ((m+3)/4) ((m+3)/4)) (eV 4 26 (nV ((m-1)-i)) (eV 5 27 (nV (((m-1)-i)/4)) ?_ (hv:=fun _=>rint (opQuo (t:=3) (u:=3) (x:=.tmp 26) (y:=.const (iV 4)) (k:=.i64) (a:=(((m-1)-i:Nat):Int)) (b:=(4:Int)) kR kR kR oM _) (quoI64 ((m-1)-i) 4 oM))));refine eX 6 28 (sB b1) ((m+3)/4) ((m+3)/4) 1 (((m-1)-i)/4:Nat) (((m-1)-i)/4:Nat) rfl (eQ 7 29 0 l u32c 1 0 (((m-1)-i)/4:Nat) (mW ((l).getD (((m-1)-i)/4:Nat) 0)) hs oM (eV 8 30 (.slice A m cap) (eV 9 31 (nV i) (eX 10 32 A m cap 1 (i:Nat) i ((hs.f.1).ok oM) ?_))));have hvk:=hv ((m-1-i)/4) oM;have hor:l.getD ((m-1-i)/4) 0 ||| (n/256^(m-1-i)%256)*2^(8*((m-1-i)%4))=lowL n (m-1-i) ((m-1-i)/4):=by rw[hvk,show m-i=m-1-i+1 by omega];exact from_or
 have hlt:l.getD ((m-1-i)/4) 0<4294967296:=by rw[hvk];exact lowL_lt _ _ _
 have hvk:=hv ((m-1-i)/4) oM;have hor:l.getD ((m-1-i)/4) 0 ||| (n/256^(m-1-i)%256)*2^(8*((m-1-i)%4))=lowL n (m-1-i) ((m-1-i)/4):=by rw[hvk,show m-i=m-1-i+1 by omega];exact from_or
 have hlt:l.getD ((m-1-i)/4) 0<4294967296:=by rw[hvk];exact lowL_lt _ _ _
 refine eHe 11 33 (.int .u8 ((byt n m).getD i 0:Nat)) hs ((hs.f.1).el i oM) (by rw[byt_get n m _ oM]) (eV 12 34 (mW (n/256^(m-1-i)%256)) ?_ (hv:=fun _=>rT (((n/256^(m-1-i)%256:Nat):Int)) kR (fitU32 oM oM)));refine eV 13 35 (nV ((m-1)-i)) (eV 14 36 (nV (((m-1)-i)%4)) ?_ (hv:=fun _=>rint (opRem (t:=3) (u:=3) (x:=.tmp 35) (y:=.const (iV 4)) (k:=.i64) (a:=(((m-1)-i:Nat):Int)) (b:=(4:Int)) kR kR kR oM _) (tmodNat ((m-1)-i) 4)));refine eIn 15 37 (8*(((m-1)-i)%4:Nat)) (8*(((m-1)-i)%4:Nat)) (eV 16 38 (mV (8*(((m-1)-i)%4:Nat))) ?_ (hv:=fun _=>rU (((8*(((m-1)-i)%4:Nat):Nat):Int)) kR (fitU64 oM oM)));refine eV 17 39 (mW ((n/256^(m-1-i)%256)*2^(8*((m-1-i)%4)))) ?_ (hv:=fun _=>opShlU32 (t:=209) (u:=210) (x:=.tmp 34) (y:=.tmp 38) (ky:=.u64) (a:=n/256^(m-1-i)%256) (n:=8*((m-1-i)%4)) kR kR kR oM (shl_fit32 oM) _);refine eV 18 40 (mW (lowL n (m-1-i) ((m-1-i)/4))) ?_ (hv:=fun _=>rint (opOr32 (t:=209) (u:=209) (x:=.tmp 29) (y:=.tmp 39) (a:=l.getD ((m-1-i)/4) 0) (b:=(n/256^(m-1-i)%256)*2^(8*((m-1-i)%4))) kR kR kR hlt (shl_fit32 oM) _) (congrArg Int.ofNat hor));refine eD0 hs (fun w16 h17 hs=>tX 19 41 (sB b1) ((m+3)/4) ((m+3)/4) 1 (((m-1)-i)/4:Nat) (((m-1)-i)/4:Nat) rfl (tW 20 0 l u32c 1 (((m-1)-i)/4:Nat) (lowL n (m-1-i) ((m-1-i)/4):Nat) hs oM (fun w18 hs=>?_)));have hl19:((l).set (((m-1)-i)/4:Nat) (lowL n (m-1-i) ((m-1-i)/4):Nat)).length=((m+3)/4):=by rw[List.length_set];exact hll
 replace hs:=hs.to [⟨b1,209,((l).set (((m-1)-i)/4:Nat) (lowL n (m-1-i) ((m-1-i)/4):Nat)).flatMap u32c⟩] [];refine tN (kQ (lL hs [.m 15 4] (lIn 16 ((i:Nat)+1) (i+1) ?_)));refine lL hs [.m 4 16] (lD ?_);intro a_ ka;refine ⟨_,_,?_,⟨i+1,(l).set (((m-1)-i)/4:Nat) (lowL n (m-1-i) ((m-1-i)/4):Nat),h17,rfl,rfl,hs.to _ _,oM,hl19,(lowL_next oM hll hv rfl)⟩,ka.to _ kR⟩
 omega
def qabs (q:Rat):Rat:=if q.num<0 then -q else q
theorem qabs_num (q:Rat):(qabs q).num=((iabs q.num:Nat):Int):=by
  unfold qabs iabs;split
  · rw[Rat.neg_num];omega
  · omega
theorem qabs_den (q:Rat):(qabs q).den=q.den:=by
  unfold qabs;split
  · rw[Rat.neg_den]
  · rfl
theorem LQ.ln {q:Rat}(h:LQ 100000000 q):(lim (iabs q.num)).length≤300000000:=Nat.le_trans (lim_wds _) (by have:=h.1;omega)
theorem LQ.ld {q:Rat}(h:LQ 100000000 q):(lim q.den).length≤300000000:=Nat.le_trans (lim_wds _) (by have:=h.2;omega)
theorem nl {k:Nat}{q:Rat}(h:LQ k q)(hk:k≤100000000:=by omega):(lim (iabs q.num)).length≤300000000:=LQ.ln (h.mono hk)
theorem nD {k:Nat}{q:Rat}(h:LQ k q)(hk:k≤100000000:=by omega):(lim q.den).length≤300000000:=LQ.ld (h.mono hk)
theorem LQ.abs {k:Nat}{q:Rat}(h:LQ k q):LQ k (qabs q):=⟨by rw[qabs_num];exact h.1,by rw[qabs_den];exact h.2⟩
theorem LQ.sub {k l:Nat}{a b:Rat}(ha:LQ k a)(hb:LQ l b):LQ (k+l+1) (a-b):=by rw[Rat.sub_eq_add_neg];exact ha.add hb.neg
theorem LQ.inv {k:Nat}{q:Rat}(h:LQ k q):LQ k q⁻¹:=by
  by_cases hz:q.num=0
  · have:q=0:=by rw[←Rat.num_eq_zero];exact hz
    subst this;rw[Rat.inv_zero];exact h
  · obtain ⟨h1,h2⟩:=rat_inv q hz
    exact ⟨by rw[h1,iabs_sgn];exact h.2,by rw[h2];exact h.1⟩
theorem LQ.div {k l:Nat}{a b:Rat}(ha:LQ k a)(hb:LQ l b):LQ (k+l) (a/b):=by rw[Rat.div_def];exact ha.mul hb.inv
theorem LQ.int {z:Int}(h0 : -9223372036854775808≤z)(h1:z≤9223372036854775807):LQ 1 (z:Rat):=⟨by rw[Rat.num_intCast];exact wds_len_lit.2 (by unfold iabs;omega),by rw[Rat.den_intCast];exact wds_len_lit.2 oM⟩
theorem LQ.lit {z:Int}(h : -9223372036854775808≤z∧z≤9223372036854775807):LQ 1 (z:Rat):=LQ.int h.1 h.2
def dotq (a b:List Rat):Nat→Rat
  | 0=>0
  | k+1=>dotq a b k+a.getD k 0*b.getD k 0
theorem LQ.dot {a b:List Rat}{k l n:Nat}(ha:∀ i,i<n→LQ k (a.getD i 0))(hb:∀ i,i<n→LQ l (b.getD i 0)):∀ i,i≤n→LQ (i*(k+l+1)+1) (dotq a b i)
  | 0,_=>by rw[Nat.zero_mul];exact LQ.lit (z:=0) kD
  | i+1,h=>by
    have h1:=(LQ.dot ha hb i oM).add ((ha i oM).mul (hb i oM));refine LQ.mono h1 ?_;rw[Nat.succ_mul];omega
theorem hNat (a:Nat)(A:Option Addr)(c:Nat)(hc:(lim a).length≤c)(hl:(lim a).length≤300000000)(w:World)(h:Hp)(g:G w h)(hA:S3 A (lim a) h):CV 100 #[.slice A ((lim a).length) c] w h (nv a):=by
 have hs:=((sS g).aS hA);have hnb:=nb_len a;refine go Tryz.func100 [(0,.slice A ((lim a).length) c)] rfl (cSL (lA 2 51 ([uV 0,eS]) hs (fun b1 w2 h3 hs=>lNS (lL hs [.m 3 0] (lC 4 hs (rNatBytes a A c hc oM _ _ hs.g hs.f.1) ?_)))));rintro _ w6 h7 hs ⟨A4,rfl,hA5⟩;replace hs:=hs.aS hA5;refine lC 5 hs (nFromB a ((nb a+7)/8) A4 ((nb a+7)/8) (nR _) oM (lt256 a) _ _ hs.g hs.f.1) ?_;rintro _ w8 h9 hs rfl;exact lP 0 0 (nc a) hs (fun w10 hs=>lN (kX (hs.ret [(0,0,2)] (nv a) rfl)))
theorem hInt (z:Int)(A:Option Addr)(c:Nat)(hc:(lim (iabs z)).length≤c)(hl:(lim (iabs z)).length≤300000000)(w:World)(h:Hp)(g:G w h)(hA:S3 A (lim (iabs z)) h):CV 98 #[.agg #[.bool (ineg z),.slice A ((lim (iabs z)).length) c]] w h (iv z):=by
 have hs:=((sS g).aS hA);have hwl:=wds_lim (iabs z);refine go Tryz.func98 [(0,.agg #[.bool (ineg z),.slice A ((lim (iabs z)).length) c])] rfl (cSL (lA 1 95 ([.bool (ineg z),.slice A ((lim (iabs z)).length) c]) hs (fun b1 w2 h3 hs=>lA 2 53 ([.bool false,uV 0,eS]) hs (fun b4 w5 h6 hs=>lN (cQ (cR 6 [] mixed hs al_nil ?_))))));refine eV 0 3 (pB b1) (eO 1 4 [(1,0,1)] (.bool (ineg z)) hs (eV 2 5 (.pointer (some ⟨b1,1,none⟩)) (eO 3 6 [(1,1,1)] (.slice A ((lim (iabs z)).length) c) hs (eC 4 7 hs (fun _ _ hs=>hNat (iabs z) A c hc (by first|exact hl|exact LQ.ld hq|omega) _ _ hs.g hs.f.1) ?_))));rintro _ _ _ w7 h8 hs rfl;refine eC 5 8 hs (fun _ _ hs=>wFrom (ineg z) (iabs z) oM _ _ hs.g) ?_;rintro _ _ _ w9 h10 hs rfl;exact eD0 hs (fun w11 h12 hs=>tP 6 0 0 (ic (sgn (ineg z) (iabs z))) hs (fun w13 hs=>tN (kX (hs.ret [(0,0,3)] (iv (sgn (ineg z) (iabs z))) (congrArg iv (sgn_self z))))))
theorem mkR_self (q:Rat):mkR q.num ((q.den:Nat):Int)=q:=by
  unfold mkR;rw[if_neg oM];show mkRat q.num q.den=q;rw[Rat.mkRat_self]
theorem hIn (q:Rat)(A1:Option Addr)(c1:Nat)(D1:Option Addr)(d1:Nat)(hc1:(lim (iabs q.num)).length≤c1)(hd1:(lim q.den).length≤d1)(hq:LQ 100000000 q)(w:World)(h:Hp)(g:G w h)(hA1:S3 A1 (lim (iabs q.num)) h)(hD1:S3 D1 (lim q.den) h)(tb:Tab h):CV 47 #[rG q A1 c1 D1 d1] w h (qv q):=by
 have hs:=((((sS g).aS hA1).aS hD1).aB tb);refine go Tryz.func47 [(0,rG q A1 c1 D1 d1)] rfl (cSL (lA 1 97 (rqx q A1 c1 D1 d1) hs (fun b1 w2 h3 hs=>lA 2 55 ([.bool false,uV 0,eS,uV 0,eS]) hs (fun b4 w5 h6 hs=>lN (cQ ?_)))));have hsr:=hs;refine cR 12 [⟨11,3,.cells (List.toArray [.bool false,uV 0,eS,uV 0,eS]) 55 (0,0)⟩] mixed hs (al_cons (alOk kR (fun _ _=>by kernel_rfl)) al_nil) (eV 0 6 (pB b1) (eO 1 7 [(1,0,2)] (.agg #[.bool (ineg q.num),.slice A1 ((lim (iabs q.num)).length) c1]) hs (eV 3 9 (.pointer (some ⟨b1,2,none⟩)) (eO 4 10 [(1,2,1)] (.slice D1 ((lim q.den).length) d1) hs (eC 2 8 hs (fun _ _ hs=>hInt q.num A1 c1 hc1 (LQ.ln hq) _ _ hs.g hs.f.r.1) ?_)))));rintro _ _ _ w7 h8 hs rfl;refine eC 5 11 hs (fun _ _ hs=>hNat q.den D1 d1 hd1 (by first|exact hl|exact LQ.ld hq|omega) _ _ hs.g hs.f.2.1) ?_;rintro _ _ _ w9 h10 hs rfl;refine eC 6 12 hs (fun _ _ hs=>wFromN q.den _ _ hs.g) ?_;rintro _ _ _ w11 h12 hs rfl;refine eC 7 13 hs (fun _ _ hs=>fMake q.num (q.den:Int) (by have:=q.den_pos;omega) (by have:=hq.1;omega) (by show (wds q.den).length≤_;have:=hq.2;omega) _ _ hs.g hs.f.1) ?_;rintro _ _ _ w13 h14 hs rfl;exact eV 8 5 (.tuple #[qv (mkR q.num (q.den:Int)),.bool true]) (eV 9 14 (qv (mkR q.num (q.den:Int))) (eV 10 15 (.bool true) (eD1p [] hsr hs 55 [.bool false,uV 0,eS,uV 0,eS] (fun w15 h16 b17 hs=>tP 12 0 0 (qc (mkR q.num (q.den:Int))) hs (fun w18 hs=>tV 13 4 (.bool true) (tNS (lL hs [.o 16 (qv (mkR q.num (q.den:Int))) 0 0 5] (lP 1 0 (qc (mkR q.num (q.den:Int))) hs (fun w19 hs=>lN (kX (hs.ret [(1,0,5)] (qv (mkR q.num (q.den:Int))) (congrArg qv (mkR_self q)))))))))))))
theorem hInV (v:Value)(q:Rat)(hq:LQ 100000000 q)(w:World)(h:Hp)(g:G w h)(hv:RQ h v q)(tb:Tab h):CV 47 #[v] w h (qv q):=by
  obtain ⟨A,c,B,d,rfl,h1,h2,h3,h4⟩:=hv;exact hIn q A c B d h1 h2 hq w h g h3 h4 tb
theorem hOutNat (n:Nat)(hl:(wds n).length≤100000000)(w:World)(h:Hp)(g:G w h):CR 140 #[nv n] w h (fun v h1=>RN h1 v n):=by
 have hs:=sS g;have hnb:=nb_len64 n;refine go Tryz.func140 [(0,nv n)] rfl (cSL (lA 1 51 (nc n) hs (fun b1 w2 h3 hs=>lL hs [.v 2 (sZ)] (lNS (lL hs [.o 3 (nv n) 0 0 2] (lC 4 hs (nBytes n oM _ _ hs.g) ?_))))));rintro _ w6 h7 hs ⟨A4,rfl,hA5⟩;replace hs:=hs.aS hA5;refine lC 5 hs (rNatFrom n ((nb n+7)/8) A4 ((nb n+7)/8) (nR _) oM (lt256 n) _ _ hs.g hs.f.1) ?_;rintro _ w12 h13 hs ⟨A8,c9,rfl,hc10,hA11⟩;replace hs:=hs.aS hA11;exact lL hs [.m 2 5] (lN (kX (hs.ret [] (.slice A8 ((lim n).length) c9) (⟨_,_,rfl,hc10,hs.f.1⟩))))
theorem sgn_sgn (z:Int):sgn (decide (z.sign<(0:Int))) (iabs z)=z:=by
  rcases Int.lt_trichotomy z 0 with h|h|h
  · rw[Int.sign_eq_neg_one_of_neg h];unfold sgn iabs;simp;omega
  · subst h;rfl
  · rw[Int.sign_eq_one_of_pos h];unfold sgn iabs;simp;omega
theorem hOutInt (z:Int)(hl:(wds (iabs z)).length≤100000000)(w:World)(h:Hp)(g:G w h):CR 138 #[iv z] w h (fun v h1=>RI h1 v z):=by
 have hs:=sS g;refine go Tryz.func138 [(0,iv z)] rfl (cSL (lA 1 53 (ic z) hs (fun b1 w2 h3 hs=>lA 2 95 ([.bool false,sZ]) hs (fun b4 w5 h6 hs=>lN (cQ (cR 7 [] mixed hs al_nil ?_))))));refine eO 0 3 [(1,0,3)] (iv z) hs (eO 3 6 [(1,0,3)] (iv z) hs (eC 1 4 hs (fun _ _ hs=>wSign z oM _ _ hs.g) ?_));rintro _ _ _ w7 h8 hs rfl;refine eV 2 5 (.bool (decide ((z.sign:Int)<(0:Int)))) (eC 4 7 hs (fun _ _ hs=>wAbs z _ _ hs.g) ?_);rintro _ _ _ w9 h10 hs rfl;refine eC 5 8 hs (fun _ _ hs=>hOutNat (iabs z) (by first|exact hq.2|omega) _ _ hs.g) ?_;rintro _ _ _ w15 h16 hs ⟨A11,c12,rfl,hc13,hA14⟩;replace hs:=hs.aS hA14;refine eC 6 9 hs (fun _ _ hs=>rI (decide ((z.sign:Int)<(0:Int))) (iabs z) A11 c12 hc13 _ _ hs.g hs.f.1) ?_;rintro _ _ _ w21 h22 hs ⟨A17,c18,rfl,hc19,hA20⟩;replace hs:=hs.aS hA20;exact eD0 hs (fun w23 h24 hs=>tP 7 0 0 ([.bool (ineg (sgn (decide ((z.sign:Int)<(0:Int))) (iabs z))),.slice A17 ((lim (iabs (sgn (decide ((z.sign:Int)<(0:Int))) (iabs z)))).length) c18]) hs (fun w25 hs=>tN (kX (hs.ret [(0,0,2)] (.agg #[.bool (ineg (sgn (decide ((z.sign:Int)<(0:Int))) (iabs z))),.slice A17 ((lim (iabs (sgn (decide ((z.sign:Int)<(0:Int))) (iabs z)))).length) c18]) (by rw[sgn_sgn] at *;exact ⟨_,_,rfl,hc19,hs.f.1⟩)))))
theorem hOut (q:Rat)(hq:LQ 100000000 q)(w:World)(h:Hp)(g:G w h):CR 84 #[qv q] w h (fun v h1=>RQ h1 v q):=by
 have hs:=sS g;refine go Tryz.func84 [(0,qv q)] rfl (cSL (lA 1 55 (qc q) hs (fun b1 w2 h3 hs=>lA 2 97 ([.bool false,sZ,sZ]) hs (fun b4 w5 h6 hs=>lN (cQ (cR 7 [] mixed hs al_nil ?_))))));refine eO 0 3 [(1,0,5)] (qv q) hs (eO 3 6 [(1,0,5)] (qv q) hs (eC 1 4 hs (fun _ _ hs=>fNum q _ _ hs.g) ?_));rintro _ _ _ w7 h8 hs rfl;refine eC 2 5 hs (fun _ _ hs=>hOutInt q.num hq.1 _ _ hs.g) ?_;rintro _ _ _ w13 h14 hs ⟨A9,c10,rfl,hc11,hA12⟩;replace hs:=hs.aS hA12;refine eC 4 7 hs (fun _ _ hs=>fDen q hq _ _ hs.g) ?_;rintro _ _ _ w15 h16 hs rfl;refine eC 5 8 hs (fun _ _ hs=>hOutNat q.den (by first|exact hq.2|omega) _ _ hs.g) ?_;rintro _ _ _ w21 h22 hs ⟨A17,c18,rfl,hc19,hA20⟩;replace hs:=hs.aS hA20;exact eV 6 9 (rG q A9 c10 A17 c18) (eD0 hs (fun w23 h24 hs=>tP 7 0 0 (rqx q A9 c10 A17 c18) hs (fun w25 hs=>tN (kX (hs.ret [(0,0,3)] (rG q A9 c10 A17 c18) (⟨_,_,_,_,rfl,hc11,hc19,hs.f.2.1,hs.f.1⟩))))))
def sameQ (a b:Rat):Bool:=decide (a=b)
theorem sameQ_t {a b:Rat}(h1:cmpN (iabs a.num) (iabs b.num)=0)(h2:ineg a.num=ineg b.num)(h3:cmpN a.den b.den=0):true=sameQ a b:=by
  have e1:iabs a.num=iabs b.num:=by unfold cmpN at h1;split at h1;omega;split at h1;omega;omega
  have e3:a.den=b.den:=by unfold cmpN at h3;split at h3;omega;split at h3;omega;omega
  have e2:a.num=b.num:=by rw[←sgn_self a.num,←sgn_self b.num,e1,h2]
  symm
  exact decide_eq_true (Rat.ext e2 e3)
theorem cmpN_self (a:Nat):cmpN a a=0:=by simp[cmpN]
theorem sameQ_f {a b:Rat}(h:cmpN (iabs a.num) (iabs b.num)≠0∨ineg a.num≠ineg b.num∨cmpN a.den b.den≠0):false=sameQ a b:=by
  symm
  refine decide_eq_false ?_;rintro rfl
  rcases h with h|h|h
  · exact h (cmpN_self _)
  · exact h rfl
  · exact h (cmpN_self _)
theorem hSame (q r:Rat)(hq:LQ 100000000 q)(hr:LQ 100000000 r)(A1:Option Addr)(c1:Nat)(D1:Option Addr)(d1:Nat)(hc1:(lim (iabs r.num)).length≤c1)(hd1:(lim r.den).length≤d1)(w:World)(h:Hp)(g:G w h)(hA1:S3 A1 (lim (iabs r.num)) h)(hD1:S3 D1 (lim r.den) h):CV 60 #[qv q,rG r A1 c1 D1 d1] w h (.bool (sameQ q r)):=by
 have hs:=(((sS g).aS hA1).aS hD1);have hpd:0<(lim r.den).length:=lim_pos.2 r.den_pos;have hq1:=LQ.ln hq;have hq2:=LQ.ld hq;have hr1:=LQ.ln hr;have hr2:=LQ.ld hr;refine go Tryz.func60 [(0,qv q),(1,rG r A1 c1 D1 d1)] rfl (cSL (lA 2 55 (qc q) hs (fun b1 w2 h3 hs=>lA 3 97 (rqx r A1 c1 D1 d1) hs (fun b4 w5 h6 hs=>lL hs [.v 4 (.bool false)] (lNS (lL hs [.o 6 (qv q) 1 0 5] (lC 7 hs (hOut q hq _ _ hs.g) ?_)))))));rintro _ w15 h16 hs ⟨A7,c8,A11,c12,rfl,hc9,hc13,hA10,hA14⟩;replace hs:=hs.aP hA10 hA14;refine lA 5 97 ([.bool false,sZ,sZ]) hs (fun b17 w18 h19 hs=>lP 0 0 (rqx q A7 c8 A11 c12) hs (fun w20 hs=>lN (cQ (cSL (lL hs [.v 8 (.pointer (some ⟨b4,2,none⟩)),.o 9 (.slice D1 ((lim r.den).length) d1) 1 2 1,.v 10 (nV ((lim r.den).length))] ?_)))));have hb21:((((lim r.den).length:Nat):Int) == (0:Int))=false:=(by simp;exact fun h=>Nat.lt_irrefl 0 (by rw[h] at hpd;exact hpd));have phb21:=neOfBeq hb21;refine lB 11 hb21 (lN (cIF (cK (cSL (lL hs [.v 13 (pB b17),.v 14 (.pointer (some ⟨b17,1,none⟩)),.o 15 (.slice A7 ((lim (iabs q.num)).length) c8) 0 1 1,.v 16 (pB b4),.v 17 (.pointer (some ⟨b4,1,none⟩)),.o 18 (.slice A1 ((lim (iabs r.num)).length) c1) 1 1 1] (lC 19 hs (rNatCmp (iabs q.num) A7 c8 hc9 (iabs r.num) A1 c1 hc1 oM oM _ _ hs.g hs.f.2.1 hs.f.r.2.1) ?_))))));rintro _ w22 h23 hs rfl;cases hb24:((cmpN (iabs q.num) (iabs r.num):Int) == (0:Int))
 ·
  have phb24:=neOfBeq hb24;refine lB 20 hb24 (lL hs [.m 21 20] (lG 22 ?_));refine lG 23 (lG 24 (lG 25 (lG 26 (lG 27 (lG 28 (lL hs [.v 29 (.bool false),.m 30 29] (lG 31 ?_)))))));exact lG 32 (lG 33 (lG 34 (lG 35 (lG 36 (lL hs [.v 37 (.bool false),.m 4 37] (lN (kX (hs.ret [] (.bool false) (congrArg Value.bool (sameQ_f (by first|(left;assumption)|(right;right;assumption)|(right;left;exact beq_eq_false_iff_ne.1 ‹_›))))))))))))
 have phb24:=eq_of_beq hb24;refine lB 20 hb24 (lL hs [.m 21 20,.v 22 (pB b17),.v 23 (pB b17),.o 24 (.bool (ineg q.num)) 0 0 1,.v 25 (pB b4),.v 26 (pB b4),.o 27 (.bool (ineg r.num)) 1 0 1] ?_);cases hb25:((ineg q.num) == (ineg r.num))
 ·
  refine lB 28 hb25 (lL hs [.v 29 (.bool false),.m 30 29] (lG 31 ?_));exact lG 32 (lG 33 (lG 34 (lG 35 (lG 36 (lL hs [.v 37 (.bool false),.m 4 37] (lN (kX (hs.ret [] (.bool false) (congrArg Value.bool (sameQ_f (by first|(left;assumption)|(right;right;assumption)|(right;left;exact beq_eq_false_iff_ne.1 ‹_›))))))))))))
 refine lB 28 hb25 (lL hs [.v 29 (.bool true),.m 30 29,.v 31 (.pointer (some ⟨b17,2,none⟩)),.o 32 (.slice A11 ((lim q.den).length) c12) 0 2 1,.v 33 (.pointer (some ⟨b4,2,none⟩)),.o 34 (.slice D1 ((lim r.den).length) d1) 1 2 1] (lC 35 hs (rNatCmp q.den A11 c12 hc13 r.den D1 d1 hd1 oM oM _ _ hs.g hs.f.1 hs.f.r.1) ?_));rintro _ w26 h27 hs rfl;cases hb28:((cmpN q.den r.den:Int) == (0:Int))
 ·
  have phb28:=neOfBeq hb28;exact lB 36 hb28 (lL hs [.v 37 (.bool false),.m 4 37] (lN (kX (hs.ret [] (.bool false) (congrArg Value.bool (sameQ_f (by first|(left;assumption)|(right;right;assumption)|(right;left;exact beq_eq_false_iff_ne.1 ‹_›))))))))
 have phb28:=eq_of_beq hb28;exact lB 36 hb28 (lL hs [.v 37 (.bool true),.m 4 37] (lN (kX (hs.ret [] (.bool true) (congrArg Value.bool (sameQ_t aM (eq_of_beq ‹_›) aM))))))
theorem LQ.mkR {n d:Int}(hd:d≠0)(h0 : -9223372036854775808≤n)(h1:n≤9223372036854775807)(h2 : -9223372036854775808≤d)(h3:d≤9223372036854775807):LQ 1 (mkR n d):=by
  unfold Go.Proofs.YtmkcmnhnmajheaaGreatDoor.mkR
  have hp:0<iabs d:=by unfold iabs;omega
  obtain ⟨p1,p2,p3,p4⟩:=mkRat_parts (if d<0 then -n else n) (iabs d) hp;refine ⟨?_,?_⟩
  · rw[p1];refine wds_len_lit.2 (Nat.lt_of_le_of_lt (iabs_div_le _ _ p3) ?_)
    unfold iabs;split<;>omega
  · rw[p2];exact wds_len_lit.2 (Nat.lt_of_le_of_lt (Nat.div_le_self _ _) (by unfold iabs;omega))
theorem hIs (q:Rat)(z e:Int)(hq:LQ 100000000 q)(he:e≠0)(hz0 : -9223372036854775808≤z)(hz1:z<9223372036854775808)(he0 : -9223372036854775808≤e)(he1:e<9223372036854775808)(w:World)(h:Hp)(g:G w h):CV 59 #[qv q,iV z,iV e] w h (.bool (sameQ q (mkR z e))):=by
 have hs:=sS g;have hb:LQ 100000000 (mkR z e):=(LQ.mkR he hz0 oM he0 oM).mono oM;refine go Tryz.func59 [(0,qv q),(1,iV z),(2,iV e)] rfl (cSL (lA 3 55 (qc q) hs (fun b1 w2 h3 hs=>lL hs [.v 6 (.bool false)] (lN (cQ (cR 5 [] mixed hs al_nil ?_))))));refine eO 0 7 [(0,0,5)] (qv q) hs (eV 1 8 (iV z) (eV 2 9 (iV e) (eC 3 10 hs (fun _ _ hs=>rOver z e oM oM oM oM oM _ _ hs.g) ?_)));rintro _ _ _ w12 h13 hs ⟨A4,c5,A8,c9,rfl,hc6,hc10,hA7,hA11⟩;replace hs:=hs.aP hA7 hA11;refine eC 4 11 hs (fun _ _ hs=>hSame q (mkR z e) hq hb A4 c5 A8 c9 hc6 hc10 _ _ hs.g hs.f.2.1 hs.f.1) ?_;rintro _ _ _ w14 h15 hs rfl;exact eD0 hs (fun w16 h17 hs=>tV 5 6 (.bool (sameQ q (mkR z e))) (tN (kX (hs.ret [] (.bool (sameQ q (mkR z e))) rfl))))
def pick (n:Int)(m:Nat):Nat:=(n%(m:Int)).toNat
theorem pick_lt (n:Int)(m:Nat)(h:0<m):pick n m<m:=by
  unfold pick
  have h1:=Int.emod_nonneg n (show (m:Int)≠0 by omega);have h2:=Int.emod_lt_of_pos n (show (0:Int)<m by omega)
  omega
theorem pick_int (n:Int)(m:Nat)(h:0<m):((pick n m:Nat):Int)=n%(m:Int):=by
  unfold pick
  have h1:=Int.emod_nonneg n (show (m:Int)≠0 by omega)
  omega
theorem tmod_neg (n:Int)(m:Nat)(hm:0<m)(hn:n<0):(n%(m:Int)=0∧n.tmod (m:Int)=0)∨(0<n%(m:Int)∧n.tmod (m:Int)=n%(m:Int)-m):=by
  have b1:=Int.emod_nonneg n (show (m:Int)≠0 by omega);rw[Int.tmod_eq_emod]
  by_cases h:(m:Int)∣n
  · left
    rw[if_pos (.inr h)];have:=Int.emod_eq_zero_of_dvd h;exact ⟨this,by omega⟩
  · right
    have h2:¬(n%(m:Int)=0):=fun h'=>h (Int.dvd_of_emod_eq_zero h')
    rw[if_neg (by intro h';rcases h' with h'|h';omega;exact h h')];refine ⟨by omega,by simp⟩
def dDen (k:Nat):Nat:=match k with|0=>1|1=>1|2=>1|3=>2|4=>3|_=>4
theorem dDen_pos (k:Nat):0<dDen k:=by unfold dDen;split<;>omega
theorem dDen_le (k:Nat):dDen k≤4:=by unfold dDen;split<;>omega
def handRq (n:Int):Rat:=mkR ((pick n 41:Int)-20) (dDen (pick (n.tdiv 41) 6):Nat)
def smallq (n:Int):Rat:=mkR ((pick n 9:Int)-4) (((pick (n.tdiv 9) 2:Nat):Int)+1)
theorem tdiv_bd (n:Int)(m:Int)(hm:1<m)(hn0 : -9223372036854775808≤n)(hn1:n≤9223372036854775807) : -9223372036854775808≤n.tdiv m∧n.tdiv m≤9223372036854775807:=by
  have h1:(n.tdiv m).natAbs≤n.natAbs/2:=by
    rw[Int.natAbs_tdiv];exact Nat.div_le_div_left oM oM
  omega
theorem pick_neg {n:Int}{m:Nat}(hm:0<m)(h:n.tmod (m:Int)<0):n.tmod (m:Int)+m=((pick n m:Nat):Int):=by
  rw[pick_int n m hm]
  rcases Int.lt_or_le n 0 with hn|hn
  · rcases tmod_neg n m hm hn with ⟨h1,h2⟩|⟨h1,h2⟩<;>omega
  · rw[Int.tmod_eq_emod_of_nonneg hn] at h
    have:=Int.emod_nonneg n (show (m:Int)≠0 by omega)
    omega
theorem pick_nneg {n:Int}{m:Nat}(hm:0<m)(h:¬n.tmod (m:Int)<0):n.tmod (m:Int)=((pick n m:Nat):Int):=by
  rw[pick_int n m hm]
  rcases Int.lt_or_le n 0 with hn|hn
  · rcases tmod_neg n m hm hn with ⟨h1,h2⟩|⟨h1,h2⟩
    · omega
    · have:=Int.emod_lt_of_pos n (show (0:Int)<m by omega)
      omega
  · rw[Int.tmod_eq_emod_of_nonneg hn]
theorem tmod_bd (n:Int){m:Nat}(hm:0<m) : -(m:Int)<n.tmod (m:Int)∧n.tmod (m:Int)<m:=by
  have h1:=Int.tmod_lt_of_pos n (show (0:Int)<m by omega);have h2:=Int.lt_tmod_of_pos n (show (0:Int)<m by omega);exact ⟨h2,h1⟩
theorem hPick (n:Int)(m:Nat)(hm:0<m)(hm2:m<1000000)(w:World)(h:Hp)(g:G w h):CV 35 #[iV n,nV m] w h (nV (pick n m)):=by
 have hs:=sS g;obtain ⟨b1,b2⟩:=tmod_bd n hm;refine go Tryz.func35 [(0,iV n),(1,nV m)] rfl (cSL (lL hs [.v 4 (iV 0)] (lNS (lL hs [.m 5 0,.m 6 1] (lV 7 (iV (n.tmod (m:Nat))) ?_ (hr:=opRem (t:=3) (u:=3) (x:=.tmp 5) (y:=.tmp 6) (k:=.i64) (a:=n) (b:=(m:Nat)) kR kR kR oM _))))));refine lL hs [.m 0 7] (lN (cQ (cSL (lL hs [.m 8 0] ?_))));cases hb1:(decide ((n.tmod (m:Nat):Int)<(0:Int)))
 ·
  have phb1:=oF hb1;exact lB 9 hb1 (lN (cIF (cK (cSL (lL hs [.m 13 0,.m 4 13] (lN (kX (hs.ret [] (iV (n.tmod (m:Nat))) (congrArg (Value.int .i64) (pick_nneg hm aM))))))))))
 have phb1:=oT hb1;refine lB 9 hb1 (lN (cIT (kQ (lL hs [.m 10 0,.m 11 1] (lI 12 ((n.tmod (m:Nat))+(m:Nat)) ?_)))));exact lL hs [.m 0 12] (lNS (lL hs [.m 13 0,.m 4 13] (lN (kX (hs.ret [] (iV ((n.tmod (m:Nat))+(m:Nat))) (congrArg (Value.int .i64) (pick_neg hm aM)))))))
theorem index6_0 (w:World):(Instr.index 165 (.agg #[.int .i64 1,.int .i64 1,.int .i64 1,.int .i64 2,.int .i64 3,.int .i64 4]) (.int .i64 0)).run Tryz.prog w=.ok (.int .i64 1) w:=by kernel_rfl
theorem index6_1 (w:World):(Instr.index 165 (.agg #[.int .i64 1,.int .i64 1,.int .i64 1,.int .i64 2,.int .i64 3,.int .i64 4]) (.int .i64 1)).run Tryz.prog w=.ok (.int .i64 1) w:=by kernel_rfl
theorem index6_2 (w:World):(Instr.index 165 (.agg #[.int .i64 1,.int .i64 1,.int .i64 1,.int .i64 2,.int .i64 3,.int .i64 4]) (.int .i64 2)).run Tryz.prog w=.ok (.int .i64 1) w:=by kernel_rfl
theorem index6_3 (w:World):(Instr.index 165 (.agg #[.int .i64 1,.int .i64 1,.int .i64 1,.int .i64 2,.int .i64 3,.int .i64 4]) (.int .i64 3)).run Tryz.prog w=.ok (.int .i64 2) w:=by kernel_rfl
theorem index6_4 (w:World):(Instr.index 165 (.agg #[.int .i64 1,.int .i64 1,.int .i64 1,.int .i64 2,.int .i64 3,.int .i64 4]) (.int .i64 4)).run Tryz.prog w=.ok (.int .i64 3) w:=by kernel_rfl
theorem index6_5 (w:World):(Instr.index 165 (.agg #[.int .i64 1,.int .i64 1,.int .i64 1,.int .i64 2,.int .i64 3,.int .i64 4]) (.int .i64 5)).run Tryz.prog w=.ok (.int .i64 4) w:=by kernel_rfl
theorem index6 (k:Nat)(h:k<6)(w:World):(Instr.index 165 (.agg #[.int .i64 1,.int .i64 1,.int .i64 1,.int .i64 2,.int .i64 3,.int .i64 4]) (.int .i64 (k:Int))).run Tryz.prog w=.ok (.int .i64 ((dDen k:Nat):Int)) w:=by
  have:k=0∨k=1∨k=2∨k=3∨k=4∨k=5:=by omega
  rcases this with rfl|rfl|rfl|rfl|rfl|rfl
  · exact index6_0 w
  · exact index6_1 w
  · exact index6_2 w
  · exact index6_3 w
  · exact index6_4 w
  · exact index6_5 w
theorem idx6 {Γ:Env}{o:Oper}{x y:Operand}(k:Nat)(h:k<6)(ho:o.op=.index 165 x y)(hx:ev Γ x=.agg #[.int .i64 1,.int .i64 1,.int .i64 1,.int .i64 2,.int .i64 3,.int .i64 4])(hy:ev Γ y=.int .i64 (k:Nat))(w:World) :
    (execOp (ev Γ) o).run Tryz.prog w=.ok (.value (.int .i64 (dDen k:Nat))) w:=by
  unfold execOp;simp only[ho];rw[hx,hy,Sem.run_bind,index6 k h w];rfl
theorem hR (n:Int)(h0 : -9223372036854775808≤n)(h1:n≤9223372036854775807)(w:World)(h:Hp)(g:G w h):CR 43 #[iV n] w h (fun v h1=>RQ h1 v (handRq n)):=by
 have hs:=sS g;obtain ⟨t0,t1⟩:=tdiv_bd n 41 oM h0 h1;have l1:=pick_lt n 41 oM;have l2:=pick_lt (n.tdiv 41) 6 oM;have p1:=dDen_pos (pick (n.tdiv 41) 6);have p2:=dDen_le (pick (n.tdiv 41) 6);refine go Tryz.func43 [(0,iV n)] rfl (cSL (lA 2 97 ([.bool false,sZ,sZ]) hs (fun b1 w2 h3 hs=>lNS (lL hs [.m 3 0] (lC 4 hs (hPick (n) 41 oM oM _ _ hs.g) ?_)))));rintro _ w5 h6 hs rfl;have lp4:=pick_lt (n) 41 oM;refine lI 5 ((pick (n) 41:Nat)-20) (lL hs [.v 6 (.agg #[iV 1,iV 1,iV 1,iV 2,iV 3,iV 4]),.m 7 0] (lV 8 (iV (n.tdiv 41)) ?_ (hr:=rS ((n.tdiv 41)) kR (fitI64 oM oM))));refine lC 9 hs (hPick (n.tdiv 41) 6 oM oM _ _ hs.g) ?_;rintro _ w8 h9 hs rfl;have lp7:=pick_lt (n.tdiv 41) 6 oM;refine lV 10 (nV (dDen (pick (n.tdiv 41) 6))) ?_ (hr:=idx6 (x:=.tmp 6) (y:=.tmp 9) (pick (n.tdiv 41) 6) l2 kR kR kR _);refine lC 11 hs (rOver ((pick (n) 41:Nat)-20) (dDen (pick (n.tdiv 41) 6):Nat) oM oM oM oM oM _ _ hs.g) ?_;rintro _ w18 h19 hs ⟨A10,c11,A14,c15,rfl,hc12,hc16,hA13,hA17⟩;replace hs:=hs.aP hA13 hA17;exact lP 0 0 (rqx (handRq n) A10 c11 A14 c15) hs (fun w20 hs=>lN (kX (hs.ret [(0,0,3)] (rG (handRq n) A10 c11 A14 c15) (⟨_,_,_,_,rfl,hc12,hc16,hs.f.2.1,hs.f.1⟩))))
theorem LQ.hand (n:Int):LQ 1 (handRq n):=by
  unfold handRq
  have l1:=pick_lt n 41 oM;have p1:=dDen_pos (pick (n.tdiv 41) 6);have p2:=dDen_le (pick (n.tdiv 41) 6);exact LQ.mkR oM oM oM oM oM
abbrev RT:=Bool × Value × Value
def rqc (t:RT):List Value:=[.bool t.1,t.2.1,t.2.2]
def rqd:RT:=(false,undef,undef)
abbrev Sr (A:Option Addr)(l:List RT):Hp→Prop:=fun h_=>SlO 3 rqc rqd h_ A l
def rtv (t:RT):Value:=.agg #[.bool t.1,t.2.1,t.2.2]
structure RTs (h:Hp) (ts:List RT) (qs:List Rat):Prop where
  len:ts.length=qs.length
  at_:∀ i,i<qs.length→RQ h (rtv (ts.getD i rqd)) (qs.getD i 0)
abbrev Rt (t:List RT)(l:List Rat):Hp→Prop:=fun h_=>RTs h_ t l
theorem RTs.gw {h h':Hp}{ts:List RT}{qs:List Rat}(r:RTs h ts qs)(u:Gw h h'):RTs h' ts qs:=⟨r.len,fun i hi=>(r.at_ i hi).gw u⟩
theorem SS.aT {t:List RT}{l:List Rat}{w0 w:World}{h0 h:Hp}{B:List Bx}{R:List Rw}{F:List (Hp→Prop)}(s:SS w0 h0 w h B R F)(p:RTs h t l):SS w0 h0 w h B R (Rt t l::F):=s.add (K:=Rt t l) p
theorem RTs.nil {h:Hp}:RTs h [] []:=⟨rfl,fun i hi=>by simp at hi⟩
theorem getD_snoc {α:Type}(l:List α)(x d:α)(i:Nat):(l++[x]).getD i d=if i<l.length then l.getD i d else if i=l.length then x else d:=by
  split
  · rename_i h;simp[List.getElem?_append_left h]
  · rename_i h
    split
    · rename_i h2;subst h2;simp
    · rename_i h2;simp[List.getElem?_eq_none (show (l++[x]).length≤i by simp;omega)]
theorem RTs.snoc {h:Hp}{ts:List RT}{qs:List Rat}(r:RTs h ts qs){t:RT}{q:Rat}(hq:RQ h (rtv t) q):RTs h (ts++[t]) (qs++[q]):=by
  refine ⟨by simp[r.len],fun i hi=>?_⟩;rw[getD_snoc,getD_snoc,r.len]
  split
  · rename_i h1;exact r.at_ i h1
  · rename_i h1
    have:i=qs.length:=by simp at hi;omega
    rw[if_pos this,if_pos this];exact hq
theorem take_snoc' {α:Type}{l:List α}{k:Nat}(d:α)(h:k<l.length):l.take (k+1)=l.take k++[l.getD k d]:=by
  rw[List.take_add_one];simp[h]
def vc (v:Value):List Value:=[v]
abbrev Sv (A:Option Addr)(l:List Value):Hp→Prop:=fun h_=>SlO 1 vc undef h_ A l
def rowq (zs:List Int):Nat→List Rat
  | 0=>[]
  | k+1=>rowq zs k++[if k<zs.length then handRq (zs.getD k 0) else 0]
theorem rowq_len (zs:List Int)(k:Nat):(rowq zs k).length=k:=by induction k with|zero=>rfl|succ k ih=>simp[rowq,ih]
def I64s (zs:List Int):Prop:=∀ k,-9223372036854775808≤zs.getD k 0∧zs.getD k 0≤9223372036854775807
structure RVs (h:Hp) (vs:List Value) (qss:List (List Rat)):Prop where
  len:vs.length=qss.length
  at_:∀ i,i<qss.length→∃ A cap,∃ ts:List RT,vs.getD i undef=.slice A ts.length cap∧ts.length≤cap∧SlO 3 rqc rqd h A ts∧RTs h ts (qss.getD i [])
abbrev Ru (t:List Value)(l:List (List Rat)):Hp→Prop:=fun h_=>RVs h_ t l
structure QVs (h:Hp) (vs:List Value) (qss:List (List Rat)):Prop where
  len:vs.length=qss.length
  at_:∀ i,i<qss.length→SlV 5 qc 0 h (vs.getD i undef) (qss.getD i [])
abbrev Qu (t:List Value)(l:List (List Rat)):Hp→Prop:=fun h_=>QVs h_ t l
theorem rowq_step {zs:List Int}{k:Nat}{q:Rat}(hq:(if k<zs.length then handRq (zs.getD k 0) else 0)=q){ts':List RT}{h':Hp}(hh:RTs h' ts' (rowq zs k++[q])):RTs h' ts' (rowq zs (k+1)):=by
  show RTs h' ts' (rowq zs k++[_]);rw[hq];exact hh
theorem rowq_lq (zs:List Int):∀ n i,LQ 1 ((rowq zs n).getD i 0)
  | 0,i=>LQ.lit (z:=0) kD
  | n + 1,i=>by
    show LQ 1 ((rowq zs n++[_]).getD i 0)
    rw[getD_snoc]
    split
    · exact rowq_lq zs n i
    · split
      · split
        · exact LQ.hand _
        · exact LQ.lit (z:=0) kD
      · exact LQ.lit (z:=0) kD
theorem rqOk {h:Hp}{A D:Option Addr}{c d:Nat}{q:Rat}(h1:(lim (iabs q.num)).length≤c)(h2:(lim q.den).length≤d)(h3:SlO 1 u32c 0 h A (lim (iabs q.num)))(h4:SlO 1 u32c 0 h D (lim q.den)):RQ h (rtv ((ineg q.num,.slice A (lim (iabs q.num)).length c,.slice D (lim q.den).length d):RT)) q:=⟨_,_,_,_,rfl,h1,h2,h3,h4⟩
theorem hInRow (A:Option Addr)(cap:Nat)(ts:List RT)(qs:List Rat)(hl:qs.length≤1000000)(hf:∀ i,i<qs.length→LQ 100000000 (qs.getD i 0))(w:World)(h:Hp)(g:G w h)(hA:Sr A ts h)(hT:RTs h ts qs)(tb:Tab h):CR 13 #[.slice A ts.length cap] w h (fun v h1=>SlV 5 qc 0 h1 v qs):=by
 have hs:=((((sS g).aS hA).aT hT).aB tb);have hlen:=(hs.f.2.1).len;refine go Tryz.func13 [(0,.slice A ts.length cap)] rfl (cSL (lL hs [.v 2 (sZ)] (lNS (lL hs [.v 3 (sZ)] (lN (cQ (cSL (lL hs [.v 4 (iV 0)] (lN (kZ ?_))))))))));replace hs:=hs.nil 55 5;refine cTo [(0,.slice A ts.length cap),(2,sZ),(4,iV 0),(3,sZ)] ?_;refine CG.loop (fun μ_ Γ w_=>∃ (k:Nat) (sA:Option Addr) (sc:Nat) (ql:List Rat) (h_:Hp),μ_=qs.length-k∧Γ=[(0,.slice A ts.length cap),(2,sZ),(4,nV k),(3,.slice sA ((ql).length) sc)]∧SS w h w_ h_ [] [⟨55,5,sA,sc,(ql).length,(ql).flatMap qc⟩] [fun h_=>Tab h_,Rt ts qs,Sr A ts]∧k≤qs.length∧ql=qs.take k) _ ⟨0,none,0,[],h,rfl,rfl,hs.to _ _,Nat.zero_le _,rfl⟩ ?_;rintro _ _ w1 ⟨k,sA,sc,ql,h2,hm3,rfl,hs,hk,hql⟩;have htk:ql.length=k:=by rw[hql];simp;omega
 refine cQ (cSL (lL hs [.m 5 4,.m 6 0,.v 7 (nV ts.length)] ?_));cases hb4:(decide ((k:Int)<(ts.length:Int)))
 ·
  have phb4:=oF hb4;refine lB 8 hb4 (lN (cIF (CG.exit ?_)))
  show CG _ _ _ _ _ _ _ _
  refine cSL (lL hs [.m 19 3,.m 2 19] (lN (kX ?_)));have hkq:ql=qs:=by rw[hql];exact List.take_of_length_le oM
  subst hkq;obtain ⟨h5,hs,hc6⟩:=hs.pubr 0 (A:=sA) (c:=sc) (l:=ql) (f:=qc) (ty:=55) (sz:=5) 0 (fun _=>rfl);exact hs.ret [] (.slice sA ((ql).length) sc) (⟨_,_,rfl,hc6,hs.f.1⟩)
 have phb4:=oT hb4;refine lB 8 hb4 (lN (cIT (cK (cQ (kZ (kQ (lL hs [.m 11 3,.m 12 0,.m 13 4] (lX 14 A ts.length cap 3 (k:Nat) k ((hs.f.r.1).ok oM) ?_))))))));refine lH 15 (.agg #[.bool ((ts.getD k rqd).1),(ts.getD k rqd).2.1,(ts.getD k rqd).2.2]) hs ((hs.f.r.1).el k oM) (lC 16 hs (hInV _ (qs.getD k 0) (hf k oM) _ _ hs.g ((hs.f.2.1).at_ k oM) hs.f.1) ?_);rintro _ w8 h9 hs rfl;refine lR 17 55 1 (qc (qs.getD k 0)) hs (fun b10 w11 h12 hs=>lY 18 0 55 5 sc sA ql qc (qs.getD k 0) 56 b10 (.agg #[.bool false,uV 0,eS,uV 0,eS]) hs hs.f.1 (fun A14 c15 w16 h17 hs=>lL hs [.m 3 18] (lN (kQ (lL hs [.m 9 4] (lIn 10 ((k:Nat)+1) (k+1) ?_))))));refine lL hs [.m 4 10] (lD ?_);intro a_ ka;replace hs:=hs.tl;refine ⟨_,_,?_,⟨k+1,A14,c15,ql++[qs.getD k 0],h17,rfl,rfl,hs.to _ _,oM,(by rw[take_snoc' 0 oM,hql])⟩,ka.to _ kR⟩
 omega
theorem hRow (A:Option Addr)(cap:Nat)(zs:List Int)(n:Nat)(hn:n≤1000000)(hl:zs.length≤9223372036854775807)(hz:I64s zs)(w:World)(h:Hp)(g:G w h)(hA:Si A zs h):CR 21 #[.slice A zs.length cap,nV n] w h (fun v h1=>∃ A c,∃ ts:List RT,v=.slice A ts.length c∧ts.length≤c∧Sr A ts h1∧RTs h1 ts (rowq zs n)):=by
 have hs:=((sS g).aS hA);refine go Tryz.func21 [(0,.slice A zs.length cap),(1,nV n)] rfl (cSL (lL hs [.v 4 (sZ)] (lNS (lL hs [.v 5 (sZ)] (lN (cQ (cSL (lL hs [.v 6 (iV 0)] (lN (kZ ?_))))))))));replace hs:=hs.nil 97 3;refine cTo [(0,.slice A zs.length cap),(1,nV n),(4,sZ),(6,iV 0),(5,sZ)] ?_;replace hs:=hs.aT (RTs.nil);refine CG.loop (fun μ_ Γ w_=>∃ (k:Nat) (sA:Option Addr) (sc:Nat) (ts:List RT) (h_:Hp),μ_=n-k∧Γ=[(0,.slice A zs.length cap),(1,nV n),(4,sZ),(6,nV k),(5,.slice sA ((ts).length) sc)]∧SS w h w_ h_ [] [⟨97,3,sA,sc,(ts).length,(ts).flatMap rqc⟩] [Rt ts (rowq zs k),Si A zs]∧k≤n) _ ⟨0,none,0,[],h,rfl,rfl,hs.to _ _,Nat.zero_le _⟩ ?_;rintro _ _ w1 ⟨k,sA,sc,ts,h2,hm3,rfl,hs,hk⟩;have hlT:=(hs.f.1).len;rw[rowq_len] at hlT
 refine cQ (cSL (lL hs [.m 7 6,.m 8 1] ?_));cases hb4:(decide ((k:Int)<(n:Int)))
 ·
  have phb4:=oF hb4;refine lB 9 hb4 (lN (cIF (CG.exit ?_)))
  show CG _ _ _ _ _ _ _ _
  refine cSL (lL hs [.m 28 5,.m 4 28] (lN (kX ?_)));have hkq:k=n:=by omega
  subst hkq;obtain ⟨h5,hs,hc6⟩:=hs.pubr 0 (A:=sA) (c:=sc) (l:=ts) (f:=rqc) (ty:=97) (sz:=3) rqd (fun _=>rfl);exact hs.ret [] (.slice sA ((ts).length) sc) (⟨_,_,ts,rfl,hc6,hs.f.1,hs.f.2.1⟩)
 have phb4:=oT hb4;refine lB 9 hb4 (lN (cIT (cK (cQ (kZ (cSL (lL hs [.m 12 6,.m 13 0,.v 14 (nV zs.length)] ?_)))))));cases hb8:(decide ((k:Int)<(zs.length:Int)))
 ·
  have phb8:=oF hb8;refine lB 15 hb8 (lN (cIF (kQ (lL hs [.m 24 5] (lC 25 hs (rOf 0 oM oM _ _ hs.g) ?_)))));rintro _ w17 h18 hs ⟨A9,c10,A13,c14,rfl,hc11,hc15,hA12,hA16⟩;replace hs:=hs.aP hA12 hA16;refine lR 26 97 1 (rqx ((0:Int):Rat) A9 c10 A13 c14) hs (fun b19 w20 h21 hs=>lY 27 0 97 3 sc sA ts rqc ((ineg ((0:Int):Rat).num,.slice A9 ((lim (iabs ((0:Int):Rat).num)).length) c10,.slice A13 ((lim ((0:Int):Rat).den).length) c14):RT) 56 b19 (.agg #[.bool false,sZ,sZ]) hs hs.f.1 (fun A23 c24 w25 h26 hs=>lL hs [.m 5 27] (lN (kQ (lL hs [.m 10 6] (lIn 11 ((k:Nat)+1) (k+1) ?_))))));refine lL hs [.m 6 11] (lD ?_);intro a_ ka;replace hs:=(hs.tl.tl.tl.tl.add (K:=Rt (ts++[((ineg ((0:Int):Rat).num,.slice A9 ((lim (iabs ((0:Int):Rat).num)).length) c10,.slice A13 ((lim ((0:Int):Rat).den).length) c14):RT)]) (rowq zs (k+1))) (rowq_step ((if_neg oM).trans (show (0:Rat)=((0:Int):Rat) from rfl)) (RTs.snoc hs.f.r.2.1 (rqOk hc11 hc15 hs.f.r.1 hs.f.2.1))));refine ⟨_,_,?_,⟨k+1,A23,c24,ts++[((ineg ((0:Int):Rat).num,.slice A9 ((lim (iabs ((0:Int):Rat).num)).length) c10,.slice A13 ((lim ((0:Int):Rat).den).length) c14):RT)],h26,rfl,rfl,hs.to _ _,oM⟩,ka.to _ kR⟩
  omega
 have phb8:=oT hb8;refine lB 15 hb8 (lN (cIT (kQ (lL hs [.m 16 5,.m 17 0,.m 18 6] (lX 19 A zs.length cap 1 (k:Nat) k ((hs.f.2.1).ok oM) ?_)))));refine lH 20 (iV (zs.getD k 0)) hs ((hs.f.2.1).el k oM) (lC 21 hs (hR (zs.getD k 0) (hz k).1 (hz k).2 _ _ hs.g) ?_);rintro _ w38 h39 hs ⟨A30,c31,A34,c35,rfl,hc32,hc36,hA33,hA37⟩;replace hs:=hs.aP hA33 hA37;refine lR 22 97 1 (rqx (handRq (zs.getD k 0)) A30 c31 A34 c35) hs (fun b40 w41 h42 hs=>lY 23 0 97 3 sc sA ts rqc ((ineg (handRq (zs.getD k 0)).num,.slice A30 ((lim (iabs (handRq (zs.getD k 0)).num)).length) c31,.slice A34 ((lim (handRq (zs.getD k 0)).den).length) c35):RT) 56 b40 (.agg #[.bool false,sZ,sZ]) hs hs.f.1 (fun A44 c45 w46 h47 hs=>lL hs [.m 5 23] (lN (kQ (lL hs [.m 10 6] (lIn 11 ((k:Nat)+1) (k+1) ?_))))));refine lL hs [.m 6 11] (lD ?_);intro a_ ka;replace hs:=(hs.tl.tl.tl.tl.aT (rowq_step (if_pos oM) (RTs.snoc hs.f.r.2.1 (rqOk hc32 hc36 hs.f.r.1 hs.f.2.1))));refine ⟨_,_,?_,⟨k+1,A44,c45,ts++[((ineg (handRq (zs.getD k 0)).num,.slice A30 ((lim (iabs (handRq (zs.getD k 0)).num)).length) c31,.slice A34 ((lim (handRq (zs.getD k 0)).den).length) c35):RT)],h47,rfl,rfl,hs.to _ _,oM⟩,ka.to _ kR⟩
 omega
def maxR (a b:Rat):Rat:=if a<b then b else a
theorem LQ.maxR {k:Nat}{a b:Rat}(ha:LQ k a)(hb:LQ k b):LQ k (maxR a b):=by unfold Go.Proofs.YtmkcmnhnmajheaaGreatDoor.maxR;split;exact hb;exact ha
theorem fAbs (a:Rat)(ha:LQ 100000000 a)(w:World)(h:Hp)(g:G w h):CV 116 #[qv a] w h (qv (qabs a)):=by
 have hs:=sS g;refine go Tryz.func116 [(0,qv a)] rfl (cSL (lA 1 55 (qc a) hs (fun b1 w2 h3 hs=>lA 2 55 ([.bool false,uV 0,eS,uV 0,eS]) hs (fun b4 w5 h6 hs=>lN (cQ (cR 7 [] mixed hs al_nil ?_))))));refine eV 0 3 (pB b1) (eO 1 4 [(1,0,3)] (iv a.num) hs (eV 4 7 (.pointer (some ⟨b1,3,none⟩)) (eO 5 8 [(1,3,2)] (nv (qd a)) hs (eC 2 5 hs (fun _ _ hs=>wAbs a.num _ _ hs.g) ?_))));rintro _ _ _ w7 h8 hs rfl;refine eC 3 6 hs (fun _ _ hs=>wFromN (iabs a.num) _ _ hs.g) ?_;rintro _ _ _ w9 h10 hs rfl;exact eV 6 9 (.agg #[.bool (ineg (((iabs a.num):Nat):Int)),uV (lo (iabs (((iabs a.num):Nat):Int))),.string (hi (iabs (((iabs a.num):Nat):Int))),uV (lo (qd a)),.string (hi (qd a))]) (eD0 hs (fun w11 h12 hs=>tP 7 0 0 ([.bool (ineg (((iabs a.num):Nat):Int)),uV (lo (iabs (((iabs a.num):Nat):Int))),.string (hi (iabs (((iabs a.num):Nat):Int))),uV (lo (qd a)),.string (hi (qd a))]) hs (fun w13 hs=>tN (kX (hs.ret [(0,0,5)] (.agg #[.bool (ineg (((iabs a.num):Nat):Int)),uV (lo (iabs (((iabs a.num):Nat):Int))),.string (hi (iabs (((iabs a.num):Nat):Int))),uV (lo (qd a)),.string (hi (qd a))]) (qv_lit (qabs_num a) (by unfold qd;rw[qabs_den])))))))
theorem fDot (A:Option Addr)(ca:Nat)(a:List Rat)(D:Option Addr)(cd:Nat)(b:List Rat)(K L:Nat)(hl:a.length=b.length)(hn:a.length≤1000000)(hb:a.length*(K+L+1)+K+L+2≤100000000)(ha:∀ i,i<a.length→LQ K (a.getD i 0))(hbb:∀ i,i<a.length→LQ L (b.getD i 0))(w:World)(h:Hp)(g:G w h)(hA:Sq A a h)(hD:Sq D b h)(tb:Tab h):CV 22 #[.slice A a.length ca,.slice D b.length cd] w h (.tuple #[qv (dotq a b a.length),.bool true]):=by
 have hs:=((((sS g).aS hA).aS hD).aB tb);refine go Tryz.func22 [(0,.slice A a.length ca),(1,.slice D b.length cd)] rfl (cSL (lA 4 55 ([.bool false,uV 0,eS,uV 0,eS]) hs (fun b1 w2 h3 hs=>lL hs [.v 5 (.bool false)] (lN (cQ (cSL (lL hs [.m 9 0,.v 10 (nV a.length),.m 11 1,.v 12 (nV b.length)] ?_)))))));have hb4:((a.length:Int) != (b.length:Int))=false:=bneF oM;have phb4:=eqOfBne hb4;refine lB 13 hb4 (lN (cIF (cK (cSL (lA 6 55 ([.bool false,uV 0,eS,uV 0,eS]) hs (fun b5 w6 h7 hs=>lN (cQ (cSL (lL hs [.m 15 0,.v 16 (nV a.length),.v 17 (iV 0)] (lN (kZ ?_)))))))))));refine cTo _ (CG.loop (fun μ_ Γ w_=>∃ (k:Nat) (h_:Hp),μ_=a.length-k∧Γ=[(1,.slice D b.length cd),(4,pB b1),(5,.bool false),(6,pB b5),(15,.slice A a.length ca),(16,nV a.length),(17,nV k)]∧SS w h w_ h_ [⟨b5,55,qc (dotq a b k)⟩,⟨b1,55,[.bool false,uV 0,eS,uV 0,eS]⟩] [] [fun h_=>Tab h_,Sq D b,Sq A a]∧k≤a.length) _ ⟨0,h7,rfl,rfl,hs.to _ _,Nat.zero_le _⟩ ?_);rintro _ _ w8 ⟨k,h9,hm10,rfl,hs,hk⟩;have hmk:k*(K+L+1)≤a.length*(K+L+1):=Nat.mul_le_mul_right _ hk;have hdk:LQ (100000000-K-L-1) (dotq a b k):=(LQ.dot ha hbb k hk).mono oM;refine cSL ?_;cases hb11:(decide ((k:Int)<(a.length:Int)))
 ·
  have phb11:=oF hb11;refine lB 18 hb11 (lN (cQ (cIF (CG.exit ?_))))
  show CG _ _ _ _ _ _ _ _
  exact cSL (lL hs [.o 31 (qv (dotq a b k)) 0 0 5] (lP 1 0 (qc (dotq a b k)) hs (fun w12 hs=>lL hs [.v 5 (.bool true)] (lN (kX (hs.ret [(1,0,5)] (.tuple #[qv (dotq a b k),.bool true]) (by rw[show a.length=k by omega])))))))
 have phb11:=oT hb11;refine lB 18 hb11 (lN (cQ (cIT (cK (cQ (kZ (cSL (lL hs [.m 19 17] (lX 20 A a.length ca 5 (k:Nat) k ((hs.f.r.1).ok oM) ?_)))))))));refine lH 21 (qv (a.getD k 0)) hs ((hs.f.r.1).el k oM) (lA 8 55 ([.bool false,uV 0,eS,uV 0,eS]) hs (fun b13 w14 h15 hs=>lL hs [.m 7 19] (lP 0 0 (qc (a.getD k 0)) hs (fun w16 hs=>lN (cR 8 [] mixed hs al_nil ?_)))));refine eO 0 22 [(1,0,5)] (qv (dotq a b k)) hs (eO 1 23 [(0,0,5)] (qv (a.getD k 0)) hs (eV 2 24 (.slice D b.length cd) (eV 3 25 (nV k) (eX 4 26 D b.length cd 5 (k:Nat) k ((hs.f.2.1).ok oM) (eH 5 27 (qv (b.getD k 0)) hs ((hs.f.2.1).el k oM) ?_)))));have hq17:=LQ.mul (ha k oM) (hbb k oM);refine eC 6 28 hs (fun _ _ hs=>fMul (a.getD k 0) (b.getD k 0) (LQ.mono (ha k oM) oM) (LQ.mono (hbb k oM) oM) _ _ hs.g hs.f.1) ?_;rintro _ _ _ w18 h19 hs rfl;have hq20:=LQ.add hdk hq17;refine eC 7 29 hs (fun _ _ hs=>fAdd (dotq a b k) ((a.getD k 0)*(b.getD k 0)) (LQ.mono hdk oM) (LQ.mono hq17 oM) _ _ hs.g hs.f.1) ?_;rintro _ _ _ w21 h22 hs rfl;refine eD0 hs (fun w23 h24 hs=>tP 8 1 0 (qc ((dotq a b k)+((a.getD k 0)*(b.getD k 0)))) hs (fun w25 hs=>tN (kQ (lIn 30 ((k:Nat)+1) (k+1) ?_))));refine lL hs [.m 17 30] (lD ?_);intro a_ ka;replace hs:=hs.drop 1 0;refine ⟨_,_,?_,⟨k+1,h24,rfl,rfl,hs.to _ _,oM⟩,ka.to _ kR⟩
 omega
structure Lay where
  k:Int
  W:List (List Rat)
  B:List Rat
def lay0:Lay:=⟨0,[],[]⟩
abbrev LV:=Int × Value × Value
def lvd:LV:=(0,undef,undef)
structure NetL (h:Hp) (ts:List LV) (ls:List Lay):Prop where
  len:ts.length=ls.length
  at_:∀ i,i<ls.length→(ts.getD i lvd).1=(ls.getD i lay0).k∧(∃ A c,∃ us:List Value,(ts.getD i lvd).2.1=.slice A us.length c∧us.length≤c∧SlO 1 vc undef h A us∧QVs h us (ls.getD i lay0).W)∧SlV 5 qc 0 h (ts.getD i lvd).2.2 (ls.getD i lay0).B
abbrev Nn (t:List LV)(l:List Lay):Hp→Prop:=fun h_=>NetL h_ t l
structure RNetL (h:Hp) (ts:List LV) (ls:List Lay):Prop where
  len:ts.length=ls.length
  at_:∀ i,i<ls.length→(ts.getD i lvd).1=(ls.getD i lay0).k∧(∃ A c,∃ us:List Value,(ts.getD i lvd).2.1=.slice A us.length c∧us.length≤c∧SlO 1 vc undef h A us∧RVs h us (ls.getD i lay0).W) ∧
    (∃ A c,∃ rs:List RT,(ts.getD i lvd).2.2=.slice A rs.length c∧rs.length≤c∧SlO 3 rqc rqd h A rs∧RTs h rs (ls.getD i lay0).B)
abbrev Rn (t:List LV)(l:List Lay):Hp→Prop:=fun h_=>RNetL h_ t l
def Smalls (l:List Rat):Prop:=∀ q∈l,∃ z,q=smallq z
structure LayMk (L:Lay) (kq:Nat) (r c:Nat):Prop where
  k:L.k=(kq:Int)
  rows:L.W.length=r
  row:∀ q∈L.W,q.length=c∧Smalls q
  bl:L.B.length=r
  bs:Smalls L.B
theorem rNext (A:Option Addr)(cap:Nat)(zs:List Int)(hl:zs.length≤9223372036854775807)(hz:I64s zs)(rbk at_:Nat)(ha:at_≤zs.length)(w:World)(h:Hp)(g:G w h)(ho:Own w rbk 103 [.slice A zs.length cap,nV at_])(hj:h[rbk]?=some junk)(hA:Si A zs h):Calls Tryz.prog 42 #[pB rbk] w (RetM rbk w h fun v w' _=>∃ (z:Int) (at2:Nat),v=iV z∧at2≤zs.length∧(-9223372036854775808≤z∧z≤9223372036854775807)∧Own w' rbk 103 [.slice A zs.length cap,nV at2]):=by
 have hmo:UpM [rbk] w h w h:=UpM.refl g;obtain ⟨wz,hz0_,hs⟩:=SS.at_ g ho hj;replace hs:=hs.aS hA;refine go Tryz.func42 [(0,pB rbk)] rfl (cSL (lL hs [.v 2 (iV 0)] (lN (cQ (cQ (cR 10 [] mixed hs al_nil ?_))))));refine eV 0 3 (pB rbk) (eV 1 4 (pB rbk) (eV 2 5 (.pointer (some ⟨rbk,1,none⟩)) (eO 3 6 [(0,1,1)] (nV at_) hs (eV 4 7 (pB rbk) (eV 5 8 (pB rbk) (eV 6 9 (pB rbk) (eO 7 10 [(0,0,1)] (.slice A zs.length cap) hs (eV 8 11 (nV zs.length) ?_))))))));cases hb1:(decide ((zs.length:Int)≤(at_:Int)))
 ·
  have phb1:=oF hb1;refine eB 9 12 hb1 (eD0u hs (fun w2 h3 u4 hs=>?_));replace hmo:=hmo.trans (u4.m _);refine tN (cIF (cK (cSL (lL hs [.m 13 0,.v 14 (pB rbk),.v 15 (.pointer (some ⟨rbk,1,none⟩)),.o 16 (nV at_) 0 1 1] (lIn 17 ((at_:Nat)+1) (at_+1) ?_)))));refine lL hs [.v 18 (pB rbk),.v 19 (.pointer (some ⟨rbk,1,none⟩))] (lPu 0 1 ([nV (at_+1)]) hs (fun w5 pu hs=>?_));replace hmo:=hmo.put pu (List.mem_singleton.2 rfl) hs.g;refine lN (cQ (cR 11 [] mixed hs al_nil ?_));refine eV 0 20 (pB rbk) (eV 1 21 (pB rbk) (eV 2 22 (pB rbk) (eO 3 23 [(0,0,1)] (.slice A zs.length cap) hs (eV 4 24 (pB rbk) (eV 5 25 (pB rbk) (eV 6 26 (.pointer (some ⟨rbk,1,none⟩)) (eO 7 27 [(0,1,1)] (nV (at_+1)) hs (eIn 8 28 ((at_+1:Nat)-1) ((at_+1)-1) (eX 9 29 A zs.length cap 1 ((at_+1)-1:Nat) ((at_+1)-1) ((hs.f.1).ok oM) (eH 10 30 (iV (zs.getD ((at_+1)-1) 0)) hs ((hs.f.1).el ((at_+1)-1) oM) (eD0u hs (fun w6 h7 u8 hs=>?_))))))))))));replace hmo:=hmo.trans (u8.m _);exact tV 11 2 (iV (zs.getD ((at_+1)-1) 0)) (tN (kX (hs.retM hmo [] (iV (zs.getD ((at_+1)-1) 0)) ⟨zs.getD ((at_+1)-1) 0,(at_+1),rfl,by omega,hz _,hs.own 0⟩)))
 have phb1:=oT hb1;refine eB 9 12 hb1 (eD0u hs (fun w9 h10 u11 hs=>?_));replace hmo:=hmo.trans (u11.m _);exact tN (cIT (cSL (lL hs [.v 2 (iV 0)] (lN (kX (hs.retM hmo [] (iV 0) ⟨0,at_,rfl,by omega,⟨by decide,by decide⟩,hs.own 0⟩))))))
structure LayFit (L:Lay):Prop where
  rl:L.W.length≤1000000
  rls:∀ i,i<L.W.length→(L.W.getD i []).length≤1000000
  rf:∀ i,i<L.W.length→∀ j,j<(L.W.getD i []).length→LQ 100000000 ((L.W.getD i []).getD j 0)
  bl:L.B.length≤1000000
  bf:∀ i,i<L.B.length→LQ 100000000 (L.B.getD i 0)
structure Stp where
  op:Int
  a:Int
  b:Int
  n:Int
  q:Rat
def stp0:Stp:=⟨0,0,0,0,0⟩
def stc (s:Stp):List Value:=[.int .i64 s.op,.int .i64 s.a,.int .i64 s.b,.int .i64 s.n,.bool (ineg s.q.num),.int .u64 (lo (iabs s.q.num)),.string (hi (iabs s.q.num)),.int .u64 (lo (qd s.q)),.string (hi (qd s.q))]
def stv (s:Stp):Value:=.agg #[.int .i64 s.op,.int .i64 s.a,.int .i64 s.b,.int .i64 s.n,.bool (ineg s.q.num),.int .u64 (lo (iabs s.q.num)),.string (hi (iabs s.q.num)),.int .u64 (lo (qd s.q)),.string (hi (qd s.q))]
def ari (op:Int):Int :=
  if op=1∨op=2 then 0 else if op=7∨op=8∨op=9∨op=10∨op=11 then 1
  else if op=3∨op=4∨op=5∨op=6∨op=12∨op=13 then 2 else -1
theorem ari_cases (op:Int):(ari op=0∧(op=1∨op=2))∨(ari op=1∧(op=7∨op=8∨op=9∨op=10∨op=11))∨(ari op=2∧(op=3∨op=4∨op=5∨op=6∨op=12∨op=13))∨(ari op = -1∧(op<1∨13<op)):=by
  unfold ari;split
  · exact .inl ⟨rfl,by assumption⟩
  · split
    · exact .inr (.inl ⟨rfl,by assumption⟩)
    · split
      · exact .inr (.inr (.inl ⟨rfl,by assumption⟩))
      · exact .inr (.inr (.inr ⟨rfl,by omega⟩))
def Refers (i:Nat)(tt:Int)(used:Prop):Prop:=(used→0≤tt∧tt<i)∧(¬used→tt=0)
def Formed (inp:Int)(i:Nat)(s:Stp):Prop :=
  0≤ari s.op∧Refers i s.a (0<ari s.op)∧Refers i s.b (1<ari s.op)∧(s.op≠1→s.q.num=0) ∧
  (s.op=2→0≤s.n∧s.n<inp)∧(s.op=8 → -12≤s.n∧s.n≤12)∧(s.op≠2→s.op≠8→s.n=0)
instance (i:Nat) (tt:Int) (u:Prop) [Decidable u]:Decidable (Refers i tt u):=by unfold Refers;infer_instance
instance (inp:Int) (i:Nat) (s:Stp):Decidable (Formed inp i s):=by unfold Formed;infer_instance
def weightS (s:Stp)(hv:List Int):Int :=
  if ari s.op=0 then 1 else if ari s.op=2 then hv.getD s.a.toNat 0+hv.getD s.b.toNat 0
  else if s.op=11 then 2*hv.getD s.a.toNat 0 else if s.op=8 then max (max s.n (0-s.n)) 1*hv.getD s.a.toNat 0 else hv.getD s.a.toNat 0
def goS (inp:Int):List Stp→List Int→Int
  | [],_=>0
  | s::r,hv=>if Formed inp hv.length s then (if 65536<weightS s hv then 18 else goS inp r (hv++[weightS s hv])) else 2
def OutsOk (n:Nat)(os:List Int):Prop:=∀ i,i<os.length→0≤os.getD i 0∧os.getD i 0<n
instance (n:Nat) (os:List Int):Decidable (OutsOk n os):=by unfold OutsOk;infer_instance
def chkTp (inp:Int)(l:List Stp)(os:List Int):Int :=
  if 0≤inp∧inp≤1000∧l.length≤65536∧os.length≤300 then (if goS inp l []=0 then (if OutsOk l.length os then 0 else 1) else goS inp l []) else 5
theorem drop_cons' {l:List Stp}{k:Nat}(h:k<l.length):l.drop k=l.getD k stp0::l.drop (k+1):=by
  rw[List.drop_eq_getElem_cons h];simp[h]
theorem goS_bad {inp:Int}{l:List Stp}{hv:List Int}{k:Nat}(hk:k<l.length)(hl:hv.length=k)(h:¬Formed inp k (l.getD k stp0)):goS inp (l.drop k) hv=2:=by
  rw[drop_cons' hk,goS,hl,if_neg h]
theorem goS_over {inp:Int}{l:List Stp}{hv:List Int}{k:Nat}(hk:k<l.length)(hl:hv.length=k)(h:Formed inp k (l.getD k stp0))(hw:65536<weightS (l.getD k stp0) hv):goS inp (l.drop k) hv=18:=by
  rw[drop_cons' hk,goS,hl,if_pos h,if_pos hw]
theorem goS_step {inp:Int}{l:List Stp}{hv:List Int}{k:Nat}(hk:k<l.length)(hl:hv.length=k)(h:Formed inp k (l.getD k stp0))(hw:¬65536<weightS (l.getD k stp0) hv):goS inp (l.drop k) hv=goS inp (l.drop (k+1)) (hv++[weightS (l.getD k stp0) hv]):=by
  rw[drop_cons' hk,goS,hl,if_pos h,if_neg hw]
theorem getD_take {l:List Int}{k j:Nat}(h:j<k):(l.take k).getD j 0=l.getD j 0:=by
  rw[List.getD_eq_getElem?_getD,List.getElem?_take_of_lt h,←List.getD_eq_getElem?_getD]
theorem weight_take {inp:Int}{s:Stp}{L:List Int}{k:Nat}(h:Formed inp k s):weightS s (L.take k)=weightS s L:=by
  obtain ⟨h0,⟨ha,_⟩,⟨hb,_⟩,_⟩:=h
  unfold weightS
  rcases ari_cases s.op with ⟨e,_⟩|⟨e,_⟩|⟨e,_⟩|⟨e,_⟩
  · rw[e];rfl
  · have:=ha oM
    rw[e,getD_take oM];simp
  · have:=ha oM;have:=hb oM
    rw[e,getD_take oM,getD_take oM]
  · omega
theorem take_set_snoc {L:List Int}{k:Nat}{x:Int}(h:k<L.length):(L.set k x).take (k+1)=L.take k++[x]:=by
  rw[List.take_add_one,List.take_set_of_le (Nat.le_refl k)]
  simp[h]
def Wts (L:List Int)(k:Nat):Prop:=∀ j,j<k→1≤L.getD j 0∧L.getD j 0≤65536
theorem Wts.weight {inp:Int}{s:Stp}{L:List Int}{k:Nat}(w:Wts L k)(h:Formed inp k s):1≤weightS s L∧weightS s L≤786432:=by
  obtain ⟨h0,⟨ha,_⟩,⟨hb,_⟩,_,_,h8,_⟩:=h
  unfold weightS
  rcases ari_cases s.op with ⟨e,_⟩|⟨e,_⟩|⟨e,_⟩|⟨e,_⟩
  · rw[e,if_pos rfl];decide
  · have h1:=ha oM
    have h2:=w s.a.toNat oM;rw[e,if_neg kD,if_neg kD]
    split
    · omega
    · split
      · have h3:=h8 aM
        have h4:1≤max (max s.n (0-s.n)) 1∧max (max s.n (0-s.n)) 1≤12:=by omega
        have h5:1*1≤max (max s.n (0-s.n)) 1*L.getD s.a.toNat 0:=Int.mul_le_mul h4.1 h2.1 oM oM;have h6:max (max s.n (0-s.n)) 1*L.getD s.a.toNat 0≤12*65536:=Int.mul_le_mul h4.2 h2.2 oM oM
        omega
      · omega
  · have h1:=ha oM
    have h2:=w s.a.toNat oM;have h3:=hb oM;have h4:=w s.b.toNat oM;rw[e,if_neg kD,if_pos rfl];omega
  · omega
theorem Wts.pow {inp:Int}{s:Stp}{L:List Int}{k:Nat}(w:Wts L k)(h:Formed inp k s)(h8:s.op=8):1≤max (max s.n (0-s.n)) 1*L.getD s.a.toNat 0∧max (max s.n (0-s.n)) 1*L.getD s.a.toNat 0≤786432:=by
  have:=w.weight h
  unfold weightS ari at this
  simp only[h8] at this
  simpa using this
theorem Wts.snoc {L:List Int}{k:Nat}{x:Int}(w:Wts L k)(hk:k<L.length)(h1:1≤x)(h2:x≤65536):Wts (L.set k x) (k+1):=fun j hj=>by
  by_cases e:j=k
  · subst e;rw[List.getD_eq_getElem?_getD,List.getElem?_set_self hk];exact ⟨h1,h2⟩
  · rw[List.getD_eq_getElem?_getD,List.getElem?_set_ne (Ne.symm e),←List.getD_eq_getElem?_getD];exact w j oM
theorem chkTp_shape {inp:Int}{l:List Stp}{os:List Int}(h:¬(0≤inp∧inp≤1000∧l.length≤65536∧os.length≤300)):chkTp inp l os=5:=by unfold chkTp;rw[if_neg h]
theorem chkTp_go {inp:Int}{l:List Stp}{os:List Int}(h:0≤inp∧inp≤1000∧l.length≤65536∧os.length≤300)(hg:goS inp l []≠0):chkTp inp l os=goS inp l []:=by unfold chkTp;rw[if_pos h,if_neg hg]
theorem chkTp_arg {inp:Int}{l:List Stp}{os:List Int}(h:0≤inp∧inp≤1000∧l.length≤65536∧os.length≤300)(hg:goS inp l []=0)(ho:¬OutsOk l.length os):chkTp inp l os=1:=by unfold chkTp;rw[if_pos h,if_pos hg,if_neg ho]
theorem chkTp_ok {inp:Int}{l:List Stp}{os:List Int}(h:0≤inp∧inp≤1000∧l.length≤65536∧os.length≤300)(hg:goS inp l []=0)(ho:OutsOk l.length os):chkTp inp l os=0:=by unfold chkTp;rw[if_pos h,if_pos hg,if_pos ho]
structure RSt where
  op:Int
  a:Int
  b:Int
  n:Int
  t:RT
def rst0:RSt:=⟨0,0,0,0,rqd⟩
def rsc (s:RSt):List Value:=[.int .i64 s.op,.int .i64 s.a,.int .i64 s.b,.int .i64 s.n,.bool s.t.1,s.t.2.1,s.t.2.2]
structure OSt where
  op:Int
  a:Int
  b:Int
  n:Int
  q:Rat
  has:Bool
def ost0:OSt:=⟨0,0,0,0,0,false⟩
def odn (o:OSt):Nat:=if o.has then o.q.den else 0
def OSt.stp (o:OSt):Stp:=⟨o.op,o.a,o.b,o.n,o.q⟩
theorem odn_pos {o:OSt}:0<(lim (odn o)).length↔o.has=true:=by
  rw[lim_pos];unfold odn;have:=o.q.den_pos;cases o.has<;>simp;omega
theorem odn_has {o:OSt}(h:o.has=true):odn o=o.q.den:=by unfold odn;rw[h];rfl
structure RS1 (h:Hp) (t:RSt) (o:OSt):Prop where
  op:t.op=o.op
  a:t.a=o.a
  b:t.b=o.b
  n:t.n=o.n
  q:RP h (rtv t.t) o.q.num (odn o)
  z:o.has=false→o.q=0
theorem RS1.gw {h h':Hp}{t:RSt}{o:OSt}(x:RS1 h t o)(u:Gw h h'):RS1 h' t o:=⟨x.op,x.a,x.b,x.n,x.q.gw u,x.z⟩
theorem RS1.opn {h:Hp}{t:RSt}{o:OSt}(x:RS1 h t o):∃ A c D d,Value.agg #[.int .i64 t.op,.int .i64 t.a,.int .i64 t.b,.int .i64 t.n,.bool t.t.1,t.t.2.1,t.t.2.2]=.agg #[.int .i64 o.op,.int .i64 o.a,.int .i64 o.b,.int .i64 o.n,.bool (ineg o.q.num),.slice A (lim (iabs o.q.num)).length c,.slice D (lim (odn o)).length d]∧(lim (iabs o.q.num)).length≤c∧(lim (odn o)).length≤d∧SlO 1 u32c 0 h A (lim (iabs o.q.num))∧SlO 1 u32c 0 h D (lim (odn o)):=by
  obtain ⟨A,c,D,d,e,h1,h2,h3,h4⟩:=x.q
  unfold rtv at e
  injection e with e
  simp only[Array.mk.injEq,List.cons.injEq,and_true] at e
  obtain ⟨e1,e2,e3⟩:=e
  injection e1 with e1
  refine ⟨A,c,D,d,?_,h1,h2,h3,h4⟩;rw[x.op,x.a,x.b,x.n,e1,e2,e3]
structure RSs (h:Hp) (ts:List RSt) (os:List OSt):Prop where
  len:ts.length=os.length
  at_:∀ i,i<os.length→RS1 h (ts.getD i rst0) (os.getD i ost0)
theorem RSs.gw {h h':Hp}{ts:List RSt}{os:List OSt}(x:RSs h ts os)(u:Gw h h'):RSs h' ts os:=⟨x.len,fun i hi=>(x.at_ i hi).gw u⟩
theorem RSs.nil {h:Hp}:RSs h [] []:=⟨rfl,fun i hi=>by simp at hi⟩
theorem RSs.snoc {h:Hp}{ts:List RSt}{os:List OSt}{t:RSt}{o:OSt}(x:RSs h ts os)(y:RS1 h t o):RSs h (ts++[t]) (os++[o]):=by
  refine ⟨by simp[x.len],fun i hi=>?_⟩;rw[getD_snoc,getD_snoc,x.len];rw[List.length_append,List.length_singleton] at hi
  by_cases e:i<os.length
  · rw[if_pos e,if_pos e];exact x.at_ i e
  · rw[if_neg e,if_neg e,if_pos oM,if_pos oM];exact y
structure OSm (o:OSt):Prop where
  op : -1000≤o.op∧o.op≤1000
  a : -1000≤o.a∧o.a≤1000
  b : -1000≤o.b∧o.b≤1000
  n : -1000≤o.n∧o.n≤1000
  q:LQ 1 o.q
def OSms (os:List OSt):Prop:=∀ i,i<os.length→OSm (os.getD i ost0)
theorem OSms.snoc {os:List OSt}{o:OSt}(x:OSms os)(y:OSm o):OSms (os++[o]):=fun i hi=>by
  rw[List.length_append,List.length_singleton] at hi
  rw[getD_snoc]
  by_cases e:i<os.length
  · rw[if_pos e];exact x i e
  · rw[if_neg e,if_pos oM];exact y
theorem stp_getD {os:List OSt}{i:Nat}(h:i<os.length):(os.map OSt.stp).getD i stp0=(os.getD i ost0).stp:=by
  simp[h]
def PwS (ss:List OSt):Prop:=∀ k,k<ss.length → -1≤(ss.getD k ost0).n∧(ss.getD k ost0).n≤2
theorem PwS.snoc {ss:List OSt}{o:OSt}(h:PwS ss)(ho : -1≤o.n∧o.n≤2):PwS (ss++[o]):=fun k hk=>by
  rw[List.length_append,List.length_singleton] at hk
  rw[getD_snoc]
  by_cases e:k<ss.length
  · rw[if_pos e];exact h k e
  · rw[if_neg e,if_pos oM];exact ho
def PwZ (z:Nat)(ss:List OSt):Prop:=∀ k,k<ss.length→k≠z → -1≤(ss.getD k ost0).n∧(ss.getD k ost0).n≤2
theorem PwS.z {ss:List OSt}(h:PwS ss)(z:Nat):PwZ z ss:=fun k hk _=>h k hk
structure LayLen (L:Lay):Prop where
  rl:L.W.length≤1000000
  rls:∀ i,i<L.W.length→(L.W.getD i []).length≤1000000
  bl:L.B.length≤1000000
structure Mat (W:List (List Rat)) (r c:Nat):Prop where
  rows:W.length=r
  rpos:0<r
  cpos:0<c
  row:∀ i,i<r→(W.getD i []).length=c
structure Net3 (ls:List Lay) (d:Nat→Nat):Prop where
  len:1≤ls.length∧ls.length≤4
  first:d 0≤20
  lay:∀ i,i<ls.length→Mat (ls.getD i lay0).W (d (i+1)) (d i)∧(ls.getD i lay0).B.length=d (i+1)∧d (i+1)≤12∧((ls.getD i lay0).k=1∨(ls.getD i lay0).k=2∨(ls.getD i lay0).k=3)
theorem one_abs_pos (u:Rat):0<((1:Int):Rat)+qabs u:=by
  have h:(0:Rat)≤qabs u:=by rw[←Rat.num_nonneg,qabs_num];omega
  have h1:(0:Rat)<((1:Int):Rat):=by decide
  grind
theorem one_abs_ne (u:Rat):(((1:Int):Rat)+qabs u).num≠0:=by
  have:=one_abs_pos u;intro e;have e2:((1:Int):Rat)+qabs u=0:=by rw[←Rat.num_eq_zero];exact e
  rw[e2] at this;exact absurd this kD
def act (k:Int)(u:Rat):Rat:=if k=2 then maxR u 0 else if k=3 then u/(((1:Int):Rat)+qabs u) else u
def layq (L:Lay)(x:List Rat):List Rat:=(List.range L.W.length).map fun i=>act L.k (dotq (L.W.getD i []) x x.length+L.B.getD i 0)
def outq (ls:List Lay)(xs:List Rat):Nat→List Rat
  | 0=>xs
  | k+1=>layq (ls.getD k lay0) (outq ls xs k)
abbrev gD (ls:List Lay)(xs:List Rat)(k r:Nat):Rat:=dotq ((ls.getD k lay0).W.getD r []) (outq ls xs k) (outq ls xs k).length
abbrev gS (ls:List Lay)(xs:List Rat)(k r:Nat):Rat:=gD ls xs k r+((ls.getD k lay0).B).getD r 0
structure NetB (ls:List Lay) (xs:List Rat):Prop where
  w:∀ k i j,LQ 1000000 (((ls.getD k lay0).W.getD i []).getD j 0)
  b:∀ k i,LQ 1000000 ((ls.getD k lay0).B.getD i 0)
  x:∀ k,k≤ls.length→∀ j,LQ 1000000 ((outq ls xs k).getD j 0)
theorem rep_zero {n:Nat}:∀ j,(List.replicate n (0:Rat)).getD j 0=0:=fun j=>by
  rw[List.getD_eq_getElem?_getD,List.getElem?_replicate];split<;>rfl
structure LaySz (L:Lay):Prop where
  rl:L.W.length≤8
  rls:∀ i,(L.W.getD i []).length≤8
  bl:L.B.length≤8
  w:∀ i j,LQ 1 ((L.W.getD i []).getD j 0)
  b:∀ i,LQ 1 (L.B.getD i 0)
  b4:L.B.length≤4
  w4:(L.W.getD 0 []).length≤4
theorem lq0 {k:Nat}(h:1≤k):LQ k 0:=(LQ.lit (z:=0) kD).mono h
section fut
variable {P:Program} {n:Nat} {N R:Po} {X:Nat→Po} {ops:Array Oper} {k0 K:Nat} {L:Array Bool} {Γ:Env} {w:World} {h:Hp} {w0:World} {h0:Hp} {B:List Bx} {Rs:List Rw} {F:List (Hp→Prop)}
end fut
theorem getD_set_ {α:Type}{l:List α}{n i:Nat}{d x:α}(h:n<l.length):(l.set n x).getD i d=if i=n then x else l.getD i d:=by
  split
  · rename_i e;subst e;simp[h]
  · rename_i e;rw[List.getD_eq_getElem?_getD,List.getElem?_set_ne (Ne.symm e),←List.getD_eq_getElem?_getD]
structure LayS4 (L:Lay):Prop where
  rl:L.W.length≤4
  rls:∀ i,(L.W.getD i []).length≤4
  bl:L.B.length≤4
  w:∀ i j,LQ 1 ((L.W.getD i []).getD j 0)
  b:∀ i,LQ 1 (L.B.getD i 0)
section fla
variable {P:Program} {n:Nat} {N R:Po} {X:Nat→Po} {ops:Array Oper} {k:Nat} {Γ:Env} {w:World} {h:Hp} {w0:World} {h0:Hp} {B:List Bx} {Rs:List Rw} {F:List (Hp→Prop)}
end fla
section prt
variable {M:Ms} {P:Program} {n:Nat} {N R:Po} {X:Nat→Po} {ops:Array Oper} {k k0:Nat} {hr:Hp} {AL:List Al} {L:Array Bool} {Γ:Env} {w:World} {h:Hp}
end prt
theorem getD_outR {α:Type}{l:List α}{i:Nat}{d:α}(h:l.length≤i):l.getD i d=d:=by rw[List.getD_eq_getElem?_getD,List.getElem?_eq_none h];rfl
def powN (a:Rat):Nat→Rat
  | 0=>((1:Int):Rat)
  | k+1=>powN a k*a
theorem powN_nz {a:Rat}(h:a≠0):∀ k,powN a k≠0
  | 0=>by show ((1:Int):Rat)≠0;decide
  | k+1=>by show powN a k*a≠0;have:=powN_nz h k;grind
theorem powN_zero {k:Nat}(h:0<k):powN 0 k=0:=by
  obtain ⟨j,rfl⟩:∃ j,k=j+1:=⟨k-1,by omega⟩
  show powN 0 j*0=0;rw[Rat.mul_zero]
def powq (a:Rat)(n:Int):Rat:=if 0≤n then powN a n.natAbs else ((1:Int):Rat)/powN a n.natAbs
def minR (a b:Rat):Rat:=if b<a then b else a
def opv (op n:Int)(q a b:Rat):Rat :=
  if op=1 then q else if op=3 then a+b else if op=4 then a-b else if op=5 then a*b else if op=6 then a/b else if op=7 then -a
  else if op=8 then powq a n else if op=9 then qabs a else if op=10 then maxR a 0 else if op=11 then a/(qabs a+((1:Int):Rat)) else if op=12 then maxR a b else minR a b
def okq (op n:Int)(a b:Rat):Prop:=(op=6→b≠0)∧(op=8→n<0→a≠0)
instance (op n:Int) (a b:Rat):Decidable (okq op n a b):=by unfold okq;infer_instance
def knk (op:Int)(a b:Rat):Prop:=(op=9∨op=10)∧a=0∨(op=12∨op=13)∧a=b
instance (op:Int) (a b:Rat):Decidable (knk op a b):=by unfold knk;infer_instance
def sval (s:Stp)(at_ v:List Rat):Rat:=if s.op=2 then at_.getD s.n.toNat 0 else opv s.op s.n s.q (v.getD s.a.toNat 0) (v.getD s.b.toNat 0)
def tvals (l:List Stp)(at_:List Rat):Nat→List Rat
  | 0=>[]
  | k+1=>tvals l at_ k++[sval (l.getD k stp0) at_ (tvals l at_ k)]
theorem tvals_len (l:List Stp)(at_:List Rat):∀ k,(tvals l at_ k).length=k
  | 0=>rfl
  | k+1=>by show (tvals l at_ k++[_]).length=_;rw[List.length_append,tvals_len l at_ k];rfl
def serr (sm:Bool)(s:Stp)(v:List Rat):Int:=if s.op=2 then 0 else if okq s.op s.n (v.getD s.a.toNat 0) (v.getD s.b.toNat 0) then (if sm=true∧knk s.op (v.getD s.a.toNat 0) (v.getD s.b.toNat 0) then 7 else 0) else 6
def terr (sm:Bool)(l:List Stp)(at_:List Rat):Nat→Int
  | 0=>0
  | k+1=>if terr sm l at_ k=0 then serr sm (l.getD k stp0) (tvals l at_ k) else terr sm l at_ k
theorem terr_bad {sm:Bool}{l:List Stp}{at_:List Rat}{k:Nat}(h:terr sm l at_ k≠0):∀ j,terr sm l at_ (k+j)=terr sm l at_ k
  | 0=>rfl
  | j+1=>by
    have e:=terr_bad h j
    show (if terr sm l at_ (k+j)=0 then serr sm (l.getD (k+j) stp0) (tvals l at_ (k+j)) else terr sm l at_ (k+j))=_
    rw[e,if_neg h]
theorem terr_stop {sm:Bool}{l:List Stp}{at_:List Rat}{k n:Nat}(h0:terr sm l at_ k=0)(hk:k<n)(h:serr sm (l.getD k stp0) (tvals l at_ k)≠0):terr sm l at_ n=serr sm (l.getD k stp0) (tvals l at_ k):=by
  have e:terr sm l at_ (k+1)=serr sm (l.getD k stp0) (tvals l at_ k):=by show (if _=0 then _ else _)=_;rw[if_pos h0]
  obtain ⟨j,rfl⟩:∃ j,n=k+1+j:=⟨n-(k+1),by omega⟩;rw[terr_bad (by rw[e];exact h),e]
theorem terr_step {sm:Bool}{l:List Stp}{at_:List Rat}{k:Nat}(h0:terr sm l at_ k=0)(h:serr sm (l.getD k stp0) (tvals l at_ k)=0):terr sm l at_ (k+1)=0:=by
  show (if _=0 then _ else _)=_;rw[if_pos h0];exact h
def pickL (v:List Rat)(os:List Int):List Rat:=os.map fun o=>v.getD o.toNat 0
def sla (op n:Int)(a b:Rat):Rat :=
  if op=3 then ((1:Int):Rat) else if op=4 then ((1:Int):Rat) else if op=5 then b else if op=6 then ((1:Int):Rat)/b else if op=7 then -((1:Int):Rat)
  else if op=8 then (if n=0 then 0 else powq a (n-1)*((n:Int):Rat)) else if op=9 then ((a.num.sign:Int):Rat) else if op=10 then ((max a.num.sign 0:Int):Rat)
  else if op=11 then (((1:Int):Rat)/(((1:Int):Rat)+qabs a))*(((1:Int):Rat)/(((1:Int):Rat)+qabs a))
  else if op=12 then (if b<a then ((1:Int):Rat) else 0) else if op=13 then (if b<a then 0 else ((1:Int):Rat)) else 0
def slb (op:Int)(a b:Rat):Rat :=
  if op=3 then ((1:Int):Rat) else if op=4 then -((1:Int):Rat) else if op=5 then a else if op=6 then -(a*(((1:Int):Rat)/b)*(((1:Int):Rat)/b))
  else if op=12 then (if b<a then 0 else ((1:Int):Rat)) else if op=13 then (if b<a then ((1:Int):Rat) else 0) else 0
def sder (s:Stp)(way v d:List Rat):Rat :=
  if s.op=2 then way.getD s.n.toNat 0
  else (if 0<ari s.op then sla s.op s.n (v.getD s.a.toNat 0) (v.getD s.b.toNat 0)*d.getD s.a.toNat 0 else 0)+(if 1<ari s.op then slb s.op (v.getD s.a.toNat 0) (v.getD s.b.toNat 0)*d.getD s.b.toNat 0 else 0)
def tders (l:List Stp)(at_ way:List Rat):Nat→List Rat
  | 0=>[]
  | k+1=>tders l at_ way k++[sder (l.getD k stp0) way (tvals l at_ k) (tders l at_ way k)]
theorem tders_len (l:List Stp)(at_ way:List Rat):∀ k,(tders l at_ way k).length=k
  | 0=>rfl
  | k+1=>by show (tders l at_ way k++[_]).length=_;rw[List.length_append,tders_len l at_ way k];rfl
theorem sign_bd (z:Int) : -1≤z.sign∧z.sign≤1:=by
  rcases Int.lt_trichotomy z 0 with h|h|h
  · rw[Int.sign_eq_neg_one_of_neg h];decide
  · rw[h];decide
  · rw[Int.sign_eq_one_of_pos h];decide
theorem num_nz {a:Rat}(h:a≠0):a.num≠0:=fun e=>h (by rw[←Rat.num_eq_zero];exact e)
theorem lq_powN {a:Rat}{K:Nat}(h:LQ K a):∀ k,LQ (k*K+1) (powN a k)
  | 0=>LQ.mono (k:=1) (LQ.lit (z:=1) kD) oM
  | k+1=>((lq_powN h k).mul h).mono (by rw[Nat.add_mul];omega)
theorem lq_powq {a:Rat}{K:Nat}{n:Int}(hK:1≤K)(h:LQ K a)(hn : -13≤n∧n≤13):LQ (13*K+2) (powq a n):=by
  have h1:=lq_powN h n.natAbs;have h2:n.natAbs*K≤13*K:=Nat.mul_le_mul_right _ oM
  unfold powq
  split
  · exact h1.mono oM
  · exact ((LQ.lit (z:=1) kD).div h1).mono oM
theorem fDivB (a b:Rat)(hb:b=0)(w:World)(h:Hp)(g:G w h):CV 114 #[qv a,qv b] w h (.tuple #[qv 0,.bool false]):=by
  subst hb;exact fDivZ a (lq0 oM) w h g
theorem abs_one_ne (u:Rat):(qabs u+((1:Int):Rat)).num≠0:=by rw[Rat.add_comm];exact one_abs_ne u
theorem knk_1 {op:Int}{a b:Rat}(h:op=9∨op=10):(a.num.sign == (0:Int))=decide (knk op a b):=by
  have e:a.num.sign=0↔a=0:=by rw[Int.sign_eq_zero_iff_zero,Rat.num_eq_zero]
  by_cases h0:a=0
  · rw[decide_eq_true (show knk op a b from .inl ⟨h,h0⟩)];simpa using e.2 h0
  · rw[decide_eq_false (show ¬knk op a b from fun x=>by rcases x with x|x;exact h0 x.2;omega)]
    simpa using fun h1=>h0 (e.1 h1)
theorem cmpR_eq {a b:Rat}:cmpR a b=0↔a=b:=by
  constructor
  · intro h
    have h1:¬a<b:=fun x=>by have:=cmpR_lt.2 x;omega
    have h2:¬b<a:=fun x=>by have:=cmpR_gt.2 x;omega
    grind
  · intro h;subst h
    have h1:¬cmpR a a<0:=fun x=>by have:=cmpR_lt.1 x;grind
    have h2:¬cmpR a a>0:=fun x=>by have:=cmpR_gt.1 x;grind
    omega
theorem knk_2 {op:Int}{a b:Rat}(h:op=12∨op=13):(cmpR a b == (0:Int))=decide (knk op a b):=by
  by_cases h0:a=b
  · rw[decide_eq_true (show knk op a b from .inr ⟨h,h0⟩)];simpa using cmpR_eq.2 h0
  · rw[decide_eq_false (show ¬knk op a b from fun x=>by rcases x with x|x;omega;exact h0 x.2)]
    simpa using fun h1=>h0 (cmpR_eq.1 h1)
theorem knk_0 {op:Int}{a b:Rat}(h:¬(op=9∨op=10∨op=12∨op=13)):false=decide (knk op a b):=by
  rw[decide_eq_false (show ¬knk op a b from fun x=>by rcases x with x|x<;>omega)]
theorem slm_29 {op n:Int}{a b:Rat}(h:op=12∨op=13)(hc:0<cmpR a b∧op=12∨¬0<cmpR a b∧op=13):Value.tuple #[qv ((1:Int):Rat),qv 0]=.tuple #[qv (sla op n a b),qv (slb op a b)]:=by
  rcases hc with ⟨h1,rfl⟩|⟨h1,rfl⟩
  · have h2:b<a:=cmpR_gt.1 h1
    unfold sla slb;simp[h2]
  · have h2:¬b<a:=fun x=>h1 (cmpR_gt.2 x)
    unfold sla slb;simp[h2]
theorem slm_30 {op n:Int}{a b:Rat}(h:op=12∨op=13)(hc:0<cmpR a b∧op=13∨¬0<cmpR a b∧op=12):Value.tuple #[qv 0,qv ((1:Int):Rat)]=.tuple #[qv (sla op n a b),qv (slb op a b)]:=by
  rcases hc with ⟨h1,rfl⟩|⟨h1,rfl⟩
  · have h2:b<a:=cmpR_gt.1 h1
    unfold sla slb;simp[h2]
  · have h2:¬b<a:=fun x=>h1 (cmpR_gt.2 x)
    unfold sla slb;simp[h2]
theorem fMin (a b:Rat)(ha:LQ 100000000 a)(hb:LQ 100000000 b)(w:World)(h:Hp)(g:G w h):CV 152 #[qv a,qv b] w h (qv (minR a b)):=by
 have hs:=sS g;refine go Tryz.func152 [(0,qv a),(1,qv b)] rfl (cSL (lA 2 55 (qc a) hs (fun b1 w2 h3 hs=>lA 3 55 (qc b) hs (fun b4 w5 h6 hs=>lA 4 55 ([.bool false,uV 0,eS,uV 0,eS]) hs (fun b7 w8 h9 hs=>lN (cQ (cSL (lL hs [.o 5 (qv b) 1 0 5,.o 6 (qv a) 2 0 5] (lC 7 hs (fCmp b a (LQ.mono hb oM) (LQ.mono ha oM) _ _ hs.g) ?_)))))))));rintro _ w10 h11 hs rfl;cases hb12:(decide ((cmpR b a:Int)<(0:Int)))
 ·
  have phb12:=oF hb12;exact lB 8 hb12 (lN (cIF (cK (cSL (lL hs [.o 10 (qv a) 2 0 5] (lP 0 0 (qc a) hs (fun w13 hs=>lN (kX (hs.ret [(0,0,5)] (qv a) (by unfold minR;rw[if_neg (fun h_=>by have:=cmpR_lt.2 h_;omega)]))))))))))
 have phb12:=oT hb12;exact lB 8 hb12 (lN (cIT (cSL (lL hs [.o 9 (qv b) 1 0 5] (lP 0 0 (qc b) hs (fun w14 hs=>lN (kX (hs.ret [(0,0,5)] (qv b) (by unfold minR;rw[if_pos (cmpR_lt.1 oM)])))))))))
theorem tPowerP (a:Rat)(n:Int)(K:Nat)(hK:14*K+20≤100000000)(ha:LQ K a)(hn : -13≤n∧n≤13)(hs:0≤n)(w:World)(h:Hp)(g:G w h)(tb:Tab h):CV 115 #[qv a,iV n] w h (.tuple #[qv (powq a n),.bool true]):=by
 have hs:=((sS g).aB tb);obtain ⟨m,hm⟩:∃ m:Nat,m=n.natAbs:=⟨_,rfl⟩;have hm13:m≤13:=by omega
 refine go Tryz.func115 [(0,qv a),(1,iV n)] rfl (cSL (lA 2 55 (qc a) hs (fun b1 w2 h3 hs=>lA 4 55 ([.bool false,uV 0,eS,uV 0,eS]) hs (fun b4 w5 h6 hs=>lL hs [.v 5 (.bool false)] (lNS (lC 7 hs (fOf 1 oM oM _ _ hs.g) ?_))))));rintro _ w7 h8 hs rfl;refine lA 6 55 ([.bool false,uV 0,eS,uV 0,eS]) hs (fun b9 w10 h11 hs=>lP 0 0 (qc ((1:Int):Rat)) hs (fun w12 hs=>lN (cQ (cSL (lL hs [.m 8 1,.m 9 1] (lI 10 (0-n) ?_))))));refine lV 11 (iV (max (n:Int) (0-n:Int))) ?_ (hr:=rint (n:=(if (0-n:Int)>(n:Int) then (0-n:Int) else (n:Int))) kR (by simp only[imax2]));refine lL hs [.v 12 (iV 0)] (lN (kZ ?_));refine cTo _ (CG.loop (fun μ_ Γ w_=>∃ (k:Nat) (h_:Hp),μ_=m-k∧Γ=[(1,iV n),(2,pB b1),(4,pB b4),(5,.bool false),(6,pB b9),(11,iV (max (n:Int) (0-n:Int))),(12,nV k)]∧SS w h w_ h_ [⟨b9,55,qc (powN a k)⟩,⟨b4,55,[.bool false,uV 0,eS,uV 0,eS]⟩,⟨b1,55,qc a⟩] [] [fun h_=>Tab h_]∧k≤m) _ ⟨0,h11,rfl,rfl,hs.to _ _,Nat.zero_le _⟩ ?_);rintro _ _ w13 ⟨k,h14,hm15,rfl,hs,hk⟩;have hkK:k*K≤13*K:=Nat.mul_le_mul_right _ oM;have hpk:=lq_powN ha k;refine cSL ?_;cases hb16:(decide ((k:Int)<(max (n:Int) (0-n:Int):Int)))
 ·
  have phb16:=oF hb16;refine lB 13 hb16 (lN (cQ (cIF (CG.exit ?_))))
  show CG _ _ _ _ _ _ _ _
  refine cQ (cSL (lL hs [.m 18 1] ?_));have ⟨hb17,phb17⟩:=dT (p:=(0:Int)≤(n:Int)) oM;exact lB 19 hb17 (lN (cIT (cSL (lL hs [.o 20 (qv (powN a k)) 0 0 5] (lP 1 0 (qc (powN a k)) hs (fun w18 hs=>lL hs [.v 5 (.bool true)] (lN (kX (hs.ret [(1,0,5)] (.tuple #[qv (powN a k),.bool true]) (by unfold powq;rw[if_pos oM,show n.natAbs=k by omega]))))))))))
 have phb16:=oT hb16;refine lB 13 hb16 (lN (cQ (cIT (cK (cQ (kZ (kQ (lL hs [.o 14 (qv (powN a k)) 0 0 5,.o 15 (qv a) 2 0 5] ?_))))))));have hq19:=LQ.mul hpk ha;refine lC 16 hs (fMul (powN a k) a (LQ.mono hpk oM) (LQ.mono ha oM) _ _ hs.g hs.f.1) ?_;rintro _ w20 h21 hs rfl;refine lP 0 0 (qc ((powN a k)*a)) hs (fun w22 hs=>lN (kQ (lIn 17 ((k:Nat)+1) (k+1) ?_)));refine lL hs [.m 12 17] (lD ?_);intro a_ ka;refine ⟨_,_,?_,⟨k+1,h21,rfl,rfl,hs.to _ _,oM⟩,ka.to _ kR⟩
 omega
theorem tPowerN (a:Rat)(n:Int)(K:Nat)(hK:14*K+20≤100000000)(ha:LQ K a)(hn : -13≤n∧n≤13)(hs:n<0)(ha0:a≠0)(w:World)(h:Hp)(g:G w h)(tb:Tab h):CV 115 #[qv a,iV n] w h (.tuple #[qv (powq a n),.bool true]):=by
 have hs:=((sS g).aB tb);obtain ⟨m,hm⟩:∃ m:Nat,m=n.natAbs:=⟨_,rfl⟩;have hm13:m≤13:=by omega
 refine go Tryz.func115 [(0,qv a),(1,iV n)] rfl (cSL (lA 2 55 (qc a) hs (fun b1 w2 h3 hs=>lA 4 55 ([.bool false,uV 0,eS,uV 0,eS]) hs (fun b4 w5 h6 hs=>lL hs [.v 5 (.bool false)] (lNS (lC 7 hs (fOf 1 oM oM _ _ hs.g) ?_))))));rintro _ w7 h8 hs rfl;refine lA 6 55 ([.bool false,uV 0,eS,uV 0,eS]) hs (fun b9 w10 h11 hs=>lP 0 0 (qc ((1:Int):Rat)) hs (fun w12 hs=>lN (cQ (cSL (lL hs [.m 8 1,.m 9 1] (lI 10 (0-n) ?_))))));refine lV 11 (iV (max (n:Int) (0-n:Int))) ?_ (hr:=rint (n:=(if (0-n:Int)>(n:Int) then (0-n:Int) else (n:Int))) kR (by simp only[imax2]));refine lL hs [.v 12 (iV 0)] (lN (kZ ?_));refine cTo _ (CG.loop (fun μ_ Γ w_=>∃ (k:Nat) (h_:Hp),μ_=m-k∧Γ=[(1,iV n),(2,pB b1),(4,pB b4),(5,.bool false),(6,pB b9),(11,iV (max (n:Int) (0-n:Int))),(12,nV k)]∧SS w h w_ h_ [⟨b9,55,qc (powN a k)⟩,⟨b4,55,[.bool false,uV 0,eS,uV 0,eS]⟩,⟨b1,55,qc a⟩] [] [fun h_=>Tab h_]∧k≤m) _ ⟨0,h11,rfl,rfl,hs.to _ _,Nat.zero_le _⟩ ?_);rintro _ _ w13 ⟨k,h14,hm15,rfl,hs,hk⟩;have hkK:k*K≤13*K:=Nat.mul_le_mul_right _ oM;have hpk:=lq_powN ha k;refine cSL ?_;cases hb16:(decide ((k:Int)<(max (n:Int) (0-n:Int):Int)))
 ·
  have phb16:=oF hb16;refine lB 13 hb16 (lN (cQ (cIF (CG.exit ?_))))
  show CG _ _ _ _ _ _ _ _
  refine cQ (cSL (lL hs [.m 18 1] ?_));have ⟨hb17,phb17⟩:=dF (p:=(0:Int)≤(n:Int)) oM;refine lB 19 hb17 (lN (cIF (cK (cQ (cR 5 [] mixed hs al_nil ?_)))));refine eO 1 22 [(0,0,5)] (qv (powN a k)) hs (eC 0 21 hs (fun _ _ hs=>fOf 1 oM oM _ _ hs.g) ?_);rintro _ _ _ w18 h19 hs rfl;have hq20:=LQ.div (LQ.lit (z:=1) kD) hpk;refine eC 2 23 hs (fun _ _ hs=>fDivN ((1:Int):Rat) (powN a k) (LQ.mono (LQ.lit (z:=1) kD) oM) (LQ.mono hpk oM) (num_nz (powN_nz ha0 k)) _ _ hs.g hs.f.1) ?_;rintro _ _ _ w21 h22 hs rfl;exact eV 3 24 (qv (((1:Int):Rat)/(powN a k))) (eV 4 25 (.bool true) (eD0 hs (fun w23 h24 hs=>tP 5 1 0 (qc (((1:Int):Rat)/(powN a k))) hs (fun w25 hs=>tV 6 5 (.bool true) (tN (kX (hs.ret [(1,0,5)] (.tuple #[qv (((1:Int):Rat)/(powN a k)),.bool true]) (by unfold powq;rw[if_neg oM,show n.natAbs=k by omega]))))))))
 have phb16:=oT hb16;refine lB 13 hb16 (lN (cQ (cIT (cK (cQ (kZ (kQ (lL hs [.o 14 (qv (powN a k)) 0 0 5,.o 15 (qv a) 2 0 5] ?_))))))));have hq26:=LQ.mul hpk ha;refine lC 16 hs (fMul (powN a k) a (LQ.mono hpk oM) (LQ.mono ha oM) _ _ hs.g hs.f.1) ?_;rintro _ w27 h28 hs rfl;refine lP 0 0 (qc ((powN a k)*a)) hs (fun w29 hs=>lN (kQ (lIn 17 ((k:Nat)+1) (k+1) ?_)));refine lL hs [.m 12 17] (lD ?_);intro a_ ka;refine ⟨_,_,?_,⟨k+1,h28,rfl,rfl,hs.to _ _,oM⟩,ka.to _ kR⟩
 omega
theorem tPowerZ (a:Rat)(n:Int)(K:Nat)(hK:14*K+20≤100000000)(ha:LQ K a)(hn : -13≤n∧n≤13)(hs:n<0)(ha0:a=0)(w:World)(h:Hp)(g:G w h)(tb:Tab h):CV 115 #[qv a,iV n] w h (.tuple #[qv 0,.bool false]):=by
 have hs:=((sS g).aB tb);obtain ⟨m,hm⟩:∃ m:Nat,m=n.natAbs:=⟨_,rfl⟩;have hm13:m≤13:=by omega
 refine go Tryz.func115 [(0,qv a),(1,iV n)] rfl (cSL (lA 2 55 (qc a) hs (fun b1 w2 h3 hs=>lA 4 55 ([.bool false,uV 0,eS,uV 0,eS]) hs (fun b4 w5 h6 hs=>lL hs [.v 5 (.bool false)] (lNS (lC 7 hs (fOf 1 oM oM _ _ hs.g) ?_))))));rintro _ w7 h8 hs rfl;refine lA 6 55 ([.bool false,uV 0,eS,uV 0,eS]) hs (fun b9 w10 h11 hs=>lP 0 0 (qc ((1:Int):Rat)) hs (fun w12 hs=>lN (cQ (cSL (lL hs [.m 8 1,.m 9 1] (lI 10 (0-n) ?_))))));refine lV 11 (iV (max (n:Int) (0-n:Int))) ?_ (hr:=rint (n:=(if (0-n:Int)>(n:Int) then (0-n:Int) else (n:Int))) kR (by simp only[imax2]));refine lL hs [.v 12 (iV 0)] (lN (kZ ?_));refine cTo _ (CG.loop (fun μ_ Γ w_=>∃ (k:Nat) (h_:Hp),μ_=m-k∧Γ=[(1,iV n),(2,pB b1),(4,pB b4),(5,.bool false),(6,pB b9),(11,iV (max (n:Int) (0-n:Int))),(12,nV k)]∧SS w h w_ h_ [⟨b9,55,qc (powN a k)⟩,⟨b4,55,[.bool false,uV 0,eS,uV 0,eS]⟩,⟨b1,55,qc a⟩] [] [fun h_=>Tab h_]∧k≤m) _ ⟨0,h11,rfl,rfl,hs.to _ _,Nat.zero_le _⟩ ?_);rintro _ _ w13 ⟨k,h14,hm15,rfl,hs,hk⟩;have hkK:k*K≤13*K:=Nat.mul_le_mul_right _ oM;have hpk:=lq_powN ha k;refine cSL ?_;cases hb16:(decide ((k:Int)<(max (n:Int) (0-n:Int):Int)))
 ·
  have phb16:=oF hb16;refine lB 13 hb16 (lN (cQ (cIF (CG.exit ?_))))
  show CG _ _ _ _ _ _ _ _
  refine cQ (cSL (lL hs [.m 18 1] ?_));have ⟨hb17,phb17⟩:=dF (p:=(0:Int)≤(n:Int)) oM;refine lB 19 hb17 (lN (cIF (cK (cQ (cR 5 [] mixed hs al_nil ?_)))));refine eO 1 22 [(0,0,5)] (qv (powN a k)) hs (eC 0 21 hs (fun _ _ hs=>fOf 1 oM oM _ _ hs.g) ?_);rintro _ _ _ w18 h19 hs rfl;refine eC 2 23 hs (fun _ _ hs=>fDivB ((1:Int):Rat) (powN a k) (by rw[ha0];exact powN_zero oM) _ _ hs.g) ?_;rintro _ _ _ w20 h21 hs rfl;exact eV 3 24 (qv 0) (eV 4 25 (.bool false) (eD0 hs (fun w22 h23 hs=>tP 5 1 0 (qc 0) hs (fun w24 hs=>tV 6 5 (.bool false) (tN (kX (hs.ret [(1,0,5)] (.tuple #[qv 0,.bool false]) rfl)))))))
 have phb16:=oT hb16;refine lB 13 hb16 (lN (cQ (cIT (cK (cQ (kZ (kQ (lL hs [.o 14 (qv (powN a k)) 0 0 5,.o 15 (qv a) 2 0 5] ?_))))))));have hq25:=LQ.mul hpk ha;refine lC 16 hs (fMul (powN a k) a (LQ.mono hpk oM) (LQ.mono ha oM) _ _ hs.g hs.f.1) ?_;rintro _ w26 h27 hs rfl;refine lP 0 0 (qc ((powN a k)*a)) hs (fun w28 hs=>lN (kQ (lIn 17 ((k:Nat)+1) (k+1) ?_)));refine lL hs [.m 12 17] (lD ?_);intro a_ ka;refine ⟨_,_,?_,⟨k+1,h27,rfl,rfl,hs.to _ _,oM⟩,ka.to _ kR⟩
 omega
theorem tPower (a:Rat)(n:Int)(K:Nat)(hK:14*K+20≤100000000)(ha:LQ K a)(hn : -13≤n∧n≤13)(ho:n<0→a≠0)(w:World)(h:Hp)(g:G w h)(tb:Tab h):CV 115 #[qv a,iV n] w h (.tuple #[qv (powq a n),.bool true]):=by
  by_cases hs:0≤n
  · exact tPowerP a n K hK ha hn hs w h g tb
  · exact tPowerN a n K hK ha hn oM (ho oM) w h g tb
theorem tApplyT (s:Stp)(a b:Rat)(K:Nat)(hK:14*K+20≤100000000)(ha:LQ K a)(hb:LQ K b)(hq:LQ 1 s.q)(hK1:1≤K)(hop:1≤s.op∧s.op≤13∧s.op≠2)(hn:s.op=8 → -12≤s.n∧s.n≤12)(hok:okq s.op s.n a b)(w:World)(h:Hp)(g:G w h)(tb:Tab h):CV 95 #[.agg #[iV s.op,iV s.a,iV s.b,iV s.n,.bool (ineg s.q.num),uV (lo (iabs s.q.num)),.string (hi (iabs s.q.num)),uV (lo (qd s.q)),.string (hi (qd s.q))],qv a,qv b] w h (.tuple #[qv (opv s.op s.n s.q a b),.bool true]):=by
 have hs:=((sS g).aB tb);refine go Tryz.func95 [(0,.agg #[iV s.op,iV s.a,iV s.b,iV s.n,.bool (ineg s.q.num),uV (lo (iabs s.q.num)),.string (hi (iabs s.q.num)),uV (lo (qd s.q)),.string (hi (qd s.q))]),(1,qv a),(2,qv b)] rfl (cSL (lA 3 110 ([iV s.op,iV s.a,iV s.b,iV s.n,.bool (ineg s.q.num),uV (lo (iabs s.q.num)),.string (hi (iabs s.q.num)),uV (lo (qd s.q)),.string (hi (qd s.q))]) hs (fun b1 w2 h3 hs=>lA 4 55 (qc a) hs (fun b4 w5 h6 hs=>lA 5 55 (qc b) hs (fun b7 w8 h9 hs=>lA 6 55 ([.bool false,uV 0,eS,uV 0,eS]) hs (fun b10 w11 h12 hs=>lL hs [.v 7 (.bool false)] (lN (cQ (cSL (lL hs [.v 8 (pB b1),.o 9 (iV s.op) 3 0 1] (lN (kZ (cSL ?_)))))))))))));cases hb13:((s.op:Int) == (1:Int))
 ·
  have phb13:=neOfBeq hb13;refine lB 11 hb13 (lL hs [.m 10 11] (lN (cIF (cSL ?_))));cases hb14:((s.op:Int) == (3:Int))
  ·
   have phb14:=neOfBeq hb14;refine lB 15 hb14 (lL hs [.m 14 15] (lN (cIF (cSL ?_))));cases hb15:((s.op:Int) == (4:Int))
   ·
    have phb15:=neOfBeq hb15;refine lB 20 hb15 (lL hs [.m 19 20] (lN (cIF (cSL ?_))));cases hb16:((s.op:Int) == (5:Int))
    ·
     have phb16:=neOfBeq hb16;refine lB 25 hb16 (lL hs [.m 24 25] (lN (cIF (cSL ?_))));cases hb17:((s.op:Int) == (6:Int))
     ·
      have phb17:=neOfBeq hb17;refine lB 30 hb17 (lL hs [.m 29 30] (lN (cIF (cSL ?_))));cases hb18:((s.op:Int) == (7:Int))
      ·
       have phb18:=neOfBeq hb18;refine lB 37 hb18 (lL hs [.m 36 37] (lN (cIF (cSL ?_))));cases hb19:((s.op:Int) == (8:Int))
       ·
        have phb19:=neOfBeq hb19;refine lB 41 hb19 (lL hs [.m 40 41] (lN (cIF (cSL ?_))));cases hb20:((s.op:Int) == (9:Int))
        ·
         have phb20:=neOfBeq hb20;refine lB 49 hb20 (lL hs [.m 48 49] (lN (cIF (cSL ?_))));cases hb21:((s.op:Int) == (10:Int))
         ·
          have phb21:=neOfBeq hb21;refine lB 53 hb21 (lL hs [.m 52 53] (lN (cIF (cSL ?_))));cases hb22:((s.op:Int) == (11:Int))
          ·
           have phb22:=neOfBeq hb22;refine lB 58 hb22 (lL hs [.m 57 58] (lN (cIF (cSL ?_))));cases hb23:((s.op:Int) == (12:Int))
           ·
            have phb23:=neOfBeq hb23;refine lB 68 hb23 (lL hs [.m 67 68] (lN (cIF (cK (cSL (lL hs [.o 72 (qv a) 2 0 5,.o 73 (qv b) 1 0 5] (lC 74 hs (fMin a b (LQ.mono ha oM) (LQ.mono hb oM) _ _ hs.g) ?_)))))));rintro _ w24 h25 hs rfl;exact lP 0 0 (qc (minR a b)) hs (fun w26 hs=>lL hs [.v 7 (.bool true)] (lN (kX (hs.ret [(0,0,5)] (.tuple #[qv (minR a b),.bool true]) (by rw[show s.op=13 by omega];rfl)))))
           have phb23:=eq_of_beq hb23;refine lB 68 hb23 (lL hs [.m 67 68] (lN (cIT (cSL (lL hs [.o 69 (qv a) 2 0 5,.o 70 (qv b) 1 0 5] (lC 71 hs (fMax a b (LQ.mono ha oM) (LQ.mono hb oM) _ _ hs.g) ?_))))));rintro _ w27 h28 hs rfl;exact lP 0 0 (qc (maxR a b)) hs (fun w29 hs=>lL hs [.v 7 (.bool true)] (lN (kX (hs.ret [(0,0,5)] (.tuple #[qv (maxR a b),.bool true]) (by rw[show s.op=12 by omega];rfl)))))
          have phb22:=eq_of_beq hb22;refine lB 58 hb22 (lL hs [.m 57 58] (lN (cIT (cQ (cR 8 [] mixed hs al_nil ?_)))));refine eO 0 59 [(2,0,5)] (qv a) hs (eO 1 60 [(2,0,5)] (qv a) hs ?_);have hq30:LQ (K) (qabs a):=LQ.abs ha;refine eC 2 61 hs (fun _ _ hs=>fAbs a (LQ.mono ha oM) _ _ hs.g) ?_;rintro _ _ _ w31 h32 hs rfl;refine eC 3 62 hs (fun _ _ hs=>fOf 1 oM oM _ _ hs.g) ?_;rintro _ _ _ w33 h34 hs rfl;have hq35:=LQ.add hq30 (LQ.lit (z:=1) kD);refine eC 4 63 hs (fun _ _ hs=>fAdd (qabs a) ((1:Int):Rat) (LQ.mono hq30 oM) (LQ.mono (LQ.lit (z:=1) kD) oM) _ _ hs.g hs.f.1) ?_;rintro _ _ _ w36 h37 hs rfl;have hq38:=LQ.div ha hq35;refine eC 5 64 hs (fun _ _ hs=>fDivN a ((qabs a)+((1:Int):Rat)) (LQ.mono ha oM) (LQ.mono hq35 oM) (abs_one_ne a) _ _ hs.g hs.f.1) ?_;rintro _ _ _ w39 h40 hs rfl;exact eV 6 65 (qv (a/((qabs a)+((1:Int):Rat)))) (eV 7 66 (.bool true) (eD0 hs (fun w41 h42 hs=>tP 8 0 0 (qc (a/((qabs a)+((1:Int):Rat)))) hs (fun w43 hs=>tV 9 7 (.bool true) (tN (kX (hs.ret [(0,0,5)] (.tuple #[qv (a/((qabs a)+((1:Int):Rat))),.bool true]) (by rw[show s.op=11 by omega];rfl))))))))
         have phb21:=eq_of_beq hb21;refine lB 53 hb21 (lL hs [.m 52 53] (lN (cIT (cSL (lL hs [.o 54 (qv a) 2 0 5,.v 55 (qv 0)] (lC 56 hs (fMax a 0 (LQ.mono ha oM) (LQ.mono (LQ.lit (z:=0) kD) oM) _ _ hs.g) ?_))))));rintro _ w44 h45 hs rfl;exact lP 0 0 (qc (maxR a 0)) hs (fun w46 hs=>lL hs [.v 7 (.bool true)] (lN (kX (hs.ret [(0,0,5)] (.tuple #[qv (maxR a 0),.bool true]) (by rw[show s.op=10 by omega];rfl)))))
        have phb20:=eq_of_beq hb20;refine lB 49 hb20 (lL hs [.m 48 49] (lN (cIT (cSL (lL hs [.o 50 (qv a) 2 0 5] ?_)))));have hq47:LQ (K) (qabs a):=LQ.abs ha;refine lC 51 hs (fAbs a (LQ.mono ha oM) _ _ hs.g) ?_;rintro _ w48 h49 hs rfl;exact lP 0 0 (qc (qabs a)) hs (fun w50 hs=>lL hs [.v 7 (.bool true)] (lN (kX (hs.ret [(0,0,5)] (.tuple #[qv (qabs a),.bool true]) (by rw[show s.op=9 by omega];rfl)))))
       have phb19:=eq_of_beq hb19;refine lB 41 hb19 (lL hs [.m 40 41] (lN (cIT (cSL (lL hs [.o 42 (qv a) 2 0 5,.v 43 (.pointer (some ⟨b1,3,none⟩)),.o 44 (iV s.n) 3 3 1] (lC 45 hs (tPower a s.n K hK ha (by have:=hn oM;omega) (hok.2 oM) _ _ hs.g hs.f.1) ?_))))));rintro _ w51 h52 hs rfl;exact lL hs [.v 46 (qv (powq a s.n)),.v 47 (.bool true)] (lP 0 0 (qc (powq a s.n)) hs (fun w53 hs=>lL hs [.m 7 47] (lN (kX (hs.ret [(0,0,5)] (.tuple #[qv (powq a s.n),.bool true]) (by rw[show s.op=8 by omega];rfl))))))
      have phb18:=eq_of_beq hb18;refine lB 37 hb18 (lL hs [.m 36 37] (lN (cIT (cSL (lL hs [.o 38 (qv a) 2 0 5] ?_)))));have hq54:LQ (K) (-a):=LQ.neg ha;refine lC 39 hs (fNeg a (LQ.mono ha oM) _ _ hs.g) ?_;rintro _ w55 h56 hs rfl;exact lP 0 0 (qc (-a)) hs (fun w57 hs=>lL hs [.v 7 (.bool true)] (lN (kX (hs.ret [(0,0,5)] (.tuple #[qv (-a),.bool true]) (by rw[show s.op=7 by omega];rfl)))))
     have phb17:=eq_of_beq hb17;refine lB 30 hb17 (lL hs [.m 29 30] (lN (cIT (cSL (lL hs [.o 31 (qv a) 2 0 5,.o 32 (qv b) 1 0 5] ?_)))));have hq58:=LQ.div ha hb;refine lC 33 hs (fDivN a b (LQ.mono ha oM) (LQ.mono hb oM) (num_nz (hok.1 oM)) _ _ hs.g hs.f.1) ?_;rintro _ w59 h60 hs rfl;exact lL hs [.v 34 (qv (a/b)),.v 35 (.bool true)] (lP 0 0 (qc (a/b)) hs (fun w61 hs=>lL hs [.m 7 35] (lN (kX (hs.ret [(0,0,5)] (.tuple #[qv (a/b),.bool true]) (by rw[show s.op=6 by omega];rfl))))))
    have phb16:=eq_of_beq hb16;refine lB 25 hb16 (lL hs [.m 24 25] (lN (cIT (cSL (lL hs [.o 26 (qv a) 2 0 5,.o 27 (qv b) 1 0 5] ?_)))));have hq62:=LQ.mul ha hb;refine lC 28 hs (fMul a b (LQ.mono ha oM) (LQ.mono hb oM) _ _ hs.g hs.f.1) ?_;rintro _ w63 h64 hs rfl;exact lP 0 0 (qc (a*b)) hs (fun w65 hs=>lL hs [.v 7 (.bool true)] (lN (kX (hs.ret [(0,0,5)] (.tuple #[qv (a*b),.bool true]) (by rw[show s.op=5 by omega];rfl)))))
   have phb15:=eq_of_beq hb15;refine lB 20 hb15 (lL hs [.m 19 20] (lN (cIT (cSL (lL hs [.o 21 (qv a) 2 0 5,.o 22 (qv b) 1 0 5] ?_)))));have hq66:=LQ.sub ha hb;refine lC 23 hs (fSub a b (LQ.mono ha oM) (LQ.mono hb oM) _ _ hs.g hs.f.1) ?_;rintro _ w67 h68 hs rfl;exact lP 0 0 (qc (a-b)) hs (fun w69 hs=>lL hs [.v 7 (.bool true)] (lN (kX (hs.ret [(0,0,5)] (.tuple #[qv (a-b),.bool true]) (by rw[show s.op=4 by omega];rfl)))))
  have phb14:=eq_of_beq hb14;refine lB 15 hb14 (lL hs [.m 14 15] (lN (cIT (cSL (lL hs [.o 16 (qv a) 2 0 5,.o 17 (qv b) 1 0 5] ?_)))));have hq70:=LQ.add ha hb;refine lC 18 hs (fAdd a b (LQ.mono ha oM) (LQ.mono hb oM) _ _ hs.g hs.f.1) ?_;rintro _ w71 h72 hs rfl;exact lP 0 0 (qc (a+b)) hs (fun w73 hs=>lL hs [.v 7 (.bool true)] (lN (kX (hs.ret [(0,0,5)] (.tuple #[qv (a+b),.bool true]) (by rw[show s.op=3 by omega];rfl)))))
 have phb13:=eq_of_beq hb13;exact lB 11 hb13 (lL hs [.m 10 11] (lN (cIT (cSL (lL hs [.v 12 (.pointer (some ⟨b1,4,none⟩)),.o 13 (qv s.q) 3 4 5] (lP 0 0 (qc s.q) hs (fun w74 hs=>lL hs [.v 7 (.bool true)] (lN (kX (hs.ret [(0,0,5)] (.tuple #[qv s.q,.bool true]) (by rw[show s.op=1 by omega];rfl)))))))))))
theorem tApply6 (s:Stp)(a b:Rat)(K:Nat)(hK:14*K+20≤100000000)(ha:LQ K a)(hb:LQ K b)(hq:LQ 1 s.q)(hK1:1≤K)(hop:s.op=6)(hz6:b=0)(w:World)(h:Hp)(g:G w h)(tb:Tab h):CV 95 #[.agg #[iV s.op,iV s.a,iV s.b,iV s.n,.bool (ineg s.q.num),uV (lo (iabs s.q.num)),.string (hi (iabs s.q.num)),uV (lo (qd s.q)),.string (hi (qd s.q))],qv a,qv b] w h (.tuple #[qv 0,.bool false]):=by
 have hs:=((sS g).aB tb);refine go Tryz.func95 [(0,.agg #[iV s.op,iV s.a,iV s.b,iV s.n,.bool (ineg s.q.num),uV (lo (iabs s.q.num)),.string (hi (iabs s.q.num)),uV (lo (qd s.q)),.string (hi (qd s.q))]),(1,qv a),(2,qv b)] rfl (cSL (lA 3 110 ([iV s.op,iV s.a,iV s.b,iV s.n,.bool (ineg s.q.num),uV (lo (iabs s.q.num)),.string (hi (iabs s.q.num)),uV (lo (qd s.q)),.string (hi (qd s.q))]) hs (fun b1 w2 h3 hs=>lA 4 55 (qc a) hs (fun b4 w5 h6 hs=>lA 5 55 (qc b) hs (fun b7 w8 h9 hs=>lA 6 55 ([.bool false,uV 0,eS,uV 0,eS]) hs (fun b10 w11 h12 hs=>lL hs [.v 7 (.bool false)] (lN (cQ (cSL (lL hs [.v 8 (pB b1),.o 9 (iV s.op) 3 0 1] (lN (kZ (cSL ?_)))))))))))));have hb13:((s.op:Int) == (1:Int))=false:=beqF oM;have phb13:=neOfBeq hb13;refine lB 11 hb13 (lL hs [.m 10 11] (lN (cIF (cSL ?_))));have hb14:((s.op:Int) == (3:Int))=false:=beqF oM;have phb14:=neOfBeq hb14;refine lB 15 hb14 (lL hs [.m 14 15] (lN (cIF (cSL ?_))));have hb15:((s.op:Int) == (4:Int))=false:=beqF oM;have phb15:=neOfBeq hb15;refine lB 20 hb15 (lL hs [.m 19 20] (lN (cIF (cSL ?_))));have hb16:((s.op:Int) == (5:Int))=false:=beqF oM;have phb16:=neOfBeq hb16;refine lB 25 hb16 (lL hs [.m 24 25] (lN (cIF (cSL ?_))));have hb17:((s.op:Int) == (6:Int))=true:=beqT oM;have phb17:=eq_of_beq hb17;refine lB 30 hb17 (lL hs [.m 29 30] (lN (cIT (cSL (lL hs [.o 31 (qv a) 2 0 5,.o 32 (qv b) 1 0 5] (lC 33 hs (fDivB a b hz6 _ _ hs.g) ?_))))));rintro _ w18 h19 hs rfl;exact lL hs [.v 34 (qv 0),.v 35 (.bool false)] (lP 0 0 (qc 0) hs (fun w20 hs=>lL hs [.m 7 35] (lN (kX (hs.ret [(0,0,5)] (.tuple #[qv 0,.bool false]) rfl)))))
theorem tApply8 (s:Stp)(a b:Rat)(K:Nat)(hK:14*K+20≤100000000)(ha:LQ K a)(hb:LQ K b)(hq:LQ 1 s.q)(hK1:1≤K)(hop:s.op=8)(hn : -12≤s.n∧s.n<0)(hz8:a=0)(w:World)(h:Hp)(g:G w h)(tb:Tab h):CV 95 #[.agg #[iV s.op,iV s.a,iV s.b,iV s.n,.bool (ineg s.q.num),uV (lo (iabs s.q.num)),.string (hi (iabs s.q.num)),uV (lo (qd s.q)),.string (hi (qd s.q))],qv a,qv b] w h (.tuple #[qv 0,.bool false]):=by
 have hs:=((sS g).aB tb);refine go Tryz.func95 [(0,.agg #[iV s.op,iV s.a,iV s.b,iV s.n,.bool (ineg s.q.num),uV (lo (iabs s.q.num)),.string (hi (iabs s.q.num)),uV (lo (qd s.q)),.string (hi (qd s.q))]),(1,qv a),(2,qv b)] rfl (cSL (lA 3 110 ([iV s.op,iV s.a,iV s.b,iV s.n,.bool (ineg s.q.num),uV (lo (iabs s.q.num)),.string (hi (iabs s.q.num)),uV (lo (qd s.q)),.string (hi (qd s.q))]) hs (fun b1 w2 h3 hs=>lA 4 55 (qc a) hs (fun b4 w5 h6 hs=>lA 5 55 (qc b) hs (fun b7 w8 h9 hs=>lA 6 55 ([.bool false,uV 0,eS,uV 0,eS]) hs (fun b10 w11 h12 hs=>lL hs [.v 7 (.bool false)] (lN (cQ (cSL (lL hs [.v 8 (pB b1),.o 9 (iV s.op) 3 0 1] (lN (kZ (cSL ?_)))))))))))));have hb13:((s.op:Int) == (1:Int))=false:=beqF oM;have phb13:=neOfBeq hb13;refine lB 11 hb13 (lL hs [.m 10 11] (lN (cIF (cSL ?_))));have hb14:((s.op:Int) == (3:Int))=false:=beqF oM;have phb14:=neOfBeq hb14;refine lB 15 hb14 (lL hs [.m 14 15] (lN (cIF (cSL ?_))));have hb15:((s.op:Int) == (4:Int))=false:=beqF oM;have phb15:=neOfBeq hb15;refine lB 20 hb15 (lL hs [.m 19 20] (lN (cIF (cSL ?_))));have hb16:((s.op:Int) == (5:Int))=false:=beqF oM;have phb16:=neOfBeq hb16;refine lB 25 hb16 (lL hs [.m 24 25] (lN (cIF (cSL ?_))));have hb17:((s.op:Int) == (6:Int))=false:=beqF oM;have phb17:=neOfBeq hb17;refine lB 30 hb17 (lL hs [.m 29 30] (lN (cIF (cSL ?_))));have hb18:((s.op:Int) == (7:Int))=false:=beqF oM;have phb18:=neOfBeq hb18;refine lB 37 hb18 (lL hs [.m 36 37] (lN (cIF (cSL ?_))));have hb19:((s.op:Int) == (8:Int))=true:=beqT oM;have phb19:=eq_of_beq hb19;refine lB 41 hb19 (lL hs [.m 40 41] (lN (cIT (cSL (lL hs [.o 42 (qv a) 2 0 5,.v 43 (.pointer (some ⟨b1,3,none⟩)),.o 44 (iV s.n) 3 3 1] (lC 45 hs (tPowerZ a s.n K hK ha oM oM hz8 _ _ hs.g hs.f.1) ?_))))));rintro _ w20 h21 hs rfl;exact lL hs [.v 46 (qv 0),.v 47 (.bool false)] (lP 0 0 (qc 0) hs (fun w22 hs=>lL hs [.m 7 47] (lN (kX (hs.ret [(0,0,5)] (.tuple #[qv 0,.bool false]) rfl)))))
def apv (op n:Int)(q a b:Rat):Rat:=if okq op n a b then opv op n q a b else 0
theorem tApply (s:Stp)(a b:Rat)(K:Nat)(hK:14*K+20≤100000000)(ha:LQ K a)(hb:LQ K b)(hq:LQ 1 s.q)(hK1:1≤K)(hop:1≤s.op∧s.op≤13∧s.op≠2)(hn:s.op=8 → -12≤s.n∧s.n≤12)(w:World)(h:Hp)(g:G w h)(tb:Tab h):CV 95 #[stv s,qv a,qv b] w h (.tuple #[qv (apv s.op s.n s.q a b),.bool (decide (okq s.op s.n a b))]):=by
  by_cases hok:okq s.op s.n a b
  · unfold apv;rw[if_pos hok,decide_eq_true hok];exact tApplyT s a b K hK ha hb hq hK1 hop hn hok w h g tb
  · unfold apv;rw[if_neg hok,decide_eq_false hok]
    by_cases h6:s.op=6∧b=0
    · exact tApply6 s a b K hK ha hb hq hK1 h6.1 h6.2 w h g tb
    · by_cases h8:s.op=8∧s.n<0∧a=0
      · exact tApply8 s a b K hK ha hb hq hK1 h8.1 ⟨(hn h8.1).1,h8.2.1⟩ h8.2.2 w h g tb
      · exact absurd ⟨fun x y=>h6 ⟨x,y⟩,fun x y z=>h8 ⟨x,y,z⟩⟩ hok
theorem tKinked (s:Stp)(a b:Rat)(K:Nat)(hK:K≤100000000)(ha:LQ K a)(hb:LQ K b)(w:World)(h:Hp)(g:G w h):CV 96 #[.agg #[iV s.op,iV s.a,iV s.b,iV s.n,.bool (ineg s.q.num),uV (lo (iabs s.q.num)),.string (hi (iabs s.q.num)),uV (lo (qd s.q)),.string (hi (qd s.q))],qv a,qv b] w h (.bool (decide (knk s.op a b))):=by
 have hs:=sS g;refine go Tryz.func96 [(0,.agg #[iV s.op,iV s.a,iV s.b,iV s.n,.bool (ineg s.q.num),uV (lo (iabs s.q.num)),.string (hi (iabs s.q.num)),uV (lo (qd s.q)),.string (hi (qd s.q))]),(1,qv a),(2,qv b)] rfl (cSL (lA 3 110 ([iV s.op,iV s.a,iV s.b,iV s.n,.bool (ineg s.q.num),uV (lo (iabs s.q.num)),.string (hi (iabs s.q.num)),uV (lo (qd s.q)),.string (hi (qd s.q))]) hs (fun b1 w2 h3 hs=>lA 4 55 (qc a) hs (fun b4 w5 h6 hs=>lA 5 55 (qc b) hs (fun b7 w8 h9 hs=>lL hs [.v 6 (.bool false)] (lN (cQ (cSL (lL hs [.v 7 (pB b1),.o 8 (iV s.op) 2 0 1] (lN (kZ (cQ (cSL (lL hs [.v 10 (.bool ((s.op:Int) == (9:Int))),.m 9 10] (lN ?_)))))))))))))));cases hb10:((s.op:Int) == (9:Int))
 ·
  try rw[hb10] at hs
  try rw[hb10]
  have phb10:=neOfBeq hb10;refine cIF (kQ (lL hs [.v 11 (.bool ((s.op:Int) == (10:Int))),.m 9 11] (lN ?_)));cases hb11:((s.op:Int) == (10:Int))
  ·
   try rw[hb11] at hs
   try rw[hb11]
   have phb11:=neOfBeq hb11;refine cIF (cQ (cSL (lL hs [.v 16 (.bool ((s.op:Int) == (12:Int))),.m 15 16] (lN ?_))));cases hb12:((s.op:Int) == (12:Int))
   ·
    try rw[hb12] at hs
    try rw[hb12]
    have phb12:=neOfBeq hb12;refine cIF (kQ (lL hs [.v 17 (.bool ((s.op:Int) == (13:Int))),.m 15 17] (lN ?_)));cases hb13:((s.op:Int) == (13:Int))
    ·
     try rw[hb13] at hs
     try rw[hb13]
     have phb13:=neOfBeq hb13;exact cIF (cK (cSL (lL hs [.v 6 (.bool false)] (lN (kX (hs.ret [] (.bool false) (congrArg Value.bool (knk_0 oM))))))))
    try rw[hb13] at hs
    try rw[hb13]
    have phb13:=eq_of_beq hb13;refine cIT (cSL (lL hs [.o 18 (qv a) 1 0 5,.o 19 (qv b) 0 0 5] (lC 20 hs (fCmp a b (LQ.mono ha oM) (LQ.mono hb oM) _ _ hs.g) ?_)));rintro _ w14 h15 hs rfl;exact lL hs [.v 21 (.bool ((cmpR a b:Int) == (0:Int))),.m 6 21] (lN (kX (hs.ret [] (.bool ((cmpR a b:Int) == (0:Int))) (congrArg Value.bool (knk_2 oM)))))
   try rw[hb12] at hs
   try rw[hb12]
   have phb12:=eq_of_beq hb12;refine cIT (cK (cIT (cSL (lL hs [.o 18 (qv a) 1 0 5,.o 19 (qv b) 0 0 5] (lC 20 hs (fCmp a b (LQ.mono ha oM) (LQ.mono hb oM) _ _ hs.g) ?_)))));rintro _ w16 h17 hs rfl;exact lL hs [.v 21 (.bool ((cmpR a b:Int) == (0:Int))),.m 6 21] (lN (kX (hs.ret [] (.bool ((cmpR a b:Int) == (0:Int))) (congrArg Value.bool (knk_2 oM)))))
  try rw[hb11] at hs
  try rw[hb11]
  have phb11:=eq_of_beq hb11;refine cIT (cSL (lL hs [.o 12 (qv a) 1 0 5] (lC 13 hs (fSign a (LQ.mono ha oM) _ _ hs.g) ?_)));rintro _ w18 h19 hs rfl;exact lL hs [.v 14 (.bool ((a.num.sign:Int) == (0:Int))),.m 6 14] (lN (kX (hs.ret [] (.bool ((a.num.sign:Int) == (0:Int))) (congrArg Value.bool (knk_1 oM)))))
 try rw[hb10] at hs
 try rw[hb10]
 have phb10:=eq_of_beq hb10;refine cIT (cK (cIT (cSL (lL hs [.o 12 (qv a) 1 0 5] (lC 13 hs (fSign a (LQ.mono ha oM) _ _ hs.g) ?_)))));rintro _ w20 h21 hs rfl;exact lL hs [.v 14 (.bool ((a.num.sign:Int) == (0:Int))),.m 6 14] (lN (kX (hs.ret [] (.bool ((a.num.sign:Int) == (0:Int))) (congrArg Value.bool (knk_1 oM)))))
theorem tSlopes (s:Stp)(a b:Rat)(K:Nat)(hK:14*K+20≤100000000)(ha:LQ K a)(hb:LQ K b)(hq:LQ 1 s.q)(hK1:1≤K)(hop:1≤s.op∧s.op≤13∧s.op≠2)(hn:s.op=8 → -12≤s.n∧s.n≤12)(hok6:s.op=6→b≠0)(hok:s.op=8→s.n<0→a≠0)(w:World)(h:Hp)(g:G w h)(tb:Tab h):CV 53 #[.agg #[iV s.op,iV s.a,iV s.b,iV s.n,.bool (ineg s.q.num),uV (lo (iabs s.q.num)),.string (hi (iabs s.q.num)),uV (lo (qd s.q)),.string (hi (qd s.q))],qv a,qv b] w h (.tuple #[qv (sla s.op s.n a b),qv (slb s.op a b)]):=by
 have hs:=((sS g).aB tb);have hsg:=sign_bd a.num;refine go Tryz.func53 [(0,.agg #[iV s.op,iV s.a,iV s.b,iV s.n,.bool (ineg s.q.num),uV (lo (iabs s.q.num)),.string (hi (iabs s.q.num)),uV (lo (qd s.q)),.string (hi (qd s.q))]),(1,qv a),(2,qv b)] rfl (cSL (lA 3 110 ([iV s.op,iV s.a,iV s.b,iV s.n,.bool (ineg s.q.num),uV (lo (iabs s.q.num)),.string (hi (iabs s.q.num)),uV (lo (qd s.q)),.string (hi (qd s.q))]) hs (fun b1 w2 h3 hs=>lA 4 55 (qc a) hs (fun b4 w5 h6 hs=>lA 5 55 (qc b) hs (fun b7 w8 h9 hs=>lA 6 55 ([.bool false,uV 0,eS,uV 0,eS]) hs (fun b10 w11 h12 hs=>lA 7 55 ([.bool false,uV 0,eS,uV 0,eS]) hs (fun b13 w14 h15 hs=>lNS (lC 10 hs (fOf 1 oM oM _ _ hs.g) ?_))))))));rintro _ w16 h17 hs rfl;refine lL hs [.v 11 (qv 0)] (lA 8 55 ([.bool false,uV 0,eS,uV 0,eS]) hs (fun b18 w19 h20 hs=>lA 9 55 ([.bool false,uV 0,eS,uV 0,eS]) hs (fun b21 w22 h23 hs=>lP 1 0 (qc ((1:Int):Rat)) hs (fun w24 hs=>lP 0 0 (qc 0) hs (fun w25 hs=>lN (cQ (cSL (lL hs [.v 12 (pB b1),.o 13 (iV s.op) 6 0 1] (lN (kZ (cSL ?_)))))))))));cases hb26:((s.op:Int) == (3:Int))
 ·
  have phb26:=neOfBeq hb26;refine lB 15 hb26 (lL hs [.m 14 15] (lN (cIF (cSL ?_))));cases hb27:((s.op:Int) == (4:Int))
  ·
   have phb27:=neOfBeq hb27;refine lB 19 hb27 (lL hs [.m 18 19] (lN (cIF (cSL ?_))));cases hb28:((s.op:Int) == (5:Int))
   ·
    have phb28:=neOfBeq hb28;refine lB 24 hb28 (lL hs [.m 23 24] (lN (cIF (cSL ?_))));cases hb29:((s.op:Int) == (6:Int))
    ·
     have phb29:=neOfBeq hb29;refine lB 28 hb29 (lL hs [.m 27 28] (lN (cIF (cSL ?_))));cases hb30:((s.op:Int) == (7:Int))
     ·
      have phb30:=neOfBeq hb30;refine lB 43 hb30 (lL hs [.m 42 43] (lN (cIF (cSL ?_))));cases hb31:((s.op:Int) == (8:Int))
      ·
       have phb31:=neOfBeq hb31;refine lB 48 hb31 (lL hs [.m 47 48] (lN (cIF (cSL ?_))));cases hb32:((s.op:Int) == (9:Int))
       ·
        have phb32:=neOfBeq hb32;refine lB 69 hb32 (lL hs [.m 68 69] (lN (cIF (cSL ?_))));cases hb33:((s.op:Int) == (10:Int))
        ·
         have phb33:=neOfBeq hb33;refine lB 75 hb33 (lL hs [.m 74 75] (lN (cIF (cSL ?_))));cases hb34:((s.op:Int) == (11:Int))
         ·
          have phb34:=neOfBeq hb34;refine lB 82 hb34 (lL hs [.m 81 82] (lN (cIF (cQ (cSL ?_)))));cases hb35:((s.op:Int) == (12:Int))
          ·
           have phb35:=neOfBeq hb35;refine lB 97 hb35 (lL hs [.m 96 97] (lN (cIF (kQ ?_))));cases hb36:((s.op:Int) == (13:Int))
           ·
            have phb36:=neOfBeq hb36;refine lB 98 hb36 (lL hs [.m 96 98] (lN (cIF (cK (cQ ?_)))));have hsr:=hs;refine cRz 2 [] [b10,b13] mixed hs al_nil (eO 0 111 [(0,0,5)] (qv 0) hs (eOz 1 112 [(0,0,5)] (qv 0) hsr hs ?_ (hM:=fun p hp=>by obtain rfl:=List.mem_singleton.1 hp;exact fun hm=>by rcases List.mem_cons.1 hm with e|hm;exact bx_ne hs.st (i:=0) (j:=3) kR kR kR e;rcases List.mem_cons.1 hm with e|hm;exact bx_ne hs.st (i:=0) (j:=2) kR kR kR e;cases hm)));refine eD0 hs (fun w37 h38 hs=>tP 2 3 0 (qc 0) hs (fun w39 hs=>?_) (hz:=tlz_mem (List.mem_cons_self)));refine tP 3 2 0 (qc 0) hs (fun w40 hs=>?_) (hz:=tlz_mem (List.mem_cons_of_mem _<|List.mem_cons_self));exact tN (kX (hs.ret [(3,0,5),(2,0,5)] (.tuple #[qv 0,qv 0]) (by rw[show s.op=1 by omega];rfl)))
           have phb36:=eq_of_beq hb36;refine lB 98 hb36 (lL hs [.m 96 98] (lN (cIT (cQ (cQ (cR 8 [] mixed hs al_nil ?_))))));refine eO 0 99 [(5,0,5)] (qv a) hs (eO 1 100 [(4,0,5)] (qv b) hs (eV 4 103 (pB b1) (eO 5 104 [(6,0,1)] (iV s.op) hs ?_)));have hb41:((s.op:Int) == (12:Int))=false:=beqF oM;have phb41:=neOfBeq hb41;refine eB 6 105 hb41 (eC 2 101 hs (fun _ _ hs=>fCmp a b (LQ.mono ha oM) (LQ.mono hb oM) _ _ hs.g) ?_);rintro _ _ _ w42 h43 hs rfl;cases hb44:(decide ((0:Int)<(cmpR a b:Int)))
           ·
            have phb44:=oF hb44;refine eB 3 102 hb44 (eV 7 106 (.bool true) (eD0 hs (fun w45 h46 hs=>tN (cTo [(6,pB b10),(7,pB b13),(8,pB b18),(9,pB b21),(106,.bool true)] ?_))));refine cIT (cQ ?_);have hsr:=hs;refine cRz 2 [] [b10,b13] mixed hs al_nil (eO 0 107 [(1,0,5)] (qv ((1:Int):Rat)) hs (eOz 1 108 [(0,0,5)] (qv 0) hsr hs ?_ (hM:=fun p hp=>by obtain rfl:=List.mem_singleton.1 hp;exact fun hm=>by rcases List.mem_cons.1 hm with e|hm;exact bx_ne hs.st (i:=0) (j:=3) kR kR kR e;rcases List.mem_cons.1 hm with e|hm;exact bx_ne hs.st (i:=0) (j:=2) kR kR kR e;cases hm)));refine eD0 hs (fun w47 h48 hs=>tP 2 3 0 (qc ((1:Int):Rat)) hs (fun w49 hs=>?_) (hz:=tlz_mem (List.mem_cons_self)));refine tP 3 2 0 (qc 0) hs (fun w50 hs=>?_) (hz:=tlz_mem (List.mem_cons_of_mem _<|List.mem_cons_self));exact tN (kX (hs.ret [(3,0,5),(2,0,5)] (.tuple #[qv ((1:Int):Rat),qv 0]) (slm_29 oM oM)))
           have phb44:=oT hb44;refine eB 3 102 hb44 (eV 7 106 (.bool false) (eD0 hs (fun w51 h52 hs=>tN (cTo [(6,pB b10),(7,pB b13),(8,pB b18),(9,pB b21),(106,.bool false)] ?_))));refine cIF (cK (cQ ?_));have hsr:=hs;refine cRz 2 [] [b10,b13] mixed hs al_nil (eO 0 109 [(0,0,5)] (qv 0) hs (eOz 1 110 [(1,0,5)] (qv ((1:Int):Rat)) hsr hs ?_ (hM:=fun p hp=>by obtain rfl:=List.mem_singleton.1 hp;exact fun hm=>by rcases List.mem_cons.1 hm with e|hm;exact bx_ne hs.st (i:=1) (j:=3) kR kR kR e;rcases List.mem_cons.1 hm with e|hm;exact bx_ne hs.st (i:=1) (j:=2) kR kR kR e;cases hm)));refine eD0 hs (fun w53 h54 hs=>tP 2 3 0 (qc 0) hs (fun w55 hs=>?_) (hz:=tlz_mem (List.mem_cons_self)));refine tP 3 2 0 (qc ((1:Int):Rat)) hs (fun w56 hs=>?_) (hz:=tlz_mem (List.mem_cons_of_mem _<|List.mem_cons_self));exact tN (kX (hs.ret [(3,0,5),(2,0,5)] (.tuple #[qv 0,qv ((1:Int):Rat)]) (slm_30 oM oM)))
          have phb35:=eq_of_beq hb35;refine lB 97 hb35 (lL hs [.m 96 97] (lN (cIT (cK (cIT (cQ (cQ (cR 8 [] mixed hs al_nil ?_))))))));refine eO 0 99 [(5,0,5)] (qv a) hs (eO 1 100 [(4,0,5)] (qv b) hs (eV 4 103 (pB b1) (eO 5 104 [(6,0,1)] (iV s.op) hs ?_)));have hb57:((s.op:Int) == (12:Int))=true:=beqT oM;have phb57:=eq_of_beq hb57;refine eB 6 105 hb57 (eC 2 101 hs (fun _ _ hs=>fCmp a b (LQ.mono ha oM) (LQ.mono hb oM) _ _ hs.g) ?_);rintro _ _ _ w58 h59 hs rfl;cases hb60:(decide ((0:Int)<(cmpR a b:Int)))
          ·
           have phb60:=oF hb60;refine eB 3 102 hb60 (eV 7 106 (.bool false) (eD0 hs (fun w61 h62 hs=>tN (cTo [(6,pB b10),(7,pB b13),(8,pB b18),(9,pB b21),(106,.bool false)] ?_))));refine cIF (cK (cQ ?_));have hsr:=hs;refine cRz 2 [] [b10,b13] mixed hs al_nil (eO 0 109 [(0,0,5)] (qv 0) hs (eOz 1 110 [(1,0,5)] (qv ((1:Int):Rat)) hsr hs ?_ (hM:=fun p hp=>by obtain rfl:=List.mem_singleton.1 hp;exact fun hm=>by rcases List.mem_cons.1 hm with e|hm;exact bx_ne hs.st (i:=1) (j:=3) kR kR kR e;rcases List.mem_cons.1 hm with e|hm;exact bx_ne hs.st (i:=1) (j:=2) kR kR kR e;cases hm)));refine eD0 hs (fun w63 h64 hs=>tP 2 3 0 (qc 0) hs (fun w65 hs=>?_) (hz:=tlz_mem (List.mem_cons_self)));refine tP 3 2 0 (qc ((1:Int):Rat)) hs (fun w66 hs=>?_) (hz:=tlz_mem (List.mem_cons_of_mem _<|List.mem_cons_self));exact tN (kX (hs.ret [(3,0,5),(2,0,5)] (.tuple #[qv 0,qv ((1:Int):Rat)]) (slm_30 oM oM)))
          have phb60:=oT hb60;refine eB 3 102 hb60 (eV 7 106 (.bool true) (eD0 hs (fun w67 h68 hs=>tN (cTo [(6,pB b10),(7,pB b13),(8,pB b18),(9,pB b21),(106,.bool true)] ?_))));refine cIT (cQ ?_);have hsr:=hs;refine cRz 2 [] [b10,b13] mixed hs al_nil (eO 0 107 [(1,0,5)] (qv ((1:Int):Rat)) hs (eOz 1 108 [(0,0,5)] (qv 0) hsr hs ?_ (hM:=fun p hp=>by obtain rfl:=List.mem_singleton.1 hp;exact fun hm=>by rcases List.mem_cons.1 hm with e|hm;exact bx_ne hs.st (i:=0) (j:=3) kR kR kR e;rcases List.mem_cons.1 hm with e|hm;exact bx_ne hs.st (i:=0) (j:=2) kR kR kR e;cases hm)));refine eD0 hs (fun w69 h70 hs=>tP 2 3 0 (qc ((1:Int):Rat)) hs (fun w71 hs=>?_) (hz:=tlz_mem (List.mem_cons_self)));refine tP 3 2 0 (qc 0) hs (fun w72 hs=>?_) (hz:=tlz_mem (List.mem_cons_of_mem _<|List.mem_cons_self));exact tN (kX (hs.ret [(3,0,5),(2,0,5)] (.tuple #[qv ((1:Int):Rat),qv 0]) (slm_29 oM oM)))
         have phb34:=eq_of_beq hb34;refine lB 82 hb34 (lL hs [.m 81 82] (lN (cIT (cQ (cR 9 [] mixed hs al_nil ?_)))));refine eO 0 84 [(1,0,5)] (qv ((1:Int):Rat)) hs (eO 1 85 [(1,0,5)] (qv ((1:Int):Rat)) hs (eO 2 86 [(5,0,5)] (qv a) hs ?_));have hq73:LQ (K) (qabs a):=LQ.abs ha;refine eC 3 87 hs (fun _ _ hs=>fAbs a (LQ.mono ha oM) _ _ hs.g) ?_;rintro _ _ _ w74 h75 hs rfl;have hq76:=LQ.add (LQ.lit (z:=1) kD) hq73;refine eC 4 88 hs (fun _ _ hs=>fAdd ((1:Int):Rat) (qabs a) (LQ.mono (LQ.lit (z:=1) kD) oM) (LQ.mono hq73 oM) _ _ hs.g hs.f.1) ?_;rintro _ _ _ w77 h78 hs rfl;have hq79:=LQ.div (LQ.lit (z:=1) kD) hq76;refine eC 5 89 hs (fun _ _ hs=>fDivN ((1:Int):Rat) (((1:Int):Rat)+(qabs a)) (LQ.mono (LQ.lit (z:=1) kD) oM) (LQ.mono hq76 oM) (one_abs_ne a) _ _ hs.g hs.f.1) ?_;rintro _ _ _ w80 h81 hs rfl;refine eV 6 83 (.tuple #[qv (((1:Int):Rat)/(((1:Int):Rat)+(qabs a))),.bool true]) (eV 7 90 (qv (((1:Int):Rat)/(((1:Int):Rat)+(qabs a)))) (eV 8 91 (.bool true) (eD0 hs (fun w82 h83 hs=>tP 9 3 0 (qc (((1:Int):Rat)/(((1:Int):Rat)+(qabs a)))) hs (fun w84 hs=>tN (cTo [(6,pB b10),(7,pB b13),(9,pB b21)] ?_))))));refine cQ ?_;have hsr:=hs;refine cRz 4 [] [b10,b13] mixed hs al_nil (eO 0 92 [(3,0,5)] (qv (((1:Int):Rat)/(((1:Int):Rat)+(qabs a)))) hs (eO 1 93 [(3,0,5)] (qv (((1:Int):Rat)/(((1:Int):Rat)+(qabs a)))) hs (eOz 3 95 [(0,0,5)] (qv 0) hsr hs ?_ (hM:=fun p hp=>by obtain rfl:=List.mem_singleton.1 hp;exact fun hm=>by rcases List.mem_cons.1 hm with e|hm;exact bx_ne hs.st (i:=0) (j:=3) kR kR kR e;rcases List.mem_cons.1 hm with e|hm;exact bx_ne hs.st (i:=0) (j:=2) kR kR kR e;cases hm))));have hq85:=LQ.mul hq79 hq79;refine eC 2 94 hs (fun _ _ hs=>fMul (((1:Int):Rat)/(((1:Int):Rat)+(qabs a))) (((1:Int):Rat)/(((1:Int):Rat)+(qabs a))) (LQ.mono hq79 oM) (LQ.mono hq79 oM) _ _ hs.g hs.f.1) ?_;rintro _ _ _ w86 h87 hs rfl;refine eD0 hs (fun w88 h89 hs=>tP 4 3 0 (qc ((((1:Int):Rat)/(((1:Int):Rat)+(qabs a)))*(((1:Int):Rat)/(((1:Int):Rat)+(qabs a))))) hs (fun w90 hs=>?_) (hz:=tlz_mem (List.mem_cons_self)));refine tP 5 2 0 (qc 0) hs (fun w91 hs=>?_) (hz:=tlz_mem (List.mem_cons_of_mem _<|List.mem_cons_self));exact tN (kX (hs.ret [(3,0,5),(2,0,5)] (.tuple #[qv ((((1:Int):Rat)/(((1:Int):Rat)+(qabs a)))*(((1:Int):Rat)/(((1:Int):Rat)+(qabs a)))),qv 0]) (by rw[show s.op=11 by omega];rfl)))
        have phb33:=eq_of_beq hb33;refine lB 75 hb33 (lL hs [.m 74 75] (lN (cIT (cQ ?_))));have hsr:=hs;refine cRz 5 [] [b10,b13] mixed hs al_nil (eO 0 76 [(5,0,5)] (qv a) hs (eOz 4 80 [(0,0,5)] (qv 0) hsr hs ?_ (hM:=fun p hp=>by obtain rfl:=List.mem_singleton.1 hp;exact fun hm=>by rcases List.mem_cons.1 hm with e|hm;exact bx_ne hs.st (i:=0) (j:=3) kR kR kR e;rcases List.mem_cons.1 hm with e|hm;exact bx_ne hs.st (i:=0) (j:=2) kR kR kR e;cases hm)));refine eC 1 77 hs (fun _ _ hs=>fSign a (LQ.mono ha oM) _ _ hs.g) ?_;rintro _ _ _ w92 h93 hs rfl;refine eV 2 78 (iV (max (a.num.sign:Int) (0:Int))) ?_ (hv:=fun _=>rint (n:=(if (0:Int)>(a.num.sign:Int) then (0:Int) else (a.num.sign:Int))) kR (by simp only[imax2]));have hq94:LQ (1) (((max (a.num.sign:Int) (0:Int):Int):Rat)):=LQ.int oM oM;refine eC 3 79 hs (fun _ _ hs=>fOf (max (a.num.sign:Int) (0:Int)) oM oM _ _ hs.g) ?_;rintro _ _ _ w95 h96 hs rfl;refine eD0 hs (fun w97 h98 hs=>tP 5 3 0 (qc ((max (a.num.sign:Int) (0:Int):Int):Rat)) hs (fun w99 hs=>?_) (hz:=tlz_mem (List.mem_cons_self)));refine tP 6 2 0 (qc 0) hs (fun w100 hs=>?_) (hz:=tlz_mem (List.mem_cons_of_mem _<|List.mem_cons_self));exact tN (kX (hs.ret [(3,0,5),(2,0,5)] (.tuple #[qv ((max (a.num.sign:Int) (0:Int):Int):Rat),qv 0]) (by rw[show s.op=10 by omega];rfl)))
       have phb32:=eq_of_beq hb32;refine lB 69 hb32 (lL hs [.m 68 69] (lN (cIT (cQ ?_))));have hsr:=hs;refine cRz 4 [] [b10,b13] mixed hs al_nil (eO 0 70 [(5,0,5)] (qv a) hs (eOz 3 73 [(0,0,5)] (qv 0) hsr hs ?_ (hM:=fun p hp=>by obtain rfl:=List.mem_singleton.1 hp;exact fun hm=>by rcases List.mem_cons.1 hm with e|hm;exact bx_ne hs.st (i:=0) (j:=3) kR kR kR e;rcases List.mem_cons.1 hm with e|hm;exact bx_ne hs.st (i:=0) (j:=2) kR kR kR e;cases hm)));refine eC 1 71 hs (fun _ _ hs=>fSign a (LQ.mono ha oM) _ _ hs.g) ?_;rintro _ _ _ w101 h102 hs rfl;have hq103:LQ (1) (((a.num.sign:Int):Rat)):=LQ.int oM oM;refine eC 2 72 hs (fun _ _ hs=>fOf a.num.sign oM oM _ _ hs.g) ?_;rintro _ _ _ w104 h105 hs rfl;refine eD0 hs (fun w106 h107 hs=>tP 4 3 0 (qc ((a.num.sign:Int):Rat)) hs (fun w108 hs=>?_) (hz:=tlz_mem (List.mem_cons_self)));refine tP 5 2 0 (qc 0) hs (fun w109 hs=>?_) (hz:=tlz_mem (List.mem_cons_of_mem _<|List.mem_cons_self));exact tN (kX (hs.ret [(3,0,5),(2,0,5)] (.tuple #[qv ((a.num.sign:Int):Rat),qv 0]) (by rw[show s.op=9 by omega];rfl)))
      have phb31:=eq_of_beq hb31;refine lB 48 hb31 (lL hs [.m 47 48] (lN (cIT (cQ (cSL (lL hs [.v 49 (.pointer (some ⟨b1,3,none⟩)),.o 50 (iV s.n) 6 3 1] ?_))))));cases hb110:((s.n:Int) == (0:Int))
      ·
       have phb110:=neOfBeq hb110;refine lB 51 hb110 (lN (cIF (cK (cSL (lL hs [.o 55 (qv a) 5 0 5,.v 56 (.pointer (some ⟨b1,3,none⟩)),.o 57 (iV s.n) 6 3 1] (lI 58 (s.n-1) ?_))))));refine lC 59 hs (tPower a (s.n-1) K hK ha (by have:=hn oM;omega) (fun h0=>hok oM oM) _ _ hs.g hs.f.1) ?_;rintro _ w111 h112 hs rfl;have hpw:=lq_powq (n:=s.n-1) hK1 ha (by have:=hn oM;omega);refine lL hs [.m 54 59,.v 60 (qv (powq a (s.n-1))),.v 61 (.bool true)] (lP 3 0 (qc (powq a (s.n-1))) hs (fun w113 hs=>lN (cQ ?_)));have hsr:=hs;refine cRz 6 [] [b10,b13] mixed hs al_nil (eO 0 62 [(3,0,5)] (qv (powq a (s.n-1))) hs (eV 1 63 (.pointer (some ⟨b1,3,none⟩)) (eO 2 64 [(6,3,1)] (iV s.n) hs (eOz 5 67 [(0,0,5)] (qv 0) hsr hs ?_ (hM:=fun p hp=>by obtain rfl:=List.mem_singleton.1 hp;exact fun hm=>by rcases List.mem_cons.1 hm with e|hm;exact bx_ne hs.st (i:=0) (j:=3) kR kR kR e;rcases List.mem_cons.1 hm with e|hm;exact bx_ne hs.st (i:=0) (j:=2) kR kR kR e;cases hm)))));have hq114:LQ (1) (((s.n:Int):Rat)):=LQ.int oM oM;refine eC 3 65 hs (fun _ _ hs=>fOf s.n oM oM _ _ hs.g) ?_;rintro _ _ _ w115 h116 hs rfl;have hq117:=LQ.mul hpw hq114;refine eC 4 66 hs (fun _ _ hs=>fMul (powq a (s.n-1)) ((s.n:Int):Rat) (LQ.mono hpw oM) (LQ.mono hq114 oM) _ _ hs.g hs.f.1) ?_;rintro _ _ _ w118 h119 hs rfl;refine eD0 hs (fun w120 h121 hs=>tP 6 3 0 (qc ((powq a (s.n-1))*((s.n:Int):Rat))) hs (fun w122 hs=>?_) (hz:=tlz_mem (List.mem_cons_self)));refine tP 7 2 0 (qc 0) hs (fun w123 hs=>?_) (hz:=tlz_mem (List.mem_cons_of_mem _<|List.mem_cons_self));refine tN (cTo [(6,pB b10),(7,pB b13),(9,pB b21)] ?_);exact kX (hs.ret [(3,0,5),(2,0,5)] (.tuple #[qv ((powq a (s.n-1))*((s.n:Int):Rat)),qv 0]) (by rw[show s.op=8 by omega];unfold sla slb;rw[if_neg kD,if_neg kD,if_neg kD,if_neg kD,if_neg kD,if_pos rfl,if_neg (show ¬s.n=0 by omega)];rfl))
      have phb110:=eq_of_beq hb110;refine lB 51 hb110 (lN (cIT (cQ ?_)));have hsr:=hs;refine cRz 2 [] [b10,b13] mixed hs al_nil (eO 0 52 [(0,0,5)] (qv 0) hs (eOz 1 53 [(0,0,5)] (qv 0) hsr hs ?_ (hM:=fun p hp=>by obtain rfl:=List.mem_singleton.1 hp;exact fun hm=>by rcases List.mem_cons.1 hm with e|hm;exact bx_ne hs.st (i:=0) (j:=3) kR kR kR e;rcases List.mem_cons.1 hm with e|hm;exact bx_ne hs.st (i:=0) (j:=2) kR kR kR e;cases hm)));refine eD0 hs (fun w124 h125 hs=>tP 2 3 0 (qc 0) hs (fun w126 hs=>?_) (hz:=tlz_mem (List.mem_cons_self)));refine tP 3 2 0 (qc 0) hs (fun w127 hs=>?_) (hz:=tlz_mem (List.mem_cons_of_mem _<|List.mem_cons_self));exact tN (kX (hs.ret [(3,0,5),(2,0,5)] (.tuple #[qv 0,qv 0]) (by rw[show s.op=8 by omega,show s.n=0 by omega];rfl)))
     have phb30:=eq_of_beq hb30;refine lB 43 hb30 (lL hs [.m 42 43] (lN (cIT (cQ ?_))));have hsr:=hs;refine cRz 3 [] [b10,b13] mixed hs al_nil (eO 0 44 [(1,0,5)] (qv ((1:Int):Rat)) hs (eOz 2 46 [(0,0,5)] (qv 0) hsr hs ?_ (hM:=fun p hp=>by obtain rfl:=List.mem_singleton.1 hp;exact fun hm=>by rcases List.mem_cons.1 hm with e|hm;exact bx_ne hs.st (i:=0) (j:=3) kR kR kR e;rcases List.mem_cons.1 hm with e|hm;exact bx_ne hs.st (i:=0) (j:=2) kR kR kR e;cases hm)));have hq128:LQ (1) (-((1:Int):Rat)):=LQ.neg (LQ.lit (z:=1) kD);refine eC 1 45 hs (fun _ _ hs=>fNeg ((1:Int):Rat) (LQ.mono (LQ.lit (z:=1) kD) oM) _ _ hs.g) ?_;rintro _ _ _ w129 h130 hs rfl;refine eD0 hs (fun w131 h132 hs=>tP 3 3 0 (qc (-((1:Int):Rat))) hs (fun w133 hs=>?_) (hz:=tlz_mem (List.mem_cons_self)));refine tP 4 2 0 (qc 0) hs (fun w134 hs=>?_) (hz:=tlz_mem (List.mem_cons_of_mem _<|List.mem_cons_self));exact tN (kX (hs.ret [(3,0,5),(2,0,5)] (.tuple #[qv (-((1:Int):Rat)),qv 0]) (by rw[show s.op=7 by omega];rfl)))
    have phb29:=eq_of_beq hb29;refine lB 28 hb29 (lL hs [.m 27 28] (lN (cIT (cSL (lL hs [.o 30 (qv ((1:Int):Rat)) 1 0 5,.o 31 (qv b) 4 0 5] ?_)))));have hq135:=LQ.div (LQ.lit (z:=1) kD) hb;refine lC 32 hs (fDivN ((1:Int):Rat) b (LQ.mono (LQ.lit (z:=1) kD) oM) (LQ.mono hb oM) (num_nz (hok6 oM)) _ _ hs.g hs.f.1) ?_;rintro _ w136 h137 hs rfl;refine lL hs [.m 29 32,.v 33 (qv (((1:Int):Rat)/b)),.v 34 (.bool true)] (lP 3 0 (qc (((1:Int):Rat)/b)) hs (fun w138 hs=>lN (cQ ?_)));have hsr:=hs;refine cRz 7 [] [b10,b13] mixed hs al_nil (eO 0 35 [(3,0,5)] (qv (((1:Int):Rat)/b)) hs (eOz 1 36 [(5,0,5)] (qv a) hsr hs ?_ (hM:=fun p hp=>by obtain rfl:=List.mem_singleton.1 hp;exact fun hm=>by rcases List.mem_cons.1 hm with e|hm;exact bx_ne hs.st (i:=5) (j:=3) kR kR kR e;rcases List.mem_cons.1 hm with e|hm;exact bx_ne hs.st (i:=5) (j:=2) kR kR kR e;cases hm)));refine eO 2 37 [(3,0,5)] (qv (((1:Int):Rat)/b)) hs (eO 4 39 [(3,0,5)] (qv (((1:Int):Rat)/b)) hs ?_);have hq139:=LQ.mul ha hq135;refine eC 3 38 hs (fun _ _ hs=>fMul a (((1:Int):Rat)/b) (LQ.mono ha oM) (LQ.mono hq135 oM) _ _ hs.g hs.f.1) ?_;rintro _ _ _ w140 h141 hs rfl;have hq142:=LQ.mul hq139 hq135;refine eC 5 40 hs (fun _ _ hs=>fMul (a*(((1:Int):Rat)/b)) (((1:Int):Rat)/b) (LQ.mono hq139 oM) (LQ.mono hq135 oM) _ _ hs.g hs.f.1) ?_;rintro _ _ _ w143 h144 hs rfl;have hq145:LQ ((K+(1+K))+(1+K)) (-((a*(((1:Int):Rat)/b))*(((1:Int):Rat)/b))):=LQ.neg hq142;refine eC 6 41 hs (fun _ _ hs=>fNeg ((a*(((1:Int):Rat)/b))*(((1:Int):Rat)/b)) (LQ.mono hq142 oM) _ _ hs.g) ?_;rintro _ _ _ w146 h147 hs rfl;refine eD0 hs (fun w148 h149 hs=>tP 7 3 0 (qc (((1:Int):Rat)/b)) hs (fun w150 hs=>?_) (hz:=tlz_mem (List.mem_cons_self)));refine tP 8 2 0 (qc (-((a*(((1:Int):Rat)/b))*(((1:Int):Rat)/b)))) hs (fun w151 hs=>?_) (hz:=tlz_mem (List.mem_cons_of_mem _<|List.mem_cons_self));exact tN (kX (hs.ret [(3,0,5),(2,0,5)] (.tuple #[qv (((1:Int):Rat)/b),qv (-((a*(((1:Int):Rat)/b))*(((1:Int):Rat)/b)))]) (by rw[show s.op=6 by omega];rfl)))
   have phb28:=eq_of_beq hb28;refine lB 24 hb28 (lL hs [.m 23 24] (lN (cIT (cQ ?_))));have hsr:=hs;refine cRz 2 [] [b10,b13] mixed hs al_nil (eO 0 25 [(4,0,5)] (qv b) hs (eOz 1 26 [(5,0,5)] (qv a) hsr hs ?_ (hM:=fun p hp=>by obtain rfl:=List.mem_singleton.1 hp;exact fun hm=>by rcases List.mem_cons.1 hm with e|hm;exact bx_ne hs.st (i:=5) (j:=3) kR kR kR e;rcases List.mem_cons.1 hm with e|hm;exact bx_ne hs.st (i:=5) (j:=2) kR kR kR e;cases hm)));refine eD0 hs (fun w152 h153 hs=>tP 2 3 0 (qc b) hs (fun w154 hs=>?_) (hz:=tlz_mem (List.mem_cons_self)));refine tP 3 2 0 (qc a) hs (fun w155 hs=>?_) (hz:=tlz_mem (List.mem_cons_of_mem _<|List.mem_cons_self));exact tN (kX (hs.ret [(3,0,5),(2,0,5)] (.tuple #[qv b,qv a]) (by rw[show s.op=5 by omega];rfl)))
  have phb27:=eq_of_beq hb27;refine lB 19 hb27 (lL hs [.m 18 19] (lN (cIT (cQ ?_))));have hsr:=hs;refine cRz 3 [] [b10,b13] mixed hs al_nil (eO 0 20 [(1,0,5)] (qv ((1:Int):Rat)) hs (eOz 1 21 [(1,0,5)] (qv ((1:Int):Rat)) hsr hs ?_ (hM:=fun p hp=>by obtain rfl:=List.mem_singleton.1 hp;exact fun hm=>by rcases List.mem_cons.1 hm with e|hm;exact bx_ne hs.st (i:=1) (j:=3) kR kR kR e;rcases List.mem_cons.1 hm with e|hm;exact bx_ne hs.st (i:=1) (j:=2) kR kR kR e;cases hm)));have hq156:LQ (1) (-((1:Int):Rat)):=LQ.neg (LQ.lit (z:=1) kD);refine eC 2 22 hs (fun _ _ hs=>fNeg ((1:Int):Rat) (LQ.mono (LQ.lit (z:=1) kD) oM) _ _ hs.g) ?_;rintro _ _ _ w157 h158 hs rfl;refine eD0 hs (fun w159 h160 hs=>tP 3 3 0 (qc ((1:Int):Rat)) hs (fun w161 hs=>?_) (hz:=tlz_mem (List.mem_cons_self)));refine tP 4 2 0 (qc (-((1:Int):Rat))) hs (fun w162 hs=>?_) (hz:=tlz_mem (List.mem_cons_of_mem _<|List.mem_cons_self));exact tN (kX (hs.ret [(3,0,5),(2,0,5)] (.tuple #[qv ((1:Int):Rat),qv (-((1:Int):Rat))]) (by rw[show s.op=4 by omega];rfl)))
 have phb26:=eq_of_beq hb26;refine lB 15 hb26 (lL hs [.m 14 15] (lN (cIT (cQ ?_))));have hsr:=hs;refine cRz 2 [] [b10,b13] mixed hs al_nil (eO 0 16 [(1,0,5)] (qv ((1:Int):Rat)) hs (eOz 1 17 [(1,0,5)] (qv ((1:Int):Rat)) hsr hs ?_ (hM:=fun p hp=>by obtain rfl:=List.mem_singleton.1 hp;exact fun hm=>by rcases List.mem_cons.1 hm with e|hm;exact bx_ne hs.st (i:=1) (j:=3) kR kR kR e;rcases List.mem_cons.1 hm with e|hm;exact bx_ne hs.st (i:=1) (j:=2) kR kR kR e;cases hm)));refine eD0 hs (fun w163 h164 hs=>tP 2 3 0 (qc ((1:Int):Rat)) hs (fun w165 hs=>?_) (hz:=tlz_mem (List.mem_cons_self)));refine tP 3 2 0 (qc ((1:Int):Rat)) hs (fun w166 hs=>?_) (hz:=tlz_mem (List.mem_cons_of_mem _<|List.mem_cons_self));exact tN (kX (hs.ret [(3,0,5),(2,0,5)] (.tuple #[qv ((1:Int):Rat),qv ((1:Int):Rat)]) (by rw[show s.op=3 by omega];rfl)))
theorem tArity (op:Int)(w:World)(h:Hp)(g:G w h):CV 54 #[iV op] w h (iV (ari op)):=by
 have hs:=sS g;refine go Tryz.func54 [(0,iV op)] rfl (cSL (lL hs [.v 2 (iV 0)] (lN (cQ (cSL (lL hs [.m 3 0] (lN (kZ (cQ (cSL ?_))))))))));cases hb1:((op:Int) == (1:Int))
 ·
  have phb1:=neOfBeq hb1;refine lB 5 hb1 (lL hs [.m 4 5] (lN (cIF (kQ ?_))));cases hb2:((op:Int) == (2:Int))
  ·
   have phb2:=neOfBeq hb2;refine lB 6 hb2 (lL hs [.m 4 6] (lN (cIF (cQ (cSL ?_)))));cases hb3:((op:Int) == (7:Int))
   ·
    have phb3:=neOfBeq hb3;refine lB 8 hb3 (lL hs [.m 7 8] (lN (cIF (cSL ?_))));cases hb4:((op:Int) == (8:Int))
    ·
     have phb4:=neOfBeq hb4;refine lB 9 hb4 (lL hs [.m 7 9] (lN (cIF (cSL ?_))));cases hb5:((op:Int) == (9:Int))
     ·
      have phb5:=neOfBeq hb5;refine lB 10 hb5 (lL hs [.m 7 10] (lN (cIF (cSL ?_))));cases hb6:((op:Int) == (10:Int))
      ·
       have phb6:=neOfBeq hb6;refine lB 11 hb6 (lL hs [.m 7 11] (lN (cIF (kQ ?_))));cases hb7:((op:Int) == (11:Int))
       ·
        have phb7:=neOfBeq hb7;refine lB 12 hb7 (lL hs [.m 7 12] (lN (cIF (cQ (cSL ?_)))));cases hb8:((op:Int) == (3:Int))
        ·
         have phb8:=neOfBeq hb8;refine lB 14 hb8 (lL hs [.m 13 14] (lN (cIF (cSL ?_))));cases hb9:((op:Int) == (4:Int))
         ·
          have phb9:=neOfBeq hb9;refine lB 15 hb9 (lL hs [.m 13 15] (lN (cIF (cSL ?_))));cases hb10:((op:Int) == (5:Int))
          ·
           have phb10:=neOfBeq hb10;refine lB 16 hb10 (lL hs [.m 13 16] (lN (cIF (cSL ?_))));cases hb11:((op:Int) == (6:Int))
           ·
            have phb11:=neOfBeq hb11;refine lB 17 hb11 (lL hs [.m 13 17] (lN (cIF (cSL ?_))));cases hb12:((op:Int) == (12:Int))
            ·
             have phb12:=neOfBeq hb12;refine lB 18 hb12 (lL hs [.m 13 18] (lN (cIF (kQ ?_))));cases hb13:((op:Int) == (13:Int))
             ·
              have phb13:=neOfBeq hb13;exact lB 19 hb13 (lL hs [.m 13 19] (lN (cIF (cK (cSL (lL hs [.v 2 (iV (-1))] (lN (kX (hs.ret [] (iV (-1)) (congrArg (Value.int .i64) (by have:=ari_cases op;omega)))))))))))
             have phb13:=eq_of_beq hb13;exact lB 19 hb13 (lL hs [.m 13 19] (lN (cIT (cSL (lL hs [.v 2 (iV 2)] (lN (kX (hs.ret [] (iV 2) (congrArg (Value.int .i64) (by have:=ari_cases op;omega))))))))))
            have phb12:=eq_of_beq hb12;exact lB 18 hb12 (lL hs [.m 13 18] (lN (cIT (cK (cIT (cSL (lL hs [.v 2 (iV 2)] (lN (kX (hs.ret [] (iV 2) (congrArg (Value.int .i64) (by have:=ari_cases op;omega))))))))))))
           have phb11:=eq_of_beq hb11;exact lB 17 hb11 (lL hs [.m 13 17] (lN (cIT (cK (cIT (cSL (lL hs [.v 2 (iV 2)] (lN (kX (hs.ret [] (iV 2) (congrArg (Value.int .i64) (by have:=ari_cases op;omega))))))))))))
          have phb10:=eq_of_beq hb10;exact lB 16 hb10 (lL hs [.m 13 16] (lN (cIT (cK (cIT (cSL (lL hs [.v 2 (iV 2)] (lN (kX (hs.ret [] (iV 2) (congrArg (Value.int .i64) (by have:=ari_cases op;omega))))))))))))
         have phb9:=eq_of_beq hb9;exact lB 15 hb9 (lL hs [.m 13 15] (lN (cIT (cK (cIT (cSL (lL hs [.v 2 (iV 2)] (lN (kX (hs.ret [] (iV 2) (congrArg (Value.int .i64) (by have:=ari_cases op;omega))))))))))))
        have phb8:=eq_of_beq hb8;exact lB 14 hb8 (lL hs [.m 13 14] (lN (cIT (cK (cIT (cSL (lL hs [.v 2 (iV 2)] (lN (kX (hs.ret [] (iV 2) (congrArg (Value.int .i64) (by have:=ari_cases op;omega))))))))))))
       have phb7:=eq_of_beq hb7;exact lB 12 hb7 (lL hs [.m 7 12] (lN (cIT (cSL (lL hs [.v 2 (iV 1)] (lN (kX (hs.ret [] (iV 1) (congrArg (Value.int .i64) (by have:=ari_cases op;omega))))))))))
      have phb6:=eq_of_beq hb6;exact lB 11 hb6 (lL hs [.m 7 11] (lN (cIT (cK (cIT (cSL (lL hs [.v 2 (iV 1)] (lN (kX (hs.ret [] (iV 1) (congrArg (Value.int .i64) (by have:=ari_cases op;omega))))))))))))
     have phb5:=eq_of_beq hb5;exact lB 10 hb5 (lL hs [.m 7 10] (lN (cIT (cK (cIT (cSL (lL hs [.v 2 (iV 1)] (lN (kX (hs.ret [] (iV 1) (congrArg (Value.int .i64) (by have:=ari_cases op;omega))))))))))))
    have phb4:=eq_of_beq hb4;exact lB 9 hb4 (lL hs [.m 7 9] (lN (cIT (cK (cIT (cSL (lL hs [.v 2 (iV 1)] (lN (kX (hs.ret [] (iV 1) (congrArg (Value.int .i64) (by have:=ari_cases op;omega))))))))))))
   have phb3:=eq_of_beq hb3;exact lB 8 hb3 (lL hs [.m 7 8] (lN (cIT (cK (cIT (cSL (lL hs [.v 2 (iV 1)] (lN (kX (hs.ret [] (iV 1) (congrArg (Value.int .i64) (by have:=ari_cases op;omega))))))))))))
  have phb2:=eq_of_beq hb2;exact lB 6 hb2 (lL hs [.m 4 6] (lN (cIT (cSL (lL hs [.v 2 (iV 0)] (lN (kX (hs.ret [] (iV 0) (congrArg (Value.int .i64) (by have:=ari_cases op;omega))))))))))
 have phb1:=eq_of_beq hb1;exact lB 5 hb1 (lL hs [.m 4 5] (lN (cIT (cK (cIT (cSL (lL hs [.v 2 (iV 0)] (lN (kX (hs.ret [] (iV 0) (congrArg (Value.int .i64) (by have:=ari_cases op;omega))))))))))))
theorem tRefers_true (tt:Int)(i rb:Nat)(w:World)(h:Hp)(g:G w h)(ho:Own w rb 3 [nV i])(hj:h[rb]?=some junk):Calls Tryz.prog 150 #[iV tt,.bool true,pB rb] w (RetM rb w h fun v w' _=>v=.bool (decide (0≤(tt:Int)∧(tt:Int)<(i:Nat)))∧Own w' rb 3 [nV i]):=by
 have hmo:UpM [rb] w h w h:=UpM.refl g;obtain ⟨wz,hz,hs⟩:=SS.at_ g ho hj;refine go Tryz.func150 [(0,iV tt),(1,.bool true),(2,pB rb)] rfl (cSL (lL hs [.v 5 (.bool false)] (lN (cQ (cSL (lL hs [.m 6 1] (lN (cIT (cSL (lL hs [.m 7 0] ?_))))))))));cases hb1:(decide ((0:Int)≤(tt:Int)))
 ·
  have phb1:=oF hb1;refine lB 8 hb1 (lL hs [.m 9 8] (lG 10 ?_));exact lG 11 (lG 12 (lL hs [.v 13 (.bool false),.m 5 13] (lN (kX (hs.retM hmo [] (.bool false) ⟨congrArg Value.bool (decide_eq_false oM).symm,hs.own 0⟩)))))
 have phb1:=oT hb1;refine lB 8 hb1 (lL hs [.m 9 8,.m 10 0,.o 11 (nV i) 0 0 1] ?_);cases hb2:(decide ((tt:Int)<(i:Int)))
 ·
  have phb2:=oF hb2;exact lB 12 hb2 (lL hs [.v 13 (.bool false),.m 5 13] (lN (kX (hs.retM hmo [] (.bool false) ⟨congrArg Value.bool (decide_eq_false oM).symm,hs.own 0⟩))))
 have phb2:=oT hb2;exact lB 12 hb2 (lL hs [.v 13 (.bool true),.m 5 13] (lN (kX (hs.retM hmo [] (.bool true) ⟨congrArg Value.bool (decide_eq_true oM).symm,hs.own 0⟩))))
theorem tRefers_false (tt:Int)(i rb:Nat)(w:World)(h:Hp)(g:G w h)(ho:Own w rb 3 [nV i])(hj:h[rb]?=some junk):Calls Tryz.prog 150 #[iV tt,.bool false,pB rb] w (RetM rb w h fun v w' _=>v=.bool (decide ((tt:Int)=0))∧Own w' rb 3 [nV i]):=by
 have hmo:UpM [rb] w h w h:=UpM.refl g;obtain ⟨wz,hz,hs⟩:=SS.at_ g ho hj;refine go Tryz.func150 [(0,iV tt),(1,.bool false),(2,pB rb)] rfl (cSL (lL hs [.v 5 (.bool false)] (lN (cQ (cSL (lL hs [.m 6 1] (lN (cIF (cK (cSL (lL hs [.m 14 0] ?_)))))))))));cases hb1:((tt:Int) == (0:Int))
 ·
  have phb1:=neOfBeq hb1;exact lB 15 hb1 (lL hs [.m 5 15] (lN (kX (hs.retM hmo [] (.bool false) ⟨congrArg Value.bool (decide_eq_false oM).symm,hs.own 0⟩))))
 have phb1:=eq_of_beq hb1;exact lB 15 hb1 (lL hs [.m 5 15] (lN (kX (hs.retM hmo [] (.bool true) ⟨congrArg Value.bool (decide_eq_true oM).symm,hs.own 0⟩))))
theorem tFormed (inp:Int)(A:Option Addr)(c:Nat)(l:List Stp)(O:Option Addr)(d:Nat)(os:List Int)(i:Nat)(hik:i<l.length)(hl:l.length≤65536)(hq:LQ 1 (l.getD i stp0).q)(w:World)(h:Hp)(g:G w h)(hA:SlO 9 stc stp0 h A l)(hO:Si O os h):CV 93 #[.agg #[iV inp,.slice A ((l).length) c,.slice O ((os).length) d],nV i] w h (.bool (decide (Formed inp i (l.getD i stp0)))):=by
 have hs:=(((sS g).aS hA).aS hO);have hsg:(l.getD i stp0).q.num.sign=0↔(l.getD i stp0).q.num=0:=Int.sign_eq_zero_iff_zero;refine go Tryz.func93 [(0,.agg #[iV inp,.slice A ((l).length) c,.slice O ((os).length) d]),(1,nV i)] rfl (cSL (lA 2 36 ([iV inp,.slice A ((l).length) c,.slice O ((os).length) d]) hs (fun b1 w2 h3 hs=>lA 3 3 ([nV i]) hs (fun b4 w5 h6 hs=>lL hs [.v 4 (.bool false)] (lNS (lL hs [.v 8 (.pointer (some ⟨b1,1,none⟩)),.o 9 (.slice A ((l).length) c) 1 1 1,.o 10 (nV i) 0 0 1] (lX 11 A ((l).length) c 9 (i:Nat) i ((hs.f.2.1).ok oM) ?_)))))));refine lH 12 (.agg #[iV ((l.getD i stp0).op),iV ((l.getD i stp0).a),iV ((l.getD i stp0).b),iV ((l.getD i stp0).n),.bool (ineg ((l.getD i stp0).q).num),uV (lo (iabs ((l.getD i stp0).q).num)),.string (hi (iabs ((l.getD i stp0).q).num)),uV (lo (qd ((l.getD i stp0).q))),.string (hi (qd ((l.getD i stp0).q)))]) hs ((hs.f.2.1).el i oM) (lA 5 110 ([iV 0,iV 0,iV 0,iV 0,.bool false,uV 0,eS,uV 0,eS]) hs (fun b7 w8 h9 hs=>lP 0 0 ([iV ((l.getD i stp0).op),iV ((l.getD i stp0).a),iV ((l.getD i stp0).b),iV ((l.getD i stp0).n),.bool (ineg ((l.getD i stp0).q).num),uV (lo (iabs ((l.getD i stp0).q).num)),.string (hi (iabs ((l.getD i stp0).q).num)),uV (lo (qd ((l.getD i stp0).q))),.string (hi (qd ((l.getD i stp0).q)))]) hs (fun w10 hs=>lNS (lL hs [.v 13 (pB b7),.o 14 (iV ((l.getD i stp0).op)) 0 0 1] (lC 15 hs (tArity (l.getD i stp0).op _ _ hs.g) ?_)))));rintro _ w11 h12 hs rfl;have hac:=ari_cases (l.getD i stp0).op;refine lL hs [.m 6 15] (lN (cQ (cSL (lL hs [.m 16 6] ?_))));cases hb13:(decide ((ari (l.getD i stp0).op:Int)<(0:Int)))
 ·
  have phb13:=oF hb13;refine lB 17 hb13 (lN (cIF (cK (cSL (lL hs [.v 18 (.func (.func 150) #[] #[pB b4]),.m 7 18] (lN (cQ (cSL (lL hs [.m 19 7,.v 20 (.pointer (some ⟨b7,1,none⟩)),.o 21 (iV ((l.getD i stp0).a)) 0 1 1,.m 22 6] ?_)))))))));cases hb14:(decide ((0:Int)<(ari (l.getD i stp0).op:Int)))
  ·
   have phb14:=oF hb14;refine lB 23 hb14 (lCm 24 (tRefers_false ((l.getD i stp0).a) i b4 _ _ hs.g (hs.own 1) (hs.jk 1)) ?_);rintro _ w16 h17 u18 ⟨rfl,hO15⟩;replace hs:=(hs.stepM 1 u18 hO15).to [⟨b7,110,[iV ((l.getD i stp0).op),iV ((l.getD i stp0).a),iV ((l.getD i stp0).b),iV ((l.getD i stp0).n),.bool (ineg ((l.getD i stp0).q).num),uV (lo (iabs ((l.getD i stp0).q).num)),.string (hi (iabs ((l.getD i stp0).q).num)),uV (lo (qd ((l.getD i stp0).q))),.string (hi (qd ((l.getD i stp0).q)))]⟩,⟨b4,3,[nV i]⟩,⟨b1,36,[iV inp,.slice A ((l).length) c,.slice O ((os).length) d]⟩] [];cases hb19:(decide (((l.getD i stp0).a:Int)=0))
   ·
    have phb19:=oF hb19;refine lL hs [.v 25 (.bool true),.m 26 25] (lG 27 ?_);refine lG 28 (lG 29 (lG 30 (lG 31 (lG 32 (lG 33 (lL hs [.v 34 (.bool true),.m 35 34] (lG 36 ?_)))))));refine lG 37 (lG 38 (lG 39 (lG 40 (lG 41 (lG 42 (lG 43 (lG 44 (lL hs [.v 45 (.bool true)] (lN (cTo [(2,pB b1),(4,.bool false),(5,pB b7),(45,.bool true)] ?_))))))))));exact cIT (cSL (lL hs [.v 4 (.bool false)] (lN (kX (hs.ret [] (.bool false) (congrArg Value.bool (decide_eq_false (by unfold Formed Refers;omega)).symm))))))
   have phb19:=oT hb19;refine lL hs [.v 25 (.bool false),.m 26 25,.m 27 7,.v 28 (.pointer (some ⟨b7,2,none⟩)),.o 29 (iV ((l.getD i stp0).b)) 0 2 1,.m 30 6] ?_;have ⟨hb20,phb20⟩:=dF (p:=(1:Int)<(ari (l.getD i stp0).op:Int)) oM;refine lB 31 hb20 (lCm 32 (tRefers_false ((l.getD i stp0).b) i b4 _ _ hs.g (hs.own 1) (hs.jk 1)) ?_);rintro _ w22 h23 u24 ⟨rfl,hO21⟩;replace hs:=(hs.stepM 1 u24 hO21).to [⟨b7,110,[iV ((l.getD i stp0).op),iV ((l.getD i stp0).a),iV ((l.getD i stp0).b),iV ((l.getD i stp0).n),.bool (ineg ((l.getD i stp0).q).num),uV (lo (iabs ((l.getD i stp0).q).num)),.string (hi (iabs ((l.getD i stp0).q).num)),uV (lo (qd ((l.getD i stp0).q))),.string (hi (qd ((l.getD i stp0).q)))]⟩,⟨b4,3,[nV i]⟩,⟨b1,36,[iV inp,.slice A ((l).length) c,.slice O ((os).length) d]⟩] [];cases hb25:(decide (((l.getD i stp0).b:Int)=0))
   ·
    have phb25:=oF hb25;refine lL hs [.v 33 (.bool true),.v 34 (.bool true),.m 35 34] (lG 36 ?_);refine lG 37 (lG 38 (lG 39 (lG 40 (lG 41 (lG 42 (lG 43 (lG 44 (lL hs [.v 45 (.bool true)] (lN (cTo [(2,pB b1),(4,.bool false),(5,pB b7),(45,.bool true)] ?_))))))))));exact cIT (cSL (lL hs [.v 4 (.bool false)] (lN (kX (hs.ret [] (.bool false) (congrArg Value.bool (decide_eq_false (by unfold Formed Refers;omega)).symm))))))
   have phb25:=oT hb25;refine lL hs [.v 33 (.bool false),.v 34 (.bool false),.m 35 34,.v 36 (pB b7),.o 37 (iV ((l.getD i stp0).op)) 0 0 1] ?_;cases hb26:(((l.getD i stp0).op:Int) != (1:Int))
   ·
    have phb26:=eqOfBne hb26;refine lB 38 hb26 (lL hs [.m 39 38] (lG 40 ?_));refine lG 41 (lG 42 (lG 43 (lL hs [.v 44 (.bool false),.v 45 (.bool false)] (lN (cTo [(2,pB b1),(4,.bool false),(5,pB b7),(45,.bool false)] ?_)))));refine cIF (cK (cQ (cSL (lL hs [.v 46 (pB b7),.o 47 (iV ((l.getD i stp0).op)) 0 0 1] (lN (kZ (cSL ?_)))))));have hb27:(((l.getD i stp0).op:Int) == (2:Int))=false:=beqF oM;have phb27:=neOfBeq hb27;refine lB 49 hb27 (lL hs [.m 48 49] (lN (cIF (cSL ?_))));have hb28:(((l.getD i stp0).op:Int) == (8:Int))=false:=beqF oM;have phb28:=neOfBeq hb28;refine lB 61 hb28 (lL hs [.m 60 61] (lN (cIF (cK (cSL (lL hs [.v 70 (.pointer (some ⟨b7,3,none⟩)),.o 71 (iV ((l.getD i stp0).n)) 0 3 1] ?_))))));cases hb29:(((l.getD i stp0).n:Int) == (0:Int))
    ·
     have phb29:=neOfBeq hb29;exact lB 72 hb29 (lL hs [.m 4 72] (lN (kX (hs.ret [] (.bool false) (congrArg Value.bool (decide_eq_false (by unfold Formed Refers;omega)).symm)))))
    have phb29:=eq_of_beq hb29;exact lB 72 hb29 (lL hs [.m 4 72] (lN (kX (hs.ret [] (.bool true) (congrArg Value.bool (decide_eq_true (by unfold Formed Refers;omega)).symm)))))
   have phb26:=neOfBne hb26;refine lB 38 hb26 (lL hs [.m 39 38,.v 40 (.pointer (some ⟨b7,4,none⟩)),.o 41 (qv ((l.getD i stp0).q)) 0 4 5] (lC 42 hs (fSign (l.getD i stp0).q (hq.mono oM) _ _ hs.g) ?_));rintro _ w30 h31 hs rfl;cases hb32:(((l.getD i stp0).q.num.sign:Int) != (0:Int))
   ·
    have phb32:=eqOfBne hb32;refine lB 43 hb32 (lL hs [.v 44 (.bool false),.v 45 (.bool false)] (lN (cTo [(2,pB b1),(4,.bool false),(5,pB b7),(45,.bool false)] ?_)));refine cIF (cK (cQ (cSL (lL hs [.v 46 (pB b7),.o 47 (iV ((l.getD i stp0).op)) 0 0 1] (lN (kZ (cSL ?_)))))));cases hb33:(((l.getD i stp0).op:Int) == (2:Int))
    ·
     have phb33:=neOfBeq hb33;refine lB 49 hb33 (lL hs [.m 48 49] (lN (cIF (cSL ?_))));cases hb34:(((l.getD i stp0).op:Int) == (8:Int))
     ·
      have phb34:=neOfBeq hb34;refine lB 61 hb34 (lL hs [.m 60 61] (lN (cIF (cK (cSL (lL hs [.v 70 (.pointer (some ⟨b7,3,none⟩)),.o 71 (iV ((l.getD i stp0).n)) 0 3 1] ?_))))));cases hb35:(((l.getD i stp0).n:Int) == (0:Int))
      ·
       have phb35:=neOfBeq hb35;exact lB 72 hb35 (lL hs [.m 4 72] (lN (kX (hs.ret [] (.bool false) (congrArg Value.bool (decide_eq_false (by unfold Formed Refers;omega)).symm)))))
      have phb35:=eq_of_beq hb35;exact lB 72 hb35 (lL hs [.m 4 72] (lN (kX (hs.ret [] (.bool true) (congrArg Value.bool (decide_eq_true (by unfold Formed Refers;omega)).symm)))))
     have phb34:=eq_of_beq hb34;refine lB 61 hb34 (lL hs [.m 60 61] (lN (cIT (cSL (lL hs [.v 62 (.pointer (some ⟨b7,3,none⟩)),.o 63 (iV ((l.getD i stp0).n)) 0 3 1] ?_)))));cases hb36:(decide ((-12:Int)≤((l.getD i stp0).n:Int)))
     ·
      have phb36:=oF hb36;refine lB 64 hb36 (lL hs [.m 65 64] (lG 66 ?_));exact lG 67 (lG 68 (lL hs [.v 69 (.bool false),.m 4 69] (lN (kX (hs.ret [] (.bool false) (congrArg Value.bool (decide_eq_false (by unfold Formed Refers;omega)).symm))))))
     have phb36:=oT hb36;refine lB 64 hb36 (lL hs [.m 65 64,.v 66 (.pointer (some ⟨b7,3,none⟩)),.o 67 (iV ((l.getD i stp0).n)) 0 3 1] ?_);cases hb37:(decide (((l.getD i stp0).n:Int)≤(12:Int)))
     ·
      have phb37:=oF hb37;exact lB 68 hb37 (lL hs [.v 69 (.bool false),.m 4 69] (lN (kX (hs.ret [] (.bool false) (congrArg Value.bool (decide_eq_false (by unfold Formed Refers;omega)).symm)))))
     have phb37:=oT hb37;exact lB 68 hb37 (lL hs [.v 69 (.bool true),.m 4 69] (lN (kX (hs.ret [] (.bool true) (congrArg Value.bool (decide_eq_true (by unfold Formed Refers;omega)).symm)))))
    have phb33:=eq_of_beq hb33;refine lB 49 hb33 (lL hs [.m 48 49] (lN (cIT (cSL (lL hs [.v 50 (.pointer (some ⟨b7,3,none⟩)),.o 51 (iV ((l.getD i stp0).n)) 0 3 1] ?_)))));cases hb38:(decide ((0:Int)≤((l.getD i stp0).n:Int)))
    ·
     have phb38:=oF hb38;refine lB 52 hb38 (lL hs [.m 53 52] (lG 54 ?_));exact lG 55 (lG 56 (lG 57 (lG 58 (lL hs [.v 59 (.bool false),.m 4 59] (lN (kX (hs.ret [] (.bool false) (congrArg Value.bool (decide_eq_false (by unfold Formed Refers;omega)).symm))))))))
    have phb38:=oT hb38;refine lB 52 hb38 (lL hs [.m 53 52,.v 54 (.pointer (some ⟨b7,3,none⟩)),.o 55 (iV ((l.getD i stp0).n)) 0 3 1,.v 56 (pB b1),.o 57 (iV inp) 2 0 1] ?_);cases hb39:(decide (((l.getD i stp0).n:Int)<(inp:Int)))
    ·
     have phb39:=oF hb39;exact lB 58 hb39 (lL hs [.v 59 (.bool false),.m 4 59] (lN (kX (hs.ret [] (.bool false) (congrArg Value.bool (decide_eq_false (by unfold Formed Refers;omega)).symm)))))
    have phb39:=oT hb39;exact lB 58 hb39 (lL hs [.v 59 (.bool true),.m 4 59] (lN (kX (hs.ret [] (.bool true) (congrArg Value.bool (decide_eq_true (by unfold Formed Refers;omega)).symm)))))
   have phb32:=neOfBne hb32;refine lB 43 hb32 (lL hs [.v 44 (.bool true),.v 45 (.bool true)] (lN (cTo [(2,pB b1),(4,.bool false),(5,pB b7),(45,.bool true)] ?_)));exact cIT (cSL (lL hs [.v 4 (.bool false)] (lN (kX (hs.ret [] (.bool false) (congrArg Value.bool (decide_eq_false (by unfold Formed Refers;omega)).symm))))))
  have phb14:=oT hb14;refine lB 23 hb14 (lCm 24 (tRefers_true ((l.getD i stp0).a) i b4 _ _ hs.g (hs.own 1) (hs.jk 1)) ?_);rintro _ w41 h42 u43 ⟨rfl,hO40⟩;replace hs:=(hs.stepM 1 u43 hO40).to [⟨b7,110,[iV ((l.getD i stp0).op),iV ((l.getD i stp0).a),iV ((l.getD i stp0).b),iV ((l.getD i stp0).n),.bool (ineg ((l.getD i stp0).q).num),uV (lo (iabs ((l.getD i stp0).q).num)),.string (hi (iabs ((l.getD i stp0).q).num)),uV (lo (qd ((l.getD i stp0).q))),.string (hi (qd ((l.getD i stp0).q)))]⟩,⟨b4,3,[nV i]⟩,⟨b1,36,[iV inp,.slice A ((l).length) c,.slice O ((os).length) d]⟩] [];cases hb44:(decide (0≤((l.getD i stp0).a:Int)∧((l.getD i stp0).a:Int)<(i:Nat)))
  ·
   have phb44:=oF hb44;refine lL hs [.v 25 (.bool true),.m 26 25] (lG 27 ?_);refine lG 28 (lG 29 (lG 30 (lG 31 (lG 32 (lG 33 (lL hs [.v 34 (.bool true),.m 35 34] (lG 36 ?_)))))));refine lG 37 (lG 38 (lG 39 (lG 40 (lG 41 (lG 42 (lG 43 (lG 44 (lL hs [.v 45 (.bool true)] (lN (cTo [(2,pB b1),(4,.bool false),(5,pB b7),(45,.bool true)] ?_))))))))));exact cIT (cSL (lL hs [.v 4 (.bool false)] (lN (kX (hs.ret [] (.bool false) (congrArg Value.bool (decide_eq_false (by unfold Formed Refers;omega)).symm))))))
  have phb44:=oT hb44;refine lL hs [.v 25 (.bool false),.m 26 25,.m 27 7,.v 28 (.pointer (some ⟨b7,2,none⟩)),.o 29 (iV ((l.getD i stp0).b)) 0 2 1,.m 30 6] ?_;cases hb45:(decide ((1:Int)<(ari (l.getD i stp0).op:Int)))
  ·
   have phb45:=oF hb45;refine lB 31 hb45 (lCm 32 (tRefers_false ((l.getD i stp0).b) i b4 _ _ hs.g (hs.own 1) (hs.jk 1)) ?_);rintro _ w47 h48 u49 ⟨rfl,hO46⟩;replace hs:=(hs.stepM 1 u49 hO46).to [⟨b7,110,[iV ((l.getD i stp0).op),iV ((l.getD i stp0).a),iV ((l.getD i stp0).b),iV ((l.getD i stp0).n),.bool (ineg ((l.getD i stp0).q).num),uV (lo (iabs ((l.getD i stp0).q).num)),.string (hi (iabs ((l.getD i stp0).q).num)),uV (lo (qd ((l.getD i stp0).q))),.string (hi (qd ((l.getD i stp0).q)))]⟩,⟨b4,3,[nV i]⟩,⟨b1,36,[iV inp,.slice A ((l).length) c,.slice O ((os).length) d]⟩] [];cases hb50:(decide (((l.getD i stp0).b:Int)=0))
   ·
    have phb50:=oF hb50;refine lL hs [.v 33 (.bool true),.v 34 (.bool true),.m 35 34] (lG 36 ?_);refine lG 37 (lG 38 (lG 39 (lG 40 (lG 41 (lG 42 (lG 43 (lG 44 (lL hs [.v 45 (.bool true)] (lN (cTo [(2,pB b1),(4,.bool false),(5,pB b7),(45,.bool true)] ?_))))))))));exact cIT (cSL (lL hs [.v 4 (.bool false)] (lN (kX (hs.ret [] (.bool false) (congrArg Value.bool (decide_eq_false (by unfold Formed Refers;omega)).symm))))))
   have phb50:=oT hb50;refine lL hs [.v 33 (.bool false),.v 34 (.bool false),.m 35 34,.v 36 (pB b7),.o 37 (iV ((l.getD i stp0).op)) 0 0 1] ?_;cases hb51:(((l.getD i stp0).op:Int) != (1:Int))
   ·
    have phb51:=eqOfBne hb51;refine lB 38 hb51 (lL hs [.m 39 38] (lG 40 ?_));refine lG 41 (lG 42 (lG 43 (lL hs [.v 44 (.bool false),.v 45 (.bool false)] (lN (cTo [(2,pB b1),(4,.bool false),(5,pB b7),(45,.bool false)] ?_)))));refine cIF (cK (cQ (cSL (lL hs [.v 46 (pB b7),.o 47 (iV ((l.getD i stp0).op)) 0 0 1] (lN (kZ (cSL ?_)))))));have hb52:(((l.getD i stp0).op:Int) == (2:Int))=false:=beqF oM;have phb52:=neOfBeq hb52;refine lB 49 hb52 (lL hs [.m 48 49] (lN (cIF (cSL ?_))));have hb53:(((l.getD i stp0).op:Int) == (8:Int))=false:=beqF oM;have phb53:=neOfBeq hb53;refine lB 61 hb53 (lL hs [.m 60 61] (lN (cIF (cK (cSL (lL hs [.v 70 (.pointer (some ⟨b7,3,none⟩)),.o 71 (iV ((l.getD i stp0).n)) 0 3 1] ?_))))));cases hb54:(((l.getD i stp0).n:Int) == (0:Int))
    ·
     have phb54:=neOfBeq hb54;exact lB 72 hb54 (lL hs [.m 4 72] (lN (kX (hs.ret [] (.bool false) (congrArg Value.bool (decide_eq_false (by unfold Formed Refers;omega)).symm)))))
    have phb54:=eq_of_beq hb54;exact lB 72 hb54 (lL hs [.m 4 72] (lN (kX (hs.ret [] (.bool true) (congrArg Value.bool (decide_eq_true (by unfold Formed Refers;omega)).symm)))))
   have phb51:=neOfBne hb51;refine lB 38 hb51 (lL hs [.m 39 38,.v 40 (.pointer (some ⟨b7,4,none⟩)),.o 41 (qv ((l.getD i stp0).q)) 0 4 5] (lC 42 hs (fSign (l.getD i stp0).q (hq.mono oM) _ _ hs.g) ?_));rintro _ w55 h56 hs rfl;cases hb57:(((l.getD i stp0).q.num.sign:Int) != (0:Int))
   ·
    have phb57:=eqOfBne hb57;refine lB 43 hb57 (lL hs [.v 44 (.bool false),.v 45 (.bool false)] (lN (cTo [(2,pB b1),(4,.bool false),(5,pB b7),(45,.bool false)] ?_)));refine cIF (cK (cQ (cSL (lL hs [.v 46 (pB b7),.o 47 (iV ((l.getD i stp0).op)) 0 0 1] (lN (kZ (cSL ?_)))))));cases hb58:(((l.getD i stp0).op:Int) == (2:Int))
    ·
     have phb58:=neOfBeq hb58;refine lB 49 hb58 (lL hs [.m 48 49] (lN (cIF (cSL ?_))));cases hb59:(((l.getD i stp0).op:Int) == (8:Int))
     ·
      have phb59:=neOfBeq hb59;refine lB 61 hb59 (lL hs [.m 60 61] (lN (cIF (cK (cSL (lL hs [.v 70 (.pointer (some ⟨b7,3,none⟩)),.o 71 (iV ((l.getD i stp0).n)) 0 3 1] ?_))))));cases hb60:(((l.getD i stp0).n:Int) == (0:Int))
      ·
       have phb60:=neOfBeq hb60;exact lB 72 hb60 (lL hs [.m 4 72] (lN (kX (hs.ret [] (.bool false) (congrArg Value.bool (decide_eq_false (by unfold Formed Refers;omega)).symm)))))
      have phb60:=eq_of_beq hb60;exact lB 72 hb60 (lL hs [.m 4 72] (lN (kX (hs.ret [] (.bool true) (congrArg Value.bool (decide_eq_true (by unfold Formed Refers;omega)).symm)))))
     have phb59:=eq_of_beq hb59;refine lB 61 hb59 (lL hs [.m 60 61] (lN (cIT (cSL (lL hs [.v 62 (.pointer (some ⟨b7,3,none⟩)),.o 63 (iV ((l.getD i stp0).n)) 0 3 1] ?_)))));cases hb61:(decide ((-12:Int)≤((l.getD i stp0).n:Int)))
     ·
      have phb61:=oF hb61;refine lB 64 hb61 (lL hs [.m 65 64] (lG 66 ?_));exact lG 67 (lG 68 (lL hs [.v 69 (.bool false),.m 4 69] (lN (kX (hs.ret [] (.bool false) (congrArg Value.bool (decide_eq_false (by unfold Formed Refers;omega)).symm))))))
     have phb61:=oT hb61;refine lB 64 hb61 (lL hs [.m 65 64,.v 66 (.pointer (some ⟨b7,3,none⟩)),.o 67 (iV ((l.getD i stp0).n)) 0 3 1] ?_);cases hb62:(decide (((l.getD i stp0).n:Int)≤(12:Int)))
     ·
      have phb62:=oF hb62;exact lB 68 hb62 (lL hs [.v 69 (.bool false),.m 4 69] (lN (kX (hs.ret [] (.bool false) (congrArg Value.bool (decide_eq_false (by unfold Formed Refers;omega)).symm)))))
     have phb62:=oT hb62;exact lB 68 hb62 (lL hs [.v 69 (.bool true),.m 4 69] (lN (kX (hs.ret [] (.bool true) (congrArg Value.bool (decide_eq_true (by unfold Formed Refers;omega)).symm)))))
    have phb58:=eq_of_beq hb58;refine lB 49 hb58 (lL hs [.m 48 49] (lN (cIT (cSL (lL hs [.v 50 (.pointer (some ⟨b7,3,none⟩)),.o 51 (iV ((l.getD i stp0).n)) 0 3 1] ?_)))));cases hb63:(decide ((0:Int)≤((l.getD i stp0).n:Int)))
    ·
     have phb63:=oF hb63;refine lB 52 hb63 (lL hs [.m 53 52] (lG 54 ?_));exact lG 55 (lG 56 (lG 57 (lG 58 (lL hs [.v 59 (.bool false),.m 4 59] (lN (kX (hs.ret [] (.bool false) (congrArg Value.bool (decide_eq_false (by unfold Formed Refers;omega)).symm))))))))
    have phb63:=oT hb63;refine lB 52 hb63 (lL hs [.m 53 52,.v 54 (.pointer (some ⟨b7,3,none⟩)),.o 55 (iV ((l.getD i stp0).n)) 0 3 1,.v 56 (pB b1),.o 57 (iV inp) 2 0 1] ?_);cases hb64:(decide (((l.getD i stp0).n:Int)<(inp:Int)))
    ·
     have phb64:=oF hb64;exact lB 58 hb64 (lL hs [.v 59 (.bool false),.m 4 59] (lN (kX (hs.ret [] (.bool false) (congrArg Value.bool (decide_eq_false (by unfold Formed Refers;omega)).symm)))))
    have phb64:=oT hb64;exact lB 58 hb64 (lL hs [.v 59 (.bool true),.m 4 59] (lN (kX (hs.ret [] (.bool true) (congrArg Value.bool (decide_eq_true (by unfold Formed Refers;omega)).symm)))))
   have phb57:=neOfBne hb57;refine lB 43 hb57 (lL hs [.v 44 (.bool true),.v 45 (.bool true)] (lN (cTo [(2,pB b1),(4,.bool false),(5,pB b7),(45,.bool true)] ?_)));exact cIT (cSL (lL hs [.v 4 (.bool false)] (lN (kX (hs.ret [] (.bool false) (congrArg Value.bool (decide_eq_false (by unfold Formed Refers;omega)).symm))))))
  have phb45:=oT hb45;refine lB 31 hb45 (lCm 32 (tRefers_true ((l.getD i stp0).b) i b4 _ _ hs.g (hs.own 1) (hs.jk 1)) ?_);rintro _ w66 h67 u68 ⟨rfl,hO65⟩;replace hs:=(hs.stepM 1 u68 hO65).to [⟨b7,110,[iV ((l.getD i stp0).op),iV ((l.getD i stp0).a),iV ((l.getD i stp0).b),iV ((l.getD i stp0).n),.bool (ineg ((l.getD i stp0).q).num),uV (lo (iabs ((l.getD i stp0).q).num)),.string (hi (iabs ((l.getD i stp0).q).num)),uV (lo (qd ((l.getD i stp0).q))),.string (hi (qd ((l.getD i stp0).q)))]⟩,⟨b4,3,[nV i]⟩,⟨b1,36,[iV inp,.slice A ((l).length) c,.slice O ((os).length) d]⟩] [];cases hb69:(decide (0≤((l.getD i stp0).b:Int)∧((l.getD i stp0).b:Int)<(i:Nat)))
  ·
   have phb69:=oF hb69;refine lL hs [.v 33 (.bool true),.v 34 (.bool true),.m 35 34] (lG 36 ?_);refine lG 37 (lG 38 (lG 39 (lG 40 (lG 41 (lG 42 (lG 43 (lG 44 (lL hs [.v 45 (.bool true)] (lN (cTo [(2,pB b1),(4,.bool false),(5,pB b7),(45,.bool true)] ?_))))))))));exact cIT (cSL (lL hs [.v 4 (.bool false)] (lN (kX (hs.ret [] (.bool false) (congrArg Value.bool (decide_eq_false (by unfold Formed Refers;omega)).symm))))))
  have phb69:=oT hb69;refine lL hs [.v 33 (.bool false),.v 34 (.bool false),.m 35 34,.v 36 (pB b7),.o 37 (iV ((l.getD i stp0).op)) 0 0 1] ?_;cases hb70:(((l.getD i stp0).op:Int) != (1:Int))
  ·
   have phb70:=eqOfBne hb70;refine lB 38 hb70 (lL hs [.m 39 38] (lG 40 ?_));refine lG 41 (lG 42 (lG 43 (lL hs [.v 44 (.bool false),.v 45 (.bool false)] (lN (cTo [(2,pB b1),(4,.bool false),(5,pB b7),(45,.bool false)] ?_)))));refine cIF (cK (cQ (cSL (lL hs [.v 46 (pB b7),.o 47 (iV ((l.getD i stp0).op)) 0 0 1] (lN (kZ (cSL ?_)))))));have hb71:(((l.getD i stp0).op:Int) == (2:Int))=false:=beqF oM;have phb71:=neOfBeq hb71;refine lB 49 hb71 (lL hs [.m 48 49] (lN (cIF (cSL ?_))));have hb72:(((l.getD i stp0).op:Int) == (8:Int))=false:=beqF oM;have phb72:=neOfBeq hb72;refine lB 61 hb72 (lL hs [.m 60 61] (lN (cIF (cK (cSL (lL hs [.v 70 (.pointer (some ⟨b7,3,none⟩)),.o 71 (iV ((l.getD i stp0).n)) 0 3 1] ?_))))));cases hb73:(((l.getD i stp0).n:Int) == (0:Int))
   ·
    have phb73:=neOfBeq hb73;exact lB 72 hb73 (lL hs [.m 4 72] (lN (kX (hs.ret [] (.bool false) (congrArg Value.bool (decide_eq_false (by unfold Formed Refers;omega)).symm)))))
   have phb73:=eq_of_beq hb73;exact lB 72 hb73 (lL hs [.m 4 72] (lN (kX (hs.ret [] (.bool true) (congrArg Value.bool (decide_eq_true (by unfold Formed Refers;omega)).symm)))))
  have phb70:=neOfBne hb70;refine lB 38 hb70 (lL hs [.m 39 38,.v 40 (.pointer (some ⟨b7,4,none⟩)),.o 41 (qv ((l.getD i stp0).q)) 0 4 5] (lC 42 hs (fSign (l.getD i stp0).q (hq.mono oM) _ _ hs.g) ?_));rintro _ w74 h75 hs rfl;cases hb76:(((l.getD i stp0).q.num.sign:Int) != (0:Int))
  ·
   have phb76:=eqOfBne hb76;refine lB 43 hb76 (lL hs [.v 44 (.bool false),.v 45 (.bool false)] (lN (cTo [(2,pB b1),(4,.bool false),(5,pB b7),(45,.bool false)] ?_)));refine cIF (cK (cQ (cSL (lL hs [.v 46 (pB b7),.o 47 (iV ((l.getD i stp0).op)) 0 0 1] (lN (kZ (cSL ?_)))))));cases hb77:(((l.getD i stp0).op:Int) == (2:Int))
   ·
    have phb77:=neOfBeq hb77;refine lB 49 hb77 (lL hs [.m 48 49] (lN (cIF (cSL ?_))));cases hb78:(((l.getD i stp0).op:Int) == (8:Int))
    ·
     have phb78:=neOfBeq hb78;refine lB 61 hb78 (lL hs [.m 60 61] (lN (cIF (cK (cSL (lL hs [.v 70 (.pointer (some ⟨b7,3,none⟩)),.o 71 (iV ((l.getD i stp0).n)) 0 3 1] ?_))))));cases hb79:(((l.getD i stp0).n:Int) == (0:Int))
     ·
      have phb79:=neOfBeq hb79;exact lB 72 hb79 (lL hs [.m 4 72] (lN (kX (hs.ret [] (.bool false) (congrArg Value.bool (decide_eq_false (by unfold Formed Refers;omega)).symm)))))
     have phb79:=eq_of_beq hb79;exact lB 72 hb79 (lL hs [.m 4 72] (lN (kX (hs.ret [] (.bool true) (congrArg Value.bool (decide_eq_true (by unfold Formed Refers;omega)).symm)))))
    have phb78:=eq_of_beq hb78;refine lB 61 hb78 (lL hs [.m 60 61] (lN (cIT (cSL (lL hs [.v 62 (.pointer (some ⟨b7,3,none⟩)),.o 63 (iV ((l.getD i stp0).n)) 0 3 1] ?_)))));cases hb80:(decide ((-12:Int)≤((l.getD i stp0).n:Int)))
    ·
     have phb80:=oF hb80;refine lB 64 hb80 (lL hs [.m 65 64] (lG 66 ?_));exact lG 67 (lG 68 (lL hs [.v 69 (.bool false),.m 4 69] (lN (kX (hs.ret [] (.bool false) (congrArg Value.bool (decide_eq_false (by unfold Formed Refers;omega)).symm))))))
    have phb80:=oT hb80;refine lB 64 hb80 (lL hs [.m 65 64,.v 66 (.pointer (some ⟨b7,3,none⟩)),.o 67 (iV ((l.getD i stp0).n)) 0 3 1] ?_);cases hb81:(decide (((l.getD i stp0).n:Int)≤(12:Int)))
    ·
     have phb81:=oF hb81;exact lB 68 hb81 (lL hs [.v 69 (.bool false),.m 4 69] (lN (kX (hs.ret [] (.bool false) (congrArg Value.bool (decide_eq_false (by unfold Formed Refers;omega)).symm)))))
    have phb81:=oT hb81;exact lB 68 hb81 (lL hs [.v 69 (.bool true),.m 4 69] (lN (kX (hs.ret [] (.bool true) (congrArg Value.bool (decide_eq_true (by unfold Formed Refers;omega)).symm)))))
   have phb77:=eq_of_beq hb77;refine lB 49 hb77 (lL hs [.m 48 49] (lN (cIT (cSL (lL hs [.v 50 (.pointer (some ⟨b7,3,none⟩)),.o 51 (iV ((l.getD i stp0).n)) 0 3 1] ?_)))));cases hb82:(decide ((0:Int)≤((l.getD i stp0).n:Int)))
   ·
    have phb82:=oF hb82;refine lB 52 hb82 (lL hs [.m 53 52] (lG 54 ?_));exact lG 55 (lG 56 (lG 57 (lG 58 (lL hs [.v 59 (.bool false),.m 4 59] (lN (kX (hs.ret [] (.bool false) (congrArg Value.bool (decide_eq_false (by unfold Formed Refers;omega)).symm))))))))
   have phb82:=oT hb82;refine lB 52 hb82 (lL hs [.m 53 52,.v 54 (.pointer (some ⟨b7,3,none⟩)),.o 55 (iV ((l.getD i stp0).n)) 0 3 1,.v 56 (pB b1),.o 57 (iV inp) 2 0 1] ?_);cases hb83:(decide (((l.getD i stp0).n:Int)<(inp:Int)))
   ·
    have phb83:=oF hb83;exact lB 58 hb83 (lL hs [.v 59 (.bool false),.m 4 59] (lN (kX (hs.ret [] (.bool false) (congrArg Value.bool (decide_eq_false (by unfold Formed Refers;omega)).symm)))))
   have phb83:=oT hb83;exact lB 58 hb83 (lL hs [.v 59 (.bool true),.m 4 59] (lN (kX (hs.ret [] (.bool true) (congrArg Value.bool (decide_eq_true (by unfold Formed Refers;omega)).symm)))))
  have phb76:=neOfBne hb76;refine lB 43 hb76 (lL hs [.v 44 (.bool true),.v 45 (.bool true)] (lN (cTo [(2,pB b1),(4,.bool false),(5,pB b7),(45,.bool true)] ?_)));exact cIT (cSL (lL hs [.v 4 (.bool false)] (lN (kX (hs.ret [] (.bool false) (congrArg Value.bool (decide_eq_false (by unfold Formed Refers;omega)).symm))))))
 have phb13:=oT hb13;exact lB 17 hb13 (lN (cIT (cSL (lL hs [.v 4 (.bool false)] (lN (kX (hs.ret [] (.bool false) (congrArg Value.bool (decide_eq_false (by unfold Formed Refers;omega)).symm))))))))
end Go.Proofs.YtmkcmnhnmajheaaGreatDoor
