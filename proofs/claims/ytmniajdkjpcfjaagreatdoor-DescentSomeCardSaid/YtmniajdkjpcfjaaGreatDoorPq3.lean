/- Laws and contracts that the card of this claim stands on, part 4. No condition of ours. -/
import Derived.Test.YtmniajdkjpcfjaaGreatDoorPq0
import Derived.Test.YtmniajdkjpcfjaaGreatDoorPq1
import Derived.Test.YtmniajdkjpcfjaaGreatDoorPq2
set_option maxRecDepth 100000
set_option maxHeartbeats 4000000
namespace Go.Proofs.YtmniajdkjpcfjaaGreatDoor
open Go.RowKit
open Go.RowKit Go.Shelf
theorem Tz.uniq {n k m k' m':Nat}(a:Tz n k m)(b:Tz n k' m'):k=k'∧m=m':=by
  obtain ⟨a1,a2⟩:=a
  obtain ⟨b1,b2⟩:=b
  have key:∀ {k m k' m':Nat},2^k*m=2^k'*m'→m%2=1→k'≤k:=fun {k m k' m'} e hm'=>by
    rcases Nat.lt_or_ge k k' with h|h
    · exfalso
      obtain ⟨d,rfl⟩:∃ d,k'=k+(d+1):=⟨k'-k-1,by omega⟩
      rw[Nat.pow_add,Nat.mul_assoc] at e
      have e2:=Nat.eq_of_mul_eq_mul_left (Nat.two_pow_pos k) e
      rw[Nat.pow_succ,Nat.mul_comm (2^d) 2,Nat.mul_assoc] at e2
      omega
    · exact h
  have h1:=key (a1.symm.trans b1) a2
  have h2:=key (b1.symm.trans a1) b2
  have h3:k=k':=by omega
  subst h3
  exact ⟨rfl,Nat.eq_of_mul_eq_mul_left (Nat.two_pow_pos k) (a1.symm.trans b1)⟩
theorem gcd_two_left {x y:Nat}(hy:y%2=1):Nat.gcd (2*x) y=Nat.gcd x y:=by
  have hc:Nat.Coprime 2 y:=by
    unfold Nat.Coprime
    rw[Nat.gcd_rec,hy];rfl
  exact hc.gcd_mul_left_cancel x
theorem gcd_pow_left {x y:Nat}(hy:y%2=1):∀ k,Nat.gcd (2^k*x) y=Nat.gcd x y
  | 0=>by simp
  | k+1=>by
    rw[Nat.pow_succ,Nat.mul_comm (2^k) 2,Nat.mul_assoc,gcd_two_left hy]
    exact gcd_pow_left hy k
theorem gcd_twos {x y k l m n:Nat}(a:Tz x k m)(b:Tz y l n):Nat.gcd x y=Nat.gcd m n*2^min k l:=by
  obtain ⟨a1,a2⟩:=a
  obtain ⟨b1,b2⟩:=b
  subst a1 b1
  rcases Nat.le_total k l with h|h
  · rw[Nat.min_eq_left h]
    obtain ⟨d,rfl⟩:∃ d,l=k+d:=⟨l-k,by omega⟩
    rw[Nat.pow_add,Nat.mul_assoc,Nat.gcd_mul_left,Nat.gcd_comm m,gcd_pow_left a2,Nat.gcd_comm n,Nat.mul_comm]
  · rw[Nat.min_eq_right h]
    obtain ⟨d,rfl⟩:∃ d,k=l+d:=⟨k-l,by omega⟩
    rw[Nat.pow_add,Nat.mul_assoc,Nat.gcd_mul_left,gcd_pow_left b2,Nat.mul_comm]
theorem gcd_sub {x y k m:Nat}(hxy:y<x)(hy:y%2=1)(t:Tz (x-y) k m):Nat.gcd m y=Nat.gcd x y:=by
  rw[←gcd_pow_left hy k,←t.1]
  have e:=Nat.gcd_add_self_left (m:=y) (n:=x-y)
  rw[show x-y+y=x by omega] at e
  exact e.symm
theorem SlO.win {α:Type}{f:α→List Value}{d:α}{h:Hp}{b:Nat}{l:List α}(hf:∀ x,(f x).length=1)(sg:Seg h b 0 (l.flatMap f))(o n:Nat):SlO 1 f d h (some ⟨b,o,none⟩) ((l.drop o).take n):=by
  have hp:=sg.part o ((l.drop o).take n).length
  rw[Nat.zero_add] at hp
  have e:∀ (l:List α) (o n:Nat),((l.flatMap f).drop o).take ((l.drop o).take n).length=((l.drop o).take n).flatMap f:=by
    have e1:∀ (l:List α),(l.flatMap f).length=l.length:=fun l=>by
      induction l with
      | nil=>rfl
      | cons x l ih=>rw[List.flatMap_cons,List.length_append,hf,ih,List.length_cons];omega
    have ed:∀ (l:List α) (o:Nat),(l.flatMap f).drop o=(l.drop o).flatMap f:=fun l=>by
      induction l with
      | nil=>intro o;simp
      | cons x l ih =>
        intro o
        cases o with
        | zero=>rfl
        | succ o =>
          rw[List.flatMap_cons,List.drop_append,hf,List.drop_eq_nil_of_le (by rw[hf];omega),List.nil_append,List.drop_succ_cons,Nat.add_sub_cancel];exact ih o
    have et:∀ (l:List α) (n:Nat),(l.flatMap f).take n=(l.take n).flatMap f:=fun l=>by
      induction l with
      | nil=>intro n;simp
      | cons x l ih =>
        intro n
        cases n with
        | zero=>rfl
        | succ n =>
          rw[List.flatMap_cons,List.take_append,hf,List.take_of_length_le (by rw[hf];omega),List.take_succ_cons,List.flatMap_cons,Nat.add_sub_cancel,ih n]
    intro l o n
    rw[ed,et,List.length_take]
    congr 1
    rcases Nat.le_total n (l.drop o).length with h|h
    · rw[Nat.min_eq_left h]
    · rw[Nat.min_eq_right h,List.take_length,List.take_of_length_le h]
  rw[e] at hp
  exact SlO.of_flat hf hp
def Tab (h:Hp):Prop:=Seg h 2 0 (Lib.deBruijn64tab.map fun k=>Value.int .u8 ((k:Nat):Int))
theorem Tab.gw {h h':Hp}(t:Tab h)(u:Gw h h'):Tab h':=Seg.gw t u
theorem Tab.at {h:Hp}(t:Tab h){k i:Nat}(e:i<64∧Lib.deBruijn64tab.getD i 0=k):Seg h 2 i [.int .u8 ((k:Nat):Int)]:=by
  have hp:=Seg.part t i 1
  obtain ⟨hi,rfl⟩:=e
  rw[Nat.zero_add] at hp
  have hl:i<Lib.deBruijn64tab.length:=by show i<64;exact hi
  have e1:((Lib.deBruijn64tab.map fun k=>Value.int .u8 ((k:Nat):Int)).drop i).take 1=[.int .u8 ((Lib.deBruijn64tab.getD i 0:Nat):Int)]:=by
    rw[List.drop_eq_getElem_cons (by simpa using hl)]
    simp[hl]
  rw[e1] at hp
  exact hp
theorem ptrE {s:Result Next}{b z:Nat}{w:World}(h:s=.ok (.value (.pointer (some ⟨b,0+z*1,none⟩))) w):s=.ok (.value (.pointer (some ⟨b,z,none⟩))) w:=by rw[h,Nat.mul_one,Nat.zero_add]
theorem wds_full {l:List Nat}(hW:Wd l)(hl:l.length≤(wds (wval l)).length):wds (wval l)=l:=by
  have e:=wds_of hW
  have h1:(wds (wval l)).length=min (tl l l.length) l.length:=by rw[e,List.length_take]
  have h2:=tl_le l l.length
  rw[e,List.take_of_length_le oM]
theorem w256 {l:List Nat}(hW:Wd l):wval l<256^(8*l.length):=by
  have:=bval_lt hW
  rw[Nat.pow_mul];exact this
theorem wds_eq {a b:Nat}(h:wds a=wds b):a=b:=by rw[←wval_wds a,←wval_wds b,h]
theorem row_zero {l:List Nat}{i:Nat}(h:i<l.length)(h0:l.getD i 0=0){n:Nat}(inv:n=18446744073709551616^i*bval 18446744073709551616 (l.drop i)):n=18446744073709551616^(i+1)*bval 18446744073709551616 (l.drop (i+1)):=by
  rw[inv,bval_drop _ h,h0,Nat.zero_add,Nat.pow_succ,Nat.mul_assoc]
theorem bTz64 (x:Nat)(hx0:x≠0)(hx:x<18446744073709551616)(w:World)(h:Hp)(g:G w h)(tb:Tab h) :
    Calls Tryz.prog 156 #[.int .u64 (x:Nat)] w (Ret w h fun v _=>v=.int .i64 (Lib.ctz 64 x:Nat)):=by
 have hs:=SS.start g
 replace hs:=(hs.add (K:=fun h_=>Tab h_) tb)
 obtain ⟨hlow,hk⟩:=Lib.lowest_bit 64 x hx0 hx
 have htz:=Lib.deBruijn64_at _ hk
 generalize Lib.ctz 64 x=k at *
 generalize hp:2^k=p at *
 obtain ⟨y,hy⟩:∃ y,p*285870213051353865%18446744073709551616=y:=⟨_,rfl⟩
 rw[hy] at htz
 obtain ⟨z,hz⟩:∃ z,y/288230376151711744=z:=⟨_,rfl⟩
 rw[hz] at htz
 refine go Tryz.func156 [(0,.int .u64 (x:Nat))] rfl ?_
 refine cSL (lL hs [.v 2 (.int .i64 0)] (lN (CG.seq (cSL (lL hs [.m 3 0] ?_)))))
 have hb1:(((x:Nat):Int) == (0:Int))=false:=beqF oM
 have phb1:=neOfBeq hb1
 refine lB 4 hb1 ?_
 refine lN (cIF (CG.skipN (cSL (lL hs [.m 5 0,.m 6 0] (lV 7 (.int .u64 (18446744073709551616-x:Nat)) ?_ (hr:=rint (n:=IntKind.wrap .u64 (0-((x:Nat):Int))) kR (by rw[IntKind.wrap_u64];omega)))))))
 refine lV 8 (.int .u64 (p:Nat)) ?_ (hr:=rint (n:=bits .and .u64 ((x:Nat):Int) ((18446744073709551616-x:Nat):Int)) kR (by rw[bits_and_u64_nat _ _ hx oM];exact congrArg _ hlow))
 refine lV 9 (.int .u64 (y:Nat)) ?_ (hr:=rint (n:=IntKind.wrap .u64 (((p:Nat):Int)*285870213051353865)) kR ((wMU64 p 285870213051353865).trans (congrArg _ hy)))
 refine lV 10 (.int .u64 (z:Nat)) ?_ (hr:=rint (opShrN (t:=22) (u:=118) (x:=.tmp 9) (y:=.const (.int .u64 58)) (ky:=.u64) (a:=y) (n:=58) kR kR kR oM _) (congrArg _ (by rw[show (2:Nat)^58=288230376151711744 from rfl];exact hz)))
 refine lV 11 (.pointer (some ⟨2,z,none⟩)) ?_ (hr:=ptrE (ixArr (t:=204) (e:=5) (x:=.global 2) (ix:=.tmp 10) (b:=2) (off:=0) (sz:=1) (len:=64) (kk:=.u64) (i:=((z:Nat):Int)) z kR kR kR kR kR rfl htz.1 _))
 refine lH 12 (.int .u8 ((k:Nat):Int)) hs (Tab.at hs.f.1 htz) ?_
 refine lV 13 (.int .i64 (k:Nat)) ?_ (hr:=rint (n:=IntKind.wrap .i64 ((k:Nat):Int)) kR (fitI64 oM oM))
 exact lL hs [.m 2 13] (lN (CG.ret (hs.ret [] (.int .i64 (k:Nat)) rfl)))
theorem wZeros (A:Option Addr)(c:Nat)(l:List Nat)(n:Nat)(hn:l.length=n)(hW:Wd l)(hp:0<wval l)(hl:l.length≤1000000000)(w:World)(h:Hp)(g:G w h)(tb:Tab h)(hA:SlO 1 u64c 0 h A l) :
    Calls Tryz.prog 142 #[.slice A n c] w (Ret w h fun v _=>∃ k m:Nat,v=.int .i64 (k:Nat)∧Tz (wval l) k m∧k/64<l.length):=by
 have hs:=SS.start g
 replace hs:=((hs.add (K:=fun h_=>Tab h_) tb).a_SlO hA)
 refine go Tryz.func142 [(0,.slice A n c)] rfl ?_
 refine cSL (lL hs [.v 2 (.int .i64 0)] (lNS (lL hs [.v 3 (.int .i64 0)] (lN (CG.seq (CG.block (cTo [(0,.slice A n c),(2,.int .i64 0),(3,.int .i64 0)] ?_)))))))
 refine CG.loop (fun μ_ Γ w_=>∃ (i:Nat) (h_:Hp),μ_=l.length-i∧Γ=[(0,.slice A n c),(2,.int .i64 0),(3,.int .i64 (i:Nat))]∧SS w h w_ h_ [] [] [fun h_=>SlO 1 u64c 0 h_ A l,fun h_=>Tab h_]∧(i≤l.length)∧(wval l=18446744073709551616^i*bval 18446744073709551616 (l.drop i))) _ ⟨0,h,rfl,rfl,hs.to _ _,Nat.zero_le _,(by show bval _ _=_;rw[Nat.pow_zero,Nat.one_mul,List.drop_zero])⟩ ?_
 rintro _ _ w1 ⟨i,h2,hm3,rfl,hs,hi,inv⟩
 have hil:i<l.length:=by rcases Nat.lt_or_ge i l.length with h_|h_;exact h_;rw[List.drop_eq_nil_of_le h_] at inv;simp[bval] at inv;omega
 refine CG.seq (cSL (lL hs [.m 4 0,.m 5 3] (lX 6 A n c 1 (i:Nat) i ((hs.f.1).ok oM) ?_)))
 refine lH 7 (.int .u64 (l.getD i 0:Nat)) hs ((hs.f.1).el i oM) ?_
 cases hb4:(((l.getD i 0:Nat):Int) == (0:Int))
 ·
  have phb4:=neOfBeq hb4
  refine lB 8 hb4 ?_
  refine lN (cIF (CG.exit ?_))
  show CG _ _ _ _ _ _ _ _
  refine cSL (lL hs [.m 11 3] (lI 12 (64*(i:Nat)) ?_))
  refine lL hs [.m 13 0,.m 14 3] (lX 15 A n c 1 (i:Nat) i ((hs.f.1).ok oM) ?_)
  refine lH 16 (.int .u64 (l.getD i 0:Nat)) hs ((hs.f.1).el i oM) ?_
  refine lC 17 hs (bTz64 (l.getD i 0) oM (hW.get i) _ _ hs.g (hs.f.2.1)) ?_
  rintro _ w5 h6 hs rfl
  obtain ⟨mz,htz,hz64⟩:=ctz_Tz (x:=l.getD i 0) oM (hW.get i)
  refine lI 18 ((64*(i:Nat))+(Lib.ctz 64 (l.getD i 0):Nat)) ?_
  exact lL hs [.m 2 18] (lN (CG.ret (hs.ret [] (.int .i64 ((64*(i:Nat))+(Lib.ctz 64 (l.getD i 0):Nat))) (⟨_,_,rfl,Tz.word (by rw[inv,bval_drop _ hil]) htz hz64,by omega⟩))))
 have phb4:=eq_of_beq hb4
 refine lB 8 hb4 ?_
 refine lN (cIT (CG.skipN (CG.block (CG.listed (lL hs [.m 9 3] (lIn 10 ((i:Nat)+1) (i+1) ?_))))))
 refine lL hs [.m 3 10] (lD ?_)
 intro a_ ka
 have q7:(i+1)≤l.length:=by omega
 have q8:wval l=18446744073709551616^(i+1)*bval 18446744073709551616 (l.drop (i+1)):=(row_zero hil oM inv)
 refine ⟨_,_,?_,⟨i+1,h2,rfl,rfl,hs.to _ _,q7,q8⟩,ka.to [(0,.slice A n c),(2,.int .i64 0),(3,.int .i64 ((i+1):Nat))] kR⟩
 omega
theorem wTrim (A:Option Addr)(c:Nat)(l:List Nat)(n:Nat)(hn:l.length=n)(hl:l.length≤1099511627776)(hc:l.length≤c)(w:World)(h:Hp)(g:G w h)(hA:SlO 1 u64c 0 h A l) :
    Calls Tryz.prog 157 #[.slice A n c] w (Ret w h fun v _=>v=.slice A (tl l n) c):=by
 have hs:=SS.start g
 replace hs:=(hs.a_SlO hA)
 refine go Tryz.func157 [(0,.slice A n c)] rfl ?_
 refine cSL (lL hs [.v 2 (.slice none 0 0)] (lN (CG.seq (CG.block (cTo [(2,.slice none 0 0),(0,.slice A n c)] ?_)))))
 refine CG.loop (fun μ_ Γ w_=>∃ (m:Nat) (h_:Hp),μ_=m∧Γ=[(2,.slice none 0 0),(0,.slice A m c)]∧SS w h w_ h_ [] [] [fun h_=>SlO 1 u64c 0 h_ A l]∧(m≤n)∧(tl l n=tl l m)) _ ⟨n,h,rfl,rfl,hs.to _ _,Nat.le_refl _,rfl⟩ ?_
 rintro _ _ w1 ⟨m,h2,hm3,rfl,hs,hm,ht⟩
 refine CG.seq (cSL (lL hs [.m 3 0,.v 4 (.int .i64 (m:Nat))] ?_))
 cases hb4:(decide ((0:Int)<((m:Nat):Int)))
 ·
  have phb4:=oF hb4
  refine lB 5 hb4 ?_
  refine lL hs [.m 6 5] (lG 7 ?_)
  refine lG 8 ?_
  refine lG 9 ?_
  refine lG 10 ?_
  refine lG 11 ?_
  refine lG 12 ?_
  refine lG 13 ?_
  refine lL hs [.v 14 (.bool false)] (lN (cIF (CG.exit ?_)))
  show CG _ _ _ _ _ _ _ _
  exact cSL (lL hs [.m 20 0,.m 2 20] (lN (CG.ret (hs.ret [] (.slice A m c) (by rw[ht,tl_at oM])))))
 have phb4:=oT hb4
 refine lB 5 hb4 ?_
 refine lL hs [.m 6 5,.m 7 0,.m 8 0,.v 9 (.int .i64 (m:Nat))] (lIn 10 ((m:Nat)-1) (m-1) ?_)
 refine lX 11 A m c 1 (m-1:Nat) (m-1) ((hs.f.1).ok oM) ?_
 refine lH 12 (.int .u64 (l.getD (m-1) 0:Nat)) hs ((hs.f.1).el (m-1) oM) ?_
 cases hb5:(((l.getD (m-1) 0:Nat):Int) == (0:Int))
 ·
  have phb5:=neOfBeq hb5
  refine lB 13 hb5 ?_
  refine lL hs [.v 14 (.bool false)] (lN (cIF (CG.exit ?_)))
  show CG _ _ _ _ _ _ _ _
  exact cSL (lL hs [.m 20 0,.m 2 20] (lN (CG.ret (hs.ret [] (.slice A m c) (by rw[ht,tl_at oM])))))
 have phb5:=eq_of_beq hb5
 refine lB 13 hb5 ?_
 refine lL hs [.v 14 (.bool true)] (lN (cIT (CG.skipN (CG.block (CG.listed (lL hs [.m 15 0,.m 16 0,.v 17 (.int .i64 (m:Nat))] (lIn 18 ((m:Nat)-1) (m-1) ?_)))))))
 refine lT 19 A m c 1 (m-1:Nat) (m-1) ?_
 refine lL hs [.m 0 19] (lD ?_)
 intro a_ ka
 have q6:(m-1)≤n:=by omega
 have q7:tl l n=tl l (m-1):=by rw[ht];exact tl_dec oM oM
 refine ⟨_,_,?_,⟨m-1,h2,rfl,rfl,hs.to _ _,q6,q7⟩,ka.to [(2,.slice none 0 0),(0,.slice A (m-1) c)] kR⟩
 omega
theorem wCompare (A:Option Addr)(c:Nat)(D:Option Addr)(d:Nat)(x y n m_:Nat)(hn:(wds x).length=n)(hm_:(wds y).length=m_)(hlx:(wds x).length≤1000000000)(hly:(wds y).length≤1000000000)(w:World)(h:Hp)(g:G w h)(hA:SlO 1 u64c 0 h A (wds x))(hD:SlO 1 u64c 0 h D (wds y)) :
    Calls Tryz.prog 144 #[.slice A n c,.slice D m_ d] w (Ret w h fun v _=>v=.int .i64 (cmpN x y)):=by
 have hs:=SS.start g
 replace hs:=((hs.a_SlO hA).a_SlO hD)
 refine go Tryz.func144 [(0,.slice A n c),(1,.slice D m_ d)] rfl ?_
 refine cSL (lL hs [.v 4 (.int .i64 0)] (lN (CG.seq (cSL (lL hs [.m 6 0,.v 7 (.int .i64 (n:Nat)),.m 8 1,.v 9 (.int .i64 (m_:Nat))] ?_)))))
 cases hb1:(((n:Nat):Int) != ((m_:Nat):Int))
 ·
  have phb1:=eqOfBne hb1
  refine lB 10 hb1 ?_
  refine lN (cIF (CG.skipN (CG.seq (cSL (lL hs [.m 16 0,.v 17 (.int .i64 (n:Nat))] (lV 18 (.int .i64 (((n:Nat):Int)-1)) ?_ (hr:=rint (n:=IntKind.wrap .i64 ((n:Nat)-1)) kR ((wr64 oM oM).trans oM))))))))
  refine lL hs [.m 5 18] (lN (CG.block (cTo [(0,.slice A n c),(1,.slice D m_ d),(5,.int .i64 (((n:Nat):Int)-1))] ?_)))
  refine CG.loop (fun μ_ Γ w_=>∃ (m:Nat) (h_:Hp),μ_=m∧Γ=[(0,.slice A n c),(1,.slice D m_ d),(5,.int .i64 (((m:Nat):Int)-1))]∧SS w h w_ h_ [] [] [fun h_=>SlO 1 u64c 0 h_ D (wds y),fun h_=>SlO 1 u64c 0 h_ A (wds x)]∧(m≤n)∧((wds x).length=(wds y).length)∧((wds x).drop m=(wds y).drop m)) _ ⟨n,h,rfl,rfl,hs.to _ _,Nat.le_refl _,oM,(by rw[List.drop_eq_nil_of_le oM,List.drop_eq_nil_of_le oM])⟩ ?_
  rintro _ _ w2 ⟨m,h3,hm4,rfl,hs,hm,hlen,hdr⟩
  refine CG.seq (cSL (lL hs [.m 19 5] ?_))
  cases hb5:(decide ((0:Int)≤(((m:Nat):Int)-1:Int)))
  ·
   have phb5:=oF hb5
   refine lB 20 hb5 ?_
   refine lN (cIF (CG.exit ?_))
   show CG _ _ _ _ _ _ _ _
   exact cSL (lL hs [.v 4 (.int .i64 0)] (lN (CG.ret (hs.ret [] (.int .i64 0) (by rw[cmpN_eq (wds_eq (by rw[show m=0 by omega] at hdr;simpa using hdr))])))))
  have phb5:=oT hb5
  refine lB 20 hb5 ?_
  refine lN (cIT (CG.skipN (CG.seq (CG.block (CG.seq (cR 9 [] mixed hs al_nil ?_))))))
  refine eV 0 23 (.slice A n c) ?_
  refine eV 1 24 (.int .i64 (((m:Nat):Int)-1)) ?_
  refine eX 2 25 A n c 1 (((m:Nat):Int)-1) (m-1) ((hs.f.2.1).ok oM) ?_
  refine eH 3 26 (.int .u64 ((wds x).getD (m-1) 0:Nat)) hs ((hs.f.2.1).el (m-1) oM) ?_
  refine eV 4 27 (.slice D m_ d) ?_
  refine eV 5 28 (.int .i64 (((m:Nat):Int)-1)) ?_
  refine eX 6 29 D m_ d 1 (((m:Nat):Int)-1) (m-1) ((hs.f.1).ok oM) ?_
  refine eH 7 30 (.int .u64 ((wds y).getD (m-1) 0:Nat)) hs ((hs.f.1).el (m-1) oM) ?_
  cases hb6:((((wds x).getD (m-1) 0:Nat):Int) != (((wds y).getD (m-1) 0:Nat):Int))
  ·
   have phb6:=eqOfBne hb6
   refine eB 8 31 hb6 ?_
   refine eD0 hs (fun w7 h8 hs=>?_)
   refine tN (cIF (CG.skipN (CG.listed (lL hs [.m 21 5] (lV 22 (.int .i64 (((m-1:Nat):Int)-1)) ?_ (hr:=rint (n:=IntKind.wrap .i64 ((((m:Nat):Int)-1)-1)) kR ((wr64 oM oM).trans oM)))))))
   refine lL hs [.m 5 22] (lD ?_)
   intro a_ ka
   have q9:(m-1)≤n:=by omega
   have q10:(wds x).length=(wds y).length:=hlen
   have q11:(wds x).drop (m-1)=(wds y).drop (m-1):=(drop_eq_step (k:=m-1) hlen oM (by rw[show m-1+1=m by omega];exact hdr) oM)
   refine ⟨_,_,?_,⟨m-1,h8,rfl,rfl,hs.to _ _,q9,q10,q11⟩,ka.to [(0,.slice A n c),(1,.slice D m_ d),(5,.int .i64 ((((m-1):Nat):Int)-1))] kR⟩
   omega
  have phb6:=neOfBne hb6
  refine eB 8 31 hb6 ?_
  refine eD0 hs (fun w12 h13 hs=>?_)
  refine tN (cIT (CG.seq (CG.seq (cR 9 [] mixed hs al_nil ?_))))
  refine eV 0 32 (.slice A n c) ?_
  refine eV 1 33 (.int .i64 (((m:Nat):Int)-1)) ?_
  refine eX 2 34 A n c 1 (((m:Nat):Int)-1) (m-1) ((hs.f.2.1).ok oM) ?_
  refine eH 3 35 (.int .u64 ((wds x).getD (m-1) 0:Nat)) hs ((hs.f.2.1).el (m-1) oM) ?_
  refine eV 4 36 (.slice D m_ d) ?_
  refine eV 5 37 (.int .i64 (((m:Nat):Int)-1)) ?_
  refine eX 6 38 D m_ d 1 (((m:Nat):Int)-1) (m-1) ((hs.f.1).ok oM) ?_
  refine eH 7 39 (.int .u64 ((wds y).getD (m-1) 0:Nat)) hs ((hs.f.1).el (m-1) oM) ?_
  cases hb14:(decide ((((wds x).getD (m-1) 0:Nat):Int)<(((wds y).getD (m-1) 0:Nat):Int)))
  ·
   have phb14:=oF hb14
   refine eB 8 40 hb14 ?_
   refine eD0 hs (fun w15 h16 hs=>?_)
   exact tN (cIF (CG.skipN (cSL (lL hs [.v 4 (.int .i64 1)] (lN (CG.ret (hs.ret [] (.int .i64 1) (by rw[←wds_cmp (k:=m-1) hlen oM (by rw[show m-1+1=m by omega];exact hdr) oM,cmpN_gt oM]))))))))
  have phb14:=oT hb14
  refine eB 8 40 hb14 ?_
  refine eD0 hs (fun w17 h18 hs=>?_)
  exact tN (cIT (cSL (lL hs [.v 4 (.int .i64 (-1))] (lN (CG.ret (hs.ret [] (.int .i64 (-1)) (by rw[←wds_cmp (k:=m-1) hlen oM (by rw[show m-1+1=m by omega];exact hdr) oM,cmpN_lt oM])))))))
 have phb1:=neOfBne hb1
 refine lB 10 hb1 ?_
 refine lN (cIT (CG.seq (cSL (lL hs [.m 11 0,.v 12 (.int .i64 (n:Nat)),.m 13 1,.v 14 (.int .i64 (m_:Nat))] ?_))))
 cases hb19:(decide (((n:Nat):Int)<((m_:Nat):Int)))
 ·
  have phb19:=oF hb19
  refine lB 15 hb19 ?_
  exact lN (cIF (CG.skipN (cSL (lL hs [.v 4 (.int .i64 1)] (lN (CG.ret (hs.ret [] (.int .i64 1) (by rw[cmpN_gt (wds_cmp_len oM)]))))))))
 have phb19:=oT hb19
 refine lB 15 hb19 ?_
 exact lN (cIT (cSL (lL hs [.v 4 (.int .i64 (-1))] (lN (CG.ret (hs.ret [] (.int .i64 (-1)) (by rw[cmpN_lt (wds_cmp_len oM)])))))))
theorem wWords (n:Nat)(hn:0<n)(hl:(wds n).length≤1000000000)(w:World)(h:Hp)(g:G w h) :
    Calls Tryz.prog 141 #[nv n] w (Ret w h fun v h1=>NewW h h1 v (wds n)):=by
 have hs:=SS.start g
 have hnb:=nb_len64 n
 have hwl:=wds_len_nb n
 have hbl:=byt_len n ((nb n+7)/8)
 have hnb0:=(nb_spec hn).2.2
 refine go Tryz.func141 [(0,nv n)] rfl ?_
 refine cSL (lA 1 36 (nc n) hs (fun b1 w2 h3 hs=>?_))
 refine lL hs [.v 2 (.slice none 0 0)] (lNS (lL hs [.o 6 (nv n) 0 0 2] (lC 7 hs (nBytes n hl _ _ hs.g) ?_)))
 rintro _ w4 h5 hs ⟨Ab,rfl,hb⟩
 replace hs:=(hs.a_SlO hb)
 refine lL hs [.m 3 7] (lNS (lL hs [.m 8 3,.v 9 (.int .i64 (((nb n+7)/8):Nat))] (lIn 10 ((((nb n+7)/8):Nat)+7) ((((nb n+7)/8):Nat)+7) ?_)))
 refine lV 11 (.int .i64 (((((nb n+7)/8):Nat)+7:Nat)/8:Nat)) ?_ (hr:=rint (opQuo (t:=3) (u:=3) (x:=.tmp 10) (y:=.const (.int .i64 8)) (k:=.i64) (a:=(((((nb n+7)/8):Nat)+7:Nat):Int)) (b:=(8:Int)) kR kR kR oM _) (quoI64 ((((nb n+7)/8):Nat)+7:Nat) 8 oM))
 refine lK 12 22 (((((nb n+7)/8):Nat)+7:Nat)/8:Nat) 1 8 (.int .u64 0) u64c 0 hs (fun b6 w7 h8 hs=>?_)
 have hl9:(List.replicate (((((nb n+7)/8):Nat)+7:Nat)/8:Nat) 0).length=(((((nb n+7)/8):Nat)+7:Nat)/8:Nat):=by simp
 refine lL hs [.m 4 12] (lN (CG.seq (cSL (lL hs [.m 13 3,.v 14 (.int .i64 (((nb n+7)/8):Nat)),.v 15 (.int .i64 0)] (lN (CG.block (cTo [(2,.slice none 0 0),(3,.slice Ab ((nb n+7)/8) ((nb n+7)/8)),(4,.slice (some ⟨b6,0,none⟩) (((((nb n+7)/8):Nat)+7:Nat)/8:Nat) (((((nb n+7)/8):Nat)+7:Nat)/8:Nat)),(14,.int .i64 (((nb n+7)/8):Nat)),(15,.int .i64 0)] ?_)))))))
 refine CG.loop (fun μ_ Γ w_=>∃ (i:Nat) (l:List Nat) (h_:Hp),μ_=((nb n+7)/8)-i∧Γ=[(2,.slice none 0 0),(3,.slice Ab ((nb n+7)/8) ((nb n+7)/8)),(4,.slice (some ⟨b6,0,none⟩) (((((nb n+7)/8):Nat)+7:Nat)/8:Nat) (((((nb n+7)/8):Nat)+7:Nat)/8:Nat)),(14,.int .i64 (((nb n+7)/8):Nat)),(15,.int .i64 (i:Nat))]∧SS w h w_ h_ [⟨b6,22,(l).flatMap u64c⟩,⟨b1,36,nc n⟩] [] [fun h_=>SlO 1 u8c 0 h_ Ab (byt n ((nb n+7)/8))]∧(i≤((nb n+7)/8))∧(l.length=(((nb n+7)/8)+7)/8)∧(Wd l)∧(wval l=n%256^i)) _ ⟨0,List.replicate (((((nb n+7)/8):Nat)+7:Nat)/8:Nat) 0,h8,rfl,rfl,hs.to _ _,Nat.zero_le _,hl9,Wd.rep _,(by show bval _ _=_;rw[bval_rep,Nat.pow_zero,Nat.mod_one])⟩ ?_
 rintro _ _ w10 ⟨i,l,h11,hm12,rfl,hs,hi,hll,hW,inv⟩
 have hbi:=byt_getD_lt n ((nb n+7)/8) (((nb n+7)/8)-1-i)
 refine cSL ?_
 cases hb13:(decide (((i:Nat):Int)<((((nb n+7)/8):Nat):Int)))
 ·
  have phb13:=oF hb13
  refine lB 16 hb13 ?_
  refine lN (CG.seq (cIF (CG.exit ?_)))
  show CG _ _ _ _ _ _ _ _
  refine cSL (lL hs [.m 39 4,.m 2 39] (lN (CG.ret ?_)))
  have him:i=((nb n+7)/8):=by omega
  have hE:wval l=n:=by rw[inv,him];exact Nat.mod_eq_of_lt (lt256 n)
  have hlw:l=wds n:=by rw[←hE];exact (wds_full hW (by rw[hll,hE];omega)).symm
  rw[hlw] at hs
  obtain ⟨h14,hs,sg15,lo16,bc17⟩:=hs.pub 0
  replace hs:=(hs.to [⟨b1,36,nc n⟩] []).a_SlO (SlO.of_flat (sz:=1) (f:=u64c) (d:=0) (b:=b6) (o:=0) (l:=wds n) (fun _=>rfl) sg15)
  exact hs.ret [] (.slice (some ⟨b6,0,none⟩) (((((nb n+7)/8):Nat)+7:Nat)/8:Nat) (((((nb n+7)/8):Nat)+7:Nat)/8:Nat)) (⟨b6,(by rw[show (((nb n+7)/8)+7)/8=(wds n).length by omega]),lo16,bc17,(hs.f.1)⟩)
 have phb13:=oT hb13
 refine lB 16 hb13 ?_
 refine lN (CG.seq (cIT (CG.skipN (CG.seq (CG.block (cSL (lL hs [.m 17 15,.m 5 17] (lN (cR 19 [] mixed hs al_nil ?_)))))))))
 refine eV 0 18 (.slice (some ⟨b6,0,none⟩) (((((nb n+7)/8):Nat)+7:Nat)/8:Nat) (((((nb n+7)/8):Nat)+7:Nat)/8:Nat)) ?_
 refine eV 1 19 (.int .i64 (i:Nat)) ?_
 refine eV 2 20 (.int .i64 (i/8:Nat)) ?_ (hv:=fun _=>rint (opQuo (t:=3) (u:=3) (x:=.tmp 19) (y:=.const (.int .i64 8)) (k:=.i64) (a:=((i:Nat):Int)) (b:=(8:Int)) kR kR kR oM _) (quoI64 i 8 oM))
 refine eX 3 21 (some ⟨b6,0,none⟩) (((((nb n+7)/8):Nat)+7:Nat)/8:Nat) (((((nb n+7)/8):Nat)+7:Nat)/8:Nat) 1 (i/8:Nat) (i/8) rfl ?_
 refine eQ 4 22 0 l u64c 1 0 (i/8) (.int .u64 ((l).getD (i/8) 0:Nat)) hs oM ?_
 refine eV 5 23 (.slice Ab ((nb n+7)/8) ((nb n+7)/8)) ?_
 refine eV 6 24 (.slice Ab ((nb n+7)/8) ((nb n+7)/8)) ?_
 refine eV 7 25 (.int .i64 (((nb n+7)/8):Nat)) ?_
 refine eIn 8 26 ((((nb n+7)/8):Nat)-1) ((((nb n+7)/8):Nat)-1) ?_
 refine eV 9 27 (.int .i64 (i:Nat)) ?_
 refine eIn 10 28 (((((nb n+7)/8):Nat)-1:Nat)-(i:Nat)) (((((nb n+7)/8):Nat)-1:Nat)-i) ?_
 refine eX 11 29 Ab ((nb n+7)/8) ((nb n+7)/8) 1 (((((nb n+7)/8):Nat)-1:Nat)-i:Nat) (((((nb n+7)/8):Nat)-1:Nat)-i:Nat) ((hs.f.1).ok oM) ?_
 refine eH 12 30 (.int .u8 ((byt n ((nb n+7)/8)).getD (((((nb n+7)/8):Nat)-1:Nat)-i:Nat) 0:Nat)) hs ((hs.f.1).el (((((nb n+7)/8):Nat)-1:Nat)-i:Nat) oM) ?_
 refine eV 13 31 (.int .u64 ((byt n ((nb n+7)/8)).getD (((((nb n+7)/8):Nat)-1:Nat)-i:Nat) 0:Nat)) ?_ (hv:=fun _=>rint (n:=IntKind.wrap .u64 (((byt n ((nb n+7)/8)).getD (((((nb n+7)/8):Nat)-1:Nat)-i:Nat) 0:Nat):Int)) kR (fitU64 oM oM))
 refine eV 14 32 (.int .i64 (i:Nat)) ?_
 refine eV 15 33 (.int .i64 (i%8:Nat)) ?_ (hv:=fun _=>rint (opRem (t:=3) (u:=3) (x:=.tmp 32) (y:=.const (.int .i64 8)) (k:=.i64) (a:=((i:Nat):Int)) (b:=(8:Int)) kR kR kR oM _) (tmodNat i 8))
 refine eIn 16 34 (8*(i%8:Nat)) (8*(i%8)) ?_
 refine eV 17 35 (.int .u64 (((byt n ((nb n+7)/8)).getD (((((nb n+7)/8):Nat)-1:Nat)-i:Nat) 0:Nat)*2^(8*(i%8))%18446744073709551616:Nat)) ?_ (hv:=fun _=>opShlN (t:=22) (u:=3) (x:=.tmp 31) (y:=.tmp 34) (ky:=.i64) (a:=((byt n ((nb n+7)/8)).getD (((((nb n+7)/8):Nat)-1:Nat)-i:Nat) 0:Nat)) (n:=(8*(i%8))) kR kR kR _)
 obtain ⟨hS1,hS2,hS3⟩:=fb_step oM inv (show (byt n ((nb n+7)/8)).getD (((nb n+7)/8)-1-i) 0=n/256^i%256 by rw[byt_get n ((nb n+7)/8) _ oM,show ((nb n+7)/8)-1-(((nb n+7)/8)-1-i)=i by omega])
 have hlg:=hW.get (i/8)
 refine eV 18 36 (.int .u64 (l.getD (i/8) 0+(byt n ((nb n+7)/8)).getD (((nb n+7)/8)-1-i) 0*2^(8*(i%8)):Nat)) ?_ (hv:=fun _=>rint (opOr (t:=22) (u:=22) (x:=.tmp 22) (y:=.tmp 35) (a:=((l).getD (i/8) 0)) (b:=(((byt n ((nb n+7)/8)).getD (((((nb n+7)/8):Nat)-1:Nat)-i:Nat) 0:Nat)*2^(8*(i%8))%18446744073709551616:Nat)) kR kR kR oM oM _) (by rw[hS1]))
 refine eD0 hs (fun w19 h20 hs=>?_)
 refine tX 19 37 (some ⟨b6,0,none⟩) (((((nb n+7)/8):Nat)+7:Nat)/8:Nat) (((((nb n+7)/8):Nat)+7:Nat)/8:Nat) 1 (i/8:Nat) (i/8) rfl ?_
 refine tW 20 0 l u64c 1 (i/8) (l.getD (i/8) 0+(byt n ((nb n+7)/8)).getD (((nb n+7)/8)-1-i) 0*2^(8*(i%8)):Nat) hs oM (fun w21 hs=>?_)
 have hl22:((l).set (i/8) (l.getD (i/8) 0+(byt n ((nb n+7)/8)).getD (((nb n+7)/8)-1-i) 0*2^(8*(i%8)):Nat)).length=(((((nb n+7)/8):Nat)+7:Nat)/8:Nat):=by rw[List.length_set];exact hll
 replace hs:=hs.to [⟨b6,22,((l).set (i/8) (l.getD (i/8) 0+(byt n ((nb n+7)/8)).getD (((nb n+7)/8)-1-i) 0*2^(8*(i%8)):Nat)).flatMap u64c⟩,⟨b1,36,nc n⟩] []
 refine tN (CG.listed (lIn 38 ((i:Nat)+1) (i+1) ?_))
 refine lL hs [.m 15 38] (lD ?_)
 intro a_ ka
 have q23:(i+1)≤((nb n+7)/8):=by omega
 have q24:((l).set (i/8) (l.getD (i/8) 0+(byt n ((nb n+7)/8)).getD (((nb n+7)/8)-1-i) 0*2^(8*(i%8)):Nat)).length=(((nb n+7)/8)+7)/8:=hl22
 have q25:Wd ((l).set (i/8) (l.getD (i/8) 0+(byt n ((nb n+7)/8)).getD (((nb n+7)/8)-1-i) 0*2^(8*(i%8)):Nat)):=hW.set _ hS2
 have q26:wval ((l).set (i/8) (l.getD (i/8) 0+(byt n ((nb n+7)/8)).getD (((nb n+7)/8)-1-i) 0*2^(8*(i%8)):Nat))=n%256^(i+1):=hS3
 refine ⟨_,_,?_,⟨i+1,(l).set (i/8) (l.getD (i/8) 0+(byt n ((nb n+7)/8)).getD (((nb n+7)/8)-1-i) 0*2^(8*(i%8)):Nat),h20,rfl,rfl,hs.to _ _,q23,q24,q25,q26⟩,ka.to [(2,.slice none 0 0),(3,.slice Ab ((nb n+7)/8) ((nb n+7)/8)),(4,.slice (some ⟨b6,0,none⟩) (((((nb n+7)/8):Nat)+7:Nat)/8:Nat) (((((nb n+7)/8):Nat)+7:Nat)/8:Nat)),(14,.int .i64 (((nb n+7)/8):Nat)),(15,.int .i64 ((i+1):Nat))] kR⟩
 omega
theorem wNumber (A:Option Addr)(c:Nat)(l:List Nat)(n:Nat)(hn:l.length=n)(hW:Wd l)(hl:l.length≤1000000000)(w:World)(h:Hp)(g:G w h)(hA:SlO 1 u64c 0 h A l) :
    Calls Tryz.prog 146 #[.slice A n c] w (Ret w h fun v _=>v=nv (wval l)):=by
 have hs:=SS.start g
 replace hs:=(hs.a_SlO hA)
 refine go Tryz.func146 [(0,.slice A n c)] rfl ?_
 refine cSL (lA 2 36 ([.int .u64 0,.string ⟨#[]⟩]) hs (fun b1 w2 h3 hs=>?_))
 refine lNS (lL hs [.m 5 0,.v 6 (.int .i64 (n:Nat))] (lIn 7 (8*(n:Nat)) (8*n) ?_))
 refine lK 8 5 (8*n) 1 1 (.int .u8 0) u8c 0 hs (fun b4 w5 h6 hs=>?_)
 have hl7:(List.replicate (8*n) 0).length=(8*n):=by simp
 refine lL hs [.m 3 8] (lN (CG.seq (cSL (lL hs [.m 9 3,.v 10 (.int .i64 ((8*n):Nat)),.v 11 (.int .i64 0)] (lN (CG.block (cTo [(0,.slice A n c),(2,.pointer (some ⟨b1,0,none⟩)),(3,.slice (some ⟨b4,0,none⟩) (8*n) (8*n)),(10,.int .i64 ((8*n):Nat)),(11,.int .i64 0)] ?_)))))))
 refine CG.loop (fun μ_ Γ w_=>∃ (i:Nat) (z:List Nat) (h_:Hp),μ_=8*n-i∧Γ=[(0,.slice A n c),(2,.pointer (some ⟨b1,0,none⟩)),(3,.slice (some ⟨b4,0,none⟩) (8*n) (8*n)),(10,.int .i64 ((8*n):Nat)),(11,.int .i64 (i:Nat))]∧SS w h w_ h_ [⟨b4,5,(z).flatMap u8c⟩,⟨b1,36,[.int .u64 0,.string ⟨#[]⟩]⟩] [] [fun h_=>SlO 1 u64c 0 h_ A l]∧(i≤8*n)∧(z.length=8*n)∧(∀ j,j<i→z.getD (8*n-1-j) 0=wval l/256^j%256)) _ ⟨0,List.replicate (8*n) 0,h6,rfl,rfl,hs.to _ _,Nat.zero_le _,hl7,(fun j hj=>absurd hj oM)⟩ ?_
 rintro _ _ w8 ⟨i,z,h9,hm10,rfl,hs,hi,hzl,hg⟩
 have hwi:=hW.get (i/8)
 refine cSL ?_
 cases hb11:(decide (((i:Nat):Int)<(((8*n):Nat):Int)))
 ·
  have phb11:=oF hb11
  refine lB 12 hb11 ?_
  refine lN (CG.seq (cIF (CG.exit ?_)))
  show CG _ _ _ _ _ _ _ _
  refine cSL (lL hs [.m 32 3] ?_)
  have him:i=8*n:=by omega
  have hlb:z=byt (wval l) (8*n):=eq_byt hzl (fun j hj=>hg j oM)
  rw[hlb] at hs
  obtain ⟨h12,hs,sg13,lo14,bc15⟩:=hs.pub 0
  replace hs:=(hs.to [⟨b1,36,[.int .u64 0,.string ⟨#[]⟩]⟩] []).a_SlO (SlO.of_flat (sz:=1) (f:=u8c) (d:=0) (b:=b4) (o:=0) (l:=byt (wval l) (8*n)) (fun _=>rfl) sg13)
  refine lC 33 hs (nFromB (wval l) (8*n) (some ⟨b4,0,none⟩) (8*n) oM oM (by have:=w256 hW;rwa [hn] at this) _ _ hs.g (hs.f.1)) ?_
  rintro _ w17 h18 hs rfl
  refine lP 0 0 (nc (wval l)) hs (fun w19 hs=>?_)
  exact lN (CG.ret (hs.ret [(0,0,2)] (nv (wval l)) rfl))
 have phb11:=oT hb11
 refine lB 12 hb11 ?_
 refine lN (CG.seq (cIT (CG.skipN (CG.seq (CG.block (cSL (lL hs [.m 13 11,.m 4 13] (lN (CG.listed (lL hs [.m 14 3,.m 15 3,.v 16 (.int .i64 ((8*n):Nat))] (lIn 17 (((8*n):Nat)-1) ((8*n)-1) ?_)))))))))))
 refine lL hs [.m 18 4] (lIn 19 (((8*n)-1:Nat)-(i:Nat)) (((8*n)-1)-i) ?_)
 refine lL hs [.m 20 0,.m 21 4] (lV 22 (.int .i64 (i/8:Nat)) ?_ (hr:=rint (opQuo (t:=3) (u:=3) (x:=.tmp 21) (y:=.const (.int .i64 8)) (k:=.i64) (a:=((i:Nat):Int)) (b:=(8:Int)) kR kR kR oM _) (quoI64 i 8 oM)))
 refine lX 23 A n c 1 (i/8:Nat) (i/8) ((hs.f.1).ok oM) ?_
 refine lH 24 (.int .u64 (l.getD (i/8) 0:Nat)) hs ((hs.f.1).el (i/8) oM) ?_
 refine lL hs [.m 25 4] (lV 26 (.int .i64 (i%8:Nat)) ?_ (hr:=rint (opRem (t:=3) (u:=3) (x:=.tmp 25) (y:=.const (.int .i64 8)) (k:=.i64) (a:=((i:Nat):Int)) (b:=(8:Int)) kR kR kR oM _) (tmodNat i 8)))
 refine lIn 27 (8*(i%8:Nat)) (8*(i%8)) ?_
 refine lV 28 (.int .u64 ((l.getD (i/8) 0)/2^(8*(i%8)):Nat)) ?_ (hr:=opShrN (t:=22) (u:=3) (x:=.tmp 24) (y:=.tmp 27) (ky:=.i64) (a:=(l.getD (i/8) 0)) (n:=(8*(i%8))) kR kR kR oM _)
 refine lV 29 (.int .u8 (l.getD (i/8) 0/2^(8*(i%8))%256:Nat)) ?_ (hr:=rint (n:=IntKind.wrap .u8 ((l.getD (i/8) 0/2^(8*(i%8)):Nat):Int)) kR (wrU8 _))
 refine lX 30 (some ⟨b4,0,none⟩) (8*n) (8*n) 1 (((8*n)-1)-i:Nat) (((8*n)-1)-i:Nat) rfl ?_
 refine lW 0 z u8c 1 (((8*n)-1)-i:Nat) (l.getD (i/8) 0/2^(8*(i%8))%256:Nat) hs oM (fun w20 hs=>?_)
 have hl21:((z).set (((8*n)-1)-i:Nat) (l.getD (i/8) 0/2^(8*(i%8))%256:Nat)).length=(8*n):=by rw[List.length_set];exact hzl
 replace hs:=hs.to [⟨b4,5,((z).set (((8*n)-1)-i:Nat) (l.getD (i/8) 0/2^(8*(i%8))%256:Nat)).flatMap u8c⟩,⟨b1,36,[.int .u64 0,.string ⟨#[]⟩]⟩] []
 refine lN (CG.listed (lIn 31 ((i:Nat)+1) (i+1) ?_))
 refine lL hs [.m 11 31] (lD ?_)
 intro a_ ka
 have q22:(i+1)≤8*n:=by omega
 have q23:((z).set (((8*n)-1)-i:Nat) (l.getD (i/8) 0/2^(8*(i%8))%256:Nat)).length=8*n:=hl21
 have q24:∀ j,j<(i+1)→((z).set (((8*n)-1)-i:Nat) (l.getD (i/8) 0/2^(8*(i%8))%256:Nat)).getD (8*n-1-j) 0=wval l/256^j%256:=(set_from_top hzl oM hg (byte_row hW i))
 refine ⟨_,_,?_,⟨i+1,(z).set (((8*n)-1)-i:Nat) (l.getD (i/8) 0/2^(8*(i%8))%256:Nat),h9,rfl,rfl,hs.to _ _,q22,q23,q24⟩,ka.to [(0,.slice A n c),(2,.pointer (some ⟨b1,0,none⟩)),(3,.slice (some ⟨b4,0,none⟩) (8*n) (8*n)),(10,.int .i64 ((8*n):Nat)),(11,.int .i64 ((i+1):Nat))] kR⟩
 omega
def win (l:List Nat)(o n:Nat):List Nat:=(l.drop o).take n
theorem win_len {l:List Nat}{o n:Nat}(h:o+n≤l.length):(win l o n).length=n:=by unfold win;rw[List.length_take,List.length_drop];omega
theorem win_get {l:List Nat}{o n j:Nat}(h:j<n):(win l o n).getD j 0=l.getD (o+j) 0:=by unfold win;rw[getD_take' h,getD_drop']
theorem win_set {l:List Nat}{o n i x:Nat}(hi:i<n):win (l.set (o+i) x) o n=(win l o n).set i x:=by
  unfold win
  rw[List.drop_set,if_neg oM,List.take_set,show o+i-o=i by omega]
theorem win_drop {l:List Nat}{o n q:Nat}:(win l o n).drop q=win l (o+q) (n-q):=by
  unfold win;rw[List.drop_take,List.drop_drop]
theorem win_take {l:List Nat}{o n m:Nat}(h:m≤n):(win l o n).take m=win l o m:=by
  unfold win;rw[List.take_take,Nat.min_eq_left h]
theorem win_all (l:List Nat)(n:Nat)(h:l.length≤n):win l 0 n=l:=by unfold win;rw[List.drop_zero,List.take_of_length_le h]
theorem Wd.win {l:List Nat}(h:Wd l)(o n:Nat):Wd (win l o n):=Dg.take (Dg.drop h o) n
theorem dn_step {Z W:List Nat}{i p d r0:Nat}(hi:i<Z.length)(inv:2^p*bval 18446744073709551616 (Z.take i)+r0=bval 18446744073709551616 (W.take i)+18446744073709551616^i*(W.getD i 0%2^p))
    (hd:2^p*d+W.getD i 0%2^p=W.getD i 0+18446744073709551616*(W.getD (i+1) 0%2^p)) :
    2^p*bval 18446744073709551616 ((Z.set i d).take (i+1))+r0=bval 18446744073709551616 (W.take (i+1))+18446744073709551616^(i+1)*(W.getD (i+1) 0%2^p):=by
  have e1:=bval_take_next 18446744073709551616 (Z.set i d) i
  have e2:(Z.set i d).take i=Z.take i:=by rw[List.take_set,List.set_eq_of_length_le];rw[List.length_take];omega
  rw[e2,getD_set' hi,if_pos rfl] at e1
  have e3:=bval_take_next 18446744073709551616 W i
  have e4:=congrArg (18446744073709551616^i * ·) hd
  simp only[Nat.mul_add] at e4
  rw[e1,e3,Nat.pow_succ,Nat.mul_add]
  have e5:2^p*(18446744073709551616^i*d)=18446744073709551616^i*(2^p*d):=by ac_rfl
  have e6:18446744073709551616^i*18446744073709551616*(W.getD (i+1) 0%2^p)=18446744073709551616^i*(18446744073709551616*(W.getD (i+1) 0%2^p)):=by ac_rfl
  rw[e5,e6]
  omega
theorem dn_start {X:List Nat}(hX:Wd X){k m:Nat}(t:Tz (wval X) k m)(hk:k/64<X.length):wval (X.drop (k/64))=2^(k%64)*m∧(X.drop (k/64)).getD 0 0%2^(k%64)=0:=by
  have h1:wval (X.drop (k/64))=2^(k%64)*m:=by
    rw[wval_drop hX oM,t.1,pow_n k,Nat.mul_assoc,Nat.mul_div_cancel_left _ (Nat.pow_pos kD)]
  refine ⟨h1,?_⟩
  have h2:wval (X.drop (k/64))=(X.drop (k/64)).getD 0 0+18446744073709551616*bval 18446744073709551616 ((X.drop (k/64)).drop 1):=by
    have:=bval_drop 18446744073709551616 (l:=X.drop (k/64)) (k:=0) (by rw[List.length_drop];omega)
    rwa [List.drop_zero] at this
  have e64:(18446744073709551616:Nat)=2^(k%64)*2^(64-k%64):=by rw[←Nat.pow_add,show k%64+(64-k%64)=64 by omega]
  rw[h1] at h2
  have h3:(2^(k%64)*m)%2^(k%64)=0:=Nat.mul_mod_right _ _
  rw[h2] at h3
  conv at h3=>lhs;rw[e64]
  rw[Nat.mul_assoc,Nat.add_mul_mod_self_left] at h3
  exact h3
theorem dn_end {Z W:List Nat}{p m:Nat}(hl:W.length≤Z.length)(inv:2^p*bval 18446744073709551616 (Z.take Z.length)+0=bval 18446744073709551616 (W.take Z.length)+18446744073709551616^Z.length*(W.getD Z.length 0%2^p))(e:wval W=2^p*m):wval Z=m:=by
  rw[List.take_length,List.take_of_length_le hl,getD_out hl,Nat.zero_mod,Nat.mul_zero,Nat.add_zero,Nat.add_zero] at inv
  have e2:bval 18446744073709551616 W=2^p*m:=e
  rw[e2] at inv
  exact Nat.eq_of_mul_eq_mul_left (Nat.two_pow_pos p) inv
theorem keep_set {l X:List Nat}{q i x N:Nat}(hl:q+i<l.length)(h:∀ j,i≤j→j<N→l.getD (q+j) 0=X.getD j 0):∀ j,i+1≤j→j<N→(l.set (q+i) x).getD (q+j) 0=X.getD j 0:=fun j h1 h2=>by
  rw[getD_set' hl,if_neg oM];exact h j oM h2
theorem wDown (rb:Nat)(l0:List Nat)(o n c x:Nat)(hx:0<x)(hl0:l0.length≤1000000000)(hon:o+n≤l0.length)(hnc:n≤c)(hW0:Wd l0)(hwin:win l0 o n=wds x)(w:World)(h:Hp)(g:G w h)(ho:Own w rb 22 (l0.flatMap u64c))(hj:h[rb]?=some junk)(tb:Tab h) :
    Calls Tryz.prog 143 #[.slice (some ⟨rb,o,none⟩) n c] w (RetM rb w h fun v w' _=>∃ z:List Nat,∃ o' n' c':Nat,v=.slice (some ⟨rb,o',none⟩) n' c'∧z.length=l0.length∧Wd z∧o'+n'≤z.length∧n'≤c'∧(∃ k m:Nat,Tz x k m∧win z o' n'=wds m)∧Own w' rb 22 (z.flatMap u64c)):=by
 have hmo:UpM [rb] w h w h:=UpM.refl g
 obtain ⟨wz,hz,hs⟩:=SS.at_ g ho hj
 have hl0_:l0.length=l0.length:=rfl
 replace hs:=(hs.add (K:=fun h_=>Tab h_) tb)
 refine go Tryz.func143 [(0,.slice (some ⟨rb,o,none⟩) n c)] rfl ?_
 refine cSL (lL hs [.v 2 (.slice none 0 0)] (lNS (lL hs [.m 6 0] (lClu 7 0 hs (fun _ g_ f_ sg_=>wZeros (some ⟨rb,o,none⟩) c (win l0 o n) n (win_len hon) (hW0.win _ _) (by rw[hwin,wval_wds];exact hx) (by rw[win_len hon];omega) _ _ g_ (f_.1) (SlO.win (f:=u64c) (d:=0) (b:=rb) (l:=l0) (fun _=>rfl) sg_ o n)) ?_))))
 rintro _ w1 h2 u3 hs ⟨k,m,rfl,htz,hkn⟩
 replace hmo:=hmo.trans (u3.m _)
 rw[win_len hon] at hkn
 have hX:=hW0.win o n
 obtain ⟨hE0,hr0⟩:=dn_start hX htz (by rw[win_len hon];omega)
 rw[win_drop] at hE0 hr0
 obtain ⟨X,hXd⟩:∃ X,X=win l0 (o+k/64) (n-k/64):=⟨_,rfl⟩
 rw[←hXd] at hE0 hr0
 have hXl:X.length=n-k/64:=by rw[hXd];exact win_len oM
 have hXW:Wd X:=by rw[hXd];exact hW0.win _ _
 have hXg:∀ j,j<n-k/64→X.getD j 0=l0.getD (o+k/64+j) 0:=fun j hj=>by rw[hXd];exact win_get hj
 refine lL hs [.m 3 7] (lNS (lL hs [.m 8 0,.m 9 3] (lV 10 (.int .i64 (k/64:Nat)) ?_ (hr:=rint (opQuo (t:=3) (u:=3) (x:=.tmp 9) (y:=.const (.int .i64 64)) (k:=.i64) (a:=((k:Nat):Int)) (b:=(64:Int)) kR kR kR oM _) (quoI64 k 64 oM)))))
 refine lFo 11 rb o n c 1 (k/64:Nat) (k/64) (o+(k/64)) ?_
 refine lL hs [.m 0 11] (lNS (lL hs [.m 12 3] (lV 13 (.int .i64 (k%64:Nat)) ?_ (hr:=rint (opRem (t:=3) (u:=3) (x:=.tmp 12) (y:=.const (.int .i64 64)) (k:=.i64) (a:=((k:Nat):Int)) (b:=(64:Int)) kR kR kR oM _) (tmodNat k 64)))))
 refine lL hs [.m 4 13] (lN (CG.seq (cSL (lL hs [.m 14 0,.v 15 (.int .i64 (n-(k/64):Nat)),.v 16 (.int .i64 0)] (lN (CG.block (cTo [(0,.slice (some ⟨rb,(o+(k/64)),none⟩) (n-(k/64)) (c-(k/64))),(2,.slice none 0 0),(4,.int .i64 (k%64:Nat)),(15,.int .i64 (n-(k/64):Nat)),(16,.int .i64 0)] ?_)))))))
 refine CG.loop (fun μ_ Γ w_=>∃ (i:Nat) (l:List Nat) (h_:Hp),μ_=(n-k/64)-i∧Γ=[(0,.slice (some ⟨rb,(o+(k/64)),none⟩) (n-(k/64)) (c-(k/64))),(2,.slice none 0 0),(4,.int .i64 (k%64:Nat)),(15,.int .i64 (n-(k/64):Nat)),(16,.int .i64 (i:Nat))]∧SS wz hz w_ h_ [⟨rb,22,(l).flatMap u64c⟩] [] [fun h_=>Tab h_]∧(i≤n-k/64)∧(l.length=l0.length)∧(Wd l)∧(2^(k%64)*bval 18446744073709551616 ((win l (o+k/64) (n-k/64)).take i)+0=bval 18446744073709551616 (X.take i)+18446744073709551616^i*(X.getD i 0%2^(k%64)))∧(∀ j,i≤j→j<n-k/64→l.getD (o+k/64+j) 0=X.getD j 0)∧(UpM [rb] w h w_ h_)) _ ⟨0,l0,h2,rfl,rfl,hs.to _ _,Nat.zero_le _,rfl,hW0,(by rw[hr0];simp[bval]),(fun j _ hj=>(hXg j hj).symm),hmo⟩ ?_
 rintro _ _ w4 ⟨i,l,h5,hm6,rfl,hs,hi,hll,hW,inv,hun,hmo⟩
 refine cSL ?_
 cases hb7:(decide (((i:Nat):Int)<((n-(k/64):Nat):Int)))
 ·
  have phb7:=oF hb7
  refine lB 17 hb7 ?_
  refine lN (CG.seq (cIF (CG.exit ?_)))
  show CG _ _ _ _ _ _ _ _
  refine cSL (lL hs [.m 46 0] (lClu 47 0 hs (fun _ g_ f_ sg_=>wTrim (some ⟨rb,(o+k/64),none⟩) (c-(k/64)) (win l (o+k/64) (n-k/64)) (n-k/64) (win_len oM) (by rw[win_len oM];omega) (by rw[win_len oM];omega) _ _ g_ (SlO.win (f:=u64c) (d:=0) (b:=rb) (l:=l) (fun _=>rfl) sg_ (o+k/64) (n-k/64))) ?_))
  rintro _ w8 h9 u10 hs rfl
  replace hmo:=hmo.trans (u10.m _)
  refine lL hs [.m 2 47] (lN (CG.ret ?_))
  have hiN:i=n-k/64:=by omega
  have hZl:(win l (o+k/64) (n-k/64)).length=n-k/64:=win_len oM
  have hE:=dn_end (Z:=win l (o+k/64) (n-k/64)) oM (by rw[hZl,←hiN];rw[←hiN] at inv;exact inv) hE0
  have hZW:Wd (win l (o+k/64) (n-k/64)):=hW.win _ _
  have hwm:=wds_of hZW
  rw[hE,hZl] at hwm
  have htl:=tl_le (win l (o+k/64) (n-k/64)) (n-k/64)
  exact hs.retM hmo [] (.slice (some ⟨rb,(o+k/64),none⟩) (tl (win l (o+k/64) (n-k/64)) (n-k/64)) (c-(k/64))) ⟨l,(o+k/64),_,_,rfl,hll,hW,by omega,by omega,⟨k,m,by rw[hwin,wval_wds] at htz;exact htz,by rw[hwm];exact (win_take htl).symm⟩,hs.own 0⟩
 have phb7:=oT hb7
 refine lB 17 hb7 ?_
 refine lN (CG.seq (cIT (CG.skipN (CG.seq (CG.block (cSL (lL hs [.m 18 16,.m 5 18] (lNS (lL hs [.m 19 0,.m 20 5] (lXo 21 rb (o+(k/64)) (n-(k/64)) (c-(k/64)) 1 (i:Nat) i ((o+(k/64))+i) ?_))))))))))
 refine lQ 22 0 l u64c 1 0 ((o+(k/64))+i) (.int .u64 ((l).getD ((o+(k/64))+i) 0:Nat)) hs oM ?_
 refine lL hs [.m 23 4] ?_
 have hXi:X.getD i 0=l.getD (o+k/64+i) 0:=(hun i (Nat.le_refl _) oM).symm
 have hxi:=hW.get (o+k/64+i)
 have hdv:=Nat.div_le_self (l.getD (o+k/64+i) 0) (2^(k%64))
 refine lV 24 (.int .u64 (((l).getD ((o+(k/64))+i) 0:Nat)/2^(k%64):Nat)) ?_ (hr:=opShrN (t:=22) (u:=3) (x:=.tmp 22) (y:=.tmp 23) (ky:=.i64) (a:=((l).getD ((o+(k/64))+i) 0:Nat)) (n:=(k%64)) kR kR kR oM _)
 refine lXo 25 rb (o+(k/64)) (n-(k/64)) (c-(k/64)) 1 (i:Nat) i ((o+(k/64))+i) ?_
 refine lWu 0 l u64c 1 ((o+(k/64))+i) (((l).getD ((o+(k/64))+i) 0:Nat)/2^(k%64):Nat) hs oM (fun w11 pu hs=>?_)
 replace hmo:=hmo.put pu (List.mem_singleton.2 rfl) hs.g
 have hl12:((l).set ((o+(k/64))+i) (((l).getD ((o+(k/64))+i) 0:Nat)/2^(k%64):Nat)).length=l0.length:=by rw[List.length_set];exact hll
 replace hs:=hs.to [⟨rb,22,((l).set ((o+(k/64))+i) (((l).getD ((o+(k/64))+i) 0:Nat)/2^(k%64):Nat)).flatMap u64c⟩] []
 refine lNS (lL hs [.m 26 5] (lIn 27 ((i:Nat)+1) (i+1) ?_))
 refine lL hs [.m 28 0,.v 29 (.int .i64 (n-(k/64):Nat))] ?_
 cases hb13:(decide (((i+1:Nat):Int)<((n-(k/64):Nat):Int)))
 ·
  have phb13:=oF hb13
  refine lB 30 hb13 ?_
  refine lN (cIF (CG.skipN (CG.listed (lIn 45 ((i:Nat)+1) (i+1) ?_))))
  refine lL hs [.m 16 45] (lD ?_)
  intro a_ ka
  have q14:(i+1)≤n-k/64:=by omega
  have q15:((l).set ((o+(k/64))+i) (((l).getD ((o+(k/64))+i) 0:Nat)/2^(k%64):Nat)).length=l0.length:=hl12
  have q16:Wd ((l).set ((o+(k/64))+i) (((l).getD ((o+(k/64))+i) 0:Nat)/2^(k%64):Nat)):=(hW.set _ oM)
  have q17:2^(k%64)*bval 18446744073709551616 ((win ((l).set ((o+(k/64))+i) (((l).getD ((o+(k/64))+i) 0:Nat)/2^(k%64):Nat)) (o+k/64) (n-k/64)).take (i+1))+0=bval 18446744073709551616 (X.take (i+1))+18446744073709551616^(i+1)*(X.getD (i+1) 0%2^(k%64)):=(by rw[win_set oM];exact dn_step (by rw[win_len oM];omega) inv (by rw[hXi,getD_out (l:=X) (show X.length≤i+1 by omega),Nat.zero_mod,Nat.mul_zero,Nat.add_zero];exact Nat.div_add_mod _ _))
  have q18:∀ j,(i+1)≤j→j<n-k/64→((l).set ((o+(k/64))+i) (((l).getD ((o+(k/64))+i) 0:Nat)/2^(k%64):Nat)).getD (o+k/64+j) 0=X.getD j 0:=(keep_set oM hun)
  have q19:UpM [rb] w h w11 h5:=hmo
  refine ⟨_,_,?_,⟨i+1,(l).set ((o+(k/64))+i) (((l).getD ((o+(k/64))+i) 0:Nat)/2^(k%64):Nat),h5,rfl,rfl,hs.to _ _,q14,q15,q16,q17,q18,q19⟩,ka.to [(0,.slice (some ⟨rb,(o+(k/64)),none⟩) (n-(k/64)) (c-(k/64))),(2,.slice none 0 0),(4,.int .i64 (k%64:Nat)),(15,.int .i64 (n-(k/64):Nat)),(16,.int .i64 ((i+1):Nat))] kR⟩
  omega
 have phb13:=oT hb13
 refine lB 30 hb13 ?_
 refine lN (cIT (cRa ⟨[],none⟩ 13 mixed ?_))
 replace hmo:=hmo.trans ((Up.drew (Up.refl hs.g)).m _)
 replace hs:=hs.drew
 refine aV 0 31 (.slice (some ⟨rb,(o+(k/64)),none⟩) (n-(k/64)) (c-(k/64))) ?_
 refine aV 1 32 (.int .i64 (i:Nat)) ?_
 refine aXo 2 33 rb (o+(k/64)) (n-(k/64)) (c-(k/64)) 1 (i:Nat) i ((o+(k/64))+i) ?_
 refine aQ 3 34 0 ((l).set ((o+(k/64))+i) (((l).getD ((o+(k/64))+i) 0:Nat)/2^(k%64):Nat)) u64c 1 0 ((o+(k/64))+i) (.int .u64 (((l).set ((o+(k/64))+i) (((l).getD ((o+(k/64))+i) 0:Nat)/2^(k%64):Nat)).getD ((o+(k/64))+i) 0:Nat)) hs oM ?_
 refine aV 4 35 (.slice (some ⟨rb,(o+(k/64)),none⟩) (n-(k/64)) (c-(k/64))) ?_
 refine aV 5 36 (.int .i64 (i:Nat)) ?_
 refine aV 6 37 (.int .i64 (i+1:Nat)) ?_ (hv:=fun _=>rint (n:=IntKind.wrap .i64 ((i:Nat)+1)) kR ((wr64 oM oM).trans oM))
 refine aXo 7 38 rb (o+(k/64)) (n-(k/64)) (c-(k/64)) 1 (i+1:Nat) (i+1) ((o+(k/64))+(i+1)) ?_
 refine aQ 8 39 0 ((l).set ((o+(k/64))+i) (((l).getD ((o+(k/64))+i) 0:Nat)/2^(k%64):Nat)) u64c 1 0 ((o+(k/64))+(i+1)) (.int .u64 (((l).set ((o+(k/64))+i) (((l).getD ((o+(k/64))+i) 0:Nat)/2^(k%64):Nat)).getD ((o+(k/64))+(i+1)) 0:Nat)) hs oM ?_
 refine aV 9 40 (.int .i64 (k%64:Nat)) ?_
 refine aV 10 41 (.int .i64 (64-(k%64):Nat)) ?_ (hv:=fun _=>rint (n:=IntKind.wrap .i64 (64-(k%64:Nat))) kR ((wr64 oM oM).trans oM))
 refine aV 11 42 (.int .u64 ((((l).set ((o+(k/64))+i) (((l).getD ((o+(k/64))+i) 0:Nat)/2^(k%64):Nat)).getD ((o+(k/64))+(i+1)) 0:Nat)*2^(64-(k%64))%18446744073709551616:Nat)) ?_ (hv:=fun _=>opShlN (t:=22) (u:=3) (x:=.tmp 39) (y:=.tmp 41) (ky:=.i64) (a:=(((l).set ((o+(k/64))+i) (((l).getD ((o+(k/64))+i) 0:Nat)/2^(k%64):Nat)).getD ((o+(k/64))+(i+1)) 0:Nat)) (n:=(64-(k%64))) kR kR kR _)
 have hXn:X.getD (i+1) 0=l.getD (o+k/64+(i+1)) 0:=(hun (i+1) oM oM).symm
 obtain ⟨hS1,hS2,hS3⟩:=shr_word (x:=l.getD (o+k/64+i) 0) (y:=l.getD (o+k/64+(i+1)) 0) (p:=k%64) oM hxi
 have hgs:=getD_set' (l:=l) (k:=o+k/64+i) (j:=o+k/64+i) (x:=l.getD (o+k/64+i) 0/2^(k%64)) oM
 rw[if_pos rfl] at hgs
 have hgn:=getD_set' (l:=l) (k:=o+k/64+i) (j:=o+k/64+(i+1)) (x:=l.getD (o+k/64+i) 0/2^(k%64)) oM
 rw[if_neg oM] at hgn
 refine aV 12 43 (.int .u64 (l.getD (o+k/64+i) 0/2^(k%64)+l.getD (o+k/64+(i+1)) 0*2^(64-k%64)%18446744073709551616:Nat)) ?_ (hv:=fun _=>rint (opOr (t:=22) (u:=22) (x:=.tmp 34) (y:=.tmp 42) (a:=(((l).set ((o+(k/64))+i) (((l).getD ((o+(k/64))+i) 0:Nat)/2^(k%64):Nat)).getD ((o+(k/64))+i) 0:Nat)) (b:=((((l).set ((o+(k/64))+i) (((l).getD ((o+(k/64))+i) 0:Nat)/2^(k%64):Nat)).getD ((o+(k/64))+(i+1)) 0:Nat)*2^(64-(k%64))%18446744073709551616:Nat)) kR kR kR oM oM _) (by rw[hgs,hgn,hS1]))
 refine tXo 13 44 rb (o+(k/64)) (n-(k/64)) (c-(k/64)) 1 (i:Nat) i ((o+(k/64))+i) ?_
 refine tWu 14 0 ((l).set ((o+(k/64))+i) (((l).getD ((o+(k/64))+i) 0:Nat)/2^(k%64):Nat)) u64c 1 ((o+(k/64))+i) (l.getD (o+k/64+i) 0/2^(k%64)+l.getD (o+k/64+(i+1)) 0*2^(64-k%64)%18446744073709551616:Nat) hs oM (fun w20 pu hs=>?_)
 replace hmo:=hmo.put pu (List.mem_singleton.2 rfl) hs.g
 have hl21:(((l).set ((o+(k/64))+i) (((l).getD ((o+(k/64))+i) 0:Nat)/2^(k%64):Nat)).set ((o+(k/64))+i) (l.getD (o+k/64+i) 0/2^(k%64)+l.getD (o+k/64+(i+1)) 0*2^(64-k%64)%18446744073709551616:Nat)).length=l0.length:=by rw[List.length_set];exact hl12
 replace hs:=hs.to [⟨rb,22,(((l).set ((o+(k/64))+i) (((l).getD ((o+(k/64))+i) 0:Nat)/2^(k%64):Nat)).set ((o+(k/64))+i) (l.getD (o+k/64+i) 0/2^(k%64)+l.getD (o+k/64+(i+1)) 0*2^(64-k%64)%18446744073709551616:Nat)).flatMap u64c⟩] []
 refine tN (CG.listed (lIn 45 ((i:Nat)+1) (i+1) ?_))
 refine lL hs [.m 16 45] (lD ?_)
 intro a_ ka
 have q22:(i+1)≤n-k/64:=by omega
 have q23:(((l).set ((o+(k/64))+i) (((l).getD ((o+(k/64))+i) 0:Nat)/2^(k%64):Nat)).set ((o+(k/64))+i) (l.getD (o+k/64+i) 0/2^(k%64)+l.getD (o+k/64+(i+1)) 0*2^(64-k%64)%18446744073709551616:Nat)).length=l0.length:=hl21
 have q24:Wd (((l).set ((o+(k/64))+i) (((l).getD ((o+(k/64))+i) 0:Nat)/2^(k%64):Nat)).set ((o+(k/64))+i) (l.getD (o+k/64+i) 0/2^(k%64)+l.getD (o+k/64+(i+1)) 0*2^(64-k%64)%18446744073709551616:Nat)):=((hW.set _ oM).set _ hS2)
 have q25:2^(k%64)*bval 18446744073709551616 ((win (((l).set ((o+(k/64))+i) (((l).getD ((o+(k/64))+i) 0:Nat)/2^(k%64):Nat)).set ((o+(k/64))+i) (l.getD (o+k/64+i) 0/2^(k%64)+l.getD (o+k/64+(i+1)) 0*2^(64-k%64)%18446744073709551616:Nat)) (o+k/64) (n-k/64)).take (i+1))+0=bval 18446744073709551616 (X.take (i+1))+18446744073709551616^(i+1)*(X.getD (i+1) 0%2^(k%64)):=(by rw[List.set_set,win_set oM];exact dn_step (by rw[win_len oM];omega) inv (by rw[hXi,hXn];exact hS3))
 have q26:∀ j,(i+1)≤j→j<n-k/64→(((l).set ((o+(k/64))+i) (((l).getD ((o+(k/64))+i) 0:Nat)/2^(k%64):Nat)).set ((o+(k/64))+i) (l.getD (o+k/64+i) 0/2^(k%64)+l.getD (o+k/64+(i+1)) 0*2^(64-k%64)%18446744073709551616:Nat)).getD (o+k/64+j) 0=X.getD j 0:=(by rw[List.set_set];exact keep_set oM hun)
 have q27:UpM [rb] w h w20 h5:=hmo
 refine ⟨_,_,?_,⟨i+1,((l).set ((o+(k/64))+i) (((l).getD ((o+(k/64))+i) 0:Nat)/2^(k%64):Nat)).set ((o+(k/64))+i) (l.getD (o+k/64+i) 0/2^(k%64)+l.getD (o+k/64+(i+1)) 0*2^(64-k%64)%18446744073709551616:Nat),h5,rfl,rfl,hs.to _ _,q22,q23,q24,q25,q26,q27⟩,ka.to [(0,.slice (some ⟨rb,(o+(k/64)),none⟩) (n-(k/64)) (c-(k/64))),(2,.slice none 0 0),(4,.int .i64 (k%64:Nat)),(15,.int .i64 (n-(k/64):Nat)),(16,.int .i64 ((i+1):Nat))] kR⟩
 omega
theorem wSubt (rb:Nat)(l0:List Nat)(o n c x:Nat)(hl0:l0.length≤1000000000)(hon:o+n≤l0.length)(hnc:n≤c)(hW0:Wd l0)(hwin:win l0 o n=wds x)(D:Option Addr)(d y m:Nat)(hm:(wds y).length=m)(hmd:m≤d)(hyx:y≤x)(w:World)(h:Hp)(g:G w h)(ho:Own w rb 22 (l0.flatMap u64c))(hj:h[rb]?=some junk)(hD:SlO 1 u64c 0 h D (wds y)) :
    Calls Tryz.prog 145 #[.slice (some ⟨rb,o,none⟩) n c,.slice D m d] w (RetM rb w h fun v w' _=>∃ z:List Nat,∃ o' n' c':Nat,v=.slice (some ⟨rb,o',none⟩) n' c'∧z.length=l0.length∧Wd z∧o'+n'≤z.length∧n'≤c'∧win z o' n'=wds (x-y)∧Own w' rb 22 (z.flatMap u64c)):=by
 have hmo:UpM [rb] w h w h:=UpM.refl g
 obtain ⟨wz,hz,hs⟩:=SS.at_ g ho hj
 have hl0_:l0.length=l0.length:=rfl
 replace hs:=(hs.a_SlO hD)
 have hwn:n=(wds x).length:=by rw[←hwin,win_len hon]
 have hlm:=wds_len_mono hyx
 refine go Tryz.func145 [(0,.slice (some ⟨rb,o,none⟩) n c),(1,.slice D m d)] rfl ?_
 refine cSL (lL hs [.v 4 (.slice none 0 0)] (lNS (lL hs [.v 5 (.int .u64 0)] (lN (CG.seq (cSL (lL hs [.m 8 0,.v 9 (.int .i64 (n:Nat)),.v 10 (.int .i64 0)] (lN (CG.block (cTo [(0,.slice (some ⟨rb,o,none⟩) n c),(1,.slice D m d),(4,.slice none 0 0),(9,.int .i64 (n:Nat)),(10,.int .i64 0),(5,.int .u64 0)] ?_))))))))))
 refine CG.loop (fun μ_ Γ w_=>∃ (i:Nat) (l:List Nat) (bo:Nat) (h_:Hp),μ_=n-i∧Γ=[(0,.slice (some ⟨rb,o,none⟩) n c),(1,.slice D m d),(4,.slice none 0 0),(9,.int .i64 (n:Nat)),(10,.int .i64 (i:Nat)),(5,.int .u64 (bo:Nat))]∧SS wz hz w_ h_ [⟨rb,22,(l).flatMap u64c⟩] [] [fun h_=>SlO 1 u64c 0 h_ D (wds y)]∧(i≤n)∧(l.length=l0.length)∧(Wd l)∧(bo≤1)∧(bval 18446744073709551616 (win l o n)+bval 18446744073709551616 ((wds y).take i)=x+18446744073709551616^i*bo)∧(UpM [rb] w h w_ h_)) _ ⟨0,l0,0,h,rfl,rfl,hs.to _ _,Nat.zero_le _,rfl,hW0,oM,(by have hx_:bval 18446744073709551616 (wds x)=x:=wval_wds x;rw[hwin,hx_];simp[bval]),hmo⟩ ?_
 rintro _ _ w1 ⟨i,l,bo,h2,hm3,rfl,hs,hi,hll,hW,hbo,inv,hmo⟩
 have hlk:=hW.get (o+i)
 have hyk:=(Wd.wds y).get i
 have hwg:=win_get (l:=l) (o:=o) (n:=n) (j:=i)
 refine cSL ?_
 cases hb4:(decide (((i:Nat):Int)<((n:Nat):Int)))
 ·
  have phb4:=oF hb4
  refine lB 11 hb4 ?_
  refine lN (CG.seq (cIF (CG.exit ?_)))
  show CG _ _ _ _ _ _ _ _
  refine cSL (lL hs [.m 35 0] (lClu 36 0 hs (fun _ g_ f_ sg_=>wTrim (some ⟨rb,o,none⟩) c (win l o n) n (win_len oM) (by rw[win_len oM];omega) (by rw[win_len oM];omega) _ _ g_ (SlO.win (f:=u64c) (d:=0) (b:=rb) (l:=l) (fun _=>rfl) sg_ o n)) ?_))
  rintro _ w5 h6 u7 hs rfl
  replace hmo:=hmo.trans (u7.m _)
  refine lL hs [.m 4 36] (lN (CG.ret ?_))
  have hiN:i=n:=by omega
  have hZl:(win l o n).length=n:=win_len oM
  rw[List.take_of_length_le (show (wds y).length≤i by omega),hiN] at inv
  have hZW:Wd (win l o n):=hW.win _ _
  have hE:wval (win l o n)=x-y:=sub_end hZW (by rw[hZl];have hb_:bval 18446744073709551616 (wds y)=y:=wval_wds y;rw[hb_] at inv;exact inv) oM hbo
  have hwm:=wds_of hZW
  rw[hE,hZl] at hwm
  have htl:=tl_le (win l o n) n
  exact hs.retM hmo [] (.slice (some ⟨rb,o,none⟩) (tl (win l o n) n) c) ⟨l,o,_,_,rfl,hll,hW,by omega,by omega,(by rw[hwm];exact (win_take htl).symm),hs.own 0⟩
 have phb4:=oT hb4
 refine lB 11 hb4 ?_
 refine lN (CG.seq (cIT (CG.skipN (CG.seq (CG.block (cSL (lL hs [.m 12 10,.m 6 12] (lNS (lL hs [.v 7 (.int .u64 0)] (lN (CG.seq (cSL (lL hs [.m 13 6,.m 14 1,.v 15 (.int .i64 (m:Nat))] ?_)))))))))))))
 cases hb8:(decide (((i:Nat):Int)<((m:Nat):Int)))
 ·
  have phb8:=oF hb8
  refine lB 16 hb8 ?_
  refine lN (cIF (CG.skipN (CG.listed (lL hs [.m 22 0,.m 23 6,.m 24 0,.m 25 6] (lXo 26 rb o n c 1 (i:Nat) i (o+i) ?_)))))
  refine lQ 27 0 l u64c 1 0 (o+i) (.int .u64 ((l).getD (o+i) 0:Nat)) hs oM ?_
  refine lL hs [.m 28 7,.m 29 5] ?_
  obtain ⟨s9,c10,he11,hl12,hm13,hr14⟩:=bSub64 ((l).getD (o+i) 0) 0 bo wM wM oM
  refine lV 30 (.tuple #[.int .u64 (s9:Nat),.int .u64 (c10:Nat)]) ?_ (hr:=opExt kR (hr14 _))
  refine lL hs [.m 21 30,.v 31 (.int .u64 (s9:Nat)),.v 32 (.int .u64 (c10:Nat))] (lXo 33 rb o n c 1 (i:Nat) i (o+i) ?_)
  refine lWu 0 l u64c 1 (o+i) s9 hs oM (fun w15 pu hs=>?_)
  replace hmo:=hmo.put pu (List.mem_singleton.2 rfl) hs.g
  have hl16:((l).set (o+i) s9).length=l0.length:=by rw[List.length_set];exact hll
  replace hs:=hs.to [⟨rb,22,((l).set (o+i) s9).flatMap u64c⟩] []
  refine lL hs [.m 5 32] (lN (CG.listed (lIn 34 ((i:Nat)+1) (i+1) ?_)))
  refine lL hs [.m 10 34] (lD ?_)
  intro a_ ka
  have q17:(i+1)≤n:=by omega
  have q18:((l).set (o+i) s9).length=l0.length:=hl16
  have q19:Wd ((l).set (o+i) s9):=(hW.set _ oM)
  have q20:c10≤1:=oM
  have q21:bval 18446744073709551616 (win ((l).set (o+i) s9) o n)+bval 18446744073709551616 ((wds y).take (i+1))=x+18446744073709551616^(i+1)*c10:=(by rw[win_set oM];exact sub_step (by rw[win_len oM];omega) inv (by rw[hwg oM];first|omega|(have hy0:=getD_out (l:=wds y) (k:=i) oM;omega)))
  have q22:UpM [rb] w h w15 h2:=hmo
  refine ⟨_,_,?_,⟨i+1,(l).set (o+i) s9,c10,h2,rfl,rfl,hs.to _ _,q17,q18,q19,q20,q21,q22⟩,ka.to [(0,.slice (some ⟨rb,o,none⟩) n c),(1,.slice D m d),(4,.slice none 0 0),(9,.int .i64 (n:Nat)),(10,.int .i64 ((i+1):Nat)),(5,.int .u64 (c10:Nat))] kR⟩
  omega
 have phb8:=oT hb8
 refine lB 16 hb8 ?_
 refine lN (cIT (CG.listed (lL hs [.m 17 1,.m 18 6] (lX 19 D m d 1 (i:Nat) i ((hs.f.1).ok oM) ?_))))
 refine lH 20 (.int .u64 ((wds y).getD i 0:Nat)) hs ((hs.f.1).el i oM) ?_
 refine lL hs [.m 7 20] (lN (CG.listed (lL hs [.m 22 0,.m 23 6,.m 24 0,.m 25 6] (lXo 26 rb o n c 1 (i:Nat) i (o+i) ?_))))
 refine lQ 27 0 l u64c 1 0 (o+i) (.int .u64 ((l).getD (o+i) 0:Nat)) hs oM ?_
 refine lL hs [.m 28 7,.m 29 5] ?_
 obtain ⟨s23,c24,he25,hl26,hm27,hr28⟩:=bSub64 ((l).getD (o+i) 0) ((wds y).getD i 0) bo wM wM oM
 refine lV 30 (.tuple #[.int .u64 (s23:Nat),.int .u64 (c24:Nat)]) ?_ (hr:=opExt kR (hr28 _))
 refine lL hs [.m 21 30,.v 31 (.int .u64 (s23:Nat)),.v 32 (.int .u64 (c24:Nat))] (lXo 33 rb o n c 1 (i:Nat) i (o+i) ?_)
 refine lWu 0 l u64c 1 (o+i) s23 hs oM (fun w29 pu hs=>?_)
 replace hmo:=hmo.put pu (List.mem_singleton.2 rfl) hs.g
 have hl30:((l).set (o+i) s23).length=l0.length:=by rw[List.length_set];exact hll
 replace hs:=hs.to [⟨rb,22,((l).set (o+i) s23).flatMap u64c⟩] []
 refine lL hs [.m 5 32] (lN (CG.listed (lIn 34 ((i:Nat)+1) (i+1) ?_)))
 refine lL hs [.m 10 34] (lD ?_)
 intro a_ ka
 have q31:(i+1)≤n:=by omega
 have q32:((l).set (o+i) s23).length=l0.length:=hl30
 have q33:Wd ((l).set (o+i) s23):=(hW.set _ oM)
 have q34:c24≤1:=oM
 have q35:bval 18446744073709551616 (win ((l).set (o+i) s23) o n)+bval 18446744073709551616 ((wds y).take (i+1))=x+18446744073709551616^(i+1)*c24:=(by rw[win_set oM];exact sub_step (by rw[win_len oM];omega) inv (by rw[hwg oM];first|omega|(have hy0:=getD_out (l:=wds y) (k:=i) oM;omega)))
 have q36:UpM [rb] w h w29 h2:=hmo
 refine ⟨_,_,?_,⟨i+1,(l).set (o+i) s23,c24,h2,rfl,rfl,hs.to _ _,q31,q32,q33,q34,q35,q36⟩,ka.to [(0,.slice (some ⟨rb,o,none⟩) n c),(1,.slice D m d),(4,.slice none 0 0),(9,.int .i64 (n:Nat)),(10,.int .i64 ((i+1):Nat)),(5,.int .u64 (c24:Nat))] kR⟩
 omega
theorem Tz.le {n k m:Nat}(t:Tz n k m):m≤n:=by rw[t.1];exact Nat.le_mul_of_pos_left m (Nat.two_pow_pos k)
theorem cmpN_cases (a b:Nat):(cmpN a b=0∧a=b)∨(cmpN a b = -1∧a<b)∨(cmpN a b=1∧b<a):=by
  rcases Nat.lt_trichotomy a b with h|h|h
  · exact .inr (.inl ⟨cmpN_lt h,h⟩)
  · exact .inl ⟨cmpN_eq h,h⟩
  · exact .inr (.inr ⟨cmpN_gt h,h⟩)
theorem wCompareW (A:Option Addr)(c:Nat)(D:Option Addr)(d:Nat)(x y n m_:Nat)(lx ly:List Nat)(ex:lx=wds x)(ey:ly=wds y)(hn:lx.length=n)(hm_:ly.length=m_)(hlx:n≤1000000000)(hly:m_≤1000000000)(w:World)(h:Hp)(g:G w h)(hA:SlO 1 u64c 0 h A lx)(hD:SlO 1 u64c 0 h D ly) :
    Calls Tryz.prog 144 #[.slice A n c,.slice D m_ d] w (Ret w h fun v _=>v=.int .i64 (cmpN x y)):=by
  subst ex ey;exact wCompare A c D d x y n m_ hn hm_ oM oM w h g hA hD
theorem wNumW (A:Option Addr)(c:Nat)(l:List Nat)(n x:Nat)(ex:l=wds x)(hn:l.length=n)(hl:n≤1000000000)(w:World)(h:Hp)(g:G w h)(hA:SlO 1 u64c 0 h A l):Calls Tryz.prog 146 #[.slice A n c] w (Ret w h fun v _=>v=nv x):=by
  subst ex
  have:=wNumber A c (wds x) n hn (Wd.wds x) oM w h g hA
  rwa [wval_wds] at this
theorem wSubtW (rb:Nat)(l0:List Nat)(o n c x:Nat)(hl0:l0.length≤1000000000)(hon:o+n≤l0.length)(hnc:n≤c)(hW0:Wd l0)(hwin:win l0 o n=wds x)(D:Option Addr)(d y m:Nat)(ly:List Nat)(ey:ly=wds y)(hm:ly.length=m)(hmd:m≤d)(hyx:y≤x)(w:World)(h:Hp)(g:G w h)(ho:Own w rb 22 (l0.flatMap u64c))(hj:h[rb]?=some junk)(hD:SlO 1 u64c 0 h D ly) :
    Calls Tryz.prog 145 #[.slice (some ⟨rb,o,none⟩) n c,.slice D m d] w (RetM rb w h fun v w' _=>∃ z:List Nat,∃ o' n' c':Nat,v=.slice (some ⟨rb,o',none⟩) n' c'∧z.length=l0.length∧Wd z∧o'+n'≤z.length∧n'≤c'∧win z o' n'=wds (x-y)∧Own w' rb 22 (z.flatMap u64c)):=by
  subst ey;exact wSubt rb l0 o n c x hl0 hon hnc hW0 hwin D d y m hm hmd hyx w h g ho hj hD
theorem wBinary (x y:Nat)(hx:0<x)(hy:0<y)(hlx:(wds x).length≤1000000000)(hly:(wds y).length≤1000000000)(w:World)(h:Hp)(g:G w h)(tb:Tab h) :
    Calls Tryz.prog 119 #[nv x,nv y] w (Ret w h fun v _=>v=nv (Nat.gcd x y)):=by
 have hs:=SS.start g
 replace hs:=(hs.add (K:=fun h_=>Tab h_) tb)
 have hpx:=hx
 have hpy:=hy
 refine go Tryz.func119 [(0,nv x),(1,nv y)] rfl ?_
 refine cSL (lA 2 36 (nc x) hs (fun b1 w2 h3 hs=>?_))
 refine lA 3 36 (nc y) hs (fun b4 w5 h6 hs=>?_)
 refine lA 4 36 ([.int .u64 0,.string ⟨#[]⟩]) hs (fun b7 w8 h9 hs=>?_)
 refine lN (CG.seq ?_)
 obtain ⟨K_,hK_⟩:∃ K_,K_=w8.heap.size:=⟨_,rfl⟩
 have hk_b7:b7<K_:=by rw[hK_];exact zblk hs 0
 have hk_b4:b4<K_:=by rw[hK_];exact zblk hs 1
 have hk_b1:b1<K_:=by rw[hK_];exact zblk hs 2
 refine cRa ⟨[],some (K_,[])⟩ 0 mixed ?_
 have hszK:=hs.g.size
 replace hs:=hs.drew
 have hKl:=Nat.le_of_eq hK_
 refine zO 0 10 [(2,0,2)] (nv x) rfl hKl hs (fun p hp=>by obtain rfl:=List.mem_singleton.1 hp;exact hk_b1) ?_
 refine zO 2 12 [(1,0,2)] (nv y) rfl hKl hs (fun p hp=>by obtain rfl:=List.mem_singleton.1 hp;exact hk_b4) ?_
 refine zCu 1 11 (wWords x oM oM _ _ hs.g) rfl hKl ?_
 rintro _ w10 h11 u12 hKl ⟨bwx,rfl,hlox,hbcx,hslx⟩
 obtain ⟨h13,hs,-,-⟩:=hs.take u12 hlox hbcx
 replace hs:=hs.to [⟨bwx,22,(wds x).flatMap u64c⟩,⟨b7,36,[.int .u64 0,.string ⟨#[]⟩]⟩,⟨b4,36,nc y⟩,⟨b1,36,nc x⟩] []
 refine zCu 3 13 (wWords y oM oM _ _ hs.g) rfl hKl ?_
 rintro _ w14 h15 u16 hKl ⟨bwy,rfl,hloy,hbcy,hsly⟩
 obtain ⟨h17,hs,-,-⟩:=hs.take u16 hloy hbcy
 replace hs:=hs.to [⟨bwy,22,(wds y).flatMap u64c⟩,⟨bwx,22,(wds x).flatMap u64c⟩,⟨b7,36,[.int .u64 0,.string ⟨#[]⟩]⟩,⟨b4,36,nc y⟩,⟨b1,36,nc x⟩] []
 refine zV 4 5 (.slice (some ⟨bwx,0,none⟩) ((wds x).length) ((wds x).length)) ?_
 refine zV 5 6 (.slice (some ⟨bwy,0,none⟩) ((wds y).length) ((wds y).length)) ?_
 refine tNS ?_
 refine lL hs [.m 14 5] (lCl 15 1 hs (fun _ g_ f_ sg_=>wZeros (some ⟨bwx,0,none⟩) (wds x).length (wds x) (wds x).length rfl (Wd.wds x) (by rw[wval_wds];omega) oM _ _ g_ (f_.1) (SlO.of_flat (sz:=1) (f:=u64c) (d:=0) (b:=bwx) (o:=0) (l:=wds x) (fun _=>rfl) sg_)) ?_)
 rintro _ w19 h20 hs ⟨kx,mx,rfl,htx,hkx⟩
 rw[wval_wds] at htx
 refine lL hs [.m 16 6] (lCl 17 0 hs (fun _ g_ f_ sg_=>wZeros (some ⟨bwy,0,none⟩) (wds y).length (wds y) (wds y).length rfl (Wd.wds y) (by rw[wval_wds];omega) oM _ _ g_ (f_.1) (SlO.of_flat (sz:=1) (f:=u64c) (d:=0) (b:=bwy) (o:=0) (l:=wds y) (fun _=>rfl) sg_)) ?_)
 rintro _ w22 h23 hs ⟨ky,my,rfl,hty,hky⟩
 rw[wval_wds] at hty
 refine lV 18 (.int .i64 (min kx ky:Nat)) ?_ (hr:=rint (n:=if ((ky:Nat):Int)<((kx:Nat):Int) then ((ky:Nat):Int) else ((kx:Nat):Int)) kR (by split<;>omega))
 refine lL hs [.m 7 18] (lNS (lL hs [.m 19 5] (lCm 20 (wDown bwx (wds x) 0 ((wds x).length) ((wds x).length) x hpx oM oM (Nat.le_refl _) (Wd.wds x) (win_all _ _ (Nat.le_refl _)) _ _ hs.g (hs.own 1) (hs.jk 1) (hs.f.1)) ?_)))
 rintro _ w25 h26 u27 ⟨z24,o24,n24,c24,rfl,hzl24,hzW24,hzo24,hzc24,⟨kk24,mm24,htt24,hzw24⟩,hO24⟩
 replace hs:=(hs.stepM 1 u27 hO24).to [⟨bwy,22,(wds y).flatMap u64c⟩,⟨bwx,22,(z24).flatMap u64c⟩,⟨b7,36,[.int .u64 0,.string ⟨#[]⟩]⟩,⟨b4,36,nc y⟩,⟨b1,36,nc x⟩] []
 have hmp24:=htt24.odd_pos
 have hle24:=htt24.le
 refine lL hs [.m 21 6] (lCm 22 (wDown bwy (wds y) 0 ((wds y).length) ((wds y).length) y hpy oM oM (Nat.le_refl _) (Wd.wds y) (win_all _ _ (Nat.le_refl _)) _ _ hs.g (hs.own 0) (hs.jk 0) (hs.f.1)) ?_)
 rintro _ w29 h30 u31 ⟨z28,o28,n28,c28,rfl,hzl28,hzW28,hzo28,hzc28,⟨kk28,mm28,htt28,hzw28⟩,hO28⟩
 replace hs:=(hs.stepM 0 u31 hO28).to [⟨bwy,22,(z28).flatMap u64c⟩,⟨bwx,22,(z24).flatMap u64c⟩,⟨b7,36,[.int .u64 0,.string ⟨#[]⟩]⟩,⟨b4,36,nc y⟩,⟨b1,36,nc x⟩] []
 have hmp28:=htt28.odd_pos
 have hle28:=htt28.le
 refine lL hs [.m 5 20,.m 6 22] (lN (CG.seq (CG.block (cTo [(4,.pointer (some ⟨b7,0,none⟩)),(7,.int .i64 (min kx ky:Nat)),(5,.slice (some ⟨bwx,o24,none⟩) n24 c24),(6,.slice (some ⟨bwy,o28,none⟩) n28 c28)] ?_))))
 refine CG.loop (fun μ_ Γ w_=>∃ (pv:Nat) (l1:List Nat) (o1:Nat) (n1:Nat) (c1:Nat) (pw:Nat) (l2:List Nat) (o2:Nat) (n2:Nat) (c2:Nat) (x1:Nat) (y1:Nat) (h_:Hp),μ_=x1+y1∧Γ=[(4,.pointer (some ⟨b7,0,none⟩)),(7,.int .i64 (min kx ky:Nat)),(5,.slice (some ⟨pv,o1,none⟩) n1 c1),(6,.slice (some ⟨pw,o2,none⟩) n2 c2)]∧SS w h w_ h_ [⟨pw,22,(l2).flatMap u64c⟩,⟨pv,22,(l1).flatMap u64c⟩,⟨b7,36,[.int .u64 0,.string ⟨#[]⟩]⟩,⟨b4,36,nc y⟩,⟨b1,36,nc x⟩] [] [fun h_=>Tab h_]∧(l1.length≤1000000000)∧(Wd l1)∧(o1+n1≤l1.length)∧(n1≤c1)∧(win l1 o1 n1=wds x1)∧(0<x1)∧(l2.length≤1000000000)∧(Wd l2)∧(o2+n2≤l2.length)∧(n2≤c2)∧(win l2 o2 n2=wds y1)∧(0<y1)∧(x1%2=1)∧(y1%2=1)∧(Nat.gcd x1 y1*2^min kx ky=Nat.gcd x y)) _ ⟨bwx,z24,o24,n24,c24,bwy,z28,o28,n28,c28,mm24,mm28,h30,rfl,rfl,hs.to _ _,oM,hzW24,hzo24,hzc24,hzw24,hmp24,oM,hzW28,hzo28,hzc28,hzw28,hmp28,htt24.2,htt28.2,(by rw[(htx.uniq htt24).1,(hty.uniq htt28).1];exact (gcd_twos htt24 htt28).symm)⟩ ?_
 rintro _ _ w32 ⟨pv,l1,o1,n1,c1,pw,l2,o2,n2,c2,x1,y1,h33,hm34,rfl,hs,hl1,hW1,hon1,hnc1,hwin1,hx1,hl2,hW2,hon2,hnc2,hwin2,hy1,hxo,hyo,hG⟩
 have hcmp:=cmpN_cases x1 y1
 have hwl1:=congrArg List.length hwin1
 rw[win_len hon1] at hwl1
 have hwl2:=congrArg List.length hwin2
 rw[win_len hon2] at hwl2
 refine CG.block (cSL (lL hs [.m 23 5,.m 24 6] (lCl2 25 1 0 hs (fun _ g_ f_ sg_ sh_=>wCompareW (some ⟨pv,o1,none⟩) c1 (some ⟨pw,o2,none⟩) c2 x1 y1 n1 n2 (win l1 o1 n1) (win l2 o2 n2) hwin1 hwin2 (win_len hon1) (win_len hon2) oM oM _ _ g_ (SlO.win (f:=u64c) (d:=0) (b:=pv) (l:=l1) (fun _=>rfl) sg_ o1 n1) (SlO.win (f:=u64c) (d:=0) (b:=pw) (l:=l2) (fun _=>rfl) sh_ o2 n2)) ?_)))
 rintro _ w36 h37 hs rfl
 refine lL hs [.m 8 25] (lN (CG.seq (cSL (lL hs [.m 26 8] ?_))))
 cases hb39:((cmpN x1 y1:Int) == (0:Int))
 ·
  have phb39:=neOfBeq hb39
  refine lB 27 hb39 ?_
  refine lN (cIF (CG.skipN (CG.seq (cSL (lL hs [.m 28 8] ?_)))))
  cases hb40:(decide ((cmpN x1 y1:Int)<(0:Int)))
  ·
   have phb40:=oF hb40
   refine lB 29 hb40 ?_
   refine lN (cIF (CG.skipN (CG.listed (lL hs [.m 32 5,.m 33 6] (lCml 34 1 0 hs (fun _ g_ f_ hj_ sh_=>wSubtW pv l1 o1 n1 c1 x1 oM hon1 hnc1 hW1 hwin1 (some ⟨pw,o2,none⟩) c2 y1 n2 (win l2 o2 n2) hwin2 (win_len hon2) hnc2 oM _ _ g_ (hs.own 1) hj_ (SlO.win (f:=u64c) (d:=0) (b:=pw) (l:=l2) (fun _=>rfl) sh_ o2 n2)) ?_)))))
   rintro _ w42 h43 u44 ⟨s41,so41,sn41,sc41,rfl,hsl41,hsW41,hso41,hsc41,hsw41,hS41⟩
   replace hs:=(hs.stepM 1 u44 hS41).to [⟨pw,22,(l2).flatMap u64c⟩,⟨pv,22,(s41).flatMap u64c⟩,⟨b7,36,[.int .u64 0,.string ⟨#[]⟩]⟩,⟨b4,36,nc y⟩,⟨b1,36,nc x⟩] []
   refine lCm 35 (wDown pv s41 so41 sn41 sc41 (x1-y1) oM oM hso41 hsc41 hsW41 hsw41 _ _ hs.g (hs.own 1) (hs.jk 1) (hs.f.1)) ?_
   rintro _ w46 h47 u48 ⟨z45,o45,n45,c45,rfl,hzl45,hzW45,hzo45,hzc45,⟨kk45,mm45,htt45,hzw45⟩,hO45⟩
   replace hs:=(hs.stepM 1 u48 hO45).to [⟨pw,22,(l2).flatMap u64c⟩,⟨pv,22,(z45).flatMap u64c⟩,⟨b7,36,[.int .u64 0,.string ⟨#[]⟩]⟩,⟨b4,36,nc y⟩,⟨b1,36,nc x⟩] []
   have hmp45:=htt45.odd_pos
   have hle45:=htt45.le
   refine lL hs [.m 5 35] (lD ?_)
   intro a_ ka
   have q49:z45.length≤1000000000:=oM
   have q50:Wd z45:=hzW45
   have q51:o45+n45≤z45.length:=hzo45
   have q52:n45≤c45:=hzc45
   have q53:win z45 o45 n45=wds mm45:=hzw45
   have q54:0<mm45:=hmp45
   have q55:l2.length≤1000000000:=oM
   have q56:Wd l2:=hW2
   have q57:o2+n2≤l2.length:=hon2
   have q58:n2≤c2:=hnc2
   have q59:win l2 o2 n2=wds y1:=hwin2
   have q60:0<y1:=hy1
   have q61:mm45%2=1:=htt45.2
   have q62:y1%2=1:=hyo
   have q63:Nat.gcd mm45 y1*2^min kx ky=Nat.gcd x y:=(by rw[gcd_sub oM hyo htt45];exact hG)
   refine ⟨_,_,?_,⟨pv,z45,o45,n45,c45,pw,l2,o2,n2,c2,mm45,y1,h47,rfl,rfl,hs.to _ _,q49,q50,q51,q52,q53,q54,q55,q56,q57,q58,q59,q60,q61,q62,q63⟩,ka.to [(4,.pointer (some ⟨b7,0,none⟩)),(7,.int .i64 (min kx ky:Nat)),(5,.slice (some ⟨pv,o45,none⟩) n45 c45),(6,.slice (some ⟨pw,o2,none⟩) n2 c2)] kR⟩
   omega
  have phb40:=oT hb40
  refine lB 29 hb40 ?_
  refine lN (cIT (CG.listed (lL hs [.m 30 6,.m 31 5,.m 5 30,.m 6 31] (lN (CG.listed (lL hs [.m 32 5,.m 33 6] (lCml 34 0 1 hs (fun _ g_ f_ hj_ sh_=>wSubtW pw l2 o2 n2 c2 y1 oM hon2 hnc2 hW2 hwin2 (some ⟨pv,o1,none⟩) c1 x1 n1 (win l1 o1 n1) hwin1 (win_len hon1) hnc1 oM _ _ g_ (hs.own 0) hj_ (SlO.win (f:=u64c) (d:=0) (b:=pv) (l:=l1) (fun _=>rfl) sh_ o1 n1)) ?_)))))))
  rintro _ w65 h66 u67 ⟨s64,so64,sn64,sc64,rfl,hsl64,hsW64,hso64,hsc64,hsw64,hS64⟩
  replace hs:=(hs.stepM 0 u67 hS64).to [⟨pw,22,(s64).flatMap u64c⟩,⟨pv,22,(l1).flatMap u64c⟩,⟨b7,36,[.int .u64 0,.string ⟨#[]⟩]⟩,⟨b4,36,nc y⟩,⟨b1,36,nc x⟩] []
  refine lCm 35 (wDown pw s64 so64 sn64 sc64 (y1-x1) oM oM hso64 hsc64 hsW64 hsw64 _ _ hs.g (hs.own 0) (hs.jk 0) (hs.f.1)) ?_
  rintro _ w69 h70 u71 ⟨z68,o68,n68,c68,rfl,hzl68,hzW68,hzo68,hzc68,⟨kk68,mm68,htt68,hzw68⟩,hO68⟩
  replace hs:=(hs.stepM 0 u71 hO68).to [⟨pw,22,(z68).flatMap u64c⟩,⟨pv,22,(l1).flatMap u64c⟩,⟨b7,36,[.int .u64 0,.string ⟨#[]⟩]⟩,⟨b4,36,nc y⟩,⟨b1,36,nc x⟩] []
  have hmp68:=htt68.odd_pos
  have hle68:=htt68.le
  refine lL hs [.m 5 35] (lD ?_)
  replace hs:=hs.perm (List.Perm.swap _ _ _)
  intro a_ ka
  have q72:z68.length≤1000000000:=oM
  have q73:Wd z68:=hzW68
  have q74:o68+n68≤z68.length:=hzo68
  have q75:n68≤c68:=hzc68
  have q76:win z68 o68 n68=wds mm68:=hzw68
  have q77:0<mm68:=hmp68
  have q78:l1.length≤1000000000:=oM
  have q79:Wd l1:=hW1
  have q80:o1+n1≤l1.length:=hon1
  have q81:n1≤c1:=hnc1
  have q82:win l1 o1 n1=wds x1:=hwin1
  have q83:0<x1:=hx1
  have q84:mm68%2=1:=htt68.2
  have q85:x1%2=1:=hxo
  have q86:Nat.gcd mm68 x1*2^min kx ky=Nat.gcd x y:=(by rw[gcd_sub oM hxo htt68,Nat.gcd_comm];exact hG)
  refine ⟨_,_,?_,⟨pw,z68,o68,n68,c68,pv,l1,o1,n1,c1,mm68,x1,h70,rfl,rfl,hs.to _ _,q72,q73,q74,q75,q76,q77,q78,q79,q80,q81,q82,q83,q84,q85,q86⟩,ka.to [(4,.pointer (some ⟨b7,0,none⟩)),(7,.int .i64 (min kx ky:Nat)),(5,.slice (some ⟨pw,o68,none⟩) n68 c68),(6,.slice (some ⟨pv,o1,none⟩) n1 c1)] kR⟩
  omega
 have phb39:=eq_of_beq hb39
 refine lB 27 hb39 ?_
 refine lN (cIT (CG.exit ?_))
 show CG _ _ _ _ _ _ _ _
 refine cSL (lL hs [.m 36 5] (lCl 37 1 hs (fun _ g_ f_ sg_=>wNumW (some ⟨pv,o1,none⟩) c1 (win l1 o1 n1) n1 x1 hwin1 (win_len hon1) oM _ _ g_ (SlO.win (f:=u64c) (d:=0) (b:=pv) (l:=l1) (fun _=>rfl) sg_ o1 n1)) ?_))
 rintro _ w88 h89 hs rfl
 refine lA 9 36 ([.int .u64 0,.string ⟨#[]⟩]) hs (fun b91 w92 h93 hs=>?_)
 refine lP 0 0 (nc x1) hs (fun w94 hs=>?_)
 refine lN (CG.seq (CG.block (cTo [(4,.pointer (some ⟨b7,0,none⟩)),(9,.pointer (some ⟨b91,0,none⟩)),(7,.int .i64 (min kx ky:Nat))] ?_)))
 refine CG.loop (fun μ_ Γ w_=>∃ (z:Int) (a:Nat) (h_:Hp),μ_=z.toNat∧Γ=[(4,.pointer (some ⟨b7,0,none⟩)),(9,.pointer (some ⟨b91,0,none⟩)),(7,.int .i64 z)]∧SS w h w_ h_ [⟨b91,36,nc a⟩,⟨pw,22,(l2).flatMap u64c⟩,⟨pv,22,(l1).flatMap u64c⟩,⟨b7,36,[.int .u64 0,.string ⟨#[]⟩]⟩,⟨b4,36,nc y⟩,⟨b1,36,nc x⟩] [] [fun h_=>Tab h_]∧(z≤64000000000)∧(a*2^z.toNat=Nat.gcd x y)) _ ⟨((min kx ky:Nat):Int),x1,h93,rfl,rfl,hs.to _ _,oM,(by rw[show x1=y1 by omega,Nat.gcd_self] at hG;rw[show x1=y1 by omega];rw[show (((min kx ky:Nat):Int)).toNat=min kx ky by omega];exact hG)⟩ ?_
 rintro _ _ w95 ⟨z,a,h96,hm97,rfl,hs,hz,ha⟩
 refine CG.seq (cSL (lL hs [.m 38 7] ?_))
 cases hb98:(decide ((0:Int)<(z:Int)))
 ·
  have phb98:=oF hb98
  refine lB 39 hb98 ?_
  refine lN (cIF (CG.exit ?_))
  show CG _ _ _ _ _ _ _ _
  refine cSL (lL hs [.o 46 (nv a) 0 0 2] (lP 3 0 (nc a) hs (fun w99 hs=>?_)))
  exact lN (CG.ret (hs.ret [(3,0,2)] (nv a) (by rw[show z.toNat=0 by omega,Nat.pow_zero,Nat.mul_one] at ha;rw[ha])))
 have phb98:=oT hb98
 refine lB 39 hb98 ?_
 refine lN (cIT (CG.skipN (CG.seq (CG.block (CG.listed (lL hs [.o 42 (nv a) 0 0 2,.m 43 7] (lV 44 (.int .i64 (min z.toNat 65536:Nat)) ?_ (hr:=rint (n:=if (65536:Int)<z then (65536:Int) else z) kR (by split<;>omega)))))))))
 refine lC 45 hs (nShift a (min z.toNat 65536) (by have:=wds_len_mono (show a≤x by exact Nat.le_trans (Nat.le_mul_of_pos_right a (Nat.two_pow_pos z.toNat)) (by rw[ha];exact Nat.gcd_le_left y hx));omega) oM _ _ hs.g) ?_
 rintro _ w100 h101 hs rfl
 refine lP 0 0 (nc (a*2^min z.toNat 65536)) hs (fun w102 hs=>?_)
 refine lN (CG.listed (lL hs [.m 40 7] (lI 41 (z-65536) ?_)))
 refine lL hs [.m 7 41] (lD ?_)
 intro a_ ka
 have q103:(z-65536)≤64000000000:=oM
 have q104:(a*2^min z.toNat 65536)*2^(z-65536).toNat=Nat.gcd x y:=(by rw[Nat.mul_assoc,←Nat.pow_add,show min z.toNat 65536+(z-65536).toNat=z.toNat by omega];exact ha)
 refine ⟨_,_,?_,⟨z-65536,a*2^min z.toNat 65536,h101,rfl,rfl,hs.to _ _,q103,q104⟩,ka.to [(4,.pointer (some ⟨b7,0,none⟩)),(9,.pointer (some ⟨b91,0,none⟩)),(7,.int .i64 (z-65536))] kR⟩
 omega
theorem nb_cases (n:Nat):(n=0∧nb n=0)∨(0<n∧0<nb n):=by
  rcases Nat.eq_zero_or_pos n with h|h
  · subst h;exact .inl ⟨rfl,rfl⟩
  · exact .inr ⟨h,(nb_spec h).2.2⟩
theorem gcd_mod_swap (x y:Nat):Nat.gcd y (x%y)=Nat.gcd x y:=by rw[Nat.gcd_comm y,←Nat.gcd_rec,Nat.gcd_comm]
theorem nSmall (n:Nat)(w:World)(h:Hp)(g:G w h):Calls Tryz.prog 118 #[nv n] w (Ret w h fun v _=>∃ s:Nat,∃ ok:Bool,v=.tuple #[.int .u64 (s:Nat),.bool ok]∧(ok=true→s=n∧n<18446744073709551616)):=by
  rcases Nat.lt_or_ge n 18446744073709551616 with hn|hn
  · refine (nSmallS n hn w h g).mono ?_
    rintro _ w' ⟨_,h',rfl,u,rfl⟩
    exact ⟨_,h',rfl,u,n,true,rfl,fun _=>⟨rfl,hn⟩⟩
  · refine (nSmallB n hn w h g).mono ?_
    rintro _ w' ⟨_,h',rfl,u,rfl⟩
    exact ⟨_,h',rfl,u,0,false,rfl,fun e=>by cases e⟩
theorem wGcd (a b:Int)(hla:(wds (iabs a)).length≤1000000000)(hlb:(wds (iabs b)).length≤1000000000)(w:World)(h:Hp)(g:G w h)(tb:Tab h) :
    Calls Tryz.prog 91 #[iv a,iv b] w (Ret w h fun v _=>v=nv (Nat.gcd (iabs a) (iabs b))):=by
 have hs:=SS.start g
 replace hs:=(hs.add (K:=fun h_=>Tab h_) tb)
 refine go Tryz.func91 [(0,iv a),(1,iv b)] rfl ?_
 refine cSL (lA 2 38 (ic a) hs (fun b1 w2 h3 hs=>?_))
 refine lA 3 38 (ic b) hs (fun b4 w5 h6 hs=>?_)
 refine lA 4 36 ([.int .u64 0,.string ⟨#[]⟩]) hs (fun b7 w8 h9 hs=>?_)
 refine lN (CG.seq ?_)
 have hsr:=hs
 refine cRz 6 [⟨4,5,.cells (List.toArray [.int .u64 0,.string ⟨#[]⟩]) 36 (0,0)⟩,⟨5,6,.cells (List.toArray [.int .u64 0,.string ⟨#[]⟩]) 36 (0,0)⟩] [] mixed hs (al_cons (alOk kR (fun _ _=>by kernel_rfl)) (al_cons (alOk kR (fun _ _=>by kernel_rfl)) al_nil)) ?_
 refine eV 0 14 (.pointer (some ⟨b1,1,none⟩)) ?_
 refine eO 1 15 [(2,1,2)] (nv (iabs a)) hs ?_
 refine eV 2 16 (.pointer (some ⟨b4,1,none⟩)) ?_
 refine eOz 3 17 [(1,1,2)] (nv (iabs b)) hsr hs ?_
 refine eD2z hsr hs 36 [.int .u64 0,.string ⟨#[]⟩] 36 [.int .u64 0,.string ⟨#[]⟩] (fun w10 h11 b12 b13 hz14 hz15 hs=>?_)
 refine tP 6 0 0 (nc (iabs a)) hs (fun w16 hs=>?_) (hz:=tlz_new hz14)
 refine tP 7 1 0 (nc (iabs b)) hs (fun w17 hs=>?_) (hz:=tlz_new hz15)
 refine tN (CG.seq (cSL (lL hs [.o 18 (nv (iabs a)) 0 0 2,.o 19 (nv (iabs b)) 1 0 2] (lC 20 hs (nCmp (iabs a) (iabs b) aM aM _ _ hs.g) ?_))))
 rintro _ w18 h19 hs rfl
 have hcm:=cmpN_cases (iabs a) (iabs b)
 cases hb20:(decide ((cmpN (iabs a) (iabs b):Int)<(0:Int)))
 ·
  have phb20:=oF hb20
  refine lB 21 hb20 ?_
  refine lN (cIF (CG.skipN (CG.seq (cSL ?_))))
  have hgc:Nat.gcd (iabs a) (iabs b)=Nat.gcd (iabs a) (iabs b):=by first|rfl|exact Nat.gcd_comm _ _
  refine lL hs [.o 24 (nv (iabs b)) 1 0 2] (lC 25 hs (nBits (iabs b) (by first|assumption|exact wds_len_le (Nat.le_of_lt (Nat.mod_lt _ oM)) aM) _ _ hs.g) ?_)
  rintro _ w21 h22 hs rfl
  have hnb4:=nb_cases (iabs b)
  cases hb23:(((nb (iabs b):Nat):Int) == (0:Int))
  ·
   have phb23:=neOfBeq hb23
   refine lB 26 hb23 ?_
   refine lN (cIF (CG.skipN (cSL (lL hs [.o 29 (nv (iabs a)) 0 0 2,.o 30 (nv (iabs b)) 1 0 2] (lC 31 hs (nDiv (iabs a) (iabs b) oM aM aM _ _ hs.g) ?_)))))
   rintro _ w24 h25 hs rfl
   have hmd:=Nat.mod_lt (iabs a) (show 0<(iabs b) by omega)
   refine lL hs [.m 28 31,.v 32 (nv ((iabs a)/(iabs b))),.v 33 (nv ((iabs a)%(iabs b))),.v 34 (.bool true)] (lA 7 36 ([.int .u64 0,.string ⟨#[]⟩]) hs (fun b26 w27 h28 hs=>?_))
   refine lA 8 36 ([.int .u64 0,.string ⟨#[]⟩]) hs (fun b29 w30 h31 hs=>?_)
   refine lP 1 0 (nc ((iabs a)/(iabs b))) hs (fun w32 hs=>?_)
   refine lP 0 0 (nc ((iabs a)%(iabs b))) hs (fun w33 hs=>?_)
   refine lL hs [.m 9 34] (lN (CG.seq ?_))
   have hsr:=hs
   refine cRz 2 [] [b12,b13] mixed hs al_nil ?_
   refine eO 0 35 [(3,0,2)] (nv (iabs b)) hs ?_
   refine eOz 1 36 [(0,0,2)] (nv ((iabs a)%(iabs b))) hsr hs ?_ (hM:=fun p hp=>by obtain rfl:=List.mem_singleton.1 hp;exact fun hm=>by rcases List.mem_cons.1 hm with e|hm;exact bx_ne hs.st (i:=0) (j:=2) kR kR kR e;rcases List.mem_cons.1 hm with e|hm;exact bx_ne hs.st (i:=0) (j:=3) kR kR kR e;cases hm)
   refine eD0 hs (fun w34 h35 hs=>?_)
   refine tP 2 2 0 (nc (iabs b)) hs (fun w36 hs=>?_) (hz:=tlz_mem (List.mem_cons_self))
   refine tP 3 3 0 (nc ((iabs a)%(iabs b))) hs (fun w37 hs=>?_) (hz:=tlz_mem (List.mem_cons_of_mem _<|List.mem_cons_self))
   refine tN (CG.seq (cSL ?_))
   have hg2:Nat.gcd (iabs b) ((iabs a)%(iabs b))=Nat.gcd (iabs a) (iabs b):=by rw[←hgc];exact gcd_mod_swap _ _
   refine lL hs [.o 37 (nv ((iabs a)%(iabs b))) 3 0 2] (lC 38 hs (nBits ((iabs a)%(iabs b)) (by first|assumption|exact wds_len_le (Nat.le_of_lt (Nat.mod_lt _ oM)) aM) _ _ hs.g) ?_)
   rintro _ w38 h39 hs rfl
   have hnb8:=nb_cases ((iabs a)%(iabs b))
   cases hb40:(((nb ((iabs a)%(iabs b)):Nat):Int) == (0:Int))
   ·
    have phb40:=neOfBeq hb40
    refine lB 39 hb40 ?_
    refine lN (cIF (CG.skipN (CG.seq (cSL (lL hs [.o 42 (nv (iabs b)) 2 0 2] (lC 43 hs (nSmall (iabs b) _ _ hs.g) ?_))))))
    rintro _ w41 h42 hs ⟨sp,ok,rfl,hok⟩
    refine lL hs [.m 41 43,.v 44 (.int .u64 (sp:Nat)),.v 45 (.bool ok),.m 10 44,.m 11 45] (lNS (lL hs [.m 46 11] (lN (cTo [(4,.pointer (some ⟨b7,0,none⟩)),(6,.pointer (some ⟨b13,0,none⟩)),(5,.pointer (some ⟨b12,0,none⟩)),(10,.int .u64 (sp:Nat)),(46,.bool ok)] ?_))))
    cases hb43:(ok)
    ·
     try rw[hb43] at hs
     try rw[hb43]
     refine cIF (CG.skipN (cSL (lL hs [.o 60 (nv (iabs b)) 2 0 2,.o 61 (nv ((iabs a)%(iabs b))) 3 0 2] (lC 62 hs (wBinary (iabs b) ((iabs a)%(iabs b)) oM oM (by first|assumption|exact wds_len_le (Nat.le_of_lt (Nat.mod_lt _ oM)) aM) (by first|assumption|exact wds_len_le (Nat.le_of_lt (Nat.mod_lt _ oM)) aM) _ _ hs.g (hs.f.1)) ?_))))
     rintro _ w44 h45 hs rfl
     refine lP 4 0 (nc (Nat.gcd (iabs b) ((iabs a)%(iabs b)))) hs (fun w46 hs=>?_)
     exact lN (CG.ret (hs.ret [(4,0,2)] (nv (Nat.gcd (iabs b) ((iabs a)%(iabs b)))) (congrArg nv hg2)))
    try rw[hb43] at hs
    try rw[hb43]
    refine cIT (cSL (lL hs [.o 48 (nv ((iabs a)%(iabs b))) 3 0 2] (lC 49 hs (nSmallS ((iabs a)%(iabs b)) (by have hok_:=hok aM;omega) _ _ hs.g) ?_)))
    rintro _ w47 h48 hs rfl
    refine lL hs [.m 47 49,.v 50 (.int .u64 (((iabs a)%(iabs b)):Nat)),.v 51 (.bool true),.m 12 50,.m 13 51] (lN (CG.seq (CG.block (cTo [(4,.pointer (some ⟨b7,0,none⟩)),(6,.pointer (some ⟨b13,0,none⟩)),(5,.pointer (some ⟨b12,0,none⟩)),(10,.int .u64 (sp:Nat)),(12,.int .u64 (((iabs a)%(iabs b)):Nat))] ?_))))
    refine CG.loop (fun μ_ Γ w_=>∃ (p:Nat) (q:Nat) (h_:Hp),μ_=q∧Γ=[(4,.pointer (some ⟨b7,0,none⟩)),(6,.pointer (some ⟨b13,0,none⟩)),(5,.pointer (some ⟨b12,0,none⟩)),(10,.int .u64 (p:Nat)),(12,.int .u64 (q:Nat))]∧SS w h w_ h_ [⟨b29,36,nc ((iabs a)%(iabs b))⟩,⟨b26,36,nc ((iabs a)/(iabs b))⟩,⟨b12,36,nc (iabs b)⟩,⟨b13,36,nc ((iabs a)%(iabs b))⟩,⟨b7,36,[.int .u64 0,.string ⟨#[]⟩]⟩,⟨b4,38,ic b⟩,⟨b1,38,ic a⟩] [] [fun h_=>Tab h_]∧(p<18446744073709551616)∧(q<18446744073709551616)∧(Nat.gcd p q=Nat.gcd (iabs a) (iabs b))) _ ⟨sp,((iabs a)%(iabs b)),h48,rfl,rfl,hs.to _ _,(by have hok_:=hok aM;omega),(by have hok_:=hok aM;omega),(by rw[(hok aM).1];exact hg2)⟩ ?_
    rintro _ _ w49 ⟨p,q,h50,hm51,rfl,hs,hp,hq,hG⟩
    refine CG.seq (cSL (lL hs [.m 52 12] ?_))
    cases hb52:(decide ((0:Int)<((q:Nat):Int)))
    ·
     have phb52:=oF hb52
     refine lB 53 hb52 ?_
     refine lN (cIF (CG.exit ?_))
     show CG _ _ _ _ _ _ _ _
     refine cSL (lL hs [.m 58 10] (lC 59 hs (nOf p hp _ _ hs.g) ?_))
     rintro _ w53 h54 hs rfl
     refine lP 4 0 (nc p) hs (fun w55 hs=>?_)
     exact lN (CG.ret (hs.ret [(4,0,2)] (nv p) (congrArg nv (by rw[←hG,show q=0 by omega,Nat.gcd_zero_right]))))
    have phb52:=oT hb52
    refine lB 53 hb52 ?_
    refine lN (cIT (CG.skipN (CG.block (cR 4 [] mixed hs al_nil ?_))))
    refine eV 0 54 (.int .u64 (q:Nat)) ?_
    refine eV 1 55 (.int .u64 (p:Nat)) ?_
    refine eV 2 56 (.int .u64 (q:Nat)) ?_
    refine eV 3 57 (.int .u64 (p%q:Nat)) ?_ (hv:=fun _=>rint (opRem (t:=22) (u:=22) (x:=.tmp 55) (y:=.tmp 56) (k:=.u64) (a:=((p:Nat):Int)) (b:=((q:Nat):Int)) kR kR kR oM _) (tmodNat p q))
    refine eD0 hs (fun w56 h57 hs=>?_)
    refine tV 4 10 (.int .u64 (q:Nat)) ?_
    refine tV 5 12 (.int .u64 (p%q:Nat)) ?_
    refine tD ?_
    intro a_ ka
    have q58:q<18446744073709551616:=hq
    have q59:(p%q)<18446744073709551616:=(by have:=Nat.mod_lt p (show 0<q by omega);omega)
    have q60:Nat.gcd q (p%q)=Nat.gcd (iabs a) (iabs b):=(by rw[gcd_mod_swap];exact hG)
    refine ⟨_,_,?_,⟨q,p%q,h57,rfl,rfl,hs.to _ _,q58,q59,q60⟩,ka.to [(4,.pointer (some ⟨b7,0,none⟩)),(6,.pointer (some ⟨b13,0,none⟩)),(5,.pointer (some ⟨b12,0,none⟩)),(10,.int .u64 (q:Nat)),(12,.int .u64 ((p%q):Nat))] kR⟩
    have hmq_:=Nat.mod_lt p (show 0<q by omega)
    omega
   have phb40:=eq_of_beq hb40
   refine lB 39 hb40 ?_
   refine lN (cIT (cSL (lL hs [.o 40 (nv (iabs b)) 2 0 2] (lP 4 0 (nc (iabs b)) hs (fun w61 hs=>?_)))))
   exact lN (CG.ret (hs.ret [(4,0,2)] (nv (iabs b)) (congrArg nv (by rw[←hg2,show ((iabs a)%(iabs b))=0 by omega,Nat.gcd_zero_right]))))
  have phb23:=eq_of_beq hb23
  refine lB 26 hb23 ?_
  refine lN (cIT (cSL (lL hs [.o 27 (nv (iabs a)) 0 0 2] (lP 2 0 (nc (iabs a)) hs (fun w62 hs=>?_)))))
  exact lN (CG.ret (hs.ret [(2,0,2)] (nv (iabs a)) (congrArg nv (by rw[←hgc,show (iabs b)=0 by omega,Nat.gcd_zero_right]))))
 have phb20:=oT hb20
 refine lB 21 hb20 ?_
 refine lN (cIT (CG.listed (lL hs [.o 22 (nv (iabs b)) 1 0 2,.o 23 (nv (iabs a)) 0 0 2] (lP 0 0 (nc (iabs b)) hs (fun w63 hs=>?_)))))
 refine lP 1 0 (nc (iabs a)) hs (fun w64 hs=>?_)
 refine lN (CG.seq (cSL ?_))
 have hgc:Nat.gcd (iabs b) (iabs a)=Nat.gcd (iabs a) (iabs b):=by first|rfl|exact Nat.gcd_comm _ _
 refine lL hs [.o 24 (nv (iabs a)) 1 0 2] (lC 25 hs (nBits (iabs a) (by first|assumption|exact wds_len_le (Nat.le_of_lt (Nat.mod_lt _ oM)) aM) _ _ hs.g) ?_)
 rintro _ w65 h66 hs rfl
 have hnb4:=nb_cases (iabs a)
 cases hb67:(((nb (iabs a):Nat):Int) == (0:Int))
 ·
  have phb67:=neOfBeq hb67
  refine lB 26 hb67 ?_
  refine lN (cIF (CG.skipN (cSL (lL hs [.o 29 (nv (iabs b)) 0 0 2,.o 30 (nv (iabs a)) 1 0 2] (lC 31 hs (nDiv (iabs b) (iabs a) oM aM aM _ _ hs.g) ?_)))))
  rintro _ w68 h69 hs rfl
  have hmd:=Nat.mod_lt (iabs b) (show 0<(iabs a) by omega)
  refine lL hs [.m 28 31,.v 32 (nv ((iabs b)/(iabs a))),.v 33 (nv ((iabs b)%(iabs a))),.v 34 (.bool true)] (lA 7 36 ([.int .u64 0,.string ⟨#[]⟩]) hs (fun b70 w71 h72 hs=>?_))
  refine lA 8 36 ([.int .u64 0,.string ⟨#[]⟩]) hs (fun b73 w74 h75 hs=>?_)
  refine lP 1 0 (nc ((iabs b)/(iabs a))) hs (fun w76 hs=>?_)
  refine lP 0 0 (nc ((iabs b)%(iabs a))) hs (fun w77 hs=>?_)
  refine lL hs [.m 9 34] (lN (CG.seq ?_))
  have hsr:=hs
  refine cRz 2 [] [b12,b13] mixed hs al_nil ?_
  refine eO 0 35 [(3,0,2)] (nv (iabs a)) hs ?_
  refine eOz 1 36 [(0,0,2)] (nv ((iabs b)%(iabs a))) hsr hs ?_ (hM:=fun p hp=>by obtain rfl:=List.mem_singleton.1 hp;exact fun hm=>by rcases List.mem_cons.1 hm with e|hm;exact bx_ne hs.st (i:=0) (j:=2) kR kR kR e;rcases List.mem_cons.1 hm with e|hm;exact bx_ne hs.st (i:=0) (j:=3) kR kR kR e;cases hm)
  refine eD0 hs (fun w78 h79 hs=>?_)
  refine tP 2 2 0 (nc (iabs a)) hs (fun w80 hs=>?_) (hz:=tlz_mem (List.mem_cons_self))
  refine tP 3 3 0 (nc ((iabs b)%(iabs a))) hs (fun w81 hs=>?_) (hz:=tlz_mem (List.mem_cons_of_mem _<|List.mem_cons_self))
  refine tN (CG.seq (cSL ?_))
  have hg2:Nat.gcd (iabs a) ((iabs b)%(iabs a))=Nat.gcd (iabs a) (iabs b):=by rw[←hgc];exact gcd_mod_swap _ _
  refine lL hs [.o 37 (nv ((iabs b)%(iabs a))) 3 0 2] (lC 38 hs (nBits ((iabs b)%(iabs a)) (by first|assumption|exact wds_len_le (Nat.le_of_lt (Nat.mod_lt _ oM)) aM) _ _ hs.g) ?_)
  rintro _ w82 h83 hs rfl
  have hnb8:=nb_cases ((iabs b)%(iabs a))
  cases hb84:(((nb ((iabs b)%(iabs a)):Nat):Int) == (0:Int))
  ·
   have phb84:=neOfBeq hb84
   refine lB 39 hb84 ?_
   refine lN (cIF (CG.skipN (CG.seq (cSL (lL hs [.o 42 (nv (iabs a)) 2 0 2] (lC 43 hs (nSmall (iabs a) _ _ hs.g) ?_))))))
   rintro _ w85 h86 hs ⟨sp,ok,rfl,hok⟩
   refine lL hs [.m 41 43,.v 44 (.int .u64 (sp:Nat)),.v 45 (.bool ok),.m 10 44,.m 11 45] (lN (cTo [(4,.pointer (some ⟨b7,0,none⟩)),(6,.pointer (some ⟨b13,0,none⟩)),(5,.pointer (some ⟨b12,0,none⟩)),(10,.int .u64 (sp:Nat)),(11,.bool ok)] ?_))
   refine cSL (lL hs [.m 46 11] (lN ?_))
   cases hb87:(ok)
   ·
    try rw[hb87] at hs
    try rw[hb87]
    refine cIF (CG.skipN (cSL (lL hs [.o 60 (nv (iabs a)) 2 0 2,.o 61 (nv ((iabs b)%(iabs a))) 3 0 2] (lC 62 hs (wBinary (iabs a) ((iabs b)%(iabs a)) oM oM (by first|assumption|exact wds_len_le (Nat.le_of_lt (Nat.mod_lt _ oM)) aM) (by first|assumption|exact wds_len_le (Nat.le_of_lt (Nat.mod_lt _ oM)) aM) _ _ hs.g (hs.f.1)) ?_))))
    rintro _ w88 h89 hs rfl
    refine lP 4 0 (nc (Nat.gcd (iabs a) ((iabs b)%(iabs a)))) hs (fun w90 hs=>?_)
    exact lN (CG.ret (hs.ret [(4,0,2)] (nv (Nat.gcd (iabs a) ((iabs b)%(iabs a)))) (congrArg nv hg2)))
   try rw[hb87] at hs
   try rw[hb87]
   refine cIT (cSL (lL hs [.o 48 (nv ((iabs b)%(iabs a))) 3 0 2] (lC 49 hs (nSmallS ((iabs b)%(iabs a)) (by have hok_:=hok aM;omega) _ _ hs.g) ?_)))
   rintro _ w91 h92 hs rfl
   refine lL hs [.m 47 49,.v 50 (.int .u64 (((iabs b)%(iabs a)):Nat)),.v 51 (.bool true),.m 12 50,.m 13 51] (lN (CG.seq (CG.block (cTo [(4,.pointer (some ⟨b7,0,none⟩)),(6,.pointer (some ⟨b13,0,none⟩)),(5,.pointer (some ⟨b12,0,none⟩)),(10,.int .u64 (sp:Nat)),(12,.int .u64 (((iabs b)%(iabs a)):Nat))] ?_))))
   refine CG.loop (fun μ_ Γ w_=>∃ (p:Nat) (q:Nat) (h_:Hp),μ_=q∧Γ=[(4,.pointer (some ⟨b7,0,none⟩)),(6,.pointer (some ⟨b13,0,none⟩)),(5,.pointer (some ⟨b12,0,none⟩)),(10,.int .u64 (p:Nat)),(12,.int .u64 (q:Nat))]∧SS w h w_ h_ [⟨b73,36,nc ((iabs b)%(iabs a))⟩,⟨b70,36,nc ((iabs b)/(iabs a))⟩,⟨b12,36,nc (iabs a)⟩,⟨b13,36,nc ((iabs b)%(iabs a))⟩,⟨b7,36,[.int .u64 0,.string ⟨#[]⟩]⟩,⟨b4,38,ic b⟩,⟨b1,38,ic a⟩] [] [fun h_=>Tab h_]∧(p<18446744073709551616)∧(q<18446744073709551616)∧(Nat.gcd p q=Nat.gcd (iabs a) (iabs b))) _ ⟨sp,((iabs b)%(iabs a)),h92,rfl,rfl,hs.to _ _,(by have hok_:=hok aM;omega),(by have hok_:=hok aM;omega),(by rw[(hok aM).1];exact hg2)⟩ ?_
   rintro _ _ w93 ⟨p,q,h94,hm95,rfl,hs,hp,hq,hG⟩
   refine CG.seq (cSL (lL hs [.m 52 12] ?_))
   cases hb96:(decide ((0:Int)<((q:Nat):Int)))
   ·
    have phb96:=oF hb96
    refine lB 53 hb96 ?_
    refine lN (cIF (CG.exit ?_))
    show CG _ _ _ _ _ _ _ _
    refine cSL (lL hs [.m 58 10] (lC 59 hs (nOf p hp _ _ hs.g) ?_))
    rintro _ w97 h98 hs rfl
    refine lP 4 0 (nc p) hs (fun w99 hs=>?_)
    exact lN (CG.ret (hs.ret [(4,0,2)] (nv p) (congrArg nv (by rw[←hG,show q=0 by omega,Nat.gcd_zero_right]))))
   have phb96:=oT hb96
   refine lB 53 hb96 ?_
   refine lN (cIT (CG.skipN (CG.block (cR 4 [] mixed hs al_nil ?_))))
   refine eV 0 54 (.int .u64 (q:Nat)) ?_
   refine eV 1 55 (.int .u64 (p:Nat)) ?_
   refine eV 2 56 (.int .u64 (q:Nat)) ?_
   refine eV 3 57 (.int .u64 (p%q:Nat)) ?_ (hv:=fun _=>rint (opRem (t:=22) (u:=22) (x:=.tmp 55) (y:=.tmp 56) (k:=.u64) (a:=((p:Nat):Int)) (b:=((q:Nat):Int)) kR kR kR oM _) (tmodNat p q))
   refine eD0 hs (fun w100 h101 hs=>?_)
   refine tV 4 10 (.int .u64 (q:Nat)) ?_
   refine tV 5 12 (.int .u64 (p%q:Nat)) ?_
   refine tD ?_
   intro a_ ka
   have q102:q<18446744073709551616:=hq
   have q103:(p%q)<18446744073709551616:=(by have:=Nat.mod_lt p (show 0<q by omega);omega)
   have q104:Nat.gcd q (p%q)=Nat.gcd (iabs a) (iabs b):=(by rw[gcd_mod_swap];exact hG)
   refine ⟨_,_,?_,⟨q,p%q,h101,rfl,rfl,hs.to _ _,q102,q103,q104⟩,ka.to [(4,.pointer (some ⟨b7,0,none⟩)),(6,.pointer (some ⟨b13,0,none⟩)),(5,.pointer (some ⟨b12,0,none⟩)),(10,.int .u64 (q:Nat)),(12,.int .u64 ((p%q):Nat))] kR⟩
   have hmq_:=Nat.mod_lt p (show 0<q by omega)
   omega
  have phb84:=eq_of_beq hb84
  refine lB 39 hb84 ?_
  refine lN (cIT (cSL (lL hs [.o 40 (nv (iabs a)) 2 0 2] (lP 4 0 (nc (iabs a)) hs (fun w105 hs=>?_)))))
  exact lN (CG.ret (hs.ret [(4,0,2)] (nv (iabs a)) (congrArg nv (by rw[←hg2,show ((iabs b)%(iabs a))=0 by omega,Nat.gcd_zero_right]))))
 have phb67:=eq_of_beq hb67
 refine lB 26 hb67 ?_
 refine lN (cIT (cSL (lL hs [.o 27 (nv (iabs b)) 0 0 2] (lP 2 0 (nc (iabs b)) hs (fun w106 hs=>?_)))))
 exact lN (CG.ret (hs.ret [(2,0,2)] (nv (iabs b)) (congrArg nv (by rw[←hgc,show (iabs a)=0 by omega,Nat.gcd_zero_right]))))
theorem sgn_part (z:Int)(b:Nat)(hd:(b:Int)∣z):sgn (decide (z.sign<0)) (iabs z/b)=z/b:=by
  obtain ⟨k,rfl⟩:=hd
  rcases Nat.eq_zero_or_pos b with hb|hb
  · subst hb;simp[sgn,iabs]
  have e1:iabs ((b:Int)*k)/b=k.natAbs:=by
    unfold iabs
    rw[Int.natAbs_mul,Int.natAbs_natCast,Nat.mul_div_cancel_left _ hb]
  have e2:((b:Int)*k)/b=k:=Int.mul_ediv_cancel_left _ oM
  have e3:((b:Int)*k).sign=k.sign:=by rw[Int.sign_mul,Int.sign_natCast_of_ne_zero oM,Int.one_mul]
  rw[e1,e2,e3]
  unfold sgn
  rcases Int.lt_trichotomy k 0 with h|h|h
  · rw[Int.sign_eq_neg_one_of_neg h];simp;omega
  · subst h;simp
  · rw[Int.sign_eq_one_of_pos h];simp;omega
theorem rat_add (a b:Rat):∀ g h:Nat,∀ up:Int,g=Nat.gcd a.den b.den→up=a.num*((b.den/g:Nat):Int)+b.num*((a.den/g:Nat):Int)→h=Nat.gcd (iabs up) g →
    (a+b).num=up/h∧(a+b).den=(a.den/g)*(b.den/h)∧(h:Int)∣up∧h∣b.den∧0<h∧0<g:=by
  intro g h up hg hup hh
  have hgp:0<g:=by rw[hg];exact Nat.gcd_pos_of_pos_left _ a.den_pos
  have hhp:0<h:=by rw[hh];exact Nat.gcd_pos_of_pos_right _ hgp
  have hga:g∣a.den:=by rw[hg];exact Nat.gcd_dvd_left _ _
  have hgb:g∣b.den:=by rw[hg];exact Nat.gcd_dvd_right _ _
  have hhg:h∣g:=by rw[hh];exact Nat.gcd_dvd_right _ _
  have hhu:(h:Int)∣up:=by
    have h1:h∣up.natAbs:=by rw[hh];exact Nat.gcd_dvd_left _ _
    exact Int.dvd_trans (Int.natCast_dvd_natCast.2 h1) (Int.natAbs_dvd.2 (Int.dvd_refl _))
  have hhb:h∣b.den:=Nat.dvd_trans hhg hgb
  refine ⟨?_,?_,hhu,hhb,hhp,hgp⟩
  · show (Rat.add a b).num=_
    delta Rat.add
    dsimp only
    split
    · rename_i h1
      have g1:g=1:=by rw[hg];exact h1
      dsimp only
      clear h1 hg
      subst g1
      have hh1:h=1:=by rw[hh];simp
      rw[hh1,hup];simp
    · subst hg hup hh
      dsimp only[Rat.maybeNormalize]
      split
      · rename_i h1
        dsimp only
        unfold iabs
        rw[h1];simp
      · dsimp only
        rw[Int.divExact_eq_ediv]
        rfl
  · show (Rat.add a b).den=_
    delta Rat.add
    dsimp only
    split
    · rename_i h1
      have g1:g=1:=by rw[hg];exact h1
      dsimp only
      clear h1 hg
      subst g1
      have hh1:h=1:=by rw[hh];simp
      rw[hh1];simp
    · subst hg hup hh
      dsimp only[Rat.maybeNormalize]
      split
      · rename_i h1
        dsimp only
        unfold iabs
        rw[h1];simp
      · dsimp only
        rw[Nat.divExact_eq_div]
        unfold iabs at *
        rw[Nat.mul_div_assoc _ hhb]
theorem rat_mul (a b:Rat):∀ g h:Nat,g=Nat.gcd (iabs a.num) b.den→h=Nat.gcd (iabs b.num) a.den →
    (a*b).num=(a.num/g)*(b.num/h)∧(a*b).den=(a.den/h)*(b.den/g)∧(g:Int)∣a.num∧(h:Int)∣b.num∧0<g∧0<h:=by
  intro g h hg hh
  have hgp:0<g:=by rw[hg];exact Nat.gcd_pos_of_pos_right _ b.den_pos
  have hhp:0<h:=by rw[hh];exact Nat.gcd_pos_of_pos_right _ a.den_pos
  have d1:(g:Int)∣a.num:=by
    have h1:g∣a.num.natAbs:=by rw[hg];exact Nat.gcd_dvd_left _ _
    exact Int.dvd_trans (Int.natCast_dvd_natCast.2 h1) (Int.natAbs_dvd.2 (Int.dvd_refl _))
  have d2:(h:Int)∣b.num:=by
    have h1:h∣b.num.natAbs:=by rw[hh];exact Nat.gcd_dvd_left _ _
    exact Int.dvd_trans (Int.natCast_dvd_natCast.2 h1) (Int.natAbs_dvd.2 (Int.dvd_refl _))
  refine ⟨?_,?_,d1,d2,hgp,hhp⟩
  · show (Rat.mul a b).num=_
    delta Rat.mul
    dsimp only
    rw[Int.divExact_eq_ediv,Int.divExact_eq_ediv,hg,hh];rfl
  · show (Rat.mul a b).den=_
    delta Rat.mul
    dsimp only
    rw[Nat.divExact_eq_div,Nat.divExact_eq_div,hg,hh];rfl
theorem mkRat_parts (n:Int)(d:Nat)(hd:0<d):(mkRat n d).num=n/(Nat.gcd (iabs n) d:Nat)∧(mkRat n d).den=d/Nat.gcd (iabs n) d∧((Nat.gcd (iabs n) d:Nat):Int)∣n∧0<Nat.gcd (iabs n) d:=by
  have d1:((Nat.gcd (iabs n) d:Nat):Int)∣n:=by
    have h1:Nat.gcd (iabs n) d∣n.natAbs:=Nat.gcd_dvd_left _ _
    exact Int.dvd_trans (Int.natCast_dvd_natCast.2 h1) (Int.natAbs_dvd.2 (Int.dvd_refl _))
  unfold mkRat
  rw[dif_neg oM,Rat.normalize_eq]
  exact ⟨rfl,rfl,d1,Nat.gcd_pos_of_pos_right _ hd⟩
theorem rat_inv (b:Rat)(h:b.num≠0):(b⁻¹).num=sgn (decide (b.num.sign<0)) b.den∧(b⁻¹).den=iabs b.num:=by
  have e:b⁻¹=Rat.inv b:=rfl
  rw[e]
  delta Rat.inv
  split
  · rename_i h1
    rw[Int.sign_eq_neg_one_of_neg h1];simp[sgn,iabs]
  · split
    · rename_i h1
      rw[Int.sign_eq_one_of_pos h1];simp[sgn,iabs]
    · omega
def LQ (k:Nat)(q:Rat):Prop:=(wds (iabs q.num)).length≤k∧(wds q.den).length≤k
theorem wFromN (n:Nat)(w:World)(h:Hp)(g:G w h):Calls Tryz.prog 50 #[.bool false,nv n] w (Ret w h fun v _=>v=iv ((n:Nat):Int)):=wFromF n w h g
theorem wGcdE (x y:Int)(d:Nat)(hd:d=Nat.gcd (iabs x) (iabs y))(hla:(wds (iabs x)).length≤1000000000)(hlb:(wds (iabs y)).length≤1000000000)(w:World)(h:Hp)(g:G w h)(tb:Tab h):Calls Tryz.prog 91 #[iv x,iv y] w (Ret w h fun v _=>v=nv d):=by
  subst hd;exact wGcd x y hla hlb w h g tb
theorem nb_one {n:Nat}:nb n=1↔n=1:=by
  rcases Nat.eq_zero_or_pos n with h|h
  · subst h;simp[nb]
  · have h1:=nb_spec h
    constructor
    · intro e;rw[e] at h1;omega
    · intro e;subst e;rfl
theorem nb_zero_iff {n:Nat}:nb n=0↔n=0:=by
  rcases nb_cases n with ⟨h1,h2⟩|⟨h1,h2⟩<;>omega
theorem qd_one {q:Rat}(h:q.den=1):qd q=0:=by unfold qd;rw[if_pos h]
theorem qd_ne {q:Rat}(h:q.den≠1):qd q=q.den:=by unfold qd;rw[if_neg h]
theorem qd_zero {q:Rat}:qd q=0↔q.den=1:=by
  unfold qd
  have:=q.den_pos
  split<;>omega
theorem isw (q:Rat):(((nb (qd q):Nat):Int) == (0:Int))=decide (q.den=1):=by
  rw[Bool.eq_iff_iff]
  simp only[beq_iff_eq,decide_eq_true_eq]
  rw[←qd_zero,←nb_zero_iff]
  omega
theorem qv_lit {q:Rat}{z:Int}{d:Nat}(hz:q.num=z)(hd:qd q=d):Value.agg #[.bool (ineg z),.int .u64 (lo (iabs z)),.string (hi (iabs z)),.int .u64 (lo d),.string (hi d)]=qv q:=by subst hz hd;rfl
theorem LQ.qd {k:Nat}{q:Rat}(h:LQ k q):(wds (qd q)).length≤k:=by
  unfold Go.Proofs.YtmniajdkjpcfjaaGreatDoor.qd
  split
  · exact Nat.zero_le _
  · exact h.2
theorem fPack (a:Rat)(ha:LQ 1000000000 a)(w:World)(h:Hp)(g:G w h) :
    Calls Tryz.prog 68 #[iv a.num,nv a.den] w (Ret w h fun v _=>v=qv a):=by
 have hs:=SS.start g
 obtain ⟨ha1,ha2⟩:=ha
 have hn1:=@nb_one a.den
 refine go Tryz.func68 [(0,iv a.num),(1,nv a.den)] rfl ?_
 refine cSL (lA 2 38 (ic a.num) hs (fun b1 w2 h3 hs=>?_))
 refine lA 3 36 (nc a.den) hs (fun b4 w5 h6 hs=>?_)
 refine lA 4 40 ([.bool false,.int .u64 0,.string ⟨#[]⟩,.int .u64 0,.string ⟨#[]⟩]) hs (fun b7 w8 h9 hs=>?_)
 refine lN (CG.seq (cSL (lL hs [.o 5 (nv a.den) 1 0 2] (lC 6 hs (nBits a.den aOM _ _ hs.g) ?_))))
 rintro _ w10 h11 hs rfl
 cases hb12:(((nb a.den:Nat):Int) == (1:Int))
 ·
  have phb12:=neOfBeq hb12
  refine lB 7 hb12 ?_
  refine lN (cIF (CG.skipN (cSL (lL hs [.o 10 (iv a.num) 2 0 3,.o 11 (nv a.den) 1 0 2,.v 12 (.agg #[.bool (ineg a.num),.int .u64 (lo (iabs a.num)),.string (hi (iabs a.num)),.int .u64 (lo a.den),.string (hi a.den)])] (lP 0 0 ([.bool (ineg a.num),.int .u64 (lo (iabs a.num)),.string (hi (iabs a.num)),.int .u64 (lo a.den),.string (hi a.den)]) hs (fun w13 hs=>?_))))))
  exact lN (CG.ret (hs.ret [(0,0,5)] (.agg #[.bool (ineg a.num),.int .u64 (lo (iabs a.num)),.string (hi (iabs a.num)),.int .u64 (lo a.den),.string (hi a.den)]) (qv_lit (q:=a) (d:=a.den) rfl (qd_ne oM))))
 have phb12:=eq_of_beq hb12
 refine lB 7 hb12 ?_
 refine lN (cIT (cSL (lL hs [.o 8 (iv a.num) 2 0 3,.v 9 (.agg #[.bool (ineg a.num),.int .u64 (lo (iabs a.num)),.string (hi (iabs a.num)),.int .u64 0,.string ⟨#[]⟩])] (lP 0 0 ([.bool (ineg a.num),.int .u64 (lo (iabs a.num)),.string (hi (iabs a.num)),.int .u64 0,.string ⟨#[]⟩]) hs (fun w14 hs=>?_)))))
 exact lN (CG.ret (hs.ret [(0,0,5)] (.agg #[.bool (ineg a.num),.int .u64 (lo (iabs a.num)),.string (hi (iabs a.num)),.int .u64 0,.string ⟨#[]⟩]) (qv_lit (q:=a) (d:=0) rfl (qd_one oM))))
theorem fPackE (q:Rat)(z:Int)(d:Nat)(hz:q.num=z)(hd:d=q.den)(hq:LQ 1000000000 q)(w:World)(h:Hp)(g:G w h):Calls Tryz.prog 68 #[iv z,nv d] w (Ret w h fun v _=>v=qv q):=by
  subst hz hd;exact fPack q hq w h g
theorem iabs_div_le (z:Int)(g:Nat)(hd:(g:Int)∣z):iabs (z/g)≤iabs z:=by
  unfold iabs
  rcases Nat.eq_zero_or_pos g with h|h
  · subst h;simp
  · obtain ⟨k,rfl⟩:=hd
    rw[Int.mul_ediv_cancel_left _ oM,Int.natAbs_mul,Int.natAbs_natCast]
    exact Nat.le_mul_of_pos_left _ h
theorem fOver (a b:Nat)(hb:0<b)(hla:(wds a).length≤1000000000)(hlb:(wds b).length≤1000000000)(w:World)(h:Hp)(g:G w h) :
    Calls Tryz.prog 92 #[nv a,nv b] w (Ret w h fun v _=>v=nv (a/b)):=by
 have hs:=SS.start g
 have hn1:=@nb_one b
 refine go Tryz.func92 [(0,nv a),(1,nv b)] rfl ?_
 refine cSL (lA 2 36 (nc a) hs (fun b1 w2 h3 hs=>?_))
 refine lA 3 36 (nc b) hs (fun b4 w5 h6 hs=>?_)
 refine lA 4 36 ([.int .u64 0,.string ⟨#[]⟩]) hs (fun b7 w8 h9 hs=>?_)
 refine lN (CG.seq (cSL (lL hs [.o 8 (nv b) 1 0 2] (lC 9 hs (nBits b aOM _ _ hs.g) ?_))))
 rintro _ w10 h11 hs rfl
 cases hb12:(((nb b:Nat):Int) == (1:Int))
 ·
  have phb12:=neOfBeq hb12
  refine lB 10 hb12 ?_
  refine lN (cIF (CG.skipN (cSL (lL hs [.o 13 (nv a) 2 0 2,.o 14 (nv b) 1 0 2] (lC 15 hs (nDiv a b oM aM aM _ _ hs.g) ?_)))))
  rintro _ w13 h14 hs rfl
  refine lL hs [.m 12 15,.v 16 (nv (a/b)),.v 17 (nv (a%b)),.v 18 (.bool true)] (lA 5 36 ([.int .u64 0,.string ⟨#[]⟩]) hs (fun b15 w16 h17 hs=>?_))
  refine lA 6 36 ([.int .u64 0,.string ⟨#[]⟩]) hs (fun b18 w19 h20 hs=>?_)
  refine lP 1 0 (nc (a/b)) hs (fun w21 hs=>?_)
  refine lP 0 0 (nc (a%b)) hs (fun w22 hs=>?_)
  refine lL hs [.m 7 18] (lNS (lL hs [.o 19 (nv (a/b)) 1 0 2] (lP 2 0 (nc (a/b)) hs (fun w23 hs=>?_))))
  exact lN (CG.ret (hs.ret [(2,0,2)] (nv (a/b)) rfl))
 have phb12:=eq_of_beq hb12
 refine lB 10 hb12 ?_
 refine lN (cIT (cSL (lL hs [.o 11 (nv a) 2 0 2] (lP 0 0 (nc a) hs (fun w24 hs=>?_)))))
 exact lN (CG.ret (hs.ret [(0,0,2)] (nv a) (by rw[show b=1 by omega,Nat.div_one])))
theorem fPart (z:Int)(b:Nat)(hb:0<b)(hd:(b:Int)∣z)(hla:(wds (iabs z)).length≤1000000000)(hlb:(wds b).length≤1000000000)(w:World)(h:Hp)(g:G w h) :
    Calls Tryz.prog 93 #[iv z,nv b] w (Ret w h fun v _=>v=iv (z/b)):=by
 have hs:=SS.start g
 have hdl:(wds (iabs z/b)).length≤1000000000:=wds_len_le (Nat.div_le_self _ _) hla
 refine go Tryz.func93 [(0,iv z),(1,nv b)] rfl ?_
 refine cSL (lA 2 38 (ic z) hs (fun b1 w2 h3 hs=>?_))
 refine lA 3 36 (nc b) hs (fun b4 w5 h6 hs=>?_)
 refine lA 4 38 ([.bool false,.int .u64 0,.string ⟨#[]⟩]) hs (fun b7 w8 h9 hs=>?_)
 refine lN (CG.seq (cR 8 [] mixed hs al_nil ?_))
 refine eO 0 5 [(2,0,3)] (iv z) hs ?_
 refine eO 3 8 [(2,0,3)] (iv z) hs ?_
 refine eO 5 10 [(1,0,2)] (nv b) hs ?_
 refine eC 1 6 hs (fun _ _ hs=>wSign z aOM _ _ hs.g) ?_
 rintro _ _ _ w10 h11 hs rfl
 refine eV 2 7 (.bool (decide (((z).sign:Int)<(0:Int)))) ?_
 refine eC 4 9 hs (fun _ _ hs=>wAbs z _ _ hs.g) ?_
 rintro _ _ _ w12 h13 hs rfl
 refine eC 6 11 hs (fun _ _ hs=>fOver (iabs z) b aM aOM aOM _ _ hs.g) ?_
 rintro _ _ _ w14 h15 hs rfl
 refine eC 7 12 hs (fun _ _ hs=>wFrom (decide (((z).sign:Int)<(0:Int))) ((iabs z)/b) aOM _ _ hs.g) ?_
 rintro _ _ _ w16 h17 hs rfl
 refine eD0 hs (fun w18 h19 hs=>?_)
 refine tP 8 0 0 (ic (sgn (decide (((z).sign:Int)<(0:Int))) ((iabs z)/b))) hs (fun w20 hs=>?_)
 exact tN (CG.ret (hs.ret [(0,0,3)] (iv (sgn (decide (((z).sign:Int)<(0:Int))) ((iabs z)/b))) (congrArg iv (sgn_part z b hd))))
theorem fTimes (z:Int)(d:Nat)(hl:(wds (iabs z)).length+(wds d).length≤1000000000)(w:World)(h:Hp)(g:G w h) :
    Calls Tryz.prog 45 #[iv z,nv d] w (Ret w h fun v _=>v=iv (z*d)):=by
 have hs:=SS.start g
 refine go Tryz.func45 [(0,iv z),(1,nv d)] rfl ?_
 refine cSL (lA 2 38 (ic z) hs (fun b1 w2 h3 hs=>?_))
 refine lA 3 36 (nc d) hs (fun b4 w5 h6 hs=>?_)
 refine lA 4 38 ([.bool false,.int .u64 0,.string ⟨#[]⟩]) hs (fun b7 w8 h9 hs=>?_)
 refine lN (CG.seq (cR 4 [] mixed hs al_nil ?_))
 refine eO 0 5 [(2,0,3)] (iv z) hs ?_
 refine eO 1 6 [(1,0,2)] (nv d) hs ?_
 refine eC 2 7 hs (fun _ _ hs=>wFromN d _ _ hs.g) ?_
 rintro _ _ _ w10 h11 hs rfl
 refine eC 3 8 hs (fun _ _ hs=>wMul z ((d:Nat):Int) aOM _ _ hs.g) ?_
 rintro _ _ _ w12 h13 hs rfl
 refine eD0 hs (fun w14 h15 hs=>?_)
 refine tP 4 0 0 (ic (z*((d:Nat):Int))) hs (fun w16 hs=>?_)
 exact tN (CG.ret (hs.ret [(0,0,3)] (iv (z*((d:Nat):Int))) rfl))
theorem fIsWhole (a:Rat)(ha:LQ 100000000 a)(w:World)(h:Hp)(g:G w h) :
    Calls Tryz.prog 43 #[qv a] w (Ret w h fun v _=>v=.bool (decide (a.den=1))):=by
 have hs:=SS.start g
 have hqd:=ha.qd
 refine go Tryz.func43 [(0,qv a)] rfl ?_
 refine cSL (lA 1 40 (qc a) hs (fun b1 w2 h3 hs=>?_))
 refine lL hs [.v 2 (.bool false)] (lNS (lL hs [.v 3 (.pointer (some ⟨b1,3,none⟩)),.o 4 (nv (qd a)) 0 3 2] (lC 5 hs (nBits (qd a) aOM _ _ hs.g) ?_)))
 rintro _ w4 h5 hs rfl
 exact lL hs [.v 6 (.bool (((nb (qd a):Nat):Int) == (0:Int))),.m 2 6] (lN (CG.ret (hs.ret [] (.bool (((nb (qd a):Nat):Int) == (0:Int))) (congrArg Value.bool (isw a)))))
theorem fDen (a:Rat)(ha:LQ 100000000 a)(w:World)(h:Hp)(g:G w h) :
    Calls Tryz.prog 46 #[qv a] w (Ret w h fun v _=>v=nv a.den):=by
 have hs:=SS.start g
 refine go Tryz.func46 [(0,qv a)] rfl ?_
 refine cSL (lA 1 40 (qc a) hs (fun b1 w2 h3 hs=>?_))
 refine lA 2 36 ([.int .u64 0,.string ⟨#[]⟩]) hs (fun b4 w5 h6 hs=>?_)
 refine lN (CG.seq (cSL (lL hs [.o 3 (qv a) 1 0 5] (lC 4 hs (fIsWhole a aM _ _ hs.g) ?_))))
 rintro _ w7 h8 hs rfl
 cases hb9:(decide (a.den=1))
 ·
  have phb9:=oF hb9
  refine lN (cIF (CG.skipN (cSL (lL hs [.v 6 (.pointer (some ⟨b1,3,none⟩)),.o 7 (nv (qd a)) 1 3 2] (lP 0 0 (nc (qd a)) hs (fun w10 hs=>?_))))))
  exact lN (CG.ret (hs.ret [(0,0,2)] (nv (qd a)) (by rw[qd_ne (by simpa using (by assumption:decide (a.den=1)=false))])))
 have phb9:=oT hb9
 refine lN (cIT (cSL (lC 5 hs (nOf 1 oM _ _ hs.g) ?_)))
 rintro _ w11 h12 hs rfl
 refine lP 0 0 (nc 1) hs (fun w13 hs=>?_)
 exact lN (CG.ret (hs.ret [(0,0,2)] (nv 1) (by rw[show a.den=1 by simpa using (by assumption:decide (a.den=1)=true)])))
theorem fNum (a:Rat)(w:World)(h:Hp)(g:G w h) :
    Calls Tryz.prog 96 #[qv a] w (Ret w h fun v _=>v=iv a.num):=by
 have hs:=SS.start g
 refine go Tryz.func96 [(0,qv a)] rfl ?_
 refine cSL (lA 1 40 (qc a) hs (fun b1 w2 h3 hs=>?_))
 refine lA 2 38 ([.bool false,.int .u64 0,.string ⟨#[]⟩]) hs (fun b4 w5 h6 hs=>?_)
 refine lNS (lL hs [.v 3 (.pointer (some ⟨b1,0,none⟩)),.o 4 (iv a.num) 1 0 3] (lP 0 0 (ic a.num) hs (fun w7 hs=>?_)))
 exact lN (CG.ret (hs.ret [(0,0,3)] (iv a.num) rfl))
theorem fSign (a:Rat)(ha:LQ 100000000 a)(w:World)(h:Hp)(g:G w h) :
    Calls Tryz.prog 18 #[qv a] w (Ret w h fun v _=>v=.int .i64 a.num.sign):=by
 have hs:=SS.start g
 obtain ⟨ha1,ha2⟩:=ha
 refine go Tryz.func18 [(0,qv a)] rfl ?_
 refine cSL (lA 1 40 (qc a) hs (fun b1 w2 h3 hs=>?_))
 refine lL hs [.v 2 (.int .i64 0)] (lNS (lL hs [.v 3 (.pointer (some ⟨b1,0,none⟩)),.o 4 (iv a.num) 0 0 3] (lC 5 hs (wSign a.num aOM _ _ hs.g) ?_)))
 rintro _ w4 h5 hs rfl
 exact lL hs [.m 2 5] (lN (CG.ret (hs.ret [] (.int .i64 ((a.num).sign)) rfl)))
theorem fOf (z:Int)(h0 : -9223372036854775808≤z)(h1:z≤9223372036854775807)(w:World)(h:Hp)(g:G w h) :
    Calls Tryz.prog 20 #[.int .i64 z] w (Ret w h fun v _=>v=qv (z:Rat)):=by
 have hs:=SS.start g
 refine go Tryz.func20 [(0,.int .i64 z)] rfl ?_
 refine cSL (lA 2 40 ([.bool false,.int .u64 0,.string ⟨#[]⟩,.int .u64 0,.string ⟨#[]⟩]) hs (fun b1 w2 h3 hs=>?_))
 refine lNS (lL hs [.m 3 0] (lC 4 hs (wOf z oM oM _ _ hs.g) ?_))
 rintro _ w4 h5 hs rfl
 refine lL hs [.v 5 (.agg #[.bool (ineg z),.int .u64 (lo (iabs z)),.string (hi (iabs z)),.int .u64 0,.string ⟨#[]⟩])] (lP 0 0 ([.bool (ineg z),.int .u64 (lo (iabs z)),.string (hi (iabs z)),.int .u64 0,.string ⟨#[]⟩]) hs (fun w6 hs=>?_))
 exact lN (CG.ret (hs.ret [(0,0,5)] (.agg #[.bool (ineg z),.int .u64 (lo (iabs z)),.string (hi (iabs z)),.int .u64 0,.string ⟨#[]⟩]) (qv_lit (d:=0) (Rat.num_intCast z) (qd_one (Rat.den_intCast z)))))
theorem fLowest (z:Int)(d:Nat)(hd:0<d)(hla:(wds (iabs z)).length≤1000000000)(hlb:(wds d).length≤1000000000)(w:World)(h:Hp)(g:G w h)(tb:Tab h) :
    Calls Tryz.prog 77 #[iv z,nv d] w (Ret w h fun v _=>v=qv (mkRat z d)):=by
 have hs:=SS.start g
 replace hs:=(hs.add (K:=fun h_=>Tab h_) tb)
 obtain ⟨hm1,hm2,hm3,hm4⟩:=mkRat_parts z d hd
 obtain ⟨q,hq⟩:∃ q,q=Nat.gcd (iabs z) d:=⟨_,rfl⟩
 rw[←hq] at hm1 hm2 hm3 hm4
 have hql:(wds q).length≤1000000000:=wds_len_le (by rw[hq];exact Nat.gcd_le_right _ hd) hlb
 have hLQ:LQ 1000000000 (mkRat z d):=⟨by rw[hm1];exact wds_len_le (iabs_div_le z q hm3) hla,by rw[hm2];exact wds_len_le (Nat.div_le_self _ _) hlb⟩
 refine go Tryz.func77 [(0,iv z),(1,nv d)] rfl ?_
 refine cSL (lA 2 38 (ic z) hs (fun b1 w2 h3 hs=>?_))
 refine lA 3 36 (nc d) hs (fun b4 w5 h6 hs=>?_)
 refine lA 4 40 ([.bool false,.int .u64 0,.string ⟨#[]⟩,.int .u64 0,.string ⟨#[]⟩]) hs (fun b7 w8 h9 hs=>?_)
 refine lN (CG.seq ?_)
 have hsr:=hs
 refine cR 5 [⟨4,5,.cells (List.toArray [.int .u64 0,.string ⟨#[]⟩]) 36 (0,0)⟩] mixed hs (al_cons (alOk kR (fun _ _=>by kernel_rfl)) al_nil) ?_
 refine eO 0 6 [(2,0,3)] (iv z) hs ?_
 refine eO 1 7 [(1,0,2)] (nv d) hs ?_
 refine eC 2 8 hs (fun _ _ hs=>wFromN d _ _ hs.g) ?_
 rintro _ _ _ w10 h11 hs rfl
 refine eC 3 9 hs (fun _ _ hs=>wGcdE z ((d:Nat):Int) q (by first|assumption|exact hq) aOM (show (wds d).length≤1000000000 by first|assumption|omega) _ _ hs.g (hs.f.1)) ?_
 rintro _ _ _ w12 h13 hs rfl
 refine eD1p [] hsr hs 36 [.int .u64 0,.string ⟨#[]⟩] (fun w14 h15 b16 hs=>?_)
 refine tP 5 0 0 (nc q) hs (fun w17 hs=>?_)
 refine tN (CG.seq (cR 7 [] mixed hs al_nil ?_))
 refine eO 0 10 [(3,0,3)] (iv z) hs ?_
 refine eO 1 11 [(0,0,2)] (nv q) hs ?_
 refine eO 3 13 [(2,0,2)] (nv d) hs ?_
 refine eO 4 14 [(0,0,2)] (nv q) hs ?_
 refine eC 2 12 hs (fun _ _ hs=>fPart z q aM aM aOM aOM _ _ hs.g) ?_
 rintro _ _ _ w18 h19 hs rfl
 refine eC 5 15 hs (fun _ _ hs=>fOver d q aM aOM aOM _ _ hs.g) ?_
 rintro _ _ _ w20 h21 hs rfl
 refine eC 6 16 hs (fun _ _ hs=>fPackE (mkRat z d) (z/((q:Nat):Int)) (d/q) (by first|assumption|exact hm1|exact (hm1).symm) (by first|assumption|exact hm2.symm) aM _ _ hs.g) ?_
 rintro _ _ _ w22 h23 hs rfl
 refine eD0 hs (fun w24 h25 hs=>?_)
 refine tP 7 1 0 (qc (mkRat z d)) hs (fun w26 hs=>?_)
 exact tN (CG.ret (hs.ret [(1,0,5)] (qv (mkRat z d)) rfl))
theorem fIsWholeT (a:Rat)(ha:LQ 100000000 a)(h1:a.den=1)(w:World)(h:Hp)(g:G w h):Calls Tryz.prog 43 #[qv a] w (Ret w h fun v _=>v=.bool true):=by
  have:=fIsWhole a ha w h g;rwa [decide_eq_true h1] at this
theorem fIsWholeF (a:Rat)(ha:LQ 100000000 a)(h1:a.den≠1)(w:World)(h:Hp)(g:G w h):Calls Tryz.prog 43 #[qv a] w (Ret w h fun v _=>v=.bool false):=by
  have:=fIsWhole a ha w h g;rwa [decide_eq_false h1] at this
theorem wAddE (x y z:Int)(e:z=x+y)(hl:(wds (iabs x)).length+(wds (iabs y)).length≤999999999)(w:World)(h:Hp)(g:G w h):Calls Tryz.prog 90 #[iv x,iv y] w (Ret w h fun v _=>v=iv z):=by
  subst e;exact wAdd x y hl w h g
theorem len_imul2 (x y:Int):(wds (iabs (x*y))).length≤(wds (iabs x)).length+(wds (iabs y)).length:=by
  have:iabs (x*y)=iabs x*iabs y:=Int.natAbs_mul x y
  rw[this];exact wds_len_mul
theorem len_imul (x:Int)(d:Nat):(wds (iabs (x*((d:Nat):Int)))).length≤(wds (iabs x)).length+(wds d).length:=len_imul2 x (d:Int)
theorem len_iadd (x y:Int):(wds (iabs (x+y))).length≤(wds (iabs x)).length+(wds (iabs y)).length+1 :=
  Nat.le_trans (wds_len_mono (show iabs (x+y)≤iabs x+iabs y from Int.natAbs_add_le x y)) wds_len_add
theorem rat_add_whole {a b:Rat}(ha:a.den=1)(hb:b.den=1):(a+b).num=a.num+b.num∧(a+b).den=1:=by
  obtain ⟨e1,e2,e3,e4,e5,e6⟩:=rat_add a b 1 1 (a.num+b.num) (by rw[ha,hb];rfl) (by rw[ha,hb];simp) (by simp)
  rw[ha,hb] at e2
  exact ⟨by simpa using e1,by simpa using e2⟩
theorem rat_mul_whole {a b:Rat}(ha:a.den=1)(hb:b.den=1):(a*b).num=a.num*b.num∧(a*b).den=1:=by
  obtain ⟨e1,e2,e3,e4,e5,e6⟩:=rat_mul a b 1 1 (by rw[hb];simp) (by rw[ha];simp)
  rw[ha,hb] at e2
  exact ⟨by simpa using e1,by simpa using e2⟩
theorem fAddWW (a b:Rat)(ha:LQ 100000000 a)(hb:LQ 100000000 b)(hwa:a.den=1)(hwb:b.den=1)(w:World)(h:Hp)(g:G w h)(tb:Tab h) :
    Calls Tryz.prog 66 #[qv a,qv b] w (Ret w h fun v _=>v=qv (a+b)):=by
 have hs:=SS.start g
 replace hs:=(hs.add (K:=fun h_=>Tab h_) tb)
 have ha_:=ha
 have hb_:=hb
 obtain ⟨ha1,ha2⟩:=ha_
 obtain ⟨hb1,hb2⟩:=hb_
 refine go Tryz.func66 [(0,qv a),(1,qv b)] rfl ?_
 refine cSL (lA 2 40 (qc a) hs (fun b1 w2 h3 hs=>?_))
 refine lA 3 40 (qc b) hs (fun b4 w5 h6 hs=>?_)
 refine lA 4 40 ([.bool false,.int .u64 0,.string ⟨#[]⟩,.int .u64 0,.string ⟨#[]⟩]) hs (fun b7 w8 h9 hs=>?_)
 refine lN (CG.seq (cSL (lL hs [.o 10 (qv a) 2 0 5] (lC 11 hs (fIsWholeT a aM aM _ _ hs.g) ?_))))
 rintro _ w10 h11 hs rfl
 refine lL hs [.m 12 11,.o 13 (qv b) 1 0 5] (lC 14 hs (fIsWholeT b aM aM _ _ hs.g) ?_)
 rintro _ w12 h13 hs rfl
 refine lL hs [.v 15 (.bool true)] (lN (cIT (cSL (lL hs [.v 16 (.pointer (some ⟨b1,0,none⟩)),.o 17 (iv a.num) 2 0 3,.v 18 (.pointer (some ⟨b4,0,none⟩)),.o 19 (iv b.num) 1 0 3] (lC 20 hs (wAdd a.num b.num aOM _ _ hs.g) ?_)))))
 rintro _ w14 h15 hs rfl
 refine lL hs [.v 21 (.agg #[.bool (ineg (a.num+b.num)),.int .u64 (lo (iabs (a.num+b.num))),.string (hi (iabs (a.num+b.num))),.int .u64 0,.string ⟨#[]⟩])] (lP 0 0 ([.bool (ineg (a.num+b.num)),.int .u64 (lo (iabs (a.num+b.num))),.string (hi (iabs (a.num+b.num))),.int .u64 0,.string ⟨#[]⟩]) hs (fun w16 hs=>?_))
 exact lN (CG.ret (hs.ret [(0,0,5)] (.agg #[.bool (ineg (a.num+b.num)),.int .u64 (lo (iabs (a.num+b.num))),.string (hi (iabs (a.num+b.num))),.int .u64 0,.string ⟨#[]⟩]) (qv_lit (d:=0) (rat_add_whole hwa hwb).1 (qd_one (rat_add_whole hwa hwb).2))))
theorem fAddNN (a b:Rat)(ha:LQ 100000000 a)(hb:LQ 100000000 b)(hwa:a.den≠1)(w:World)(h:Hp)(g:G w h)(tb:Tab h) :
    Calls Tryz.prog 66 #[qv a,qv b] w (Ret w h fun v _=>v=qv (a+b)):=by
 have hs:=SS.start g
 replace hs:=(hs.add (K:=fun h_=>Tab h_) tb)
 have ha_:=ha
 have hb_:=hb
 obtain ⟨ha1,ha2⟩:=ha
 obtain ⟨hb1,hb2⟩:=hb
 obtain ⟨q,hq⟩:∃ q,q=Nat.gcd a.den b.den:=⟨_,rfl⟩
 obtain ⟨up,hup⟩:∃ up,up=a.num*((b.den/q:Nat):Int)+b.num*((a.den/q:Nat):Int):=⟨_,rfl⟩
 obtain ⟨r,hr⟩:∃ r,r=Nat.gcd (iabs up) q:=⟨_,rfl⟩
 obtain ⟨hm1,hm2,hd1,hd2,hr0,hq0⟩:=rat_add a b q r up hq hup hr
 have hql:(wds q).length≤100000000:=wds_len_le (by rw[hq];exact Nat.gcd_le_left _ a.den_pos) ha2
 have hrl:(wds r).length≤100000000:=wds_len_le (by rw[hr];exact Nat.gcd_le_right _ hq0) hql
 have haq:(wds (a.den/q)).length≤100000000:=wds_len_le (Nat.div_le_self _ _) ha2
 have hbq:(wds (b.den/q)).length≤100000000:=wds_len_le (Nat.div_le_self _ _) hb2
 have hbr:(wds (b.den/r)).length≤100000000:=wds_len_le (Nat.div_le_self _ _) hb2
 have hx1:=len_imul a.num (b.den/q)
 have hx2:=len_imul b.num (a.den/q)
 have hul:(wds (iabs up)).length≤999999999:=Nat.le_trans (by rw[hup];exact len_iadd _ _) oM
 have hdl:=@wds_len_mul (a.den/q) (b.den/r)
 have hLQ:LQ 1000000000 (a+b):=⟨by rw[hm1];exact wds_len_le (iabs_div_le up r hd1) oM,by rw[hm2];omega⟩
 have ha:=ha_
 have hb:=hb_
 refine go Tryz.func66 [(0,qv a),(1,qv b)] rfl ?_
 refine cSL (lA 2 40 (qc a) hs (fun b1 w2 h3 hs=>?_))
 refine lA 3 40 (qc b) hs (fun b4 w5 h6 hs=>?_)
 refine lA 4 40 ([.bool false,.int .u64 0,.string ⟨#[]⟩,.int .u64 0,.string ⟨#[]⟩]) hs (fun b7 w8 h9 hs=>?_)
 refine lN (CG.seq (cSL (lL hs [.o 10 (qv a) 2 0 5] (lC 11 hs (fIsWholeF a aM aM _ _ hs.g) ?_))))
 rintro _ w10 h11 hs rfl
 refine lL hs [.m 12 11] (lG 13 ?_)
 refine lG 14 ?_
 refine lL hs [.v 15 (.bool false)] (lN (cIF (CG.skipN (CG.seq ?_))))
 have hsr:=hs
 refine cR 8 [⟨7,5,.cells (List.toArray [.int .u64 0,.string ⟨#[]⟩]) 36 (0,0)⟩] mixed hs (al_cons (alOk kR (fun _ _=>by kernel_rfl)) al_nil) ?_
 refine eO 0 22 [(2,0,5)] (qv a) hs ?_
 refine eO 3 25 [(1,0,5)] (qv b) hs ?_
 refine eC 1 23 hs (fun _ _ hs=>fDen a aM _ _ hs.g) ?_
 rintro _ _ _ w12 h13 hs rfl
 refine eC 2 24 hs (fun _ _ hs=>wFromN a.den _ _ hs.g) ?_
 rintro _ _ _ w14 h15 hs rfl
 refine eC 4 26 hs (fun _ _ hs=>fDen b aM _ _ hs.g) ?_
 rintro _ _ _ w16 h17 hs rfl
 refine eC 5 27 hs (fun _ _ hs=>wFromN b.den _ _ hs.g) ?_
 rintro _ _ _ w18 h19 hs rfl
 refine eC 6 28 hs (fun _ _ hs=>wGcdE ((a.den:Nat):Int) ((b.den:Nat):Int) q (by first|assumption|exact hq) (show (wds a.den).length≤1000000000 by first|assumption|omega) (show (wds b.den).length≤1000000000 by first|assumption|omega) _ _ hs.g (hs.f.1)) ?_
 rintro _ _ _ w20 h21 hs rfl
 refine eD1p [] hsr hs 36 [.int .u64 0,.string ⟨#[]⟩] (fun w22 h23 b24 hs=>?_)
 refine tP 8 0 0 (nc q) hs (fun w25 hs=>?_)
 refine tN (CG.seq ?_)
 have hsr:=hs
 refine cRz 10 [⟨8,6,.cells (List.toArray [.int .u64 0,.string ⟨#[]⟩]) 36 (0,0)⟩,⟨9,7,.cells (List.toArray [.int .u64 0,.string ⟨#[]⟩]) 36 (0,0)⟩] [] mixed hs (al_cons (alOk kR (fun _ _=>by kernel_rfl)) (al_cons (alOk kR (fun _ _=>by kernel_rfl)) al_nil)) ?_
 refine eO 0 29 [(3,0,5)] (qv a) hs ?_
 refine eO 2 31 [(0,0,2)] (nv q) hs ?_
 refine eOz 4 33 [(2,0,5)] (qv b) hsr hs ?_
 refine eOz 6 35 [(0,0,2)] (nv q) hsr hs ?_
 refine eC 1 30 hs (fun _ _ hs=>fDen a aM _ _ hs.g) ?_
 rintro _ _ _ w26 h27 hs rfl
 refine eC 3 32 hs (fun _ _ hs=>fOver a.den q aM aOM aOM _ _ hs.g) ?_
 rintro _ _ _ w28 h29 hs rfl
 refine eC 5 34 hs (fun _ _ hs=>fDen b aM _ _ hs.g) ?_
 rintro _ _ _ w30 h31 hs rfl
 refine eC 7 36 hs (fun _ _ hs=>fOver b.den q aM aOM aOM _ _ hs.g) ?_
 rintro _ _ _ w32 h33 hs rfl
 refine eD2z hsr hs 36 [.int .u64 0,.string ⟨#[]⟩] 36 [.int .u64 0,.string ⟨#[]⟩] (fun w34 h35 b36 b37 hz38 hz39 hs=>?_)
 refine tP 10 0 0 (nc (a.den/q)) hs (fun w40 hs=>?_) (hz:=tlz_new hz38)
 refine tP 11 1 0 (nc (b.den/q)) hs (fun w41 hs=>?_) (hz:=tlz_new hz39)
 refine tN (CG.seq ?_)
 have hsr:=hs
 refine cR 10 [⟨9,8,.cells (List.toArray [.bool false,.int .u64 0,.string ⟨#[]⟩]) 38 (0,0)⟩] mixed hs (al_cons (alOk kR (fun _ _=>by kernel_rfl)) al_nil) ?_
 refine eV 0 37 (.pointer (some ⟨b1,0,none⟩)) ?_
 refine eO 1 38 [(5,0,3)] (iv a.num) hs ?_
 refine eO 2 39 [(1,0,2)] (nv (b.den/q)) hs ?_
 refine eV 4 41 (.pointer (some ⟨b4,0,none⟩)) ?_
 refine eO 5 42 [(4,0,3)] (iv b.num) hs ?_
 refine eO 6 43 [(0,0,2)] (nv (a.den/q)) hs ?_
 refine eC 3 40 hs (fun _ _ hs=>fTimes a.num (b.den/q) aOM _ _ hs.g) ?_
 rintro _ _ _ w42 h43 hs rfl
 refine eC 7 44 hs (fun _ _ hs=>fTimes b.num (a.den/q) aOM _ _ hs.g) ?_
 rintro _ _ _ w44 h45 hs rfl
 refine eC 8 45 hs (fun _ _ hs=>wAddE (a.num*(((b.den/q):Nat):Int)) (b.num*(((a.den/q):Nat):Int)) up hup oM _ _ hs.g) ?_
 rintro _ _ _ w46 h47 hs rfl
 refine eD1p [] hsr hs 38 [.bool false,.int .u64 0,.string ⟨#[]⟩] (fun w48 h49 b50 hs=>?_)
 refine tP 10 0 0 (ic up) hs (fun w51 hs=>?_)
 refine tN (CG.seq ?_)
 have hsr:=hs
 refine cR 5 [⟨4,9,.cells (List.toArray [.int .u64 0,.string ⟨#[]⟩]) 36 (0,0)⟩] mixed hs (al_cons (alOk kR (fun _ _=>by kernel_rfl)) al_nil) ?_
 refine eO 0 46 [(0,0,3)] (iv up) hs ?_
 refine eO 1 47 [(3,0,2)] (nv q) hs ?_
 refine eC 2 48 hs (fun _ _ hs=>wFromN q _ _ hs.g) ?_
 rintro _ _ _ w52 h53 hs rfl
 refine eC 3 49 hs (fun _ _ hs=>wGcdE up ((q:Nat):Int) r (by first|assumption|exact hr) aOM (show (wds q).length≤1000000000 by first|assumption|omega) _ _ hs.g (hs.f.1)) ?_
 rintro _ _ _ w54 h55 hs rfl
 refine eD1p [] hsr hs 36 [.int .u64 0,.string ⟨#[]⟩] (fun w56 h57 b58 hs=>?_)
 refine tP 5 0 0 (nc r) hs (fun w59 hs=>?_)
 refine tN (cTo [(3,.pointer (some ⟨b4,0,none⟩)),(4,.pointer (some ⟨b7,0,none⟩)),(6,.pointer (some ⟨b36,0,none⟩)),(8,.pointer (some ⟨b50,0,none⟩)),(9,.pointer (some ⟨b58,0,none⟩))] ?_)
 refine CG.seq (cR 10 [] mixed hs al_nil ?_)
 refine eO 0 50 [(1,0,3)] (iv up) hs ?_
 refine eO 1 51 [(0,0,2)] (nv r) hs ?_
 refine eO 3 53 [(2,0,2)] (nv (a.den/q)) hs ?_
 refine eO 4 54 [(6,0,5)] (qv b) hs ?_
 refine eO 6 56 [(0,0,2)] (nv r) hs ?_
 refine eC 2 52 hs (fun _ _ hs=>fPart up r aM aM aOM aOM _ _ hs.g) ?_
 rintro _ _ _ w60 h61 hs rfl
 refine eC 5 55 hs (fun _ _ hs=>fDen b aM _ _ hs.g) ?_
 rintro _ _ _ w62 h63 hs rfl
 refine eC 7 57 hs (fun _ _ hs=>fOver b.den r aM aOM aOM _ _ hs.g) ?_
 rintro _ _ _ w64 h65 hs rfl
 refine eC 8 58 hs (fun _ _ hs=>nMul (a.den/q) (b.den/r) aOM aOM _ _ hs.g) ?_
 rintro _ _ _ w66 h67 hs rfl
 refine eC 9 59 hs (fun _ _ hs=>fPackE (a+b) (up/((r:Nat):Int)) ((a.den/q)*(b.den/r)) (by first|assumption|exact hm1|exact (hm1).symm) (by first|assumption|exact hm2.symm) aM _ _ hs.g) ?_
 rintro _ _ _ w68 h69 hs rfl
 refine eD0 hs (fun w70 h71 hs=>?_)
 refine tP 10 5 0 (qc (a+b)) hs (fun w72 hs=>?_)
 exact tN (CG.ret (hs.ret [(5,0,5)] (qv (a+b)) rfl))
theorem fAddWN (a b:Rat)(ha:LQ 100000000 a)(hb:LQ 100000000 b)(hwa:a.den=1)(hwb:b.den≠1)(w:World)(h:Hp)(g:G w h)(tb:Tab h) :
    Calls Tryz.prog 66 #[qv a,qv b] w (Ret w h fun v _=>v=qv (a+b)):=by
 have hs:=SS.start g
 replace hs:=(hs.add (K:=fun h_=>Tab h_) tb)
 have ha_:=ha
 have hb_:=hb
 obtain ⟨ha1,ha2⟩:=ha
 obtain ⟨hb1,hb2⟩:=hb
 obtain ⟨q,hq⟩:∃ q,q=Nat.gcd a.den b.den:=⟨_,rfl⟩
 obtain ⟨up,hup⟩:∃ up,up=a.num*((b.den/q:Nat):Int)+b.num*((a.den/q:Nat):Int):=⟨_,rfl⟩
 obtain ⟨r,hr⟩:∃ r,r=Nat.gcd (iabs up) q:=⟨_,rfl⟩
 obtain ⟨hm1,hm2,hd1,hd2,hr0,hq0⟩:=rat_add a b q r up hq hup hr
 have hql:(wds q).length≤100000000:=wds_len_le (by rw[hq];exact Nat.gcd_le_left _ a.den_pos) ha2
 have hrl:(wds r).length≤100000000:=wds_len_le (by rw[hr];exact Nat.gcd_le_right _ hq0) hql
 have haq:(wds (a.den/q)).length≤100000000:=wds_len_le (Nat.div_le_self _ _) ha2
 have hbq:(wds (b.den/q)).length≤100000000:=wds_len_le (Nat.div_le_self _ _) hb2
 have hbr:(wds (b.den/r)).length≤100000000:=wds_len_le (Nat.div_le_self _ _) hb2
 have hx1:=len_imul a.num (b.den/q)
 have hx2:=len_imul b.num (a.den/q)
 have hul:(wds (iabs up)).length≤999999999:=Nat.le_trans (by rw[hup];exact len_iadd _ _) oM
 have hdl:=@wds_len_mul (a.den/q) (b.den/r)
 have hLQ:LQ 1000000000 (a+b):=⟨by rw[hm1];exact wds_len_le (iabs_div_le up r hd1) oM,by rw[hm2];omega⟩
 have ha:=ha_
 have hb:=hb_
 refine go Tryz.func66 [(0,qv a),(1,qv b)] rfl ?_
 refine cSL (lA 2 40 (qc a) hs (fun b1 w2 h3 hs=>?_))
 refine lA 3 40 (qc b) hs (fun b4 w5 h6 hs=>?_)
 refine lA 4 40 ([.bool false,.int .u64 0,.string ⟨#[]⟩,.int .u64 0,.string ⟨#[]⟩]) hs (fun b7 w8 h9 hs=>?_)
 refine lN (CG.seq (cSL (lL hs [.o 10 (qv a) 2 0 5] (lC 11 hs (fIsWholeT a aM aM _ _ hs.g) ?_))))
 rintro _ w10 h11 hs rfl
 refine lL hs [.m 12 11,.o 13 (qv b) 1 0 5] (lC 14 hs (fIsWholeF b aM aM _ _ hs.g) ?_)
 rintro _ w12 h13 hs rfl
 refine lL hs [.v 15 (.bool false)] (lN (cIF (CG.skipN (CG.seq ?_))))
 have hsr:=hs
 refine cR 8 [⟨7,5,.cells (List.toArray [.int .u64 0,.string ⟨#[]⟩]) 36 (0,0)⟩] mixed hs (al_cons (alOk kR (fun _ _=>by kernel_rfl)) al_nil) ?_
 refine eO 0 22 [(2,0,5)] (qv a) hs ?_
 refine eO 3 25 [(1,0,5)] (qv b) hs ?_
 refine eC 1 23 hs (fun _ _ hs=>fDen a aM _ _ hs.g) ?_
 rintro _ _ _ w14 h15 hs rfl
 refine eC 2 24 hs (fun _ _ hs=>wFromN a.den _ _ hs.g) ?_
 rintro _ _ _ w16 h17 hs rfl
 refine eC 4 26 hs (fun _ _ hs=>fDen b aM _ _ hs.g) ?_
 rintro _ _ _ w18 h19 hs rfl
 refine eC 5 27 hs (fun _ _ hs=>wFromN b.den _ _ hs.g) ?_
 rintro _ _ _ w20 h21 hs rfl
 refine eC 6 28 hs (fun _ _ hs=>wGcdE ((a.den:Nat):Int) ((b.den:Nat):Int) q (by first|assumption|exact hq) (show (wds a.den).length≤1000000000 by first|assumption|omega) (show (wds b.den).length≤1000000000 by first|assumption|omega) _ _ hs.g (hs.f.1)) ?_
 rintro _ _ _ w22 h23 hs rfl
 refine eD1p [] hsr hs 36 [.int .u64 0,.string ⟨#[]⟩] (fun w24 h25 b26 hs=>?_)
 refine tP 8 0 0 (nc q) hs (fun w27 hs=>?_)
 refine tN (CG.seq ?_)
 have hsr:=hs
 refine cRz 10 [⟨8,6,.cells (List.toArray [.int .u64 0,.string ⟨#[]⟩]) 36 (0,0)⟩,⟨9,7,.cells (List.toArray [.int .u64 0,.string ⟨#[]⟩]) 36 (0,0)⟩] [] mixed hs (al_cons (alOk kR (fun _ _=>by kernel_rfl)) (al_cons (alOk kR (fun _ _=>by kernel_rfl)) al_nil)) ?_
 refine eO 0 29 [(3,0,5)] (qv a) hs ?_
 refine eO 2 31 [(0,0,2)] (nv q) hs ?_
 refine eOz 4 33 [(2,0,5)] (qv b) hsr hs ?_
 refine eOz 6 35 [(0,0,2)] (nv q) hsr hs ?_
 refine eC 1 30 hs (fun _ _ hs=>fDen a aM _ _ hs.g) ?_
 rintro _ _ _ w28 h29 hs rfl
 refine eC 3 32 hs (fun _ _ hs=>fOver a.den q aM aOM aOM _ _ hs.g) ?_
 rintro _ _ _ w30 h31 hs rfl
 refine eC 5 34 hs (fun _ _ hs=>fDen b aM _ _ hs.g) ?_
 rintro _ _ _ w32 h33 hs rfl
 refine eC 7 36 hs (fun _ _ hs=>fOver b.den q aM aOM aOM _ _ hs.g) ?_
 rintro _ _ _ w34 h35 hs rfl
 refine eD2z hsr hs 36 [.int .u64 0,.string ⟨#[]⟩] 36 [.int .u64 0,.string ⟨#[]⟩] (fun w36 h37 b38 b39 hz40 hz41 hs=>?_)
 refine tP 10 0 0 (nc (a.den/q)) hs (fun w42 hs=>?_) (hz:=tlz_new hz40)
 refine tP 11 1 0 (nc (b.den/q)) hs (fun w43 hs=>?_) (hz:=tlz_new hz41)
 refine tN (CG.seq ?_)
 have hsr:=hs
 refine cR 10 [⟨9,8,.cells (List.toArray [.bool false,.int .u64 0,.string ⟨#[]⟩]) 38 (0,0)⟩] mixed hs (al_cons (alOk kR (fun _ _=>by kernel_rfl)) al_nil) ?_
 refine eV 0 37 (.pointer (some ⟨b1,0,none⟩)) ?_
 refine eO 1 38 [(5,0,3)] (iv a.num) hs ?_
 refine eO 2 39 [(1,0,2)] (nv (b.den/q)) hs ?_
 refine eV 4 41 (.pointer (some ⟨b4,0,none⟩)) ?_
 refine eO 5 42 [(4,0,3)] (iv b.num) hs ?_
 refine eO 6 43 [(0,0,2)] (nv (a.den/q)) hs ?_
 refine eC 3 40 hs (fun _ _ hs=>fTimes a.num (b.den/q) aOM _ _ hs.g) ?_
 rintro _ _ _ w44 h45 hs rfl
 refine eC 7 44 hs (fun _ _ hs=>fTimes b.num (a.den/q) aOM _ _ hs.g) ?_
 rintro _ _ _ w46 h47 hs rfl
 refine eC 8 45 hs (fun _ _ hs=>wAddE (a.num*(((b.den/q):Nat):Int)) (b.num*(((a.den/q):Nat):Int)) up hup oM _ _ hs.g) ?_
 rintro _ _ _ w48 h49 hs rfl
 refine eD1p [] hsr hs 38 [.bool false,.int .u64 0,.string ⟨#[]⟩] (fun w50 h51 b52 hs=>?_)
 refine tP 10 0 0 (ic up) hs (fun w53 hs=>?_)
 refine tN (CG.seq ?_)
 have hsr:=hs
 refine cR 5 [⟨4,9,.cells (List.toArray [.int .u64 0,.string ⟨#[]⟩]) 36 (0,0)⟩] mixed hs (al_cons (alOk kR (fun _ _=>by kernel_rfl)) al_nil) ?_
 refine eO 0 46 [(0,0,3)] (iv up) hs ?_
 refine eO 1 47 [(3,0,2)] (nv q) hs ?_
 refine eC 2 48 hs (fun _ _ hs=>wFromN q _ _ hs.g) ?_
 rintro _ _ _ w54 h55 hs rfl
 refine eC 3 49 hs (fun _ _ hs=>wGcdE up ((q:Nat):Int) r (by first|assumption|exact hr) aOM (show (wds q).length≤1000000000 by first|assumption|omega) _ _ hs.g (hs.f.1)) ?_
 rintro _ _ _ w56 h57 hs rfl
 refine eD1p [] hsr hs 36 [.int .u64 0,.string ⟨#[]⟩] (fun w58 h59 b60 hs=>?_)
 refine tP 5 0 0 (nc r) hs (fun w61 hs=>?_)
 refine tN (cTo [(3,.pointer (some ⟨b4,0,none⟩)),(4,.pointer (some ⟨b7,0,none⟩)),(6,.pointer (some ⟨b38,0,none⟩)),(8,.pointer (some ⟨b52,0,none⟩)),(9,.pointer (some ⟨b60,0,none⟩))] ?_)
 refine CG.seq (cR 10 [] mixed hs al_nil ?_)
 refine eO 0 50 [(1,0,3)] (iv up) hs ?_
 refine eO 1 51 [(0,0,2)] (nv r) hs ?_
 refine eO 3 53 [(2,0,2)] (nv (a.den/q)) hs ?_
 refine eO 4 54 [(6,0,5)] (qv b) hs ?_
 refine eO 6 56 [(0,0,2)] (nv r) hs ?_
 refine eC 2 52 hs (fun _ _ hs=>fPart up r aM aM aOM aOM _ _ hs.g) ?_
 rintro _ _ _ w62 h63 hs rfl
 refine eC 5 55 hs (fun _ _ hs=>fDen b aM _ _ hs.g) ?_
 rintro _ _ _ w64 h65 hs rfl
 refine eC 7 57 hs (fun _ _ hs=>fOver b.den r aM aOM aOM _ _ hs.g) ?_
 rintro _ _ _ w66 h67 hs rfl
 refine eC 8 58 hs (fun _ _ hs=>nMul (a.den/q) (b.den/r) aOM aOM _ _ hs.g) ?_
 rintro _ _ _ w68 h69 hs rfl
 refine eC 9 59 hs (fun _ _ hs=>fPackE (a+b) (up/((r:Nat):Int)) ((a.den/q)*(b.den/r)) (by first|assumption|exact hm1|exact (hm1).symm) (by first|assumption|exact hm2.symm) aM _ _ hs.g) ?_
 rintro _ _ _ w70 h71 hs rfl
 refine eD0 hs (fun w72 h73 hs=>?_)
 refine tP 10 5 0 (qc (a+b)) hs (fun w74 hs=>?_)
 exact tN (CG.ret (hs.ret [(5,0,5)] (qv (a+b)) rfl))
theorem fAdd (a b:Rat)(ha:LQ 100000000 a)(hb:LQ 100000000 b)(w:World)(h:Hp)(g:G w h)(tb:Tab h):Calls Tryz.prog 66 #[qv a,qv b] w (Ret w h fun v _=>v=qv (a+b)):=by
  by_cases h1:a.den=1
  · by_cases h2:b.den=1
    · exact fAddWW a b ha hb h1 h2 w h g tb
    · exact fAddWN a b ha hb h1 h2 w h g tb
  · exact fAddNN a b ha hb h1 w h g tb
theorem fMulWW (a b:Rat)(ha:LQ 100000000 a)(hb:LQ 100000000 b)(hwa:a.den=1)(hwb:b.den=1)(w:World)(h:Hp)(g:G w h)(tb:Tab h) :
    Calls Tryz.prog 67 #[qv a,qv b] w (Ret w h fun v _=>v=qv (a*b)):=by
 have hs:=SS.start g
 replace hs:=(hs.add (K:=fun h_=>Tab h_) tb)
 have ha_:=ha
 have hb_:=hb
 obtain ⟨ha1,ha2⟩:=ha_
 obtain ⟨hb1,hb2⟩:=hb_
 refine go Tryz.func67 [(0,qv a),(1,qv b)] rfl ?_
 refine cSL (lA 2 40 (qc a) hs (fun b1 w2 h3 hs=>?_))
 refine lA 3 40 (qc b) hs (fun b4 w5 h6 hs=>?_)
 refine lA 4 40 ([.bool false,.int .u64 0,.string ⟨#[]⟩,.int .u64 0,.string ⟨#[]⟩]) hs (fun b7 w8 h9 hs=>?_)
 refine lN (CG.seq (cSL (lL hs [.o 7 (qv a) 2 0 5] (lC 8 hs (fIsWholeT a aM aM _ _ hs.g) ?_))))
 rintro _ w10 h11 hs rfl
 refine lL hs [.m 9 8,.o 10 (qv b) 1 0 5] (lC 11 hs (fIsWholeT b aM aM _ _ hs.g) ?_)
 rintro _ w12 h13 hs rfl
 refine lL hs [.v 12 (.bool true)] (lN (cIT (cSL (lL hs [.v 13 (.pointer (some ⟨b1,0,none⟩)),.o 14 (iv a.num) 2 0 3,.v 15 (.pointer (some ⟨b4,0,none⟩)),.o 16 (iv b.num) 1 0 3] (lC 17 hs (wMul a.num b.num aOM _ _ hs.g) ?_)))))
 rintro _ w14 h15 hs rfl
 refine lL hs [.v 18 (.agg #[.bool (ineg (a.num*b.num)),.int .u64 (lo (iabs (a.num*b.num))),.string (hi (iabs (a.num*b.num))),.int .u64 0,.string ⟨#[]⟩])] (lP 0 0 ([.bool (ineg (a.num*b.num)),.int .u64 (lo (iabs (a.num*b.num))),.string (hi (iabs (a.num*b.num))),.int .u64 0,.string ⟨#[]⟩]) hs (fun w16 hs=>?_))
 exact lN (CG.ret (hs.ret [(0,0,5)] (.agg #[.bool (ineg (a.num*b.num)),.int .u64 (lo (iabs (a.num*b.num))),.string (hi (iabs (a.num*b.num))),.int .u64 0,.string ⟨#[]⟩]) (qv_lit (d:=0) (rat_mul_whole hwa hwb).1 (qd_one (rat_mul_whole hwa hwb).2))))
theorem fMulNN (a b:Rat)(ha:LQ 100000000 a)(hb:LQ 100000000 b)(hwa:a.den≠1)(w:World)(h:Hp)(g:G w h)(tb:Tab h) :
    Calls Tryz.prog 67 #[qv a,qv b] w (Ret w h fun v _=>v=qv (a*b)):=by
 have hs:=SS.start g
 replace hs:=(hs.add (K:=fun h_=>Tab h_) tb)
 have ha_:=ha
 have hb_:=hb
 obtain ⟨ha1,ha2⟩:=ha
 obtain ⟨hb1,hb2⟩:=hb
 obtain ⟨q,hq⟩:∃ q,q=Nat.gcd (iabs a.num) b.den:=⟨_,rfl⟩
 obtain ⟨r,hr⟩:∃ r,r=Nat.gcd (iabs b.num) a.den:=⟨_,rfl⟩
 obtain ⟨hm1,hm2,hd1,hd2,hq0,hr0⟩:=rat_mul a b q r hq hr
 have hql:(wds q).length≤100000000:=wds_len_le (by rw[hq];exact Nat.gcd_le_right _ b.den_pos) hb2
 have hrl:(wds r).length≤100000000:=wds_len_le (by rw[hr];exact Nat.gcd_le_right _ a.den_pos) ha2
 have haq:(wds (iabs (a.num/((q:Nat):Int)))).length≤100000000:=wds_len_le (iabs_div_le _ _ hd1) ha1
 have hbr:(wds (iabs (b.num/((r:Nat):Int)))).length≤100000000:=wds_len_le (iabs_div_le _ _ hd2) hb1
 have har:(wds (a.den/r)).length≤100000000:=wds_len_le (Nat.div_le_self _ _) ha2
 have hbq:(wds (b.den/q)).length≤100000000:=wds_len_le (Nat.div_le_self _ _) hb2
 have hdl:=@wds_len_mul (a.den/r) (b.den/q)
 have hnl:=len_imul2 (a.num/((q:Nat):Int)) (b.num/((r:Nat):Int))
 have hLQ:LQ 1000000000 (a*b):=⟨by rw[hm1];omega,by rw[hm2];omega⟩
 have ha:=ha_
 have hb:=hb_
 refine go Tryz.func67 [(0,qv a),(1,qv b)] rfl ?_
 refine cSL (lA 2 40 (qc a) hs (fun b1 w2 h3 hs=>?_))
 refine lA 3 40 (qc b) hs (fun b4 w5 h6 hs=>?_)
 refine lA 4 40 ([.bool false,.int .u64 0,.string ⟨#[]⟩,.int .u64 0,.string ⟨#[]⟩]) hs (fun b7 w8 h9 hs=>?_)
 refine lN (CG.seq (cSL (lL hs [.o 7 (qv a) 2 0 5] (lC 8 hs (fIsWholeF a aM aM _ _ hs.g) ?_))))
 rintro _ w10 h11 hs rfl
 refine lL hs [.m 9 8] (lG 10 ?_)
 refine lG 11 ?_
 refine lL hs [.v 12 (.bool false)] (lN (cIF (CG.skipN (CG.seq ?_))))
 have hsr:=hs
 refine cR 7 [⟨6,5,.cells (List.toArray [.int .u64 0,.string ⟨#[]⟩]) 36 (0,0)⟩] mixed hs (al_cons (alOk kR (fun _ _=>by kernel_rfl)) al_nil) ?_
 refine eV 0 19 (.pointer (some ⟨b1,0,none⟩)) ?_
 refine eO 1 20 [(2,0,3)] (iv a.num) hs ?_
 refine eO 2 21 [(1,0,5)] (qv b) hs ?_
 refine eC 3 22 hs (fun _ _ hs=>fDen b aM _ _ hs.g) ?_
 rintro _ _ _ w12 h13 hs rfl
 refine eC 4 23 hs (fun _ _ hs=>wFromN b.den _ _ hs.g) ?_
 rintro _ _ _ w14 h15 hs rfl
 refine eC 5 24 hs (fun _ _ hs=>wGcdE a.num ((b.den:Nat):Int) q (by first|assumption|exact hq) aOM (show (wds b.den).length≤1000000000 by first|assumption|omega) _ _ hs.g (hs.f.1)) ?_
 rintro _ _ _ w16 h17 hs rfl
 refine eD1p [] hsr hs 36 [.int .u64 0,.string ⟨#[]⟩] (fun w18 h19 b20 hs=>?_)
 refine tP 7 0 0 (nc q) hs (fun w21 hs=>?_)
 refine tN (CG.seq ?_)
 have hsr:=hs
 refine cR 7 [⟨6,6,.cells (List.toArray [.int .u64 0,.string ⟨#[]⟩]) 36 (0,0)⟩] mixed hs (al_cons (alOk kR (fun _ _=>by kernel_rfl)) al_nil) ?_
 refine eV 0 25 (.pointer (some ⟨b4,0,none⟩)) ?_
 refine eO 1 26 [(2,0,3)] (iv b.num) hs ?_
 refine eO 2 27 [(3,0,5)] (qv a) hs ?_
 refine eC 3 28 hs (fun _ _ hs=>fDen a aM _ _ hs.g) ?_
 rintro _ _ _ w22 h23 hs rfl
 refine eC 4 29 hs (fun _ _ hs=>wFromN a.den _ _ hs.g) ?_
 rintro _ _ _ w24 h25 hs rfl
 refine eC 5 30 hs (fun _ _ hs=>wGcdE b.num ((a.den:Nat):Int) r (by first|assumption|exact hr) aOM (show (wds a.den).length≤1000000000 by first|assumption|omega) _ _ hs.g (hs.f.1)) ?_
 rintro _ _ _ w26 h27 hs rfl
 refine eD1p [] hsr hs 36 [.int .u64 0,.string ⟨#[]⟩] (fun w28 h29 b30 hs=>?_)
 refine tP 7 0 0 (nc r) hs (fun w31 hs=>?_)
 refine tN (CG.seq (cR 19 [] mixed hs al_nil ?_))
 refine eV 0 31 (.pointer (some ⟨b1,0,none⟩)) ?_
 refine eO 1 32 [(4,0,3)] (iv a.num) hs ?_
 refine eO 2 33 [(1,0,2)] (nv q) hs ?_
 refine eV 4 35 (.pointer (some ⟨b4,0,none⟩)) ?_
 refine eO 5 36 [(3,0,3)] (iv b.num) hs ?_
 refine eO 6 37 [(0,0,2)] (nv r) hs ?_
 refine eO 9 40 [(4,0,5)] (qv a) hs ?_
 refine eO 11 42 [(0,0,2)] (nv r) hs ?_
 refine eO 13 44 [(3,0,5)] (qv b) hs ?_
 refine eO 15 46 [(1,0,2)] (nv q) hs ?_
 refine eC 3 34 hs (fun _ _ hs=>fPart a.num q aM aM aOM aOM _ _ hs.g) ?_
 rintro _ _ _ w32 h33 hs rfl
 refine eC 7 38 hs (fun _ _ hs=>fPart b.num r aM aM aOM aOM _ _ hs.g) ?_
 rintro _ _ _ w34 h35 hs rfl
 refine eC 8 39 hs (fun _ _ hs=>wMul (a.num/((q:Nat):Int)) (b.num/((r:Nat):Int)) aOM _ _ hs.g) ?_
 rintro _ _ _ w36 h37 hs rfl
 refine eC 10 41 hs (fun _ _ hs=>fDen a aM _ _ hs.g) ?_
 rintro _ _ _ w38 h39 hs rfl
 refine eC 12 43 hs (fun _ _ hs=>fOver a.den r aM aOM aOM _ _ hs.g) ?_
 rintro _ _ _ w40 h41 hs rfl
 refine eC 14 45 hs (fun _ _ hs=>fDen b aM _ _ hs.g) ?_
 rintro _ _ _ w42 h43 hs rfl
 refine eC 16 47 hs (fun _ _ hs=>fOver b.den q aM aOM aOM _ _ hs.g) ?_
 rintro _ _ _ w44 h45 hs rfl
 refine eC 17 48 hs (fun _ _ hs=>nMul (a.den/r) (b.den/q) aOM aOM _ _ hs.g) ?_
 rintro _ _ _ w46 h47 hs rfl
 refine eC 18 49 hs (fun _ _ hs=>fPackE (a*b) ((a.num/((q:Nat):Int))*(b.num/((r:Nat):Int))) ((a.den/r)*(b.den/q)) (by first|assumption|exact hm1|exact (hm1).symm) (by first|assumption|exact hm2.symm) aM _ _ hs.g) ?_
 rintro _ _ _ w48 h49 hs rfl
 refine eD0 hs (fun w50 h51 hs=>?_)
 refine tP 19 2 0 (qc (a*b)) hs (fun w52 hs=>?_)
 refine tN (cTo [(4,.pointer (some ⟨b7,0,none⟩))] ?_)
 exact CG.ret (hs.ret [(2,0,5)] (qv (a*b)) rfl)
theorem fMulWN (a b:Rat)(ha:LQ 100000000 a)(hb:LQ 100000000 b)(hwa:a.den=1)(hwb:b.den≠1)(w:World)(h:Hp)(g:G w h)(tb:Tab h) :
    Calls Tryz.prog 67 #[qv a,qv b] w (Ret w h fun v _=>v=qv (a*b)):=by
 have hs:=SS.start g
 replace hs:=(hs.add (K:=fun h_=>Tab h_) tb)
 have ha_:=ha
 have hb_:=hb
 obtain ⟨ha1,ha2⟩:=ha
 obtain ⟨hb1,hb2⟩:=hb
 obtain ⟨q,hq⟩:∃ q,q=Nat.gcd (iabs a.num) b.den:=⟨_,rfl⟩
 obtain ⟨r,hr⟩:∃ r,r=Nat.gcd (iabs b.num) a.den:=⟨_,rfl⟩
 obtain ⟨hm1,hm2,hd1,hd2,hq0,hr0⟩:=rat_mul a b q r hq hr
 have hql:(wds q).length≤100000000:=wds_len_le (by rw[hq];exact Nat.gcd_le_right _ b.den_pos) hb2
 have hrl:(wds r).length≤100000000:=wds_len_le (by rw[hr];exact Nat.gcd_le_right _ a.den_pos) ha2
 have haq:(wds (iabs (a.num/((q:Nat):Int)))).length≤100000000:=wds_len_le (iabs_div_le _ _ hd1) ha1
 have hbr:(wds (iabs (b.num/((r:Nat):Int)))).length≤100000000:=wds_len_le (iabs_div_le _ _ hd2) hb1
 have har:(wds (a.den/r)).length≤100000000:=wds_len_le (Nat.div_le_self _ _) ha2
 have hbq:(wds (b.den/q)).length≤100000000:=wds_len_le (Nat.div_le_self _ _) hb2
 have hdl:=@wds_len_mul (a.den/r) (b.den/q)
 have hnl:=len_imul2 (a.num/((q:Nat):Int)) (b.num/((r:Nat):Int))
 have hLQ:LQ 1000000000 (a*b):=⟨by rw[hm1];omega,by rw[hm2];omega⟩
 have ha:=ha_
 have hb:=hb_
 refine go Tryz.func67 [(0,qv a),(1,qv b)] rfl ?_
 refine cSL (lA 2 40 (qc a) hs (fun b1 w2 h3 hs=>?_))
 refine lA 3 40 (qc b) hs (fun b4 w5 h6 hs=>?_)
 refine lA 4 40 ([.bool false,.int .u64 0,.string ⟨#[]⟩,.int .u64 0,.string ⟨#[]⟩]) hs (fun b7 w8 h9 hs=>?_)
 refine lN (CG.seq (cSL (lL hs [.o 7 (qv a) 2 0 5] (lC 8 hs (fIsWholeT a aM aM _ _ hs.g) ?_))))
 rintro _ w10 h11 hs rfl
 refine lL hs [.m 9 8,.o 10 (qv b) 1 0 5] (lC 11 hs (fIsWholeF b aM aM _ _ hs.g) ?_)
 rintro _ w12 h13 hs rfl
 refine lL hs [.v 12 (.bool false)] (lN (cIF (CG.skipN (CG.seq ?_))))
 have hsr:=hs
 refine cR 7 [⟨6,5,.cells (List.toArray [.int .u64 0,.string ⟨#[]⟩]) 36 (0,0)⟩] mixed hs (al_cons (alOk kR (fun _ _=>by kernel_rfl)) al_nil) ?_
 refine eV 0 19 (.pointer (some ⟨b1,0,none⟩)) ?_
 refine eO 1 20 [(2,0,3)] (iv a.num) hs ?_
 refine eO 2 21 [(1,0,5)] (qv b) hs ?_
 refine eC 3 22 hs (fun _ _ hs=>fDen b aM _ _ hs.g) ?_
 rintro _ _ _ w14 h15 hs rfl
 refine eC 4 23 hs (fun _ _ hs=>wFromN b.den _ _ hs.g) ?_
 rintro _ _ _ w16 h17 hs rfl
 refine eC 5 24 hs (fun _ _ hs=>wGcdE a.num ((b.den:Nat):Int) q (by first|assumption|exact hq) aOM (show (wds b.den).length≤1000000000 by first|assumption|omega) _ _ hs.g (hs.f.1)) ?_
 rintro _ _ _ w18 h19 hs rfl
 refine eD1p [] hsr hs 36 [.int .u64 0,.string ⟨#[]⟩] (fun w20 h21 b22 hs=>?_)
 refine tP 7 0 0 (nc q) hs (fun w23 hs=>?_)
 refine tN (CG.seq ?_)
 have hsr:=hs
 refine cR 7 [⟨6,6,.cells (List.toArray [.int .u64 0,.string ⟨#[]⟩]) 36 (0,0)⟩] mixed hs (al_cons (alOk kR (fun _ _=>by kernel_rfl)) al_nil) ?_
 refine eV 0 25 (.pointer (some ⟨b4,0,none⟩)) ?_
 refine eO 1 26 [(2,0,3)] (iv b.num) hs ?_
 refine eO 2 27 [(3,0,5)] (qv a) hs ?_
 refine eC 3 28 hs (fun _ _ hs=>fDen a aM _ _ hs.g) ?_
 rintro _ _ _ w24 h25 hs rfl
 refine eC 4 29 hs (fun _ _ hs=>wFromN a.den _ _ hs.g) ?_
 rintro _ _ _ w26 h27 hs rfl
 refine eC 5 30 hs (fun _ _ hs=>wGcdE b.num ((a.den:Nat):Int) r (by first|assumption|exact hr) aOM (show (wds a.den).length≤1000000000 by first|assumption|omega) _ _ hs.g (hs.f.1)) ?_
 rintro _ _ _ w28 h29 hs rfl
 refine eD1p [] hsr hs 36 [.int .u64 0,.string ⟨#[]⟩] (fun w30 h31 b32 hs=>?_)
 refine tP 7 0 0 (nc r) hs (fun w33 hs=>?_)
 refine tN (CG.seq (cR 19 [] mixed hs al_nil ?_))
 refine eV 0 31 (.pointer (some ⟨b1,0,none⟩)) ?_
 refine eO 1 32 [(4,0,3)] (iv a.num) hs ?_
 refine eO 2 33 [(1,0,2)] (nv q) hs ?_
 refine eV 4 35 (.pointer (some ⟨b4,0,none⟩)) ?_
 refine eO 5 36 [(3,0,3)] (iv b.num) hs ?_
 refine eO 6 37 [(0,0,2)] (nv r) hs ?_
 refine eO 9 40 [(4,0,5)] (qv a) hs ?_
 refine eO 11 42 [(0,0,2)] (nv r) hs ?_
 refine eO 13 44 [(3,0,5)] (qv b) hs ?_
 refine eO 15 46 [(1,0,2)] (nv q) hs ?_
 refine eC 3 34 hs (fun _ _ hs=>fPart a.num q aM aM aOM aOM _ _ hs.g) ?_
 rintro _ _ _ w34 h35 hs rfl
 refine eC 7 38 hs (fun _ _ hs=>fPart b.num r aM aM aOM aOM _ _ hs.g) ?_
 rintro _ _ _ w36 h37 hs rfl
 refine eC 8 39 hs (fun _ _ hs=>wMul (a.num/((q:Nat):Int)) (b.num/((r:Nat):Int)) aOM _ _ hs.g) ?_
 rintro _ _ _ w38 h39 hs rfl
 refine eC 10 41 hs (fun _ _ hs=>fDen a aM _ _ hs.g) ?_
 rintro _ _ _ w40 h41 hs rfl
 refine eC 12 43 hs (fun _ _ hs=>fOver a.den r aM aOM aOM _ _ hs.g) ?_
 rintro _ _ _ w42 h43 hs rfl
 refine eC 14 45 hs (fun _ _ hs=>fDen b aM _ _ hs.g) ?_
 rintro _ _ _ w44 h45 hs rfl
 refine eC 16 47 hs (fun _ _ hs=>fOver b.den q aM aOM aOM _ _ hs.g) ?_
 rintro _ _ _ w46 h47 hs rfl
 refine eC 17 48 hs (fun _ _ hs=>nMul (a.den/r) (b.den/q) aOM aOM _ _ hs.g) ?_
 rintro _ _ _ w48 h49 hs rfl
 refine eC 18 49 hs (fun _ _ hs=>fPackE (a*b) ((a.num/((q:Nat):Int))*(b.num/((r:Nat):Int))) ((a.den/r)*(b.den/q)) (by first|assumption|exact hm1|exact (hm1).symm) (by first|assumption|exact hm2.symm) aM _ _ hs.g) ?_
 rintro _ _ _ w50 h51 hs rfl
 refine eD0 hs (fun w52 h53 hs=>?_)
 refine tP 19 2 0 (qc (a*b)) hs (fun w54 hs=>?_)
 refine tN (cTo [(4,.pointer (some ⟨b7,0,none⟩))] ?_)
 exact CG.ret (hs.ret [(2,0,5)] (qv (a*b)) rfl)
theorem fMul (a b:Rat)(ha:LQ 100000000 a)(hb:LQ 100000000 b)(w:World)(h:Hp)(g:G w h)(tb:Tab h):Calls Tryz.prog 67 #[qv a,qv b] w (Ret w h fun v _=>v=qv (a*b)):=by
  by_cases h1:a.den=1
  · by_cases h2:b.den=1
    · exact fMulWW a b ha hb h1 h2 w h g tb
    · exact fMulWN a b ha hb h1 h2 w h g tb
  · exact fMulNN a b ha hb h1 w h g tb
theorem LQ.add {k l:Nat}{a b:Rat}(ha:LQ k a)(hb:LQ l b):LQ (k+l+1) (a+b):=by
  obtain ⟨ha1,ha2⟩:=ha
  obtain ⟨hb1,hb2⟩:=hb
  obtain ⟨q,hq⟩:∃ q,q=Nat.gcd a.den b.den:=⟨_,rfl⟩
  obtain ⟨up,hup⟩:∃ up,up=a.num*((b.den/q:Nat):Int)+b.num*((a.den/q:Nat):Int):=⟨_,rfl⟩
  obtain ⟨r,hr⟩:∃ r,r=Nat.gcd (iabs up) q:=⟨_,rfl⟩
  obtain ⟨hm1,hm2,hd1,hd2,hr0,hq0⟩:=rat_add a b q r up hq hup hr
  have haq:=wds_len_le (Nat.div_le_self a.den q) ha2
  have hbq:=wds_len_le (Nat.div_le_self b.den q) hb2
  have hbr:=wds_len_le (Nat.div_le_self b.den r) hb2
  have hx1:=len_imul a.num (b.den/q)
  have hx2:=len_imul b.num (a.den/q)
  have hdl:=@wds_len_mul (a.den/q) (b.den/r)
  refine ⟨?_,by rw[hm2];omega⟩
  rw[hm1]
  refine wds_len_le (iabs_div_le up r hd1) ?_
  rw[hup]
  exact Nat.le_trans (wds_len_mono (show iabs _≤iabs _+iabs _ from Int.natAbs_add_le _ _)) (wds_len_max oM oM)
theorem LQ.mul {k l:Nat}{a b:Rat}(ha:LQ k a)(hb:LQ l b):LQ (k+l) (a*b):=by
  obtain ⟨ha1,ha2⟩:=ha
  obtain ⟨hb1,hb2⟩:=hb
  obtain ⟨hm1,hm2,hd1,hd2,hq0,hr0⟩:=rat_mul a b _ _ rfl rfl
  refine ⟨?_,?_⟩
  · rw[hm1]
    have h1:=wds_len_le (iabs_div_le _ _ hd1) ha1
    have h2:=wds_len_le (iabs_div_le _ _ hd2) hb1
    exact Nat.le_trans (len_imul2 _ _) oM
  · rw[hm2]
    have h1:=wds_len_le (Nat.div_le_self a.den (Nat.gcd (iabs b.num) a.den)) ha2
    have h2:=wds_len_le (Nat.div_le_self b.den (Nat.gcd (iabs a.num) b.den)) hb2
    exact Nat.le_trans wds_len_mul oM
theorem LQ.mono {k l:Nat}{a:Rat}(h:LQ k a)(hkl:k≤l):LQ l a:=⟨Nat.le_trans h.1 hkl,Nat.le_trans h.2 hkl⟩
def cmpR (a b:Rat):Int:=cmpI (a.num*b.den) (b.num*a.den)
theorem cmpR_whole {a b:Rat}(h1:a.den=1)(h2:b.den=1):cmpI a.num b.num=cmpR a b:=by unfold cmpR;rw[h1,h2];simp
theorem cmpR_sign {a b:Rat}(h:(a.num.sign != b.num.sign)=true):cmpI a.num b.num=cmpR a b:=by
  have h:a.num.sign≠b.num.sign:=by simpa using h
  have ha:=a.den_pos
  have hb:=b.den_pos
  unfold cmpR cmpI
  rcases Int.lt_trichotomy a.num 0 with p|p|p<;>rcases Int.lt_trichotomy b.num 0 with q|q|q
  · exact absurd (by rw[Int.sign_eq_neg_one_of_neg p,Int.sign_eq_neg_one_of_neg q]) h
  · have:a.num*(b.den:Int)<0:=Int.mul_neg_of_neg_of_pos p oM
    rw[q];simp;rw[if_pos p,if_pos this]
  · have t1:a.num*(b.den:Int)<0:=Int.mul_neg_of_neg_of_pos p oM
    have t2:0<b.num*(a.den:Int):=Int.mul_pos q oM
    rw[if_pos oM,if_pos oM]
  · have:b.num*(a.den:Int)<0:=Int.mul_neg_of_neg_of_pos q oM
    rw[p];simp;rw[if_neg oM,if_pos q,if_neg oM,if_pos this]
  · exact absurd (by rw[p,q]) h
  · have:0<b.num*(a.den:Int):=Int.mul_pos q oM
    rw[p];simp;rw[if_pos q,if_pos this]
  · have t1:0<a.num*(b.den:Int):=Int.mul_pos p oM
    have t2:b.num*(a.den:Int)<0:=Int.mul_neg_of_neg_of_pos q oM
    rw[if_neg oM,if_pos oM,if_neg oM,if_pos oM]
  · have:0<a.num*(b.den:Int):=Int.mul_pos p oM
    rw[q];simp;rw[if_neg oM,if_pos p,if_neg oM,if_pos this]
  · exact absurd (by rw[Int.sign_eq_one_of_pos p,Int.sign_eq_one_of_pos q]) h
theorem fCmpWW (a b:Rat)(ha:LQ 100000000 a)(hb:LQ 100000000 b)(hwa:a.den=1)(hwb:b.den=1)(w:World)(h:Hp)(g:G w h) :
    Calls Tryz.prog 19 #[qv a,qv b] w (Ret w h fun v _=>v=.int .i64 (cmpR a b)):=by
 have hs:=SS.start g
 have ha_:=ha
 have hb_:=hb
 obtain ⟨ha1,ha2⟩:=ha_
 obtain ⟨hb1,hb2⟩:=hb_
 have hx1:=len_imul a.num b.den
 have hx2:=len_imul b.num a.den
 refine go Tryz.func19 [(0,qv a),(1,qv b)] rfl ?_
 refine cSL (lA 2 40 (qc a) hs (fun b1 w2 h3 hs=>?_))
 refine lA 3 40 (qc b) hs (fun b4 w5 h6 hs=>?_)
 refine lL hs [.v 4 (.int .i64 0)] (lN (CG.seq (CG.seq (cR 13 [] mixed hs al_nil ?_))))
 refine eO 0 5 [(1,0,5)] (qv a) hs ?_
 refine eC 1 6 hs (fun _ _ hs=>fIsWholeT a aM aM _ _ hs.g) ?_
 rintro _ _ _ w7 h8 hs rfl
 refine eV 2 7 (.bool true) ?_
 refine eO 3 8 [(0,0,5)] (qv b) hs ?_
 refine eC 4 9 hs (fun _ _ hs=>fIsWholeT b aM aM _ _ hs.g) ?_
 rintro _ _ _ w9 h10 hs rfl
 refine eV 5 10 (.bool true) ?_
 refine eV 6 11 (.bool true) ?_
 refine eG 7 12 ?_
 refine eG 8 13 ?_
 refine eG 9 14 ?_
 refine eG 10 15 ?_
 refine eG 11 16 ?_
 refine eV 12 17 (.bool true) ?_
 refine eD0 hs (fun w11 h12 hs=>?_)
 refine tN (cIT (cSL (lL hs [.v 18 (.pointer (some ⟨b1,0,none⟩)),.o 19 (iv a.num) 1 0 3,.v 20 (.pointer (some ⟨b4,0,none⟩)),.o 21 (iv b.num) 0 0 3] (lC 22 hs (wCmp a.num b.num aOM aOM _ _ hs.g) ?_))))
 rintro _ w13 h14 hs rfl
 exact lL hs [.m 4 22] (lN (CG.ret (hs.ret [] (.int .i64 (cmpI a.num b.num)) (congrArg (Value.int .i64) (by first|rfl|exact cmpR_whole hwa hwb|exact cmpR_sign ‹_›)))))
theorem fCmpNN (a b:Rat)(ha:LQ 100000000 a)(hb:LQ 100000000 b)(hwa:a.den≠1)(w:World)(h:Hp)(g:G w h) :
    Calls Tryz.prog 19 #[qv a,qv b] w (Ret w h fun v _=>v=.int .i64 (cmpR a b)):=by
 have hs:=SS.start g
 have ha_:=ha
 have hb_:=hb
 obtain ⟨ha1,ha2⟩:=ha_
 obtain ⟨hb1,hb2⟩:=hb_
 have hx1:=len_imul a.num b.den
 have hx2:=len_imul b.num a.den
 refine go Tryz.func19 [(0,qv a),(1,qv b)] rfl ?_
 refine cSL (lA 2 40 (qc a) hs (fun b1 w2 h3 hs=>?_))
 refine lA 3 40 (qc b) hs (fun b4 w5 h6 hs=>?_)
 refine lL hs [.v 4 (.int .i64 0)] (lN (CG.seq (CG.seq (cR 13 [] mixed hs al_nil ?_))))
 refine eO 0 5 [(1,0,5)] (qv a) hs ?_
 refine eC 1 6 hs (fun _ _ hs=>fIsWholeF a aM aM _ _ hs.g) ?_
 rintro _ _ _ w7 h8 hs rfl
 refine eV 2 7 (.bool false) ?_
 refine eG 3 8 ?_
 refine eG 4 9 ?_
 refine eV 5 10 (.bool false) ?_
 refine eV 6 11 (.bool false) ?_
 refine eO 7 12 [(1,0,5)] (qv a) hs ?_
 refine eO 9 14 [(0,0,5)] (qv b) hs ?_
 refine eC 8 13 hs (fun _ _ hs=>fSign a aM _ _ hs.g) ?_
 rintro _ _ _ w9 h10 hs rfl
 refine eC 10 15 hs (fun _ _ hs=>fSign b aM _ _ hs.g) ?_
 rintro _ _ _ w11 h12 hs rfl
 cases hb13:(((a.num).sign:Int) != ((b.num).sign:Int))
 ·
  have phb13:=eqOfBne hb13
  refine eB 11 16 hb13 ?_
  refine eV 12 17 (.bool false) ?_
  refine eD0 hs (fun w14 h15 hs=>?_)
  refine tN (cIF (CG.skipN (CG.seq (cR 11 [] mixed hs al_nil ?_))))
  refine eV 0 23 (.pointer (some ⟨b1,0,none⟩)) ?_
  refine eO 1 24 [(1,0,3)] (iv a.num) hs ?_
  refine eO 2 25 [(0,0,5)] (qv b) hs ?_
  refine eV 5 28 (.pointer (some ⟨b4,0,none⟩)) ?_
  refine eO 6 29 [(0,0,3)] (iv b.num) hs ?_
  refine eO 7 30 [(1,0,5)] (qv a) hs ?_
  refine eC 3 26 hs (fun _ _ hs=>fDen b aM _ _ hs.g) ?_
  rintro _ _ _ w16 h17 hs rfl
  refine eC 4 27 hs (fun _ _ hs=>fTimes a.num b.den aOM _ _ hs.g) ?_
  rintro _ _ _ w18 h19 hs rfl
  refine eC 8 31 hs (fun _ _ hs=>fDen a aM _ _ hs.g) ?_
  rintro _ _ _ w20 h21 hs rfl
  refine eC 9 32 hs (fun _ _ hs=>fTimes b.num a.den aOM _ _ hs.g) ?_
  rintro _ _ _ w22 h23 hs rfl
  refine eC 10 33 hs (fun _ _ hs=>wCmp (a.num*((b.den:Nat):Int)) (b.num*((a.den:Nat):Int)) aOM aOM _ _ hs.g) ?_
  rintro _ _ _ w24 h25 hs rfl
  refine eD0 hs (fun w26 h27 hs=>?_)
  refine tV 11 4 (.int .i64 (cmpI (a.num*((b.den:Nat):Int)) (b.num*((a.den:Nat):Int)))) ?_
  exact tN (CG.ret (hs.ret [] (.int .i64 (cmpI (a.num*((b.den:Nat):Int)) (b.num*((a.den:Nat):Int)))) (congrArg (Value.int .i64) (by first|rfl|exact cmpR_whole hwa hwb|exact cmpR_sign ‹_›))))
 have phb13:=neOfBne hb13
 refine eB 11 16 hb13 ?_
 refine eV 12 17 (.bool true) ?_
 refine eD0 hs (fun w28 h29 hs=>?_)
 refine tN (cIT (cSL (lL hs [.v 18 (.pointer (some ⟨b1,0,none⟩)),.o 19 (iv a.num) 1 0 3,.v 20 (.pointer (some ⟨b4,0,none⟩)),.o 21 (iv b.num) 0 0 3] (lC 22 hs (wCmp a.num b.num aOM aOM _ _ hs.g) ?_))))
 rintro _ w30 h31 hs rfl
 exact lL hs [.m 4 22] (lN (CG.ret (hs.ret [] (.int .i64 (cmpI a.num b.num)) (congrArg (Value.int .i64) (by first|rfl|exact cmpR_whole hwa hwb|exact cmpR_sign ‹_›)))))
theorem fCmpWN (a b:Rat)(ha:LQ 100000000 a)(hb:LQ 100000000 b)(hwa:a.den=1)(hwb:b.den≠1)(w:World)(h:Hp)(g:G w h) :
    Calls Tryz.prog 19 #[qv a,qv b] w (Ret w h fun v _=>v=.int .i64 (cmpR a b)):=by
 have hs:=SS.start g
 have ha_:=ha
 have hb_:=hb
 obtain ⟨ha1,ha2⟩:=ha_
 obtain ⟨hb1,hb2⟩:=hb_
 have hx1:=len_imul a.num b.den
 have hx2:=len_imul b.num a.den
 refine go Tryz.func19 [(0,qv a),(1,qv b)] rfl ?_
 refine cSL (lA 2 40 (qc a) hs (fun b1 w2 h3 hs=>?_))
 refine lA 3 40 (qc b) hs (fun b4 w5 h6 hs=>?_)
 refine lL hs [.v 4 (.int .i64 0)] (lN (CG.seq (CG.seq (cR 13 [] mixed hs al_nil ?_))))
 refine eO 0 5 [(1,0,5)] (qv a) hs ?_
 refine eC 1 6 hs (fun _ _ hs=>fIsWholeT a aM aM _ _ hs.g) ?_
 rintro _ _ _ w7 h8 hs rfl
 refine eV 2 7 (.bool true) ?_
 refine eO 3 8 [(0,0,5)] (qv b) hs ?_
 refine eC 4 9 hs (fun _ _ hs=>fIsWholeF b aM aM _ _ hs.g) ?_
 rintro _ _ _ w9 h10 hs rfl
 refine eV 5 10 (.bool false) ?_
 refine eV 6 11 (.bool false) ?_
 refine eO 7 12 [(1,0,5)] (qv a) hs ?_
 refine eO 9 14 [(0,0,5)] (qv b) hs ?_
 refine eC 8 13 hs (fun _ _ hs=>fSign a aM _ _ hs.g) ?_
 rintro _ _ _ w11 h12 hs rfl
 refine eC 10 15 hs (fun _ _ hs=>fSign b aM _ _ hs.g) ?_
 rintro _ _ _ w13 h14 hs rfl
 cases hb15:(((a.num).sign:Int) != ((b.num).sign:Int))
 ·
  have phb15:=eqOfBne hb15
  refine eB 11 16 hb15 ?_
  refine eV 12 17 (.bool false) ?_
  refine eD0 hs (fun w16 h17 hs=>?_)
  refine tN (cIF (CG.skipN (CG.seq (cR 11 [] mixed hs al_nil ?_))))
  refine eV 0 23 (.pointer (some ⟨b1,0,none⟩)) ?_
  refine eO 1 24 [(1,0,3)] (iv a.num) hs ?_
  refine eO 2 25 [(0,0,5)] (qv b) hs ?_
  refine eV 5 28 (.pointer (some ⟨b4,0,none⟩)) ?_
  refine eO 6 29 [(0,0,3)] (iv b.num) hs ?_
  refine eO 7 30 [(1,0,5)] (qv a) hs ?_
  refine eC 3 26 hs (fun _ _ hs=>fDen b aM _ _ hs.g) ?_
  rintro _ _ _ w18 h19 hs rfl
  refine eC 4 27 hs (fun _ _ hs=>fTimes a.num b.den aOM _ _ hs.g) ?_
  rintro _ _ _ w20 h21 hs rfl
  refine eC 8 31 hs (fun _ _ hs=>fDen a aM _ _ hs.g) ?_
  rintro _ _ _ w22 h23 hs rfl
  refine eC 9 32 hs (fun _ _ hs=>fTimes b.num a.den aOM _ _ hs.g) ?_
  rintro _ _ _ w24 h25 hs rfl
  refine eC 10 33 hs (fun _ _ hs=>wCmp (a.num*((b.den:Nat):Int)) (b.num*((a.den:Nat):Int)) aOM aOM _ _ hs.g) ?_
  rintro _ _ _ w26 h27 hs rfl
  refine eD0 hs (fun w28 h29 hs=>?_)
  refine tV 11 4 (.int .i64 (cmpI (a.num*((b.den:Nat):Int)) (b.num*((a.den:Nat):Int)))) ?_
  exact tN (CG.ret (hs.ret [] (.int .i64 (cmpI (a.num*((b.den:Nat):Int)) (b.num*((a.den:Nat):Int)))) (congrArg (Value.int .i64) (by first|rfl|exact cmpR_whole hwa hwb|exact cmpR_sign ‹_›))))
 have phb15:=neOfBne hb15
 refine eB 11 16 hb15 ?_
 refine eV 12 17 (.bool true) ?_
 refine eD0 hs (fun w30 h31 hs=>?_)
 refine tN (cIT (cSL (lL hs [.v 18 (.pointer (some ⟨b1,0,none⟩)),.o 19 (iv a.num) 1 0 3,.v 20 (.pointer (some ⟨b4,0,none⟩)),.o 21 (iv b.num) 0 0 3] (lC 22 hs (wCmp a.num b.num aOM aOM _ _ hs.g) ?_))))
 rintro _ w32 h33 hs rfl
 exact lL hs [.m 4 22] (lN (CG.ret (hs.ret [] (.int .i64 (cmpI a.num b.num)) (congrArg (Value.int .i64) (by first|rfl|exact cmpR_whole hwa hwb|exact cmpR_sign ‹_›)))))
theorem fCmp (a b:Rat)(ha:LQ 100000000 a)(hb:LQ 100000000 b)(w:World)(h:Hp)(g:G w h):Calls Tryz.prog 19 #[qv a,qv b] w (Ret w h fun v _=>v=.int .i64 (cmpR a b)):=by
  by_cases h1:a.den=1
  · by_cases h2:b.den=1
    · exact fCmpWW a b ha hb h1 h2 w h g
    · exact fCmpWN a b ha hb h1 h2 w h g
  · exact fCmpNN a b ha hb h1 w h g
def mkR (n d:Int):Rat:=mkRat (if d<0 then -n else n) (iabs d)
theorem fMakeN (n d:Int)(hd:d<0)(hla:(wds (iabs n)).length≤1000000000)(hlb:(wds (iabs d)).length≤1000000000)(w:World)(h:Hp)(g:G w h)(tb:Tab h) :
    Calls Tryz.prog 48 #[iv n,iv d] w (Ret w h fun v _=>v=.tuple #[qv (mkR n d),.bool true]):=by
 have hs:=SS.start g
 replace hs:=(hs.add (K:=fun h_=>Tab h_) tb)
 have hds:=Int.sign_eq_neg_one_of_neg hd
 have hd0:0<iabs d:=by unfold iabs;omega
 have hln:(wds (iabs (-n))).length≤1000000000:=by unfold iabs;rw[Int.natAbs_neg];exact hla
 refine go Tryz.func48 [(0,iv n),(1,iv d)] rfl ?_
 refine cSL (lA 2 38 (ic n) hs (fun b1 w2 h3 hs=>?_))
 refine lA 3 38 (ic d) hs (fun b4 w5 h6 hs=>?_)
 refine lA 4 40 ([.bool false,.int .u64 0,.string ⟨#[]⟩,.int .u64 0,.string ⟨#[]⟩]) hs (fun b7 w8 h9 hs=>?_)
 refine lL hs [.v 5 (.bool false)] (lN (CG.seq (cSL (lL hs [.o 6 (iv d) 1 0 3] (lC 7 hs (wSign d aOM _ _ hs.g) ?_)))))
 rintro _ w10 h11 hs rfl
 have hb12:(((d).sign:Int) == (0:Int))=false:=beqF oM
 have phb12:=neOfBeq hb12
 refine lB 8 hb12 ?_
 refine lN (cIF (CG.skipN (CG.seq (cSL (lL hs [.o 10 (iv d) 1 0 3] (lC 11 hs (wSign d aOM _ _ hs.g) ?_))))))
 rintro _ w13 h14 hs rfl
 have ⟨hb15,phb15⟩:=dT (p:=((d).sign:Int)<(0:Int)) oM
 refine lB 12 hb15 ?_
 refine lN (cIT (CG.listed (lL hs [.o 13 (iv n) 2 0 3] (lC 14 hs (wNeg n aOM _ _ hs.g) ?_))))
 rintro _ w16 h17 hs rfl
 refine lP 2 0 (ic (-n)) hs (fun w18 hs=>?_)
 refine lN (CG.seq (cR 4 [] mixed hs al_nil ?_))
 refine eO 0 15 [(2,0,3)] (iv (-n)) hs ?_
 refine eO 1 16 [(1,0,3)] (iv d) hs ?_
 refine eC 2 17 hs (fun _ _ hs=>wAbs d _ _ hs.g) ?_
 rintro _ _ _ w19 h20 hs rfl
 refine eC 3 18 hs (fun _ _ hs=>fLowest (-n) (iabs d) aOM aOM aOM _ _ hs.g (hs.f.1)) ?_
 rintro _ _ _ w21 h22 hs rfl
 refine eD0 hs (fun w23 h24 hs=>?_)
 refine tP 4 0 0 (qc (mkRat (-n) (iabs d))) hs (fun w25 hs=>?_)
 refine tV 5 5 (.bool true) ?_
 exact tN (CG.ret (hs.ret [(0,0,5)] (.tuple #[qv (mkRat (-n) (iabs d)),.bool true]) (by unfold mkR;rw[if_pos hd])))
theorem fMakeP (n d:Int)(hd:0<d)(hla:(wds (iabs n)).length≤1000000000)(hlb:(wds (iabs d)).length≤1000000000)(w:World)(h:Hp)(g:G w h)(tb:Tab h) :
    Calls Tryz.prog 48 #[iv n,iv d] w (Ret w h fun v _=>v=.tuple #[qv (mkR n d),.bool true]):=by
 have hs:=SS.start g
 replace hs:=(hs.add (K:=fun h_=>Tab h_) tb)
 have hds:=Int.sign_eq_one_of_pos hd
 have hd0:0<iabs d:=by unfold iabs;omega
 refine go Tryz.func48 [(0,iv n),(1,iv d)] rfl ?_
 refine cSL (lA 2 38 (ic n) hs (fun b1 w2 h3 hs=>?_))
 refine lA 3 38 (ic d) hs (fun b4 w5 h6 hs=>?_)
 refine lA 4 40 ([.bool false,.int .u64 0,.string ⟨#[]⟩,.int .u64 0,.string ⟨#[]⟩]) hs (fun b7 w8 h9 hs=>?_)
 refine lL hs [.v 5 (.bool false)] (lN (CG.seq (cSL (lL hs [.o 6 (iv d) 1 0 3] (lC 7 hs (wSign d aOM _ _ hs.g) ?_)))))
 rintro _ w10 h11 hs rfl
 have hb12:(((d).sign:Int) == (0:Int))=false:=beqF oM
 have phb12:=neOfBeq hb12
 refine lB 8 hb12 ?_
 refine lN (cIF (CG.skipN (CG.seq (cSL (lL hs [.o 10 (iv d) 1 0 3] (lC 11 hs (wSign d aOM _ _ hs.g) ?_))))))
 rintro _ w13 h14 hs rfl
 have ⟨hb15,phb15⟩:=dF (p:=((d).sign:Int)<(0:Int)) oM
 refine lB 12 hb15 ?_
 refine lN (cIF (CG.skipN (CG.seq (cR 4 [] mixed hs al_nil ?_))))
 refine eO 0 15 [(2,0,3)] (iv n) hs ?_
 refine eO 1 16 [(1,0,3)] (iv d) hs ?_
 refine eC 2 17 hs (fun _ _ hs=>wAbs d _ _ hs.g) ?_
 rintro _ _ _ w16 h17 hs rfl
 refine eC 3 18 hs (fun _ _ hs=>fLowest n (iabs d) aOM aOM aOM _ _ hs.g (hs.f.1)) ?_
 rintro _ _ _ w18 h19 hs rfl
 refine eD0 hs (fun w20 h21 hs=>?_)
 refine tP 4 0 0 (qc (mkRat n (iabs d))) hs (fun w22 hs=>?_)
 refine tV 5 5 (.bool true) ?_
 exact tN (CG.ret (hs.ret [(0,0,5)] (.tuple #[qv (mkRat n (iabs d)),.bool true]) (by unfold mkR;rw[if_neg oM])))
theorem fMake (n d:Int)(hd:d≠0)(hla:(wds (iabs n)).length≤1000000000)(hlb:(wds (iabs d)).length≤1000000000)(w:World)(h:Hp)(g:G w h)(tb:Tab h):Calls Tryz.prog 48 #[iv n,iv d] w (Ret w h fun v _=>v=.tuple #[qv (mkR n d),.bool true]):=by
  rcases Int.lt_trichotomy d 0 with h1|h1|h1
  · exact fMakeN n d h1 hla hlb w h g tb
  · exact absurd h1 hd
  · exact fMakeP n d h1 hla hlb w h g tb
theorem fDivN (a b:Rat)(ha:LQ 100000000 a)(hb:LQ 100000000 b)(hz:b.num≠0)(w:World)(h:Hp)(g:G w h)(tb:Tab h) :
    Calls Tryz.prog 40 #[qv a,qv b] w (Ret w h fun v _=>v=.tuple #[qv (a/b),.bool true]):=by
 have hs:=SS.start g
 replace hs:=(hs.add (K:=fun h_=>Tab h_) tb)
 have ha_:=ha
 have hb_:=hb
 obtain ⟨ha1,ha2⟩:=ha_
 obtain ⟨hb1,hb2⟩:=hb_
 have hzs:((b.num).sign == (0:Int))=false:=by simpa using hz
 obtain ⟨hi1,hi2⟩:=rat_inv b hz
 have hsl:(wds (iabs (sgn (decide ((b.num).sign<(0:Int))) b.den))).length≤100000000:=by rw[iabs_sgn];exact hb2
 have hli:LQ 100000000 b⁻¹:=⟨by rw[hi1];exact hsl,by rw[hi2];exact hb1⟩
 have hli2:LQ 1000000000 b⁻¹:=hli.mono oM
 refine go Tryz.func40 [(0,qv a),(1,qv b)] rfl ?_
 refine cSL (lA 2 40 (qc a) hs (fun b1 w2 h3 hs=>?_))
 refine lA 3 40 (qc b) hs (fun b4 w5 h6 hs=>?_)
 refine lA 4 40 ([.bool false,.int .u64 0,.string ⟨#[]⟩,.int .u64 0,.string ⟨#[]⟩]) hs (fun b7 w8 h9 hs=>?_)
 refine lL hs [.v 5 (.bool false)] (lN (CG.seq (cSL (lL hs [.o 6 (qv b) 1 0 5] (lC 7 hs (fSign b aM _ _ hs.g) ?_)))))
 rintro _ w10 h11 hs rfl
 refine lV 8 (.bool false) ?_ (hr:=rb (e:=((b.num).sign == (0:Int))) kR hzs)
 refine lN (cIF (CG.skipN (CG.seq (cR 12 [] mixed hs al_nil ?_))))
 refine eO 0 10 [(2,0,5)] (qv a) hs ?_
 refine eO 1 11 [(1,0,5)] (qv b) hs ?_
 refine eO 4 14 [(1,0,5)] (qv b) hs ?_
 refine eV 7 17 (.pointer (some ⟨b4,0,none⟩)) ?_
 refine eO 8 18 [(1,0,3)] (iv b.num) hs ?_
 refine eC 2 12 hs (fun _ _ hs=>fSign b aM _ _ hs.g) ?_
 rintro _ _ _ w12 h13 hs rfl
 refine eV 3 13 (.bool (decide (((b.num).sign:Int)<(0:Int)))) ?_
 refine eC 5 15 hs (fun _ _ hs=>fDen b aM _ _ hs.g) ?_
 rintro _ _ _ w14 h15 hs rfl
 refine eC 6 16 hs (fun _ _ hs=>wFrom (decide (((b.num).sign:Int)<(0:Int))) b.den aOM _ _ hs.g) ?_
 rintro _ _ _ w16 h17 hs rfl
 refine eC 9 19 hs (fun _ _ hs=>wAbs b.num _ _ hs.g) ?_
 rintro _ _ _ w18 h19 hs rfl
 refine eC 10 20 hs (fun _ _ hs=>fPackE b⁻¹ (sgn (decide (((b.num).sign:Int)<(0:Int))) b.den) (iabs b.num) hi1 hi2.symm aM _ _ hs.g) ?_
 rintro _ _ _ w20 h21 hs rfl
 refine eC 11 21 hs (fun _ _ hs=>fMul a (b⁻¹) aM aM _ _ hs.g (hs.f.1)) ?_
 rintro _ _ _ w22 h23 hs rfl
 refine eD0 hs (fun w24 h25 hs=>?_)
 refine tP 12 0 0 (qc (a*(b⁻¹))) hs (fun w26 hs=>?_)
 refine tV 13 5 (.bool true) ?_
 exact tN (CG.ret (hs.ret [(0,0,5)] (.tuple #[qv (a*(b⁻¹)),.bool true]) (by rw[Rat.div_def])))
theorem rIntMul (x:Int)(A:Option Addr)(c:Nat)(hc:(lim (iabs x)).length≤c)(hLx:(lim (iabs x)).length≤2000000000)(y:Int)(D:Option Addr)(d:Nat)(hd:(lim (iabs y)).length≤d)(hLy:(lim (iabs y)).length≤2000000000)(w:World)(h:Hp)(g:G w h)(hA:SlO 1 u32c 0 h A (lim (iabs x)))(hD:SlO 1 u32c 0 h D (lim (iabs y))) :
    Calls Tryz.prog 54 #[.agg #[.bool (ineg x),.slice A ((lim (iabs x)).length) c],.agg #[.bool (ineg y),.slice D ((lim (iabs y)).length) d]] w (Ret w h fun v h1=>RI h1 v (x*y)):=by
 have hs:=SS.start g
 replace hs:=((hs.a_SlO hA).a_SlO hD)
 refine go Tryz.func54 [(0,.agg #[.bool (ineg x),.slice A ((lim (iabs x)).length) c]),(1,.agg #[.bool (ineg y),.slice D ((lim (iabs y)).length) d])] rfl ?_
 refine cSL (lA 2 26 ([.bool (ineg x),.slice A ((lim (iabs x)).length) c]) hs (fun b1 w2 h3 hs=>?_))
 refine lA 3 26 ([.bool (ineg y),.slice D ((lim (iabs y)).length) d]) hs (fun b4 w5 h6 hs=>?_)
 refine lA 4 26 ([.bool false,.slice none 0 0]) hs (fun b7 w8 h9 hs=>?_)
 refine lN (CG.seq (cR 11 [] mixed hs al_nil ?_))
 refine eV 0 5 (.pointer (some ⟨b1,0,none⟩)) ?_
 refine eO 1 6 [(2,0,1)] (.bool (ineg x)) hs ?_
 refine eV 2 7 (.pointer (some ⟨b4,0,none⟩)) ?_
 refine eO 3 8 [(1,0,1)] (.bool (ineg y)) hs ?_
 refine eV 4 9 (.bool ((ineg x) != (ineg y))) ?_
 refine eV 5 10 (.pointer (some ⟨b1,1,none⟩)) ?_
 refine eO 6 11 [(2,1,1)] (.slice A ((lim (iabs x)).length) c) hs ?_
 refine eV 7 12 (.pointer (some ⟨b4,1,none⟩)) ?_
 refine eO 8 13 [(1,1,1)] (.slice D ((lim (iabs y)).length) d) hs ?_
 refine eC 9 14 hs (fun _ _ hs=>rNatMul (iabs x) A c hc (iabs y) D d hd oM oM _ _ hs.g (hs.f.2.1) (hs.f.1)) ?_
 rintro _ _ _ w14 h15 hs ⟨A10,c11,rfl,hc12,hA13⟩
 replace hs:=(hs.a_SlO hA13)
 refine eC 10 15 hs (fun _ _ hs=>rI ((ineg x) != (ineg y)) ((iabs x)*(iabs y)) A10 c11 hc12 _ _ hs.g (hs.f.1)) ?_
 rintro _ _ _ w20 h21 hs ⟨A16,c17,rfl,hc18,hA19⟩
 replace hs:=(hs.a_SlO hA19)
 refine eD0 hs (fun w22 h23 hs=>?_)
 refine tP 11 0 0 ([.bool (ineg (sgn ((ineg x) != (ineg y)) ((iabs x)*(iabs y)))),.slice A16 ((lim (iabs (sgn ((ineg x) != (ineg y)) ((iabs x)*(iabs y))))).length) c17]) hs (fun w24 hs=>?_)
 exact tN (CG.ret (hs.ret [(0,0,2)] (.agg #[.bool (ineg (sgn ((ineg x) != (ineg y)) ((iabs x)*(iabs y)))),.slice A16 ((lim (iabs (sgn ((ineg x) != (ineg y)) ((iabs x)*(iabs y))))).length) c17]) (by rw[←mul_sg x y];exact ⟨_,_,rfl,hc18,(hs.f.1)⟩)))
theorem rIntNegf (x:Int)(A:Option Addr)(c:Nat)(hc:(lim (iabs x)).length≤c)(hLx:(lim (iabs x)).length≤2000000000)(hx:ineg x=false)(w:World)(h:Hp)(g:G w h)(hA:SlO 1 u32c 0 h A (lim (iabs x))) :
    Calls Tryz.prog 103 #[.agg #[.bool false,.slice A ((lim (iabs x)).length) c]] w (Ret w h fun v h1=>RI h1 v (-x)):=by
 have hs:=SS.start g
 replace hs:=(hs.a_SlO hA)
 refine go Tryz.func103 [(0,.agg #[.bool false,.slice A ((lim (iabs x)).length) c])] rfl ?_
 refine cSL (lA 1 26 ([.bool false,.slice A ((lim (iabs x)).length) c]) hs (fun b1 w2 h3 hs=>?_))
 refine lA 2 26 ([.bool false,.slice none 0 0]) hs (fun b4 w5 h6 hs=>?_)
 refine lNS (lL hs [.v 3 (.pointer (some ⟨b1,0,none⟩)),.o 4 (.bool false) 1 0 1,.v 5 (.bool true),.v 6 (.pointer (some ⟨b1,1,none⟩)),.o 7 (.slice A ((lim (iabs x)).length) c) 1 1 1] (lC 8 hs (rI true (iabs x) A c hc _ _ hs.g (hs.f.1)) ?_))
 rintro _ w11 h12 hs ⟨A7,c8,rfl,hc9,hA10⟩
 replace hs:=(hs.a_SlO hA10)
 refine lP 0 0 ([.bool (ineg (sgn true (iabs x))),.slice A7 ((lim (iabs (sgn true (iabs x)))).length) c8]) hs (fun w13 hs=>?_)
 exact lN (CG.ret (hs.ret [(0,0,2)] (.agg #[.bool (ineg (sgn true (iabs x))),.slice A7 ((lim (iabs (sgn true (iabs x)))).length) c8]) (by rw[←sgn_not x,hx];exact ⟨_,_,rfl,hc9,(hs.f.1)⟩)))
theorem rIntNegt (x:Int)(A:Option Addr)(c:Nat)(hc:(lim (iabs x)).length≤c)(hLx:(lim (iabs x)).length≤2000000000)(hx:ineg x=true)(w:World)(h:Hp)(g:G w h)(hA:SlO 1 u32c 0 h A (lim (iabs x))) :
    Calls Tryz.prog 103 #[.agg #[.bool true,.slice A ((lim (iabs x)).length) c]] w (Ret w h fun v h1=>RI h1 v (-x)):=by
 have hs:=SS.start g
 replace hs:=(hs.a_SlO hA)
 refine go Tryz.func103 [(0,.agg #[.bool true,.slice A ((lim (iabs x)).length) c])] rfl ?_
 refine cSL (lA 1 26 ([.bool true,.slice A ((lim (iabs x)).length) c]) hs (fun b1 w2 h3 hs=>?_))
 refine lA 2 26 ([.bool false,.slice none 0 0]) hs (fun b4 w5 h6 hs=>?_)
 refine lNS (lL hs [.v 3 (.pointer (some ⟨b1,0,none⟩)),.o 4 (.bool true) 1 0 1,.v 5 (.bool false),.v 6 (.pointer (some ⟨b1,1,none⟩)),.o 7 (.slice A ((lim (iabs x)).length) c) 1 1 1] (lC 8 hs (rI false (iabs x) A c hc _ _ hs.g (hs.f.1)) ?_))
 rintro _ w11 h12 hs ⟨A7,c8,rfl,hc9,hA10⟩
 replace hs:=(hs.a_SlO hA10)
 refine lP 0 0 ([.bool (ineg (sgn false (iabs x))),.slice A7 ((lim (iabs (sgn false (iabs x)))).length) c8]) hs (fun w13 hs=>?_)
 exact lN (CG.ret (hs.ret [(0,0,2)] (.agg #[.bool (ineg (sgn false (iabs x))),.slice A7 ((lim (iabs (sgn false (iabs x)))).length) c8]) (by rw[←sgn_not x,hx];exact ⟨_,_,rfl,hc9,(hs.f.1)⟩)))
theorem rIntNeg (x:Int)(A:Option Addr)(c:Nat)(hc:(lim (iabs x)).length≤c)(hLx:(lim (iabs x)).length≤2000000000)(w:World)(h:Hp)(g:G w h)(hA:SlO 1 u32c 0 h A (lim (iabs x))):Calls Tryz.prog 103 #[.agg #[.bool (ineg x),.slice A (lim (iabs x)).length c]] w (Ret w h fun v h1=>RI h1 v (-x)):=by
  rcases hx:ineg x with _|_
  · exact rIntNegf x A c hc hLx hx w h g hA
  · exact rIntNegt x A c hc hLx hx w h g hA
theorem rIntAddff (x:Int)(A:Option Addr)(c:Nat)(hc:(lim (iabs x)).length≤c)(hLx:(lim (iabs x)).length≤2000000000)(y:Int)(D:Option Addr)(d:Nat)(hd:(lim (iabs y)).length≤d)(hLy:(lim (iabs y)).length≤2000000000)(hx:ineg x=false)(hy:ineg y=false)(w:World)(h:Hp)(g:G w h)(hA:SlO 1 u32c 0 h A (lim (iabs x)))(hD:SlO 1 u32c 0 h D (lim (iabs y))) :
    Calls Tryz.prog 102 #[.agg #[.bool false,.slice A ((lim (iabs x)).length) c],.agg #[.bool false,.slice D ((lim (iabs y)).length) d]] w (Ret w h fun v h1=>RI h1 v (x+y)):=by
 have hs:=SS.start g
 replace hs:=((hs.a_SlO hA).a_SlO hD)
 have hx_:=ineg_false hx
 have hy_:=ineg_false hy
 refine go Tryz.func102 [(0,.agg #[.bool false,.slice A ((lim (iabs x)).length) c]),(1,.agg #[.bool false,.slice D ((lim (iabs y)).length) d])] rfl ?_
 refine cSL (lA 2 26 ([.bool false,.slice A ((lim (iabs x)).length) c]) hs (fun b1 w2 h3 hs=>?_))
 refine lA 3 26 ([.bool false,.slice D ((lim (iabs y)).length) d]) hs (fun b4 w5 h6 hs=>?_)
 refine lA 4 26 ([.bool false,.slice none 0 0]) hs (fun b7 w8 h9 hs=>?_)
 refine lN (CG.seq (cSL (lL hs [.v 5 (.pointer (some ⟨b1,0,none⟩)),.o 6 (.bool false) 2 0 1,.v 7 (.pointer (some ⟨b4,0,none⟩)),.o 8 (.bool false) 1 0 1,.v 9 (.bool true)] (lN (cIT (CG.seq (cR 8 [] mixed hs al_nil ?_)))))))
 refine eV 0 10 (.pointer (some ⟨b1,0,none⟩)) ?_
 refine eO 1 11 [(2,0,1)] (.bool false) hs ?_
 refine eV 2 12 (.pointer (some ⟨b1,1,none⟩)) ?_
 refine eO 3 13 [(2,1,1)] (.slice A ((lim (iabs x)).length) c) hs ?_
 refine eV 4 14 (.pointer (some ⟨b4,1,none⟩)) ?_
 refine eO 5 15 [(1,1,1)] (.slice D ((lim (iabs y)).length) d) hs ?_
 refine eC 6 16 hs (fun _ _ hs=>rNatAdd (iabs x) A c hc (iabs y) D d hd oM oM _ _ hs.g (hs.f.2.1) (hs.f.1)) ?_
 rintro _ _ _ w14 h15 hs ⟨A10,c11,rfl,hc12,hA13⟩
 replace hs:=(hs.a_SlO hA13)
 refine eC 7 17 hs (fun _ _ hs=>rI false ((iabs x)+(iabs y)) A10 c11 hc12 _ _ hs.g (hs.f.1)) ?_
 rintro _ _ _ w20 h21 hs ⟨A16,c17,rfl,hc18,hA19⟩
 replace hs:=(hs.a_SlO hA19)
 refine eD0 hs (fun w22 h23 hs=>?_)
 refine tP 8 0 0 ([.bool (ineg (sgn false ((iabs x)+(iabs y)))),.slice A16 ((lim (iabs (sgn false ((iabs x)+(iabs y))))).length) c17]) hs (fun w24 hs=>?_)
 exact tN (CG.ret (hs.ret [(0,0,2)] (.agg #[.bool (ineg (sgn false ((iabs x)+(iabs y)))),.slice A16 ((lim (iabs (sgn false ((iabs x)+(iabs y))))).length) c17]) (by rw[show x+y=(sgn false ((iabs x)+(iabs y))) by unfold sgn iabs at *;simp;omega];exact ⟨_,_,rfl,hc18,(hs.f.1)⟩)))
theorem rIntAddft (x:Int)(A:Option Addr)(c:Nat)(hc:(lim (iabs x)).length≤c)(hLx:(lim (iabs x)).length≤2000000000)(y:Int)(D:Option Addr)(d:Nat)(hd:(lim (iabs y)).length≤d)(hLy:(lim (iabs y)).length≤2000000000)(hx:ineg x=false)(hy:ineg y=true)(w:World)(h:Hp)(g:G w h)(hA:SlO 1 u32c 0 h A (lim (iabs x)))(hD:SlO 1 u32c 0 h D (lim (iabs y))) :
    Calls Tryz.prog 102 #[.agg #[.bool false,.slice A ((lim (iabs x)).length) c],.agg #[.bool true,.slice D ((lim (iabs y)).length) d]] w (Ret w h fun v h1=>RI h1 v (x+y)):=by
 have hs:=SS.start g
 replace hs:=((hs.a_SlO hA).a_SlO hD)
 have hx_:=ineg_false hx
 have hy_:=ineg_true hy
 refine go Tryz.func102 [(0,.agg #[.bool false,.slice A ((lim (iabs x)).length) c]),(1,.agg #[.bool true,.slice D ((lim (iabs y)).length) d])] rfl ?_
 refine cSL (lA 2 26 ([.bool false,.slice A ((lim (iabs x)).length) c]) hs (fun b1 w2 h3 hs=>?_))
 refine lA 3 26 ([.bool true,.slice D ((lim (iabs y)).length) d]) hs (fun b4 w5 h6 hs=>?_)
 refine lA 4 26 ([.bool false,.slice none 0 0]) hs (fun b7 w8 h9 hs=>?_)
 refine lN (CG.seq (cSL (lL hs [.v 5 (.pointer (some ⟨b1,0,none⟩)),.o 6 (.bool false) 2 0 1,.v 7 (.pointer (some ⟨b4,0,none⟩)),.o 8 (.bool true) 1 0 1,.v 9 (.bool false)] (lN (cIF (CG.skipN (CG.seq (cSL (lL hs [.v 18 (.pointer (some ⟨b1,1,none⟩)),.o 19 (.slice A ((lim (iabs x)).length) c) 2 1 1,.v 20 (.pointer (some ⟨b4,1,none⟩)),.o 21 (.slice D ((lim (iabs y)).length) d) 1 1 1] (lC 22 hs (rNatCmp (iabs x) A c hc (iabs y) D d hd oM oM _ _ hs.g (hs.f.2.1) (hs.f.1)) ?_))))))))))
 rintro _ w10 h11 hs rfl
 have hcm:=cmpN_cases (iabs x) (iabs y)
 cases hb12:(decide ((0:Int)≤(cmpN (iabs x) (iabs y):Int)))
 ·
  have phb12:=oF hb12
  refine lB 23 hb12 ?_
  refine lN (cIF (CG.skipN (CG.seq (cR 8 [] mixed hs al_nil ?_))))
  refine eV 0 32 (.pointer (some ⟨b4,0,none⟩)) ?_
  refine eO 1 33 [(1,0,1)] (.bool true) hs ?_
  refine eV 2 34 (.pointer (some ⟨b4,1,none⟩)) ?_
  refine eO 3 35 [(1,1,1)] (.slice D ((lim (iabs y)).length) d) hs ?_
  refine eV 4 36 (.pointer (some ⟨b1,1,none⟩)) ?_
  refine eO 5 37 [(2,1,1)] (.slice A ((lim (iabs x)).length) c) hs ?_
  refine eC 6 38 hs (fun _ _ hs=>rNatSub (iabs y) D d hd (iabs x) A c hc oM oM oM _ _ hs.g (hs.f.1) (hs.f.2.1)) ?_
  rintro _ _ _ w17 h18 hs ⟨A13,c14,rfl,hc15,hA16⟩
  replace hs:=(hs.a_SlO hA16)
  refine eC 7 39 hs (fun _ _ hs=>rI true ((iabs y)-(iabs x)) A13 c14 hc15 _ _ hs.g (hs.f.1)) ?_
  rintro _ _ _ w23 h24 hs ⟨A19,c20,rfl,hc21,hA22⟩
  replace hs:=(hs.a_SlO hA22)
  refine eD0 hs (fun w25 h26 hs=>?_)
  refine tP 8 0 0 ([.bool (ineg (sgn true ((iabs y)-(iabs x)))),.slice A19 ((lim (iabs (sgn true ((iabs y)-(iabs x))))).length) c20]) hs (fun w27 hs=>?_)
  exact tN (CG.ret (hs.ret [(0,0,2)] (.agg #[.bool (ineg (sgn true ((iabs y)-(iabs x)))),.slice A19 ((lim (iabs (sgn true ((iabs y)-(iabs x))))).length) c20]) (by rw[show x+y=(sgn true ((iabs y)-(iabs x))) by unfold sgn iabs at *;simp;omega];exact ⟨_,_,rfl,hc21,(hs.f.1)⟩)))
 have phb12:=oT hb12
 refine lB 23 hb12 ?_
 refine lN (cIT (CG.seq (cR 8 [] mixed hs al_nil ?_)))
 refine eV 0 24 (.pointer (some ⟨b1,0,none⟩)) ?_
 refine eO 1 25 [(2,0,1)] (.bool false) hs ?_
 refine eV 2 26 (.pointer (some ⟨b1,1,none⟩)) ?_
 refine eO 3 27 [(2,1,1)] (.slice A ((lim (iabs x)).length) c) hs ?_
 refine eV 4 28 (.pointer (some ⟨b4,1,none⟩)) ?_
 refine eO 5 29 [(1,1,1)] (.slice D ((lim (iabs y)).length) d) hs ?_
 refine eC 6 30 hs (fun _ _ hs=>rNatSub (iabs x) A c hc (iabs y) D d hd oM oM oM _ _ hs.g (hs.f.2.1) (hs.f.1)) ?_
 rintro _ _ _ w32 h33 hs ⟨A28,c29,rfl,hc30,hA31⟩
 replace hs:=(hs.a_SlO hA31)
 refine eC 7 31 hs (fun _ _ hs=>rI false ((iabs x)-(iabs y)) A28 c29 hc30 _ _ hs.g (hs.f.1)) ?_
 rintro _ _ _ w38 h39 hs ⟨A34,c35,rfl,hc36,hA37⟩
 replace hs:=(hs.a_SlO hA37)
 refine eD0 hs (fun w40 h41 hs=>?_)
 refine tP 8 0 0 ([.bool (ineg (sgn false ((iabs x)-(iabs y)))),.slice A34 ((lim (iabs (sgn false ((iabs x)-(iabs y))))).length) c35]) hs (fun w42 hs=>?_)
 exact tN (CG.ret (hs.ret [(0,0,2)] (.agg #[.bool (ineg (sgn false ((iabs x)-(iabs y)))),.slice A34 ((lim (iabs (sgn false ((iabs x)-(iabs y))))).length) c35]) (by rw[show x+y=(sgn false ((iabs x)-(iabs y))) by unfold sgn iabs at *;simp;omega];exact ⟨_,_,rfl,hc36,(hs.f.1)⟩)))
theorem rIntAddtf (x:Int)(A:Option Addr)(c:Nat)(hc:(lim (iabs x)).length≤c)(hLx:(lim (iabs x)).length≤2000000000)(y:Int)(D:Option Addr)(d:Nat)(hd:(lim (iabs y)).length≤d)(hLy:(lim (iabs y)).length≤2000000000)(hx:ineg x=true)(hy:ineg y=false)(w:World)(h:Hp)(g:G w h)(hA:SlO 1 u32c 0 h A (lim (iabs x)))(hD:SlO 1 u32c 0 h D (lim (iabs y))) :
    Calls Tryz.prog 102 #[.agg #[.bool true,.slice A ((lim (iabs x)).length) c],.agg #[.bool false,.slice D ((lim (iabs y)).length) d]] w (Ret w h fun v h1=>RI h1 v (x+y)):=by
 have hs:=SS.start g
 replace hs:=((hs.a_SlO hA).a_SlO hD)
 have hx_:=ineg_true hx
 have hy_:=ineg_false hy
 refine go Tryz.func102 [(0,.agg #[.bool true,.slice A ((lim (iabs x)).length) c]),(1,.agg #[.bool false,.slice D ((lim (iabs y)).length) d])] rfl ?_
 refine cSL (lA 2 26 ([.bool true,.slice A ((lim (iabs x)).length) c]) hs (fun b1 w2 h3 hs=>?_))
 refine lA 3 26 ([.bool false,.slice D ((lim (iabs y)).length) d]) hs (fun b4 w5 h6 hs=>?_)
 refine lA 4 26 ([.bool false,.slice none 0 0]) hs (fun b7 w8 h9 hs=>?_)
 refine lN (CG.seq (cSL (lL hs [.v 5 (.pointer (some ⟨b1,0,none⟩)),.o 6 (.bool true) 2 0 1,.v 7 (.pointer (some ⟨b4,0,none⟩)),.o 8 (.bool false) 1 0 1,.v 9 (.bool false)] (lN (cIF (CG.skipN (CG.seq (cSL (lL hs [.v 18 (.pointer (some ⟨b1,1,none⟩)),.o 19 (.slice A ((lim (iabs x)).length) c) 2 1 1,.v 20 (.pointer (some ⟨b4,1,none⟩)),.o 21 (.slice D ((lim (iabs y)).length) d) 1 1 1] (lC 22 hs (rNatCmp (iabs x) A c hc (iabs y) D d hd oM oM _ _ hs.g (hs.f.2.1) (hs.f.1)) ?_))))))))))
 rintro _ w10 h11 hs rfl
 have hcm:=cmpN_cases (iabs x) (iabs y)
 cases hb12:(decide ((0:Int)≤(cmpN (iabs x) (iabs y):Int)))
 ·
  have phb12:=oF hb12
  refine lB 23 hb12 ?_
  refine lN (cIF (CG.skipN (CG.seq (cR 8 [] mixed hs al_nil ?_))))
  refine eV 0 32 (.pointer (some ⟨b4,0,none⟩)) ?_
  refine eO 1 33 [(1,0,1)] (.bool false) hs ?_
  refine eV 2 34 (.pointer (some ⟨b4,1,none⟩)) ?_
  refine eO 3 35 [(1,1,1)] (.slice D ((lim (iabs y)).length) d) hs ?_
  refine eV 4 36 (.pointer (some ⟨b1,1,none⟩)) ?_
  refine eO 5 37 [(2,1,1)] (.slice A ((lim (iabs x)).length) c) hs ?_
  refine eC 6 38 hs (fun _ _ hs=>rNatSub (iabs y) D d hd (iabs x) A c hc oM oM oM _ _ hs.g (hs.f.1) (hs.f.2.1)) ?_
  rintro _ _ _ w17 h18 hs ⟨A13,c14,rfl,hc15,hA16⟩
  replace hs:=(hs.a_SlO hA16)
  refine eC 7 39 hs (fun _ _ hs=>rI false ((iabs y)-(iabs x)) A13 c14 hc15 _ _ hs.g (hs.f.1)) ?_
  rintro _ _ _ w23 h24 hs ⟨A19,c20,rfl,hc21,hA22⟩
  replace hs:=(hs.a_SlO hA22)
  refine eD0 hs (fun w25 h26 hs=>?_)
  refine tP 8 0 0 ([.bool (ineg (sgn false ((iabs y)-(iabs x)))),.slice A19 ((lim (iabs (sgn false ((iabs y)-(iabs x))))).length) c20]) hs (fun w27 hs=>?_)
  exact tN (CG.ret (hs.ret [(0,0,2)] (.agg #[.bool (ineg (sgn false ((iabs y)-(iabs x)))),.slice A19 ((lim (iabs (sgn false ((iabs y)-(iabs x))))).length) c20]) (by rw[show x+y=(sgn false ((iabs y)-(iabs x))) by unfold sgn iabs at *;simp;omega];exact ⟨_,_,rfl,hc21,(hs.f.1)⟩)))
 have phb12:=oT hb12
 refine lB 23 hb12 ?_
 refine lN (cIT (CG.seq (cR 8 [] mixed hs al_nil ?_)))
 refine eV 0 24 (.pointer (some ⟨b1,0,none⟩)) ?_
 refine eO 1 25 [(2,0,1)] (.bool true) hs ?_
 refine eV 2 26 (.pointer (some ⟨b1,1,none⟩)) ?_
 refine eO 3 27 [(2,1,1)] (.slice A ((lim (iabs x)).length) c) hs ?_
 refine eV 4 28 (.pointer (some ⟨b4,1,none⟩)) ?_
 refine eO 5 29 [(1,1,1)] (.slice D ((lim (iabs y)).length) d) hs ?_
 refine eC 6 30 hs (fun _ _ hs=>rNatSub (iabs x) A c hc (iabs y) D d hd oM oM oM _ _ hs.g (hs.f.2.1) (hs.f.1)) ?_
 rintro _ _ _ w32 h33 hs ⟨A28,c29,rfl,hc30,hA31⟩
 replace hs:=(hs.a_SlO hA31)
 refine eC 7 31 hs (fun _ _ hs=>rI true ((iabs x)-(iabs y)) A28 c29 hc30 _ _ hs.g (hs.f.1)) ?_
 rintro _ _ _ w38 h39 hs ⟨A34,c35,rfl,hc36,hA37⟩
 replace hs:=(hs.a_SlO hA37)
 refine eD0 hs (fun w40 h41 hs=>?_)
 refine tP 8 0 0 ([.bool (ineg (sgn true ((iabs x)-(iabs y)))),.slice A34 ((lim (iabs (sgn true ((iabs x)-(iabs y))))).length) c35]) hs (fun w42 hs=>?_)
 exact tN (CG.ret (hs.ret [(0,0,2)] (.agg #[.bool (ineg (sgn true ((iabs x)-(iabs y)))),.slice A34 ((lim (iabs (sgn true ((iabs x)-(iabs y))))).length) c35]) (by rw[show x+y=(sgn true ((iabs x)-(iabs y))) by unfold sgn iabs at *;simp;omega];exact ⟨_,_,rfl,hc36,(hs.f.1)⟩)))
theorem rIntAddtt (x:Int)(A:Option Addr)(c:Nat)(hc:(lim (iabs x)).length≤c)(hLx:(lim (iabs x)).length≤2000000000)(y:Int)(D:Option Addr)(d:Nat)(hd:(lim (iabs y)).length≤d)(hLy:(lim (iabs y)).length≤2000000000)(hx:ineg x=true)(hy:ineg y=true)(w:World)(h:Hp)(g:G w h)(hA:SlO 1 u32c 0 h A (lim (iabs x)))(hD:SlO 1 u32c 0 h D (lim (iabs y))) :
    Calls Tryz.prog 102 #[.agg #[.bool true,.slice A ((lim (iabs x)).length) c],.agg #[.bool true,.slice D ((lim (iabs y)).length) d]] w (Ret w h fun v h1=>RI h1 v (x+y)):=by
 have hs:=SS.start g
 replace hs:=((hs.a_SlO hA).a_SlO hD)
 have hx_:=ineg_true hx
 have hy_:=ineg_true hy
 refine go Tryz.func102 [(0,.agg #[.bool true,.slice A ((lim (iabs x)).length) c]),(1,.agg #[.bool true,.slice D ((lim (iabs y)).length) d])] rfl ?_
 refine cSL (lA 2 26 ([.bool true,.slice A ((lim (iabs x)).length) c]) hs (fun b1 w2 h3 hs=>?_))
 refine lA 3 26 ([.bool true,.slice D ((lim (iabs y)).length) d]) hs (fun b4 w5 h6 hs=>?_)
 refine lA 4 26 ([.bool false,.slice none 0 0]) hs (fun b7 w8 h9 hs=>?_)
 refine lN (CG.seq (cSL (lL hs [.v 5 (.pointer (some ⟨b1,0,none⟩)),.o 6 (.bool true) 2 0 1,.v 7 (.pointer (some ⟨b4,0,none⟩)),.o 8 (.bool true) 1 0 1,.v 9 (.bool true)] (lN (cIT (CG.seq (cR 8 [] mixed hs al_nil ?_)))))))
 refine eV 0 10 (.pointer (some ⟨b1,0,none⟩)) ?_
 refine eO 1 11 [(2,0,1)] (.bool true) hs ?_
 refine eV 2 12 (.pointer (some ⟨b1,1,none⟩)) ?_
 refine eO 3 13 [(2,1,1)] (.slice A ((lim (iabs x)).length) c) hs ?_
 refine eV 4 14 (.pointer (some ⟨b4,1,none⟩)) ?_
 refine eO 5 15 [(1,1,1)] (.slice D ((lim (iabs y)).length) d) hs ?_
 refine eC 6 16 hs (fun _ _ hs=>rNatAdd (iabs x) A c hc (iabs y) D d hd oM oM _ _ hs.g (hs.f.2.1) (hs.f.1)) ?_
 rintro _ _ _ w14 h15 hs ⟨A10,c11,rfl,hc12,hA13⟩
 replace hs:=(hs.a_SlO hA13)
 refine eC 7 17 hs (fun _ _ hs=>rI true ((iabs x)+(iabs y)) A10 c11 hc12 _ _ hs.g (hs.f.1)) ?_
 rintro _ _ _ w20 h21 hs ⟨A16,c17,rfl,hc18,hA19⟩
 replace hs:=(hs.a_SlO hA19)
 refine eD0 hs (fun w22 h23 hs=>?_)
 refine tP 8 0 0 ([.bool (ineg (sgn true ((iabs x)+(iabs y)))),.slice A16 ((lim (iabs (sgn true ((iabs x)+(iabs y))))).length) c17]) hs (fun w24 hs=>?_)
 exact tN (CG.ret (hs.ret [(0,0,2)] (.agg #[.bool (ineg (sgn true ((iabs x)+(iabs y)))),.slice A16 ((lim (iabs (sgn true ((iabs x)+(iabs y))))).length) c17]) (by rw[show x+y=(sgn true ((iabs x)+(iabs y))) by unfold sgn iabs at *;simp;omega];exact ⟨_,_,rfl,hc18,(hs.f.1)⟩)))
theorem rIntAdd (x:Int)(A:Option Addr)(c:Nat)(hc:(lim (iabs x)).length≤c)(hLx:(lim (iabs x)).length≤2000000000)(y:Int)(D:Option Addr)(d:Nat)(hd:(lim (iabs y)).length≤d)(hLy:(lim (iabs y)).length≤2000000000)(w:World)(h:Hp)(g:G w h)(hA:SlO 1 u32c 0 h A (lim (iabs x)))(hD:SlO 1 u32c 0 h D (lim (iabs y))):Calls Tryz.prog 102 #[.agg #[.bool (ineg x),.slice A (lim (iabs x)).length c],.agg #[.bool (ineg y),.slice D (lim (iabs y)).length d]] w (Ret w h fun v h1=>RI h1 v (x+y)):=by
  rcases hx:ineg x with _|_<;>rcases hy:ineg y with _|_
  · exact rIntAddff x A c hc hLx y D d hd hLy hx hy w h g hA hD
  · exact rIntAddft x A c hc hLx y D d hd hLy hx hy w h g hA hD
  · exact rIntAddtf x A c hc hLx y D d hd hLy hx hy w h g hA hD
  · exact rIntAddtt x A c hc hLx y D d hd hLy hx hy w h g hA hD
theorem rIntSignZ (x:Int)(A:Option Addr)(c:Nat)(hc:(lim (iabs x)).length≤c)(hLx:(lim (iabs x)).length≤2000000000)(hz:x=0)(w:World)(h:Hp)(g:G w h)(hA:SlO 1 u32c 0 h A (lim (iabs x))) :
    Calls Tryz.prog 52 #[.agg #[.bool (ineg x),.slice A ((lim (iabs x)).length) c]] w (Ret w h fun v _=>v=.int .i64 x.sign):=by
 have hs:=SS.start g
 replace hs:=(hs.a_SlO hA)
 have hlp:=@lim_pos (iabs x)
 have hia:iabs x=x.natAbs:=rfl
 refine go Tryz.func52 [(0,.agg #[.bool (ineg x),.slice A ((lim (iabs x)).length) c])] rfl ?_
 refine cSL (lA 1 26 ([.bool (ineg x),.slice A ((lim (iabs x)).length) c]) hs (fun b1 w2 h3 hs=>?_))
 refine lL hs [.v 2 (.int .i64 0)] (lN (CG.seq (CG.block (cSL (lL hs [.v 4 (.pointer (some ⟨b1,1,none⟩)),.o 5 (.slice A ((lim (iabs x)).length) c) 0 1 1,.v 6 (.int .i64 ((lim (iabs x)).length:Nat))] ?_)))))
 have hb4:((((lim (iabs x)).length:Nat):Int) == (0:Int))=true:=beqT oM
 have phb4:=eq_of_beq hb4
 refine lB 7 hb4 ?_
 exact lL hs [.m 3 7] (lN (cIT (cSL (lL hs [.v 2 (.int .i64 0)] (lN (CG.ret (hs.ret [] (.int .i64 0) (by subst hz;rfl))))))))
theorem rIntSignN (x:Int)(A:Option Addr)(c:Nat)(hc:(lim (iabs x)).length≤c)(hLx:(lim (iabs x)).length≤2000000000)(hz:x<0)(w:World)(h:Hp)(g:G w h)(hA:SlO 1 u32c 0 h A (lim (iabs x))) :
    Calls Tryz.prog 52 #[.agg #[.bool true,.slice A ((lim (iabs x)).length) c]] w (Ret w h fun v _=>v=.int .i64 x.sign):=by
 have hs:=SS.start g
 replace hs:=(hs.a_SlO hA)
 have hlp:=@lim_pos (iabs x)
 have hia:iabs x=x.natAbs:=rfl
 refine go Tryz.func52 [(0,.agg #[.bool true,.slice A ((lim (iabs x)).length) c])] rfl ?_
 refine cSL (lA 1 26 ([.bool true,.slice A ((lim (iabs x)).length) c]) hs (fun b1 w2 h3 hs=>?_))
 refine lL hs [.v 2 (.int .i64 0)] (lN (CG.seq (CG.block (cSL (lL hs [.v 4 (.pointer (some ⟨b1,1,none⟩)),.o 5 (.slice A ((lim (iabs x)).length) c) 0 1 1,.v 6 (.int .i64 ((lim (iabs x)).length:Nat))] ?_)))))
 have hb4:((((lim (iabs x)).length:Nat):Int) == (0:Int))=false:=beqF oM
 have phb4:=neOfBeq hb4
 refine lB 7 hb4 ?_
 exact lL hs [.m 3 7] (lN (cIF (cSL (lL hs [.v 9 (.pointer (some ⟨b1,0,none⟩)),.o 10 (.bool true) 0 0 1,.m 8 10] (lN (cIT (cSL (lL hs [.v 2 (.int .i64 (-1))] (lN (CG.ret (hs.ret [] (.int .i64 (-1)) (by rw[Int.sign_eq_neg_one_of_neg hz]))))))))))))
theorem rIntSignP (x:Int)(A:Option Addr)(c:Nat)(hc:(lim (iabs x)).length≤c)(hLx:(lim (iabs x)).length≤2000000000)(hz:0<x)(w:World)(h:Hp)(g:G w h)(hA:SlO 1 u32c 0 h A (lim (iabs x))) :
    Calls Tryz.prog 52 #[.agg #[.bool false,.slice A ((lim (iabs x)).length) c]] w (Ret w h fun v _=>v=.int .i64 x.sign):=by
 have hs:=SS.start g
 replace hs:=(hs.a_SlO hA)
 have hlp:=@lim_pos (iabs x)
 have hia:iabs x=x.natAbs:=rfl
 refine go Tryz.func52 [(0,.agg #[.bool false,.slice A ((lim (iabs x)).length) c])] rfl ?_
 refine cSL (lA 1 26 ([.bool false,.slice A ((lim (iabs x)).length) c]) hs (fun b1 w2 h3 hs=>?_))
 refine lL hs [.v 2 (.int .i64 0)] (lN (CG.seq (CG.block (cSL (lL hs [.v 4 (.pointer (some ⟨b1,1,none⟩)),.o 5 (.slice A ((lim (iabs x)).length) c) 0 1 1,.v 6 (.int .i64 ((lim (iabs x)).length:Nat))] ?_)))))
 have hb4:((((lim (iabs x)).length:Nat):Int) == (0:Int))=false:=beqF oM
 have phb4:=neOfBeq hb4
 refine lB 7 hb4 ?_
 exact lL hs [.m 3 7] (lN (cIF (cSL (lL hs [.v 9 (.pointer (some ⟨b1,0,none⟩)),.o 10 (.bool false) 0 0 1,.m 8 10] (lN (cIF (CG.skipN (cSL (lL hs [.v 2 (.int .i64 1)] (lN (CG.ret (hs.ret [] (.int .i64 1) (by rw[Int.sign_eq_one_of_pos hz])))))))))))))
theorem rIntSign (x:Int)(A:Option Addr)(c:Nat)(hc:(lim (iabs x)).length≤c)(hLx:(lim (iabs x)).length≤2000000000)(w:World)(h:Hp)(g:G w h)(hA:SlO 1 u32c 0 h A (lim (iabs x))):Calls Tryz.prog 52 #[.agg #[.bool (ineg x),.slice A (lim (iabs x)).length c]] w (Ret w h fun v _=>v=.int .i64 x.sign):=by
  rcases Int.lt_trichotomy x 0 with hz|hz|hz
  · have:=rIntSignN x A c hc hLx hz w h g hA
    rwa [←show ineg x=true by simp[ineg,hz]] at this
  · exact rIntSignZ x A c hc hLx hz w h g hA
  · have:=rIntSignP x A c hc hLx hz w h g hA
    rwa [←show ineg x=false by simp[ineg];omega] at this
theorem rIntSub (x:Int)(A:Option Addr)(c:Nat)(hc:(lim (iabs x)).length≤c)(hLx:(lim (iabs x)).length≤2000000000)(y:Int)(D:Option Addr)(d:Nat)(hd:(lim (iabs y)).length≤d)(hLy:(lim (iabs y)).length≤2000000000)(w:World)(h:Hp)(g:G w h)(hA:SlO 1 u32c 0 h A (lim (iabs x)))(hD:SlO 1 u32c 0 h D (lim (iabs y))) :
    Calls Tryz.prog 80 #[.agg #[.bool (ineg x),.slice A ((lim (iabs x)).length) c],.agg #[.bool (ineg y),.slice D ((lim (iabs y)).length) d]] w (Ret w h fun v h1=>RI h1 v (x-y)):=by
 have hs:=SS.start g
 replace hs:=((hs.a_SlO hA).a_SlO hD)
 have hny:(lim (iabs (-y))).length=(lim (iabs y)).length:=by unfold iabs;rw[Int.natAbs_neg]
 refine go Tryz.func80 [(0,.agg #[.bool (ineg x),.slice A ((lim (iabs x)).length) c]),(1,.agg #[.bool (ineg y),.slice D ((lim (iabs y)).length) d])] rfl ?_
 refine cSL (lA 2 26 ([.bool (ineg x),.slice A ((lim (iabs x)).length) c]) hs (fun b1 w2 h3 hs=>?_))
 refine lA 3 26 ([.bool (ineg y),.slice D ((lim (iabs y)).length) d]) hs (fun b4 w5 h6 hs=>?_)
 refine lA 4 26 ([.bool false,.slice none 0 0]) hs (fun b7 w8 h9 hs=>?_)
 refine lN (CG.seq (cR 4 [] mixed hs al_nil ?_))
 refine eO 0 5 [(2,0,2)] (.agg #[.bool (ineg x),.slice A ((lim (iabs x)).length) c]) hs ?_
 refine eO 1 6 [(1,0,2)] (.agg #[.bool (ineg y),.slice D ((lim (iabs y)).length) d]) hs ?_
 refine eC 2 7 hs (fun _ _ hs=>rIntNeg y D d hd oM _ _ hs.g (hs.f.1)) ?_
 rintro _ _ _ w14 h15 hs ⟨A10,c11,rfl,hc12,hA13⟩
 replace hs:=(hs.a_SlO hA13)
 refine eC 3 8 hs (fun _ _ hs=>rIntAdd x A c hc oM (-y) A10 c11 hc12 oM _ _ hs.g (hs.f.2.2.1) (hs.f.1)) ?_
 rintro _ _ _ w20 h21 hs ⟨A16,c17,rfl,hc18,hA19⟩
 replace hs:=(hs.a_SlO hA19)
 refine eD0 hs (fun w22 h23 hs=>?_)
 refine tP 4 0 0 ([.bool (ineg (x+(-y))),.slice A16 ((lim (iabs (x+(-y)))).length) c17]) hs (fun w24 hs=>?_)
 exact tN (CG.ret (hs.ret [(0,0,2)] (.agg #[.bool (ineg (x+(-y))),.slice A16 ((lim (iabs (x+(-y)))).length) c17]) (by rw[Int.sub_eq_add_neg];exact ⟨_,_,rfl,hc18,(hs.f.1)⟩)))
theorem cmpI_sign (x y:Int):(x-y).sign=cmpI x y:=by
  unfold cmpI
  rcases Int.lt_trichotomy x y with h|h|h
  · rw[if_pos h,Int.sign_eq_neg_one_of_neg oM]
  · subst h;simp
  · rw[if_neg oM,if_pos h,Int.sign_eq_one_of_pos oM]
theorem rIntCmp (x:Int)(A:Option Addr)(c:Nat)(hc:(lim (iabs x)).length≤c)(hLx:(lim (iabs x)).length≤1999999999)(y:Int)(D:Option Addr)(d:Nat)(hd:(lim (iabs y)).length≤d)(hLy:(lim (iabs y)).length≤1999999999)(w:World)(h:Hp)(g:G w h)(hA:SlO 1 u32c 0 h A (lim (iabs x)))(hD:SlO 1 u32c 0 h D (lim (iabs y))) :
    Calls Tryz.prog 53 #[.agg #[.bool (ineg x),.slice A ((lim (iabs x)).length) c],.agg #[.bool (ineg y),.slice D ((lim (iabs y)).length) d]] w (Ret w h fun v _=>v=.int .i64 (cmpI x y)):=by
 have hs:=SS.start g
 replace hs:=((hs.a_SlO hA).a_SlO hD)
 have hxy:(lim (iabs (x-y))).length≤2000000000:=lim_len_le' (show iabs (x-y)≤iabs x+iabs y by unfold iabs;omega) (lim_len_max hLx hLy)
 refine go Tryz.func53 [(0,.agg #[.bool (ineg x),.slice A ((lim (iabs x)).length) c]),(1,.agg #[.bool (ineg y),.slice D ((lim (iabs y)).length) d])] rfl ?_
 refine cSL (lA 2 26 ([.bool (ineg x),.slice A ((lim (iabs x)).length) c]) hs (fun b1 w2 h3 hs=>?_))
 refine lA 3 26 ([.bool (ineg y),.slice D ((lim (iabs y)).length) d]) hs (fun b4 w5 h6 hs=>?_)
 refine lL hs [.v 4 (.int .i64 0)] (lNS (lL hs [.o 5 (.agg #[.bool (ineg x),.slice A ((lim (iabs x)).length) c]) 1 0 2,.o 6 (.agg #[.bool (ineg y),.slice D ((lim (iabs y)).length) d]) 0 0 2] (lC 7 hs (rIntSub x A c hc oM y D d hd oM _ _ hs.g (hs.f.2.1) (hs.f.1)) ?_)))
 rintro _ w11 h12 hs ⟨A7,c8,rfl,hc9,hA10⟩
 replace hs:=(hs.a_SlO hA10)
 refine lC 8 hs (rIntSign (x-y) A7 c8 hc9 oM _ _ hs.g (hs.f.1)) ?_
 rintro _ w13 h14 hs rfl
 exact lL hs [.m 4 8] (lN (CG.ret (hs.ret [] (.int .i64 (((x-y)).sign)) (by rw[cmpI_sign]))))
theorem mkR_parts (n d:Int)(hd:d≠0):(mkR n d).num=sgn (ineg n != ineg d) (iabs n/Nat.gcd (iabs n) (iabs d))∧(mkR n d).den=iabs d/Nat.gcd (iabs n) (iabs d)∧0<Nat.gcd (iabs n) (iabs d):=by
  have hd0:0<iabs d:=by unfold iabs;omega
  have hz:iabs (if d<0 then -n else n)=iabs n:=by unfold iabs;split<;>omega
  obtain ⟨h1,h2,h3,h4⟩:=mkRat_parts (if d<0 then -n else n) (iabs d) hd0
  rw[hz] at h1 h2 h3 h4
  refine ⟨?_,h2,h4⟩
  have hs:=sgn_part _ _ h3
  rw[hz] at hs
  show (mkRat _ _).num=_
  rw[h1,←hs]
  by_cases hn:n=0
  · have hk:iabs n/Nat.gcd (iabs n) (iabs d)=0:=by rw[hn];exact Nat.zero_div _
    rw[hk]
    unfold sgn
    simp
  · have e:decide ((if d<0 then -n else n).sign<0)=(ineg n != ineg d):=by
      unfold ineg
      rcases Int.lt_trichotomy n 0 with a|a|a
      · rcases Int.lt_trichotomy d 0 with b|b|b
        · rw[if_pos b,Int.sign_eq_one_of_pos oM];simp[a,b]
        · exact absurd b hd
        · rw[if_neg oM,Int.sign_eq_neg_one_of_neg a];simp[a,show ¬d<0 by omega]
      · exact absurd a hn
      · rcases Int.lt_trichotomy d 0 with b|b|b
        · rw[if_pos b,Int.sign_eq_neg_one_of_neg oM];simp[show ¬n<0 by omega,b]
        · exact absurd b hd
        · rw[if_neg oM,Int.sign_eq_one_of_pos a];simp[show ¬n<0 by omega,show ¬d<0 by omega]
    rw[e]
theorem lim_imul (x:Int)(d:Nat):(lim (iabs (x*((d:Nat):Int)))).length≤(lim (iabs x)).length+(lim d).length:=by
  have:iabs (x*((d:Nat):Int))=iabs x*d:=Int.natAbs_mul x (d:Int)
  rw[this];exact lim_len_mul
theorem rDen (a:Rat)(A1:Option Addr)(c1:Nat)(D1:Option Addr)(d1:Nat)(hc1:(lim (iabs a.num)).length≤c1)(hd1:(lim a.den).length≤d1)(hn1:(lim (iabs a.num)).length≤300000000)(hm1:(lim a.den).length≤300000000)(w:World)(h:Hp)(g:G w h)(hA1:SlO 1 u32c 0 h A1 (lim (iabs a.num)))(hD1:SlO 1 u32c 0 h D1 (lim a.den)) :
    Calls Tryz.prog 55 #[.agg #[.bool (ineg a.num),.slice A1 ((lim (iabs a.num)).length) c1,.slice D1 ((lim (a.den)).length) d1]] w (Ret w h fun v h1=>RI h1 v ((a.den:Nat):Int)):=by
 have hs:=SS.start g
 replace hs:=((hs.a_SlO hA1).a_SlO hD1)
 refine go Tryz.func55 [(0,.agg #[.bool (ineg a.num),.slice A1 ((lim (iabs a.num)).length) c1,.slice D1 ((lim (a.den)).length) d1])] rfl ?_
 refine cSL (lA 1 28 ([.bool (ineg a.num),.slice A1 ((lim (iabs a.num)).length) c1,.slice D1 ((lim (a.den)).length) d1]) hs (fun b1 w2 h3 hs=>?_))
 refine lA 2 26 ([.bool false,.slice none 0 0]) hs (fun b4 w5 h6 hs=>?_)
 refine lNS (lL hs [.v 3 (.pointer (some ⟨b1,2,none⟩)),.o 4 (.slice D1 ((lim (a.den)).length) d1) 1 2 1] (lC 5 hs (rI false a.den D1 d1 hd1 _ _ hs.g (hs.f.1)) ?_))
 rintro _ w11 h12 hs ⟨A7,c8,rfl,hc9,hA10⟩
 replace hs:=(hs.a_SlO hA10)
 refine lP 0 0 ([.bool (ineg (sgn false a.den)),.slice A7 ((lim (iabs (sgn false a.den))).length) c8]) hs (fun w13 hs=>?_)
 exact lN (CG.ret (hs.ret [(0,0,2)] (.agg #[.bool (ineg (sgn false a.den)),.slice A7 ((lim (iabs (sgn false a.den))).length) c8]) (⟨_,_,rfl,hc9,(hs.f.1)⟩)))
theorem rSign (a:Rat)(A1:Option Addr)(c1:Nat)(D1:Option Addr)(d1:Nat)(hc1:(lim (iabs a.num)).length≤c1)(hd1:(lim a.den).length≤d1)(hn1:(lim (iabs a.num)).length≤300000000)(hm1:(lim a.den).length≤300000000)(w:World)(h:Hp)(g:G w h)(hA1:SlO 1 u32c 0 h A1 (lim (iabs a.num)))(hD1:SlO 1 u32c 0 h D1 (lim a.den)) :
    Calls Tryz.prog 23 #[.agg #[.bool (ineg a.num),.slice A1 ((lim (iabs a.num)).length) c1,.slice D1 ((lim (a.den)).length) d1]] w (Ret w h fun v _=>v=.int .i64 a.num.sign):=by
 have hs:=SS.start g
 replace hs:=((hs.a_SlO hA1).a_SlO hD1)
 refine go Tryz.func23 [(0,.agg #[.bool (ineg a.num),.slice A1 ((lim (iabs a.num)).length) c1,.slice D1 ((lim (a.den)).length) d1])] rfl ?_
 refine cSL (lA 1 28 ([.bool (ineg a.num),.slice A1 ((lim (iabs a.num)).length) c1,.slice D1 ((lim (a.den)).length) d1]) hs (fun b1 w2 h3 hs=>?_))
 refine lL hs [.v 2 (.int .i64 0)] (lNS (lL hs [.v 3 (.pointer (some ⟨b1,0,none⟩)),.o 4 (.agg #[.bool (ineg a.num),.slice A1 ((lim (iabs a.num)).length) c1]) 0 0 2] (lC 5 hs (rIntSign a.num A1 c1 hc1 oM _ _ hs.g (hs.f.2.1)) ?_)))
 rintro _ w4 h5 hs rfl
 exact lL hs [.m 2 5] (lN (CG.ret (hs.ret [] (.int .i64 ((a.num).sign)) rfl)))
theorem rCmp (a:Rat)(A1:Option Addr)(c1:Nat)(D1:Option Addr)(d1:Nat)(hc1:(lim (iabs a.num)).length≤c1)(hd1:(lim a.den).length≤d1)(hn1:(lim (iabs a.num)).length≤300000000)(hm1:(lim a.den).length≤300000000)(b:Rat)(A2:Option Addr)(c2:Nat)(D2:Option Addr)(d2:Nat)(hc2:(lim (iabs b.num)).length≤c2)(hd2:(lim b.den).length≤d2)(hn2:(lim (iabs b.num)).length≤300000000)(hm2:(lim b.den).length≤300000000)(w:World)(h:Hp)(g:G w h)(hA1:SlO 1 u32c 0 h A1 (lim (iabs a.num)))(hD1:SlO 1 u32c 0 h D1 (lim a.den))(hA2:SlO 1 u32c 0 h A2 (lim (iabs b.num)))(hD2:SlO 1 u32c 0 h D2 (lim b.den)) :
    Calls Tryz.prog 24 #[.agg #[.bool (ineg a.num),.slice A1 ((lim (iabs a.num)).length) c1,.slice D1 ((lim (a.den)).length) d1],.agg #[.bool (ineg b.num),.slice A2 ((lim (iabs b.num)).length) c2,.slice D2 ((lim (b.den)).length) d2]] w (Ret w h fun v _=>v=.int .i64 (cmpR a b)):=by
 have hs:=SS.start g
 replace hs:=((((hs.a_SlO hA1).a_SlO hD1).a_SlO hA2).a_SlO hD2)
 have hx1:=lim_imul a.num b.den
 have hx2:=lim_imul b.num a.den
 refine go Tryz.func24 [(0,.agg #[.bool (ineg a.num),.slice A1 ((lim (iabs a.num)).length) c1,.slice D1 ((lim (a.den)).length) d1]),(1,.agg #[.bool (ineg b.num),.slice A2 ((lim (iabs b.num)).length) c2,.slice D2 ((lim (b.den)).length) d2])] rfl ?_
 refine cSL (lA 2 28 ([.bool (ineg a.num),.slice A1 ((lim (iabs a.num)).length) c1,.slice D1 ((lim (a.den)).length) d1]) hs (fun b1 w2 h3 hs=>?_))
 refine lA 3 28 ([.bool (ineg b.num),.slice A2 ((lim (iabs b.num)).length) c2,.slice D2 ((lim (b.den)).length) d2]) hs (fun b4 w5 h6 hs=>?_)
 refine lL hs [.v 4 (.int .i64 0)] (lN (CG.seq (cR 11 [] mixed hs al_nil ?_)))
 refine eV 0 5 (.pointer (some ⟨b1,0,none⟩)) ?_
 refine eO 1 6 [(1,0,2)] (.agg #[.bool (ineg a.num),.slice A1 ((lim (iabs a.num)).length) c1]) hs ?_
 refine eO 2 7 [(0,0,3)] (.agg #[.bool (ineg b.num),.slice A2 ((lim (iabs b.num)).length) c2,.slice D2 ((lim (b.den)).length) d2]) hs ?_
 refine eV 5 10 (.pointer (some ⟨b4,0,none⟩)) ?_
 refine eO 6 11 [(0,0,2)] (.agg #[.bool (ineg b.num),.slice A2 ((lim (iabs b.num)).length) c2]) hs ?_
 refine eO 7 12 [(1,0,3)] (.agg #[.bool (ineg a.num),.slice A1 ((lim (iabs a.num)).length) c1,.slice D1 ((lim (a.den)).length) d1]) hs ?_
 refine eC 3 8 hs (fun _ _ hs=>rDen b A2 c2 D2 d2 hc2 hd2 oM oM _ _ hs.g (hs.f.2.1) (hs.f.1)) ?_
 rintro _ _ _ w11 h12 hs ⟨A7,c8,rfl,hc9,hA10⟩
 replace hs:=(hs.a_SlO hA10)
 refine eC 4 9 hs (fun _ _ hs=>rIntMul a.num A1 c1 hc1 oM ((b.den:Nat):Int) A7 c8 hc9 (show (lim (b.den)).length≤2000000000 by omega) _ _ hs.g (hs.f.2.2.2.2.1) (hs.f.1)) ?_
 rintro _ _ _ w17 h18 hs ⟨A13,c14,rfl,hc15,hA16⟩
 replace hs:=(hs.a_SlO hA16)
 refine eC 8 13 hs (fun _ _ hs=>rDen a A1 c1 D1 d1 hc1 hd1 oM oM _ _ hs.g (hs.f.2.2.2.2.2.1) (hs.f.2.2.2.2.1)) ?_
 rintro _ _ _ w23 h24 hs ⟨A19,c20,rfl,hc21,hA22⟩
 replace hs:=(hs.a_SlO hA22)
 refine eC 9 14 hs (fun _ _ hs=>rIntMul b.num A2 c2 hc2 oM ((a.den:Nat):Int) A19 c20 hc21 (show (lim (a.den)).length≤2000000000 by omega) _ _ hs.g (hs.f.2.2.2.2.1) (hs.f.1)) ?_
 rintro _ _ _ w29 h30 hs ⟨A25,c26,rfl,hc27,hA28⟩
 replace hs:=(hs.a_SlO hA28)
 refine eC 10 15 hs (fun _ _ hs=>rIntCmp (a.num*((b.den:Nat):Int)) A13 c14 hc15 oM (b.num*((a.den:Nat):Int)) A25 c26 hc27 oM _ _ hs.g (hs.f.2.2.1) (hs.f.1)) ?_
 rintro _ _ _ w31 h32 hs rfl
 refine eD0 hs (fun w33 h34 hs=>?_)
 refine tV 11 4 (.int .i64 (cmpI (a.num*((b.den:Nat):Int)) (b.num*((a.den:Nat):Int)))) ?_
 exact tN (CG.ret (hs.ret [] (.int .i64 (cmpI (a.num*((b.den:Nat):Int)) (b.num*((a.den:Nat):Int)))) rfl))
theorem lim_small {z:Int}(h0 : -9223372036854775808≤z)(h1:z<9223372036854775808):(lim (iabs z)).length≤2:=lim_len_le (by unfold iabs;omega)
theorem rOf (z:Int)(h0 : -9223372036854775808≤z)(h1:z<9223372036854775808)(w:World)(h:Hp)(g:G w h) :
    Calls Tryz.prog 14 #[.int .i64 z] w (Ret w h fun v h1=>RQ h1 v (z:Rat)):=by
 have hs:=SS.start g
 refine go Tryz.func14 [(0,.int .i64 z)] rfl ?_
 refine cSL (lA 2 28 ([.bool false,.slice none 0 0,.slice none 0 0]) hs (fun b1 w2 h3 hs=>?_))
 refine lNS (lL hs [.m 3 0] (lC 4 hs (rIntOf z oM oM _ _ hs.g) ?_))
 rintro _ w8 h9 hs ⟨A4,c5,rfl,hc6,hA7⟩
 replace hs:=(hs.a_SlO hA7)
 refine lC 5 hs (rNatOf 1 oM _ _ hs.g) ?_
 rintro _ w14 h15 hs ⟨A10,c11,rfl,hc12,hA13⟩
 replace hs:=(hs.a_SlO hA13)
 refine lL hs [.v 6 (.agg #[.bool (ineg z),.slice A4 ((lim (iabs z)).length) c5,.slice A10 ((lim 1).length) c11])] (lP 0 0 ([.bool (ineg z),.slice A4 ((lim (iabs z)).length) c5,.slice A10 ((lim 1).length) c11]) hs (fun w16 hs=>?_))
 exact lN (CG.ret (hs.ret [(0,0,3)] (.agg #[.bool (ineg z),.slice A4 ((lim (iabs z)).length) c5,.slice A10 ((lim 1).length) c11]) (by unfold RQ;rw[Rat.num_intCast,Rat.den_intCast];exact ⟨_,_,_,_,rfl,hc6,hc12,(hs.f.2.1),(hs.f.1)⟩)))
theorem opShrU {P:Program}{Γ:Env}{o:Oper}{t u:TypeId}{x y:Operand}{k ky:IntKind}{a n:Nat}(ho:o.op=.binOp .shr t x y u)(hx:ev Γ x=.int k (a:Int))(hy:ev Γ y=.int ky (n:Int))(hn:n≤k.bits)(w:World) :
    (execOp (ev Γ) o).run P w=.ok (.value (.int k ((a/2^n:Nat):Int))) w:=by
  have:=opShr (P:=P) ho hx hy hn w
  rw[show ((a:Int)/2^n)=((a/2^n:Nat):Int) by simp] at this
  exact this
theorem opShlU32 {P:Program}{Γ:Env}{o:Oper}{t u:TypeId}{x y:Operand}{ky:IntKind}{a n:Nat}(ho:o.op=.binOp .shl t x y u)(hx:ev Γ x=.int .u32 (a:Int))(hy:ev Γ y=.int ky (n:Int))(hn:n≤32)(hf:a*2^n<4294967296)(w:World) :
    (execOp (ev Γ) o).run P w=.ok (.value (.int .u32 ((a*2^n:Nat):Int))) w:=by
  have:=opShl (P:=P) ho hx hy hn w
  rw[show ((a:Int)*2^n)=((a*2^n:Nat):Int) by simp,fnU32 hf] at this
  exact this
theorem rNatBytes (a:Nat)(A:Option Addr)(c:Nat)(hc:(lim a).length≤c)(hLa:(lim a).length≤4000000000)(w:World)(h:Hp)(g:G w h)(hA:SlO 1 u32c 0 h A (lim a)) :
    Calls Tryz.prog 79 #[.slice A ((lim a).length) c] w (Ret w h fun v h1=>∃ A,v=.slice A ((nb a+7)/8) ((nb a+7)/8)∧SlO 1 u8c 0 h1 A (byt a ((nb a+7)/8))):=by
 have hs:=SS.start g
 replace hs:=(hs.a_SlO hA)
 have hna:=nb_len a
 refine go Tryz.func79 [(0,.slice A ((lim a).length) c)] rfl ?_
 refine cSL (lL hs [.v 2 (.slice none 0 0)] (lNS (lL hs [.m 6 0] (lC 7 hs (rNatBits a A c hc hLa _ _ hs.g (hs.f.1)) ?_))))
 rintro _ w1 h2 hs rfl
 refine lIn 8 ((nb a:Nat)+7) ((nb a)+7) ?_
 refine lV 9 (.int .i64 (((nb a)+7)/8:Nat)) ?_ (hr:=rint (opQuo (t:=3) (u:=3) (x:=.tmp 8) (y:=.const (.int .i64 8)) (k:=.i64) (a:=(((nb a)+7:Nat):Int)) (b:=(8:Int)) kR kR kR oM _) (quoI64 ((nb a)+7) 8 oM))
 refine lL hs [.m 3 9] (lNS (lL hs [.m 10 3] (lK 11 5 (((nb a)+7)/8:Nat) 1 1 (.int .u8 0) u8c 0 hs (fun b3 w4 h5 hs=>?_))))
 have hl6:(List.replicate (((nb a)+7)/8:Nat) 0).length=(((nb a)+7)/8:Nat):=by simp
 refine lL hs [.m 4 11] (lN (CG.seq (cSL (lL hs [.v 5 (.int .i64 0)] (lN (CG.block (cTo [(0,.slice A ((lim a).length) c),(2,.slice none 0 0),(3,.int .i64 (((nb a)+7)/8:Nat)),(4,.slice (some ⟨b3,0,none⟩) (((nb a)+7)/8:Nat) (((nb a)+7)/8:Nat)),(5,.int .i64 0)] ?_)))))))
 refine CG.loop (fun μ_ Γ w_=>∃ (i:Nat) (l:List Nat) (h_:Hp),μ_=((nb a+7)/8)-i∧Γ=[(0,.slice A ((lim a).length) c),(2,.slice none 0 0),(3,.int .i64 (((nb a)+7)/8:Nat)),(4,.slice (some ⟨b3,0,none⟩) (((nb a)+7)/8:Nat) (((nb a)+7)/8:Nat)),(5,.int .i64 (i:Nat))]∧SS w h w_ h_ [⟨b3,5,(l).flatMap u8c⟩] [] [fun h_=>SlO 1 u32c 0 h_ A (lim a)]∧(i≤((nb a+7)/8))∧(l.length=((nb a+7)/8))∧(∀ j,j<i→l.getD (((nb a+7)/8)-1-j) 0=a/256^j%256)) _ ⟨0,List.replicate (((nb a)+7)/8:Nat) 0,h5,rfl,rfl,hs.to _ _,Nat.zero_le _,hl6,(fun j hj=>absurd hj oM)⟩ ?_
 rintro _ _ w7 ⟨i,l,h8,hm9,rfl,hs,hi,hll,hg⟩
 have hai:=(Ld.lim a).get (i/4)
 refine CG.seq (cSL (lL hs [.m 12 5,.m 13 3] ?_))
 cases hb10:(decide (((i:Nat):Int)<((((nb a)+7)/8:Nat):Int)))
 ·
  have phb10:=oF hb10
  refine lB 14 hb10 ?_
  refine lN (cIF (CG.exit ?_))
  show CG _ _ _ _ _ _ _ _
  refine cSL (lL hs [.m 34 4,.m 2 34] (lN (CG.ret ?_)))
  have him:i=((nb a+7)/8):=by omega
  have hlb:l=byt a ((nb a+7)/8):=eq_byt hll (fun j hj=>hg j oM)
  rw[hlb] at hs
  obtain ⟨h11,hs,sg12,lo13,bc14⟩:=hs.pub 0
  replace hs:=(hs.to [] []).a_SlO (SlO.of_flat (sz:=1) (f:=u8c) (d:=0) (b:=b3) (o:=0) (l:=byt a ((nb a+7)/8)) (fun _=>rfl) sg12)
  exact hs.ret [] (.slice (some ⟨b3,0,none⟩) (((nb a)+7)/8:Nat) (((nb a)+7)/8:Nat)) (⟨some ⟨b3,0,none⟩,rfl,(hs.f.1)⟩)
 have phb10:=oT hb10
 refine lB 14 hb10 ?_
 refine lN (cIT (CG.skipN (CG.seq (CG.block (CG.listed (lL hs [.m 17 4,.m 18 3] (lIn 19 ((((nb a)+7)/8:Nat)-1) ((((nb a)+7)/8:Nat)-1) ?_)))))))
 refine lL hs [.m 20 5] (lIn 21 (((((nb a)+7)/8:Nat)-1:Nat)-(i:Nat)) (((((nb a)+7)/8:Nat)-1:Nat)-i) ?_)
 refine lL hs [.m 22 0,.m 23 5] (lV 24 (.int .i64 (i/4:Nat)) ?_ (hr:=rint (opQuo (t:=3) (u:=3) (x:=.tmp 23) (y:=.const (.int .i64 4)) (k:=.i64) (a:=((i:Nat):Int)) (b:=(4:Int)) kR kR kR oM _) (quoI64 i 4 oM)))
 refine lX 25 A ((lim a).length) c 1 (i/4:Nat) (i/4) ((hs.f.1).ok oM) ?_
 refine lH 26 (.int .u32 ((lim a).getD (i/4) 0:Nat)) hs ((hs.f.1).el (i/4) oM) ?_
 refine lL hs [.m 27 5] (lV 28 (.int .i64 (i%4:Nat)) ?_ (hr:=rint (opRem (t:=3) (u:=3) (x:=.tmp 27) (y:=.const (.int .i64 4)) (k:=.i64) (a:=((i:Nat):Int)) (b:=(4:Int)) kR kR kR oM _) (tmodNat i 4)))
 refine lIn 29 (8*(i%4:Nat)) (8*(i%4)) ?_
 refine lV 30 (.int .u64 (8*(i%4):Nat)) ?_ (hr:=rint (n:=IntKind.wrap .u64 ((8*(i%4):Nat):Int)) kR (fitU64 oM oM))
 refine lV 31 (.int .u32 ((lim a).getD (i/4) 0/2^(8*(i%4)):Nat)) ?_ (hr:=opShrU (t:=117) (u:=118) (x:=.tmp 26) (y:=.tmp 30) (k:=.u32) (ky:=.u64) (a:=(lim a).getD (i/4) 0) (n:=8*(i%4)) kR kR kR (show 8*(i%4)≤32 by omega) _)
 refine lV 32 (.int .u8 ((lim a).getD (i/4) 0/2^(8*(i%4))%256:Nat)) ?_ (hr:=rint (n:=IntKind.wrap .u8 (((lim a).getD (i/4) 0/2^(8*(i%4)):Nat):Int)) kR (wrU8 _))
 refine lX 33 (some ⟨b3,0,none⟩) (((nb a)+7)/8:Nat) (((nb a)+7)/8:Nat) 1 (((((nb a)+7)/8:Nat)-1:Nat)-i:Nat) (((((nb a)+7)/8:Nat)-1:Nat)-i:Nat) rfl ?_
 refine lW 0 l u8c 1 (((((nb a)+7)/8:Nat)-1:Nat)-i:Nat) ((lim a).getD (i/4) 0/2^(8*(i%4))%256:Nat) hs oM (fun w16 hs=>?_)
 have hl17:((l).set (((((nb a)+7)/8:Nat)-1:Nat)-i:Nat) ((lim a).getD (i/4) 0/2^(8*(i%4))%256:Nat)).length=(((nb a)+7)/8:Nat):=by rw[List.length_set];exact hll
 replace hs:=hs.to [⟨b3,5,((l).set (((((nb a)+7)/8:Nat)-1:Nat)-i:Nat) ((lim a).getD (i/4) 0/2^(8*(i%4))%256:Nat)).flatMap u8c⟩] []
 refine lN (CG.listed (lL hs [.m 15 5] (lIn 16 ((i:Nat)+1) (i+1) ?_)))
 refine lL hs [.m 5 16] (lD ?_)
 intro a_ ka
 have q18:(i+1)≤((nb a+7)/8):=by omega
 have q19:((l).set (((((nb a)+7)/8:Nat)-1:Nat)-i:Nat) ((lim a).getD (i/4) 0/2^(8*(i%4))%256:Nat)).length=((nb a+7)/8):=hl17
 have q20:∀ j,j<(i+1)→((l).set (((((nb a)+7)/8:Nat)-1:Nat)-i:Nat) ((lim a).getD (i/4) 0/2^(8*(i%4))%256:Nat)).getD (((nb a+7)/8)-1-j) 0=a/256^j%256:=(set_from_top hll oM hg (byte_lim a i))
 refine ⟨_,_,?_,⟨i+1,(l).set (((((nb a)+7)/8:Nat)-1:Nat)-i:Nat) ((lim a).getD (i/4) 0/2^(8*(i%4))%256:Nat),h8,rfl,rfl,hs.to _ _,q18,q19,q20⟩,ka.to [(0,.slice A ((lim a).length) c),(2,.slice none 0 0),(3,.int .i64 (((nb a)+7)/8:Nat)),(4,.slice (some ⟨b3,0,none⟩) (((nb a)+7)/8:Nat) (((nb a)+7)/8:Nat)),(5,.int .i64 ((i+1):Nat))] kR⟩
 omega
theorem lowL_init {n m:Nat}(h:n<256^m):∀ j,j<(m+3)/4→(List.replicate ((m+3)/4) 0).getD j 0=lowL n (m-0) j:=fun j hj=>by
  rw[Nat.sub_zero,lowL_top h];simp[hj]
theorem lowL_next {l:List Nat}{n m i x:Nat}(hi:i<m)(hl:l.length=(m+3)/4)(hv:∀ j,j<(m+3)/4→l.getD j 0=lowL n (m-i) j)(hx:x=lowL n (m-1-i) ((m-1-i)/4)) :
    ∀ j,j<(m+3)/4→(l.set ((m-1-i)/4) x).getD j 0=lowL n (m-(i+1)) j:=by
  intro j hj
  rw[show m-(i+1)=m-1-i by omega]
  by_cases e:j=(m-1-i)/4
  · subst e
    have:(m-1-i)/4<l.length:=by omega
    simp[this,hx]
  · rw[lowL_step,if_neg e,show m-1-i+1=m-i by omega,←hv j hj]
    simp only[List.getD_eq_getElem?_getD]
    rw[List.getElem?_set_ne (Ne.symm e)]
theorem from_or {n k:Nat}:lowL n (k+1) (k/4) ||| (n/256^k%256)*2^(8*(k%4))=lowL n k (k/4):=by rw[lowL_step n k (k/4),if_pos rfl]
theorem shl_fit32 {b k:Nat}(hb:b<256):b*2^(8*(k%4))<4294967296:=by
  have:k%4=0∨k%4=1∨k%4=2∨k%4=3:=by omega
  rcases this with e|e|e|e<;>rw[e]<;>omega
theorem from_fin {l:List Nat}{n m:Nat}(hn:n<256^m)(hl:l.length=(m+3)/4)(hv:∀ j,j<(m+3)/4→l.getD j 0=lowL n (m-m) j):bval 4294967296 l=n∧Ld l:=by
  constructor
  · rw[←nval_bval]
    refine nval_of_digits l n (fun j hj=>by rw[hv j oM,Nat.sub_self,lowL_zero]) ?_
    refine Nat.lt_of_lt_of_le hn ?_
    rw[hl,show (256:Nat)=2^8 by rfl,show (4294967296:Nat)=2^32 by rfl,←Nat.pow_mul,←Nat.pow_mul]
    exact Nat.pow_le_pow_right oM oM
  · intro x hx
    obtain ⟨j,hj,rfl⟩:=List.mem_iff_getElem.1 hx
    have:=hv j oM
    have e:l[j]=l.getD j 0:=by simp[hj]
    rw[e,this]
    exact lowL_lt _ _ _
theorem rNatFrom (n m:Nat)(A:Option Addr)(cap:Nat)(hc:m≤cap)(hm:m≤1099511627776)(hn:n<256^m)(w:World)(h:Hp)(g:G w h)(hA:SlO 1 u8c 0 h A (byt n m)) :
    Calls Tryz.prog 123 #[.slice A m cap] w (Ret w h fun v h1=>RN h1 v n):=by
 have hs:=SS.start g
 replace hs:=(hs.a_SlO hA)
 have hbl:=byt_len n m
 refine go Tryz.func123 [(0,.slice A m cap)] rfl ?_
 refine cSL (lL hs [.v 2 (.slice none 0 0)] (lNS (lL hs [.m 6 0,.v 7 (.int .i64 (m:Nat))] (lIn 8 ((m:Nat)+3) (m+3) ?_))))
 refine lV 9 (.int .i64 ((m+3)/4:Nat)) ?_ (hr:=rint (opQuo (t:=3) (u:=3) (x:=.tmp 8) (y:=.const (.int .i64 4)) (k:=.i64) (a:=((m+3:Nat):Int)) (b:=(4:Int)) kR kR kR oM _) (quoI64 (m+3) 4 oM))
 refine lK 10 117 ((m+3)/4) 1 4 (.int .u32 0) u32c 0 hs (fun b1 w2 h3 hs=>?_)
 have hl4:(List.replicate ((m+3)/4) 0).length=((m+3)/4):=by simp
 refine lL hs [.m 3 10] (lN (CG.seq (cSL (lL hs [.v 4 (.int .i64 0)] (lN (CG.block (cTo [(0,.slice A m cap),(2,.slice none 0 0),(3,.slice (some ⟨b1,0,none⟩) ((m+3)/4) ((m+3)/4)),(4,.int .i64 0)] ?_)))))))
 refine CG.loop (fun μ_ Γ w_=>∃ (i:Nat) (l:List Nat) (h_:Hp),μ_=m-i∧Γ=[(0,.slice A m cap),(2,.slice none 0 0),(3,.slice (some ⟨b1,0,none⟩) ((m+3)/4) ((m+3)/4)),(4,.int .i64 (i:Nat))]∧SS w h w_ h_ [⟨b1,117,(l).flatMap u32c⟩] [] [fun h_=>SlO 1 u8c 0 h_ A (byt n m)]∧(i≤m)∧(l.length=(m+3)/4)∧(∀ j,j<(m+3)/4→l.getD j 0=lowL n (m-i) j)) _ ⟨0,List.replicate ((m+3)/4) 0,h3,rfl,rfl,hs.to _ _,Nat.zero_le _,hl4,(lowL_init hn)⟩ ?_
 rintro _ _ w5 ⟨i,l,h6,hm7,rfl,hs,hi,hll,hv⟩
 refine CG.seq (cSL (lL hs [.m 11 4,.m 12 0,.v 13 (.int .i64 (m:Nat))] ?_))
 cases hb8:(decide (((i:Nat):Int)<((m:Nat):Int)))
 ·
  have phb8:=oF hb8
  refine lB 14 hb8 ?_
  refine lN (cIF (CG.exit ?_))
  show CG _ _ _ _ _ _ _ _
  refine cSL (lL hs [.m 42 3] ?_)
  have him:i=m:=by omega
  rw[him] at hv
  obtain ⟨hf1,hf2⟩:=from_fin hn hll hv
  obtain ⟨h9,hs,sg10,lo11,bc12⟩:=hs.pub 0
  replace hs:=(hs.to [] []).a_SlO (SlO.of_flat (sz:=1) (f:=u32c) (d:=0) (b:=b1) (o:=0) (l:=l) (fun _=>rfl) sg10)
  refine lC 43 hs (rTrim (some ⟨b1,0,none⟩) ((m+3)/4) l ((m+3)/4) hll oM oM _ _ hs.g (hs.f.1)) ?_
  rintro _ w14 h15 hs rfl
  exact lL hs [.m 2 43] (lN (CG.ret (hs.ret [] (.slice (some ⟨b1,0,none⟩) (tl l ((m+3)/4)) ((m+3)/4)) (RN.trim hf2 hf1 hll oM (hs.f.1)))))
 have phb8:=oT hb8
 refine lB 14 hb8 ?_
 refine lN (cIT (CG.skipN (CG.seq (CG.block (cSL (lL hs [.m 17 0,.v 18 (.int .i64 (m:Nat))] (lIn 19 ((m:Nat)-1) (m-1) ?_)))))))
 refine lL hs [.m 20 4] (lIn 21 ((m-1:Nat)-(i:Nat)) ((m-1)-i) ?_)
 refine lL hs [.m 5 21] (lN (cR 19 [] mixed hs al_nil ?_))
 refine eV 0 22 (.slice (some ⟨b1,0,none⟩) ((m+3)/4) ((m+3)/4)) ?_
 refine eV 1 23 (.int .i64 ((m-1)-i:Nat)) ?_
 refine eV 2 24 (.int .i64 (((m-1)-i)/4:Nat)) ?_ (hv:=fun _=>rint (opQuo (t:=3) (u:=3) (x:=.tmp 23) (y:=.const (.int .i64 4)) (k:=.i64) (a:=(((m-1)-i:Nat):Int)) (b:=(4:Int)) kR kR kR oM _) (quoI64 ((m-1)-i) 4 oM))
 refine eV 3 25 (.slice (some ⟨b1,0,none⟩) ((m+3)/4) ((m+3)/4)) ?_
 refine eV 4 26 (.int .i64 ((m-1)-i:Nat)) ?_
 refine eV 5 27 (.int .i64 (((m-1)-i)/4:Nat)) ?_ (hv:=fun _=>rint (opQuo (t:=3) (u:=3) (x:=.tmp 26) (y:=.const (.int .i64 4)) (k:=.i64) (a:=(((m-1)-i:Nat):Int)) (b:=(4:Int)) kR kR kR oM _) (quoI64 ((m-1)-i) 4 oM))
 refine eX 6 28 (some ⟨b1,0,none⟩) ((m+3)/4) ((m+3)/4) 1 (((m-1)-i)/4:Nat) (((m-1)-i)/4:Nat) rfl ?_
 refine eQ 7 29 0 l u32c 1 0 (((m-1)-i)/4:Nat) (.int .u32 ((l).getD (((m-1)-i)/4:Nat) 0:Nat)) hs oM ?_
 refine eV 8 30 (.slice A m cap) ?_
 refine eV 9 31 (.int .i64 (i:Nat)) ?_
 refine eX 10 32 A m cap 1 (i:Nat) i ((hs.f.1).ok oM) ?_
 have hvk:=hv ((m-1-i)/4) oM
 have hor:l.getD ((m-1-i)/4) 0 ||| (n/256^(m-1-i)%256)*2^(8*((m-1-i)%4))=lowL n (m-1-i) ((m-1-i)/4):=by rw[hvk,show m-i=m-1-i+1 by omega];exact from_or
 have hlt:l.getD ((m-1-i)/4) 0<4294967296:=by rw[hvk];exact lowL_lt _ _ _
 have hvk:=hv ((m-1-i)/4) oM
 have hor:l.getD ((m-1-i)/4) 0 ||| (n/256^(m-1-i)%256)*2^(8*((m-1-i)%4))=lowL n (m-1-i) ((m-1-i)/4):=by rw[hvk,show m-i=m-1-i+1 by omega];exact from_or
 have hlt:l.getD ((m-1-i)/4) 0<4294967296:=by rw[hvk];exact lowL_lt _ _ _
 refine eHe 11 33 (.int .u8 ((byt n m).getD i 0:Nat)) hs ((hs.f.1).el i oM) (by rw[byt_get n m _ oM]) ?_
 refine eV 12 34 (.int .u32 (n/256^(m-1-i)%256:Nat)) ?_ (hv:=fun _=>rint (n:=IntKind.wrap .u32 ((n/256^(m-1-i)%256:Nat):Int)) kR (fitU32 oM oM))
 refine eV 13 35 (.int .i64 ((m-1)-i:Nat)) ?_
 refine eV 14 36 (.int .i64 (((m-1)-i)%4:Nat)) ?_ (hv:=fun _=>rint (opRem (t:=3) (u:=3) (x:=.tmp 35) (y:=.const (.int .i64 4)) (k:=.i64) (a:=(((m-1)-i:Nat):Int)) (b:=(4:Int)) kR kR kR oM _) (tmodNat ((m-1)-i) 4))
 refine eIn 15 37 (8*(((m-1)-i)%4:Nat)) (8*(((m-1)-i)%4:Nat)) ?_
 refine eV 16 38 (.int .u64 (8*(((m-1)-i)%4:Nat):Nat)) ?_ (hv:=fun _=>rint (n:=IntKind.wrap .u64 ((8*(((m-1)-i)%4:Nat):Nat):Int)) kR (fitU64 oM oM))
 refine eV 17 39 (.int .u32 ((n/256^(m-1-i)%256)*2^(8*((m-1-i)%4)):Nat)) ?_ (hv:=fun _=>opShlU32 (t:=117) (u:=118) (x:=.tmp 34) (y:=.tmp 38) (ky:=.u64) (a:=n/256^(m-1-i)%256) (n:=8*((m-1-i)%4)) kR kR kR oM (shl_fit32 oM) _)
 refine eV 18 40 (.int .u32 (lowL n (m-1-i) ((m-1-i)/4):Nat)) ?_ (hv:=fun _=>rint (opOr32 (t:=117) (u:=117) (x:=.tmp 29) (y:=.tmp 39) (a:=l.getD ((m-1-i)/4) 0) (b:=(n/256^(m-1-i)%256)*2^(8*((m-1-i)%4))) kR kR kR hlt (shl_fit32 oM) _) (congrArg Int.ofNat hor))
 refine eD0 hs (fun w16 h17 hs=>?_)
 refine tX 19 41 (some ⟨b1,0,none⟩) ((m+3)/4) ((m+3)/4) 1 (((m-1)-i)/4:Nat) (((m-1)-i)/4:Nat) rfl ?_
 refine tW 20 0 l u32c 1 (((m-1)-i)/4:Nat) (lowL n (m-1-i) ((m-1-i)/4):Nat) hs oM (fun w18 hs=>?_)
 have hl19:((l).set (((m-1)-i)/4:Nat) (lowL n (m-1-i) ((m-1-i)/4):Nat)).length=((m+3)/4):=by rw[List.length_set];exact hll
 replace hs:=hs.to [⟨b1,117,((l).set (((m-1)-i)/4:Nat) (lowL n (m-1-i) ((m-1-i)/4):Nat)).flatMap u32c⟩] []
 refine tN (CG.listed (lL hs [.m 15 4] (lIn 16 ((i:Nat)+1) (i+1) ?_)))
 refine lL hs [.m 4 16] (lD ?_)
 intro a_ ka
 have q20:(i+1)≤m:=by omega
 have q21:((l).set (((m-1)-i)/4:Nat) (lowL n (m-1-i) ((m-1-i)/4):Nat)).length=(m+3)/4:=hl19
 have q22:∀ j,j<(m+3)/4→((l).set (((m-1)-i)/4:Nat) (lowL n (m-1-i) ((m-1-i)/4):Nat)).getD j 0=lowL n (m-(i+1)) j:=(lowL_next oM hll hv rfl)
 refine ⟨_,_,?_,⟨i+1,(l).set (((m-1)-i)/4:Nat) (lowL n (m-1-i) ((m-1-i)/4):Nat),h17,rfl,rfl,hs.to _ _,q20,q21,q22⟩,ka.to [(0,.slice A m cap),(2,.slice none 0 0),(3,.slice (some ⟨b1,0,none⟩) ((m+3)/4) ((m+3)/4)),(4,.int .i64 ((i+1):Nat))] kR⟩
 omega
theorem LQ.ln {q:Rat}(h:LQ 100000000 q):(lim (iabs q.num)).length≤300000000:=Nat.le_trans (lim_wds _) (by have:=h.1;omega)
theorem LQ.ld {q:Rat}(h:LQ 100000000 q):(lim q.den).length≤300000000:=Nat.le_trans (lim_wds _) (by have:=h.2;omega)
theorem LQ.inv {k:Nat}{q:Rat}(h:LQ k q):LQ k q⁻¹:=by
  by_cases hz:q.num=0
  · have:q=0:=by rw[←Rat.num_eq_zero];exact hz
    subst this;rw[Rat.inv_zero];exact h
  · obtain ⟨h1,h2⟩:=rat_inv q hz
    exact ⟨by rw[h1,iabs_sgn];exact h.2,by rw[h2];exact h.1⟩
theorem LQ.div {k l:Nat}{a b:Rat}(ha:LQ k a)(hb:LQ l b):LQ (k+l) (a/b):=by rw[Rat.div_def];exact ha.mul hb.inv
theorem LQ.int {z:Int}(h0 : -9223372036854775808≤z)(h1:z≤9223372036854775807):LQ 1 (z:Rat):=⟨by rw[Rat.num_intCast];exact wds_len_lit.2 (by unfold iabs;omega),by rw[Rat.den_intCast];exact wds_len_lit.2 oM⟩
theorem LQ.lit {z:Int}(h : -9223372036854775808≤z∧z≤9223372036854775807):LQ 1 (z:Rat):=LQ.int h.1 h.2
def dotq (a b:List Rat):Nat→Rat
  | 0=>0
  | k+1=>dotq a b k+a.getD k 0*b.getD k 0
theorem LQ.dot {a b:List Rat}{k l n:Nat}(ha:∀ i,i<n→LQ k (a.getD i 0))(hb:∀ i,i<n→LQ l (b.getD i 0)):∀ i,i≤n→LQ (i*(k+l+1)+1) (dotq a b i)
  | 0,_=>by rw[Nat.zero_mul];exact LQ.lit (z:=0) kD
  | i+1,h=>by
    have h1:=(LQ.dot ha hb i oM).add ((ha i oM).mul (hb i oM))
    refine LQ.mono h1 ?_
    rw[Nat.succ_mul];omega
theorem rNatDivS (a:Nat)(A:Option Addr)(c:Nat)(hc:(lim a).length≤c)(b:Nat)(D:Option Addr)(d:Nat)(hd:(lim b).length≤d)(hLa:(lim a).length≤3000000000)(hLb:(lim b).length≤1)(hb:0<b)(w:World)(h:Hp)(g:G w h)(hA:SlO 1 u32c 0 h A (lim a))(hD:SlO 1 u32c 0 h D (lim b)) :
    Calls Tryz.prog 62 #[.slice A (lim a).length c,.slice D (lim b).length d] w (Ret w h fun v h1=>∃ v1 v2,v=.tuple #[v1,v2]∧RN h1 v1 (a/b)∧RN h1 v2 (a%b)):=by
  have hp:=lim_pos.2 hb
  rcases Nat.lt_or_ge a b with h1|h1
  · exact rNatDivLt a A c hc b D d hd hLa oM h1 w h g hA hD
  · exact rNatDivOne a A c hc b D d hd hLa oM h1 oM w h g hA hD
theorem rNatGcdS (a:Nat)(A:Option Addr)(c:Nat)(hc:(lim a).length≤c)(b:Nat)(D:Option Addr)(d:Nat)(hd:(lim b).length≤d)(hLa:(lim a).length≤3000000000)(hLb:(lim b).length≤1)(w:World)(h:Hp)(g:G w h)(hA:SlO 1 u32c 0 h A (lim a))(hD:SlO 1 u32c 0 h D (lim b)) :
    Calls Tryz.prog 61 #[.slice A ((lim a).length) c,.slice D ((lim b).length) d] w (Ret w h fun v h1=>RN h1 v (Nat.gcd a b)):=by
 have hs:=SS.start g
 replace hs:=((hs.a_SlO hA).a_SlO hD)
 refine go Tryz.func61 [(0,.slice A ((lim a).length) c),(1,.slice D ((lim b).length) d)] rfl ?_
 refine cSL (lL hs [.v 4 (.slice none 0 0)] (lN (CG.seq (CG.block (cTo [(4,.slice none 0 0),(0,.slice A ((lim a).length) c),(1,.slice D ((lim b).length) d)] ?_)))))
 replace hs:=hs.add (K:=fun h_=>SlO 1 u32c 0 h_ D (lim b)) ((hs.f.1))
 replace hs:=hs.add (K:=fun h_=>SlO 1 u32c 0 h_ A (lim a)) ((hs.f.2.2.1))
 refine CG.loop (fun μ_ Γ w_=>∃ (x:Nat) (A1:Option Addr) (c1:Nat) (y:Nat) (A2:Option Addr) (c2:Nat) (h_:Hp),μ_=y∧Γ=[(4,.slice none 0 0),(0,.slice A1 ((lim x).length) c1),(1,.slice A2 ((lim y).length) c2)]∧SS w h w_ h_ [] [] [fun h_=>SlO 1 u32c 0 h_ A1 (lim x),fun h_=>SlO 1 u32c 0 h_ A2 (lim y),fun h_=>SlO 1 u32c 0 h_ D (lim b),fun h_=>SlO 1 u32c 0 h_ A (lim a)]∧((lim x).length≤c1)∧((lim y).length≤c2)∧((lim x).length≤3000000000)∧((lim y).length≤1)∧(Nat.gcd x y=Nat.gcd a b)) _ ⟨a,A,c,b,D,d,h,rfl,rfl,hs.to _ _,hc,hd,hLa,hLb,rfl⟩ ?_
 rintro _ _ w1 ⟨x,A1,c1,y,A2,c2,h2,hm3,rfl,hs,hc1,hc2,hl1,hl2,hG⟩
 refine CG.seq (cSL (lL hs [.m 7 1,.v 8 (.int .i64 ((lim y).length:Nat))] ?_))
 cases hb4:(decide ((0:Int)<(((lim y).length:Nat):Int)))
 ·
  have phb4:=oF hb4
  refine lB 9 hb4 ?_
  refine lN (cIF (CG.exit ?_))
  show CG _ _ _ _ _ _ _ _
  refine cSL (lL hs [.m 18 0,.m 4 18] (lN (CG.ret ?_)))
  have hy0:y=0:=Nat.eq_zero_of_not_pos (fun h_=>by have:=lim_pos.2 h_;omega)
  exact hs.ret [] (.slice A1 ((lim x).length) c1) (by rw[←hG,hy0,Nat.gcd_zero_right];exact ⟨A1,c1,rfl,hc1,(hs.f.1)⟩)
 have phb4:=oT hb4
 refine lB 9 hb4 ?_
 refine lN (cIT (CG.skipN (CG.block (cSL (lL hs [.m 11 0,.m 12 1] (lC 13 hs (rNatDivS x A1 c1 hc1 y A2 c2 hc2 oM oM (lim_pos.1 oM) _ _ hs.g (hs.f.1) (hs.f.2.1)) ?_))))))
 rintro _ w5 h6 hs ⟨_,_,rfl,⟨Aq,cq,rfl,hcq,hq⟩,⟨Ar,cr,rfl,hcr,hr⟩⟩
 replace hs:=(hs.a_SlO hr)
 have hmd:=Nat.mod_lt x (lim_pos.1 (show 0<(lim y).length by omega))
 have hml:=lim_len_mono (show x%y≤y by omega)
 refine lL hs [.m 10 13,.v 14 (.slice Aq (lim (x/y)).length cq),.v 15 (.slice Ar ((lim (x%y)).length) cr),.m 5 14,.m 6 15] (lNS (lL hs [.m 16 1,.m 0 16] (lN (CG.listed (lL hs [.m 17 6,.m 1 17] (lD ?_))))))
 intro a_ ka
 have q7:SlO 1 u32c 0 h6 A2 (lim y):=(hs.f.2.2.1)
 have q8:SlO 1 u32c 0 h6 Ar (lim (x%y)):=(hs.f.1)
 have q9:(lim y).length≤c2:=hc2
 have q10:(lim (x%y)).length≤cr:=hcr
 have q11:(lim y).length≤3000000000:=oM
 have q12:(lim (x%y)).length≤1:=oM
 have q13:Nat.gcd y (x%y)=Nat.gcd a b:=(by rw[gcd_mod_swapL];exact hG)
 replace hs:=((hs.tl.tl.tl.add (K:=fun h_=>SlO 1 u32c 0 h_ Ar (lim (x%y))) q8).add (K:=fun h_=>SlO 1 u32c 0 h_ A2 (lim y)) q7)
 refine ⟨_,_,?_,⟨y,A2,c2,x%y,Ar,cr,h6,rfl,rfl,hs.to _ _,q9,q10,q11,q12,q13⟩,ka.to [(4,.slice none 0 0),(0,.slice A2 ((lim y).length) c2),(1,.slice Ar ((lim (x%y)).length) cr)] kR⟩
 omega
theorem rNatGcdES (a:Nat)(A:Option Addr)(c:Nat)(hc:(lim a).length≤c)(b:Nat)(D:Option Addr)(d:Nat)(hd:(lim b).length≤d)(q:Nat)(hq:q=Nat.gcd a b)(hLa:(lim a).length≤3000000000)(hLb:(lim b).length≤1)(w:World)(h:Hp)(g:G w h)(hA:SlO 1 u32c 0 h A (lim a))(hD:SlO 1 u32c 0 h D (lim b)) :
    Calls Tryz.prog 61 #[.slice A (lim a).length c,.slice D (lim b).length d] w (Ret w h fun v h1=>RN h1 v q):=by
  subst hq;exact rNatGcdS a A c hc b D d hd hLa hLb w h g hA hD
theorem lim_small1 {z:Int}(h0 : -4294967296<z)(h1:z<4294967296):(lim (iabs z)).length≤1:=lim_len_le (by unfold iabs;omega)
theorem rMakeS (x:Int)(A:Option Addr)(c:Nat)(hc:(lim (iabs x)).length≤c)(hLx:(lim (iabs x)).length≤2000000000)(y:Int)(D:Option Addr)(d:Nat)(hd:(lim (iabs y)).length≤d)(hLy:(lim (iabs y)).length≤1)(hd0:y≠0)(w:World)(h:Hp)(g:G w h)(hA:SlO 1 u32c 0 h A (lim (iabs x)))(hD:SlO 1 u32c 0 h D (lim (iabs y))) :
    Calls Tryz.prog 30 #[.agg #[.bool (ineg x),.slice A ((lim (iabs x)).length) c],.agg #[.bool (ineg y),.slice D ((lim (iabs y)).length) d]] w (Ret w h fun v h1=>RQ h1 v (mkR x y)):=by
 have hs:=SS.start g
 replace hs:=((hs.a_SlO hA).a_SlO hD)
 obtain ⟨hm1,hm2,hq0⟩:=mkR_parts x y hd0
 obtain ⟨q,hq⟩:∃ q,q=Nat.gcd (iabs x) (iabs y):=⟨_,rfl⟩
 rw[←hq] at hm1 hm2 hq0
 have hql:(lim q).length≤1:=lim_len_le' (by rw[hq];exact Nat.gcd_le_right _ (by unfold iabs;omega)) hLy
 refine go Tryz.func30 [(0,.agg #[.bool (ineg x),.slice A ((lim (iabs x)).length) c]),(1,.agg #[.bool (ineg y),.slice D ((lim (iabs y)).length) d])] rfl ?_
 refine cSL (lA 2 26 ([.bool (ineg x),.slice A ((lim (iabs x)).length) c]) hs (fun b1 w2 h3 hs=>?_))
 refine lA 3 26 ([.bool (ineg y),.slice D ((lim (iabs y)).length) d]) hs (fun b4 w5 h6 hs=>?_)
 refine lA 4 28 ([.bool false,.slice none 0 0,.slice none 0 0]) hs (fun b7 w8 h9 hs=>?_)
 refine lNS (lL hs [.v 10 (.pointer (some ⟨b1,1,none⟩)),.o 11 (.slice A ((lim (iabs x)).length) c) 2 1 1,.v 12 (.pointer (some ⟨b4,1,none⟩)),.o 13 (.slice D ((lim (iabs y)).length) d) 1 1 1] (lC 14 hs (rNatGcdES (iabs x) A c hc (iabs y) D d hd q hq oM oM _ _ hs.g (hs.f.2.1) (hs.f.1)) ?_))
 rintro _ w14 h15 hs ⟨A10,c11,rfl,hc12,hA13⟩
 replace hs:=(hs.a_SlO hA13)
 refine lL hs [.m 5 14] (lNS (lL hs [.v 16 (.pointer (some ⟨b1,1,none⟩)),.o 17 (.slice A ((lim (iabs x)).length) c) 2 1 1,.m 18 5] (lC 19 hs (rNatDivS (iabs x) A c hc q A10 c11 hc12 oM oM hq0 _ _ hs.g (hs.f.2.2.1) (hs.f.1)) ?_)))
 rintro _ w20 h21 hs ⟨_,v2_A16,rfl,⟨A16,c17,rfl,hc18,hA19⟩,-⟩
 replace hs:=(hs.a_SlO hA19)
 refine lL hs [.m 15 19,.v 20 (.slice A16 ((lim ((iabs x)/q)).length) c17),.v 21 v2_A16,.m 6 20,.m 7 21] (lNS (lL hs [.v 23 (.pointer (some ⟨b4,1,none⟩)),.o 24 (.slice D ((lim (iabs y)).length) d) 1 1 1,.m 25 5] (lC 26 hs (rNatDivS (iabs y) D d hd q A10 c11 hc12 oM oM hq0 _ _ hs.g (hs.f.2.2.1) (hs.f.2.1)) ?_)))
 rintro _ w26 h27 hs ⟨_,v2_A22,rfl,⟨A22,c23,rfl,hc24,hA25⟩,-⟩
 replace hs:=(hs.a_SlO hA25)
 refine lL hs [.m 22 26,.v 27 (.slice A22 ((lim ((iabs y)/q)).length) c23),.v 28 v2_A22,.m 8 27,.m 9 28] (lNS (lL hs [.v 29 (.pointer (some ⟨b1,0,none⟩)),.o 30 (.bool (ineg x)) 2 0 1,.v 31 (.pointer (some ⟨b4,0,none⟩)),.o 32 (.bool (ineg y)) 1 0 1,.v 33 (.bool ((ineg x) != (ineg y))),.m 34 6] (lC 35 hs (rI ((ineg x) != (ineg y)) ((iabs x)/q) A16 c17 hc18 _ _ hs.g (hs.f.2.1)) ?_)))
 rintro _ w32 h33 hs ⟨A28,c29,rfl,hc30,hA31⟩
 replace hs:=(hs.a_SlO hA31)
 refine lL hs [.m 36 8,.v 37 (.agg #[.bool (ineg (sgn ((ineg x) != (ineg y)) ((iabs x)/q))),.slice A28 ((lim (iabs (sgn ((ineg x) != (ineg y)) ((iabs x)/q)))).length) c29,.slice A22 ((lim ((iabs y)/q)).length) c23])] (lP 0 0 ([.bool (ineg (sgn ((ineg x) != (ineg y)) ((iabs x)/q))),.slice A28 ((lim (iabs (sgn ((ineg x) != (ineg y)) ((iabs x)/q)))).length) c29,.slice A22 ((lim ((iabs y)/q)).length) c23]) hs (fun w34 hs=>?_))
 exact lN (CG.ret (hs.ret [(0,0,3)] (.agg #[.bool (ineg (sgn ((ineg x) != (ineg y)) ((iabs x)/q))),.slice A28 ((lim (iabs (sgn ((ineg x) != (ineg y)) ((iabs x)/q)))).length) c29,.slice A22 ((lim ((iabs y)/q)).length) c23]) (by unfold RQ;rw[hm1,hm2];exact ⟨_,_,_,_,rfl,hc30,hc24,(hs.f.1),(hs.f.2.1)⟩)))
theorem rOverS (x y:Int)(hy0:y≠0)(h0 : -9223372036854775808≤x)(h1:x<9223372036854775808)(h2 : -4294967296<y)(h3:y<4294967296)(w:World)(h:Hp)(g:G w h) :
    Calls Tryz.prog 13 #[.int .i64 x,.int .i64 y] w (Ret w h fun v h1=>RQ h1 v (mkR x y)):=by
 have hs:=SS.start g
 have hx_:=lim_small h0 h1
 have hy_:=lim_small1 h2 h3
 refine go Tryz.func13 [(0,.int .i64 x),(1,.int .i64 y)] rfl ?_
 refine cSL (lA 4 28 ([.bool false,.slice none 0 0,.slice none 0 0]) hs (fun b1 w2 h3 hs=>?_))
 refine lNS (lL hs [.m 5 0] (lC 6 hs (rIntOf x oM oM _ _ hs.g) ?_))
 rintro _ w8 h9 hs ⟨A4,c5,rfl,hc6,hA7⟩
 replace hs:=(hs.a_SlO hA7)
 refine lL hs [.m 7 1] (lC 8 hs (rIntOf y oM oM _ _ hs.g) ?_)
 rintro _ w14 h15 hs ⟨A10,c11,rfl,hc12,hA13⟩
 replace hs:=(hs.a_SlO hA13)
 refine lC 9 hs (rMakeS x A4 c5 hc6 oM y A10 c11 hc12 oM hy0 _ _ hs.g (hs.f.2.1) (hs.f.1)) ?_
 rintro _ w24 h25 hs ⟨A16,c17,A20,c21,rfl,hc18,hc22,hA19,hA23⟩
 replace hs:=((hs.a_SlO hA19).a_SlO hA23)
 refine lP 0 0 ([.bool (ineg (mkR x y).num),.slice A16 ((lim (iabs (mkR x y).num)).length) c17,.slice A20 ((lim (mkR x y).den).length) c21]) hs (fun w26 hs=>?_)
 exact lN (CG.ret (hs.ret [(0,0,3)] (.agg #[.bool (ineg (mkR x y).num),.slice A16 ((lim (iabs (mkR x y).num)).length) c17,.slice A20 ((lim (mkR x y).den).length) c21]) (by skip;exact ⟨_,_,_,_,rfl,hc18,hc22,(hs.f.2.1),(hs.f.1)⟩)))
theorem hNat (a:Nat)(A:Option Addr)(c:Nat)(hc:(lim a).length≤c)(hl:(lim a).length≤300000000)(w:World)(h:Hp)(g:G w h)(hA:SlO 1 u32c 0 h A (lim a)) :
    Calls Tryz.prog 51 #[.slice A ((lim a).length) c] w (Ret w h fun v _=>v=nv a):=by
 have hs:=SS.start g
 replace hs:=(hs.a_SlO hA)
 have hnb:=nb_len a
 refine go Tryz.func51 [(0,.slice A ((lim a).length) c)] rfl ?_
 refine cSL (lA 2 36 ([.int .u64 0,.string ⟨#[]⟩]) hs (fun b1 w2 h3 hs=>?_))
 refine lNS (lL hs [.m 3 0] (lC 4 hs (rNatBytes a A c hc oM _ _ hs.g (hs.f.1)) ?_))
 rintro _ w6 h7 hs ⟨A4,rfl,hA5⟩
 replace hs:=(hs.a_SlO hA5)
 refine lC 5 hs (nFromB a ((nb a+7)/8) A4 ((nb a+7)/8) (Nat.le_refl _) oM (lt256 a) _ _ hs.g (hs.f.1)) ?_
 rintro _ w8 h9 hs rfl
 refine lP 0 0 (nc a) hs (fun w10 hs=>?_)
 exact lN (CG.ret (hs.ret [(0,0,2)] (nv a) rfl))
theorem hInt (z:Int)(A:Option Addr)(c:Nat)(hc:(lim (iabs z)).length≤c)(hl:(lim (iabs z)).length≤300000000)(w:World)(h:Hp)(g:G w h)(hA:SlO 1 u32c 0 h A (lim (iabs z))) :
    Calls Tryz.prog 49 #[.agg #[.bool (ineg z),.slice A ((lim (iabs z)).length) c]] w (Ret w h fun v _=>v=iv z):=by
 have hs:=SS.start g
 replace hs:=(hs.a_SlO hA)
 have hwl:=wds_lim (iabs z)
 refine go Tryz.func49 [(0,.agg #[.bool (ineg z),.slice A ((lim (iabs z)).length) c])] rfl ?_
 refine cSL (lA 1 26 ([.bool (ineg z),.slice A ((lim (iabs z)).length) c]) hs (fun b1 w2 h3 hs=>?_))
 refine lA 2 38 ([.bool false,.int .u64 0,.string ⟨#[]⟩]) hs (fun b4 w5 h6 hs=>?_)
 refine lN (CG.seq (cR 6 [] mixed hs al_nil ?_))
 refine eV 0 3 (.pointer (some ⟨b1,0,none⟩)) ?_
 refine eO 1 4 [(1,0,1)] (.bool (ineg z)) hs ?_
 refine eV 2 5 (.pointer (some ⟨b1,1,none⟩)) ?_
 refine eO 3 6 [(1,1,1)] (.slice A ((lim (iabs z)).length) c) hs ?_
 refine eC 4 7 hs (fun _ _ hs=>hNat (iabs z) A c hc (by first|exact hl|exact LQ.ld hq|omega) _ _ hs.g (hs.f.1)) ?_
 rintro _ _ _ w7 h8 hs rfl
 refine eC 5 8 hs (fun _ _ hs=>wFrom (ineg z) (iabs z) oM _ _ hs.g) ?_
 rintro _ _ _ w9 h10 hs rfl
 refine eD0 hs (fun w11 h12 hs=>?_)
 refine tP 6 0 0 (ic (sgn (ineg z) (iabs z))) hs (fun w13 hs=>?_)
 exact tN (CG.ret (hs.ret [(0,0,3)] (iv (sgn (ineg z) (iabs z))) (congrArg iv (sgn_self z))))
theorem mkR_self (q:Rat):mkR q.num ((q.den:Nat):Int)=q:=by
  unfold mkR;rw[if_neg oM];show mkRat q.num q.den=q;rw[Rat.mkRat_self]
theorem hIn (q:Rat)(A1:Option Addr)(c1:Nat)(D1:Option Addr)(d1:Nat)(hc1:(lim (iabs q.num)).length≤c1)(hd1:(lim q.den).length≤d1)(hq:LQ 100000000 q)(w:World)(h:Hp)(g:G w h)(hA1:SlO 1 u32c 0 h A1 (lim (iabs q.num)))(hD1:SlO 1 u32c 0 h D1 (lim q.den))(tb:Tab h) :
    Calls Tryz.prog 21 #[.agg #[.bool (ineg q.num),.slice A1 ((lim (iabs q.num)).length) c1,.slice D1 ((lim q.den).length) d1]] w (Ret w h fun v _=>v=qv q):=by
 have hs:=SS.start g
 replace hs:=(((hs.a_SlO hA1).a_SlO hD1).add (K:=fun h_=>Tab h_) tb)
 refine go Tryz.func21 [(0,.agg #[.bool (ineg q.num),.slice A1 ((lim (iabs q.num)).length) c1,.slice D1 ((lim q.den).length) d1])] rfl ?_
 refine cSL (lA 1 28 ([.bool (ineg q.num),.slice A1 ((lim (iabs q.num)).length) c1,.slice D1 ((lim q.den).length) d1]) hs (fun b1 w2 h3 hs=>?_))
 refine lA 2 40 ([.bool false,.int .u64 0,.string ⟨#[]⟩,.int .u64 0,.string ⟨#[]⟩]) hs (fun b4 w5 h6 hs=>?_)
 refine lN (CG.seq ?_)
 have hsr:=hs
 refine cR 12 [⟨11,3,.cells (List.toArray [.bool false,.int .u64 0,.string ⟨#[]⟩,.int .u64 0,.string ⟨#[]⟩]) 40 (0,0)⟩] mixed hs (al_cons (alOk kR (fun _ _=>by kernel_rfl)) al_nil) ?_
 refine eV 0 6 (.pointer (some ⟨b1,0,none⟩)) ?_
 refine eO 1 7 [(1,0,2)] (.agg #[.bool (ineg q.num),.slice A1 ((lim (iabs q.num)).length) c1]) hs ?_
 refine eV 3 9 (.pointer (some ⟨b1,2,none⟩)) ?_
 refine eO 4 10 [(1,2,1)] (.slice D1 ((lim q.den).length) d1) hs ?_
 refine eC 2 8 hs (fun _ _ hs=>hInt q.num A1 c1 hc1 (LQ.ln hq) _ _ hs.g (hs.f.2.2.1)) ?_
 rintro _ _ _ w7 h8 hs rfl
 refine eC 5 11 hs (fun _ _ hs=>hNat q.den D1 d1 hd1 (by first|exact hl|exact LQ.ld hq|omega) _ _ hs.g (hs.f.2.1)) ?_
 rintro _ _ _ w9 h10 hs rfl
 refine eC 6 12 hs (fun _ _ hs=>wFromN q.den _ _ hs.g) ?_
 rintro _ _ _ w11 h12 hs rfl
 refine eC 7 13 hs (fun _ _ hs=>fMake q.num ((q.den:Nat):Int) (by have:=q.den_pos;omega) (by have:=hq.1;omega) (by show (wds q.den).length≤_;have:=hq.2;omega) _ _ hs.g (hs.f.1)) ?_
 rintro _ _ _ w13 h14 hs rfl
 refine eV 8 5 (.tuple #[qv (mkR q.num ((q.den:Nat):Int)),.bool true]) ?_
 refine eV 9 14 (qv (mkR q.num ((q.den:Nat):Int))) ?_
 refine eV 10 15 (.bool true) ?_
 refine eD1p [] hsr hs 40 [.bool false,.int .u64 0,.string ⟨#[]⟩,.int .u64 0,.string ⟨#[]⟩] (fun w15 h16 b17 hs=>?_)
 refine tP 12 0 0 (qc (mkR q.num ((q.den:Nat):Int))) hs (fun w18 hs=>?_)
 refine tV 13 4 (.bool true) ?_
 refine tNS ?_
 refine lL hs [.o 16 (qv (mkR q.num ((q.den:Nat):Int))) 0 0 5] (lP 1 0 (qc (mkR q.num ((q.den:Nat):Int))) hs (fun w19 hs=>?_))
 exact lN (CG.ret (hs.ret [(1,0,5)] (qv (mkR q.num ((q.den:Nat):Int))) (congrArg qv (mkR_self q))))
theorem hOutNat (n:Nat)(hl:(wds n).length≤100000000)(w:World)(h:Hp)(g:G w h) :
    Calls Tryz.prog 97 #[nv n] w (Ret w h fun v h1=>RN h1 v n):=by
 have hs:=SS.start g
 have hnb:=nb_len64 n
 refine go Tryz.func97 [(0,nv n)] rfl ?_
 refine cSL (lA 1 36 (nc n) hs (fun b1 w2 h3 hs=>?_))
 refine lL hs [.v 2 (.slice none 0 0)] (lNS (lL hs [.o 3 (nv n) 0 0 2] (lC 4 hs (nBytes n oM _ _ hs.g) ?_)))
 rintro _ w6 h7 hs ⟨A4,rfl,hA5⟩
 replace hs:=(hs.a_SlO hA5)
 refine lC 5 hs (rNatFrom n ((nb n+7)/8) A4 ((nb n+7)/8) (Nat.le_refl _) oM (lt256 n) _ _ hs.g (hs.f.1)) ?_
 rintro _ w12 h13 hs ⟨A8,c9,rfl,hc10,hA11⟩
 replace hs:=(hs.a_SlO hA11)
 exact lL hs [.m 2 5] (lN (CG.ret (hs.ret [] (.slice A8 ((lim n).length) c9) (⟨_,_,rfl,hc10,(hs.f.1)⟩))))
theorem sgn_sgn (z:Int):sgn (decide (z.sign<(0:Int))) (iabs z)=z:=by
  rcases Int.lt_trichotomy z 0 with h|h|h
  · rw[Int.sign_eq_neg_one_of_neg h];unfold sgn iabs;simp;omega
  · subst h;rfl
  · rw[Int.sign_eq_one_of_pos h];unfold sgn iabs;simp;omega
theorem hOutInt (z:Int)(hl:(wds (iabs z)).length≤100000000)(w:World)(h:Hp)(g:G w h) :
    Calls Tryz.prog 95 #[iv z] w (Ret w h fun v h1=>RI h1 v z):=by
 have hs:=SS.start g
 refine go Tryz.func95 [(0,iv z)] rfl ?_
 refine cSL (lA 1 38 (ic z) hs (fun b1 w2 h3 hs=>?_))
 refine lA 2 26 ([.bool false,.slice none 0 0]) hs (fun b4 w5 h6 hs=>?_)
 refine lN (CG.seq (cR 7 [] mixed hs al_nil ?_))
 refine eO 0 3 [(1,0,3)] (iv z) hs ?_
 refine eO 3 6 [(1,0,3)] (iv z) hs ?_
 refine eC 1 4 hs (fun _ _ hs=>wSign z oM _ _ hs.g) ?_
 rintro _ _ _ w7 h8 hs rfl
 refine eV 2 5 (.bool (decide ((z.sign:Int)<(0:Int)))) ?_
 refine eC 4 7 hs (fun _ _ hs=>wAbs z _ _ hs.g) ?_
 rintro _ _ _ w9 h10 hs rfl
 refine eC 5 8 hs (fun _ _ hs=>hOutNat (iabs z) (by first|exact hq.2|omega) _ _ hs.g) ?_
 rintro _ _ _ w15 h16 hs ⟨A11,c12,rfl,hc13,hA14⟩
 replace hs:=(hs.a_SlO hA14)
 refine eC 6 9 hs (fun _ _ hs=>rI (decide ((z.sign:Int)<(0:Int))) (iabs z) A11 c12 hc13 _ _ hs.g (hs.f.1)) ?_
 rintro _ _ _ w21 h22 hs ⟨A17,c18,rfl,hc19,hA20⟩
 replace hs:=(hs.a_SlO hA20)
 refine eD0 hs (fun w23 h24 hs=>?_)
 refine tP 7 0 0 ([.bool (ineg (sgn (decide ((z.sign:Int)<(0:Int))) (iabs z))),.slice A17 ((lim (iabs (sgn (decide ((z.sign:Int)<(0:Int))) (iabs z)))).length) c18]) hs (fun w25 hs=>?_)
 exact tN (CG.ret (hs.ret [(0,0,2)] (.agg #[.bool (ineg (sgn (decide ((z.sign:Int)<(0:Int))) (iabs z))),.slice A17 ((lim (iabs (sgn (decide ((z.sign:Int)<(0:Int))) (iabs z)))).length) c18]) (by rw[sgn_sgn] at *;exact ⟨_,_,rfl,hc19,(hs.f.1)⟩)))
theorem hOut (q:Rat)(hq:LQ 100000000 q)(w:World)(h:Hp)(g:G w h) :
    Calls Tryz.prog 70 #[qv q] w (Ret w h fun v h1=>RQ h1 v q):=by
 have hs:=SS.start g
 refine go Tryz.func70 [(0,qv q)] rfl ?_
 refine cSL (lA 1 40 (qc q) hs (fun b1 w2 h3 hs=>?_))
 refine lA 2 28 ([.bool false,.slice none 0 0,.slice none 0 0]) hs (fun b4 w5 h6 hs=>?_)
 refine lN (CG.seq (cR 7 [] mixed hs al_nil ?_))
 refine eO 0 3 [(1,0,5)] (qv q) hs ?_
 refine eO 3 6 [(1,0,5)] (qv q) hs ?_
 refine eC 1 4 hs (fun _ _ hs=>fNum q _ _ hs.g) ?_
 rintro _ _ _ w7 h8 hs rfl
 refine eC 2 5 hs (fun _ _ hs=>hOutInt q.num hq.1 _ _ hs.g) ?_
 rintro _ _ _ w13 h14 hs ⟨A9,c10,rfl,hc11,hA12⟩
 replace hs:=(hs.a_SlO hA12)
 refine eC 4 7 hs (fun _ _ hs=>fDen q hq _ _ hs.g) ?_
 rintro _ _ _ w15 h16 hs rfl
 refine eC 5 8 hs (fun _ _ hs=>hOutNat q.den (by first|exact hq.2|omega) _ _ hs.g) ?_
 rintro _ _ _ w21 h22 hs ⟨A17,c18,rfl,hc19,hA20⟩
 replace hs:=(hs.a_SlO hA20)
 refine eV 6 9 (.agg #[.bool (ineg q.num),.slice A9 ((lim (iabs q.num)).length) c10,.slice A17 ((lim q.den).length) c18]) ?_
 refine eD0 hs (fun w23 h24 hs=>?_)
 refine tP 7 0 0 ([.bool (ineg q.num),.slice A9 ((lim (iabs q.num)).length) c10,.slice A17 ((lim q.den).length) c18]) hs (fun w25 hs=>?_)
 exact tN (CG.ret (hs.ret [(0,0,3)] (.agg #[.bool (ineg q.num),.slice A9 ((lim (iabs q.num)).length) c10,.slice A17 ((lim q.den).length) c18]) (⟨_,_,_,_,rfl,hc11,hc19,(hs.f.2.1),(hs.f.1)⟩)))
def sameQ (a b:Rat):Bool:=decide (a=b)
theorem sameQ_t {a b:Rat}(h1:cmpN (iabs a.num) (iabs b.num)=0)(h2:ineg a.num=ineg b.num)(h3:cmpN a.den b.den=0):true=sameQ a b:=by
  have e1:iabs a.num=iabs b.num:=by unfold cmpN at h1;split at h1;omega;split at h1;omega;omega
  have e3:a.den=b.den:=by unfold cmpN at h3;split at h3;omega;split at h3;omega;omega
  have e2:a.num=b.num:=by rw[←sgn_self a.num,←sgn_self b.num,e1,h2]
  symm
  exact decide_eq_true (Rat.ext e2 e3)
theorem cmpN_self (a:Nat):cmpN a a=0:=by simp[cmpN]
theorem sameQ_f {a b:Rat}(h:cmpN (iabs a.num) (iabs b.num)≠0∨ineg a.num≠ineg b.num∨cmpN a.den b.den≠0):false=sameQ a b:=by
  symm
  refine decide_eq_false ?_
  rintro rfl
  rcases h with h|h|h
  · exact h (cmpN_self _)
  · exact h rfl
  · exact h (cmpN_self _)
theorem hSame (q r:Rat)(hq:LQ 100000000 q)(hr:LQ 100000000 r)(A1:Option Addr)(c1:Nat)(D1:Option Addr)(d1:Nat)(hc1:(lim (iabs r.num)).length≤c1)(hd1:(lim r.den).length≤d1)(w:World)(h:Hp)(g:G w h)(hA1:SlO 1 u32c 0 h A1 (lim (iabs r.num)))(hD1:SlO 1 u32c 0 h D1 (lim r.den)) :
    Calls Tryz.prog 41 #[qv q,.agg #[.bool (ineg r.num),.slice A1 ((lim (iabs r.num)).length) c1,.slice D1 ((lim r.den).length) d1]] w (Ret w h fun v _=>v=.bool (sameQ q r)):=by
 have hs:=SS.start g
 replace hs:=((hs.a_SlO hA1).a_SlO hD1)
 have hpd:0<(lim r.den).length:=lim_pos.2 r.den_pos
 have hq1:=LQ.ln hq
 have hq2:=LQ.ld hq
 have hr1:=LQ.ln hr
 have hr2:=LQ.ld hr
 refine go Tryz.func41 [(0,qv q),(1,.agg #[.bool (ineg r.num),.slice A1 ((lim (iabs r.num)).length) c1,.slice D1 ((lim r.den).length) d1])] rfl ?_
 refine cSL (lA 2 40 (qc q) hs (fun b1 w2 h3 hs=>?_))
 refine lA 3 28 ([.bool (ineg r.num),.slice A1 ((lim (iabs r.num)).length) c1,.slice D1 ((lim r.den).length) d1]) hs (fun b4 w5 h6 hs=>?_)
 refine lL hs [.v 4 (.bool false)] (lNS (lL hs [.o 6 (qv q) 1 0 5] (lC 7 hs (hOut q hq _ _ hs.g) ?_)))
 rintro _ w15 h16 hs ⟨A7,c8,A11,c12,rfl,hc9,hc13,hA10,hA14⟩
 replace hs:=((hs.a_SlO hA10).a_SlO hA14)
 refine lA 5 28 ([.bool false,.slice none 0 0,.slice none 0 0]) hs (fun b17 w18 h19 hs=>?_)
 refine lP 0 0 ([.bool (ineg q.num),.slice A7 ((lim (iabs q.num)).length) c8,.slice A11 ((lim q.den).length) c12]) hs (fun w20 hs=>?_)
 refine lN (CG.seq (cSL (lL hs [.v 8 (.pointer (some ⟨b4,2,none⟩)),.o 9 (.slice D1 ((lim r.den).length) d1) 1 2 1,.v 10 (.int .i64 ((lim r.den).length:Nat))] ?_)))
 have hb21:((((lim r.den).length:Nat):Int) == (0:Int))=false:=(by simp;exact fun h=>Nat.lt_irrefl 0 (by rw[h] at hpd;exact hpd))
 have phb21:=neOfBeq hb21
 refine lB 11 hb21 ?_
 refine lN (cIF (CG.skipN (cSL (lL hs [.v 13 (.pointer (some ⟨b17,0,none⟩)),.v 14 (.pointer (some ⟨b17,1,none⟩)),.o 15 (.slice A7 ((lim (iabs q.num)).length) c8) 0 1 1,.v 16 (.pointer (some ⟨b4,0,none⟩)),.v 17 (.pointer (some ⟨b4,1,none⟩)),.o 18 (.slice A1 ((lim (iabs r.num)).length) c1) 1 1 1] (lC 19 hs (rNatCmp (iabs q.num) A7 c8 hc9 (iabs r.num) A1 c1 hc1 oM oM _ _ hs.g (hs.f.2.1) (hs.f.2.2.2.1)) ?_)))))
 rintro _ w22 h23 hs rfl
 cases hb24:((cmpN (iabs q.num) (iabs r.num):Int) == (0:Int))
 ·
  have phb24:=neOfBeq hb24
  refine lB 20 hb24 ?_
  refine lL hs [.m 21 20] (lG 22 ?_)
  refine lG 23 ?_
  refine lG 24 ?_
  refine lG 25 ?_
  refine lG 26 ?_
  refine lG 27 ?_
  refine lG 28 ?_
  refine lL hs [.v 29 (.bool false),.m 30 29] (lG 31 ?_)
  refine lG 32 ?_
  refine lG 33 ?_
  refine lG 34 ?_
  refine lG 35 ?_
  refine lG 36 ?_
  exact lL hs [.v 37 (.bool false),.m 4 37] (lN (CG.ret (hs.ret [] (.bool false) (congrArg Value.bool (sameQ_f (by first|(left;assumption)|(right;right;assumption)|(right;left;exact beq_eq_false_iff_ne.1 ‹_›)))))))
 have phb24:=eq_of_beq hb24
 refine lB 20 hb24 ?_
 refine lL hs [.m 21 20,.v 22 (.pointer (some ⟨b17,0,none⟩)),.v 23 (.pointer (some ⟨b17,0,none⟩)),.o 24 (.bool (ineg q.num)) 0 0 1,.v 25 (.pointer (some ⟨b4,0,none⟩)),.v 26 (.pointer (some ⟨b4,0,none⟩)),.o 27 (.bool (ineg r.num)) 1 0 1] ?_
 cases hb25:((ineg q.num) == (ineg r.num))
 ·
  refine lB 28 hb25 ?_
  refine lL hs [.v 29 (.bool false),.m 30 29] (lG 31 ?_)
  refine lG 32 ?_
  refine lG 33 ?_
  refine lG 34 ?_
  refine lG 35 ?_
  refine lG 36 ?_
  exact lL hs [.v 37 (.bool false),.m 4 37] (lN (CG.ret (hs.ret [] (.bool false) (congrArg Value.bool (sameQ_f (by first|(left;assumption)|(right;right;assumption)|(right;left;exact beq_eq_false_iff_ne.1 ‹_›)))))))
 refine lB 28 hb25 ?_
 refine lL hs [.v 29 (.bool true),.m 30 29,.v 31 (.pointer (some ⟨b17,2,none⟩)),.o 32 (.slice A11 ((lim q.den).length) c12) 0 2 1,.v 33 (.pointer (some ⟨b4,2,none⟩)),.o 34 (.slice D1 ((lim r.den).length) d1) 1 2 1] (lC 35 hs (rNatCmp q.den A11 c12 hc13 r.den D1 d1 hd1 oM oM _ _ hs.g (hs.f.1) (hs.f.2.2.1)) ?_)
 rintro _ w26 h27 hs rfl
 cases hb28:((cmpN q.den r.den:Int) == (0:Int))
 ·
  have phb28:=neOfBeq hb28
  refine lB 36 hb28 ?_
  exact lL hs [.v 37 (.bool false),.m 4 37] (lN (CG.ret (hs.ret [] (.bool false) (congrArg Value.bool (sameQ_f (by first|(left;assumption)|(right;right;assumption)|(right;left;exact beq_eq_false_iff_ne.1 ‹_›)))))))
 have phb28:=eq_of_beq hb28
 refine lB 36 hb28 ?_
 exact lL hs [.v 37 (.bool true),.m 4 37] (lN (CG.ret (hs.ret [] (.bool true) (congrArg Value.bool (sameQ_t aM (eq_of_beq ‹_›) aM)))))
theorem LQ.mkR {n d:Int}(hd:d≠0)(h0 : -9223372036854775808≤n)(h1:n≤9223372036854775807)(h2 : -9223372036854775808≤d)(h3:d≤9223372036854775807):LQ 1 (mkR n d):=by
  unfold Go.Proofs.YtmniajdkjpcfjaaGreatDoor.mkR
  have hp:0<iabs d:=by unfold iabs;omega
  obtain ⟨p1,p2,p3,p4⟩:=mkRat_parts (if d<0 then -n else n) (iabs d) hp
  refine ⟨?_,?_⟩
  · rw[p1];refine wds_len_lit.2 (Nat.lt_of_le_of_lt (iabs_div_le _ _ p3) ?_)
    unfold iabs;split<;>omega
  · rw[p2];exact wds_len_lit.2 (Nat.lt_of_le_of_lt (Nat.div_le_self _ _) (by unfold iabs;omega))
theorem hIs (q:Rat)(z e:Int)(hq:LQ 100000000 q)(he:e≠0)(hz0 : -9223372036854775808≤z)(hz1:z<9223372036854775808)(he0 : -4294967296<e)(he1:e<4294967296)(w:World)(h:Hp)(g:G w h) :
    Calls Tryz.prog 17 #[qv q,.int .i64 z,.int .i64 e] w (Ret w h fun v _=>v=.bool (sameQ q (mkR z e))):=by
 have hs:=SS.start g
 have hb:LQ 100000000 (mkR z e):=(LQ.mkR he hz0 oM oM oM).mono oM
 refine go Tryz.func17 [(0,qv q),(1,.int .i64 z),(2,.int .i64 e)] rfl ?_
 refine cSL (lA 3 40 (qc q) hs (fun b1 w2 h3 hs=>?_))
 refine lL hs [.v 6 (.bool false)] (lN (CG.seq (cR 5 [] mixed hs al_nil ?_)))
 refine eO 0 7 [(0,0,5)] (qv q) hs ?_
 refine eV 1 8 (.int .i64 z) ?_
 refine eV 2 9 (.int .i64 e) ?_
 refine eC 3 10 hs (fun _ _ hs=>rOverS z e oM oM oM oM oM _ _ hs.g) ?_
 rintro _ _ _ w12 h13 hs ⟨A4,c5,A8,c9,rfl,hc6,hc10,hA7,hA11⟩
 replace hs:=((hs.a_SlO hA7).a_SlO hA11)
 refine eC 4 11 hs (fun _ _ hs=>hSame q (mkR z e) hq hb A4 c5 A8 c9 hc6 hc10 _ _ hs.g (hs.f.2.1) (hs.f.1)) ?_
 rintro _ _ _ w14 h15 hs rfl
 refine eD0 hs (fun w16 h17 hs=>?_)
 refine tV 5 6 (.bool (sameQ q (mkR z e))) ?_
 exact tN (CG.ret (hs.ret [] (.bool (sameQ q (mkR z e))) rfl))
def pick (n:Int)(m:Nat):Nat:=(n%(m:Int)).toNat
theorem pick_lt (n:Int)(m:Nat)(h:0<m):pick n m<m:=by
  unfold pick
  have h1:=Int.emod_nonneg n (show (m:Int)≠0 by omega)
  have h2:=Int.emod_lt_of_pos n (show (0:Int)<m by omega)
  omega
theorem pick_int (n:Int)(m:Nat)(h:0<m):((pick n m:Nat):Int)=n%(m:Int):=by
  unfold pick
  have h1:=Int.emod_nonneg n (show (m:Int)≠0 by omega)
  omega
theorem tmod_neg (n:Int)(m:Nat)(hm:0<m)(hn:n<0):(n%(m:Int)=0∧n.tmod (m:Int)=0)∨(0<n%(m:Int)∧n.tmod (m:Int)=n%(m:Int)-m):=by
  have b1:=Int.emod_nonneg n (show (m:Int)≠0 by omega)
  rw[Int.tmod_eq_emod]
  by_cases h:(m:Int)∣n
  · left
    rw[if_pos (.inr h)]
    have:=Int.emod_eq_zero_of_dvd h
    exact ⟨this,by omega⟩
  · right
    have h2:¬(n%(m:Int)=0):=fun h'=>h (Int.dvd_of_emod_eq_zero h')
    rw[if_neg (by intro h';rcases h' with h'|h';omega;exact h h')]
    refine ⟨by omega,by simp⟩
def smallq (n:Int):Rat:=mkR ((pick n 9:Int)-4) (((pick (n.tdiv 9) 2:Nat):Int)+1)
theorem tdiv_bd (n:Int)(m:Int)(hm:1<m)(hn0 : -9223372036854775808≤n)(hn1:n≤9223372036854775807) : -9223372036854775808≤n.tdiv m∧n.tdiv m≤9223372036854775807:=by
  have h1:(n.tdiv m).natAbs≤n.natAbs/2:=by
    rw[Int.natAbs_tdiv];exact Nat.div_le_div_left oM oM
  omega
theorem pick_neg {n:Int}{m:Nat}(hm:0<m)(h:n.tmod (m:Int)<0):n.tmod (m:Int)+m=((pick n m:Nat):Int):=by
  rw[pick_int n m hm]
  rcases Int.lt_or_le n 0 with hn|hn
  · rcases tmod_neg n m hm hn with ⟨h1,h2⟩|⟨h1,h2⟩<;>omega
  · rw[Int.tmod_eq_emod_of_nonneg hn] at h
    have:=Int.emod_nonneg n (show (m:Int)≠0 by omega)
    omega
theorem pick_nneg {n:Int}{m:Nat}(hm:0<m)(h:¬n.tmod (m:Int)<0):n.tmod (m:Int)=((pick n m:Nat):Int):=by
  rw[pick_int n m hm]
  rcases Int.lt_or_le n 0 with hn|hn
  · rcases tmod_neg n m hm hn with ⟨h1,h2⟩|⟨h1,h2⟩
    · omega
    · have:=Int.emod_lt_of_pos n (show (0:Int)<m by omega)
      omega
  · rw[Int.tmod_eq_emod_of_nonneg hn]
theorem tmod_bd (n:Int){m:Nat}(hm:0<m) : -(m:Int)<n.tmod (m:Int)∧n.tmod (m:Int)<m:=by
  have h1:=Int.tmod_lt_of_pos n (show (0:Int)<m by omega)
  have h2:=Int.lt_tmod_of_pos n (show (0:Int)<m by omega)
  exact ⟨h2,h1⟩
theorem hPick (n:Int)(m:Nat)(hm:0<m)(hm2:m<1000000)(w:World)(h:Hp)(g:G w h) :
    Calls Tryz.prog 5 #[.int .i64 n,.int .i64 (m:Nat)] w (Ret w h fun v _=>v=.int .i64 (pick n m:Nat)):=by
 have hs:=SS.start g
 obtain ⟨b1,b2⟩:=tmod_bd n hm
 refine go Tryz.func5 [(0,.int .i64 n),(1,.int .i64 (m:Nat))] rfl ?_
 refine cSL (lL hs [.v 4 (.int .i64 0)] (lNS (lL hs [.m 5 0,.m 6 1] (lV 7 (.int .i64 (n.tmod (m:Nat))) ?_ (hr:=opRem (t:=3) (u:=3) (x:=.tmp 5) (y:=.tmp 6) (k:=.i64) (a:=n) (b:=(m:Nat)) kR kR kR oM _)))))
 refine lL hs [.m 0 7] (lN (CG.seq (cSL (lL hs [.m 8 0] ?_))))
 cases hb1:(decide ((n.tmod (m:Nat):Int)<(0:Int)))
 ·
  have phb1:=oF hb1
  refine lB 9 hb1 ?_
  exact lN (cIF (CG.skipN (cSL (lL hs [.m 13 0,.m 4 13] (lN (CG.ret (hs.ret [] (.int .i64 (n.tmod (m:Nat))) (congrArg (Value.int .i64) (pick_nneg hm aM)))))))))
 have phb1:=oT hb1
 refine lB 9 hb1 ?_
 refine lN (cIT (CG.listed (lL hs [.m 10 0,.m 11 1] (lI 12 ((n.tmod (m:Nat))+(m:Nat)) ?_))))
 exact lL hs [.m 0 12] (lNS (lL hs [.m 13 0,.m 4 13] (lN (CG.ret (hs.ret [] (.int .i64 ((n.tmod (m:Nat))+(m:Nat))) (congrArg (Value.int .i64) (pick_neg hm aM)))))))
abbrev RT:=Bool × Value × Value
def rqc (t:RT):List Value:=[.bool t.1,t.2.1,t.2.2]
def rqd:RT:=(false,undef,undef)
def rtv (t:RT):Value:=.agg #[.bool t.1,t.2.1,t.2.2]
structure RTs (h:Hp) (ts:List RT) (qs:List Rat):Prop where
  len:ts.length=qs.length
  at_:∀ i,i<qs.length→RQ h (rtv (ts.getD i rqd)) (qs.getD i 0)
theorem getD_snoc {α:Type}(l:List α)(x d:α)(i:Nat):(l++[x]).getD i d=if i<l.length then l.getD i d else if i=l.length then x else d:=by
  split
  · rename_i h;simp[List.getElem?_append_left h]
  · rename_i h
    split
    · rename_i h2;subst h2;simp
    · rename_i h2;simp[List.getElem?_eq_none (show (l++[x]).length≤i by simp;omega)]
end Go.Proofs.YtmniajdkjpcfjaaGreatDoor
