/- Laws and contracts that the card of this claim stands on, part 4. No condition of ours. -/
import Derived.Test.YtinhhhfjchckcaaGreatDoorPx0
import Derived.Test.YtinhhhfjchckcaaGreatDoorPx1
import Derived.Test.YtinhhhfjchckcaaGreatDoorPx2
set_option maxRecDepth 100000
set_option maxHeartbeats 4000000
namespace Go.Proofs.YtinhhhfjchckcaaGreatDoor
open Go.RowKit
open Go.RowKit Go.Shelf
theorem Tz.uniq {n k m k' m':Nat}(a:Tz n k m)(b:Tz n k' m'):k=k'∧m=m':=by
 obtain ⟨a1,a2⟩:=a;obtain ⟨b1,b2⟩:=b
 have key:∀ {k m k' m':Nat},2^k*m=2^k'*m'→m%2=1→k'≤k:=fun {k m k' m'} e hm'=>by
  rcases Nat.lt_or_ge k k' with h|h
  ·exfalso
   obtain ⟨d,rfl⟩:∃ d,k'=k+(d+1):=⟨k'-k-1,by omega⟩;rw[Nat.pow_add,Nat.mul_assoc] at e
   have e2:=Nat.eq_of_mul_eq_mul_left (Nat.two_pow_pos k) e;rw[Nat.pow_succ,Nat.mul_comm (2^d) 2,Nat.mul_assoc] at e2
   omega
  ·exact h
 have h1:=key (a1.symm.trans b1) a2;have h2:=key (b1.symm.trans a1) b2;have h3:k=k':=by omega
 subst h3;exact ⟨rfl,Nat.eq_of_mul_eq_mul_left (Nat.two_pow_pos k) (a1.symm.trans b1)⟩
theorem mn {x y:Nat}(hy:y%2=1):Nat.gcd (2*x) y=Nat.gcd x y:=by
 have hc:Nat.Coprime 2 y:=by
  unfold Nat.Coprime
  rw[Nat.gcd_rec,hy];rfl
 exact hc.gcd_mul_left_cancel x
theorem em {x y:Nat}(hy:y%2=1):∀ k,Nat.gcd (2^k*x) y=Nat.gcd x y
  | 0=>by simp
  | k+1=>by
    rw[Nat.pow_succ,Nat.mul_comm (2^k) 2,Nat.mul_assoc,mn hy];exact em hy k
theorem vi {x y k l m n:Nat}(a:Tz x k m)(b:Tz y l n):Nat.gcd x y=Nat.gcd m n*2^min k l:=by
 obtain ⟨a1,a2⟩:=a;obtain ⟨b1,b2⟩:=b;subst a1 b1
 rcases Nat.le_total k l with h|h
 ·rw[Nat.min_eq_left h]
  obtain ⟨d,rfl⟩:∃ d,l=k+d:=⟨l-k,by omega⟩;rw[Nat.pow_add,Nat.mul_assoc,Nat.gcd_mul_left,Nat.gcd_comm m,em a2,Nat.gcd_comm n,Nat.mul_comm]
 ·rw[Nat.min_eq_right h]
  obtain ⟨d,rfl⟩:∃ d,k=l+d:=⟨k-l,by omega⟩;rw[Nat.pow_add,Nat.mul_assoc,Nat.gcd_mul_left,em b2,Nat.mul_comm]
theorem pQ {x y k m:Nat}(hxy:y<x)(hy:y%2=1)(t:Tz (x-y) k m):Nat.gcd m y=Nat.gcd x y:=by
 rw[←em hy k,←t.1];have e:=Nat.gcd_add_self_left (m:=y) (n:=x-y);rw[show x-y+y=x by omega] at e
 exact e.symm
theorem SlO.win {α:Type}{f:α→List Value}{d:α}{h:Hp}{b:Nat}{l:List α}(hf:∀ x,(f x).length=1)(sg:Seg h b 0 (l.flatMap f))(o n:Nat):SlO 1 f d h (some ⟨b,o,none⟩) ((l.drop o).take n):=by
  have hp:=sg.part o ((l.drop o).take n).length;rw[Nat.zero_add] at hp
  have e:∀ (l:List α) (o n:Nat),((l.flatMap f).drop o).take ((l.drop o).take n).length=((l.drop o).take n).flatMap f:=by
    have e1:∀ (l:List α),(l.flatMap f).length=l.length:=fun l=>by
      induction l with
      | nil=>rfl
      | cons x l ih=>rw[List.flatMap_cons,List.length_append,hf,ih,List.length_cons];omega
    have ed:∀ (l:List α) (o:Nat),(l.flatMap f).drop o=(l.drop o).flatMap f:=fun l=>by
      induction l with
      | nil=>intro o;simp
      | cons x l ih =>
        intro o;cases o with
        | zero=>rfl
        | succ o =>
          rw[List.flatMap_cons,List.drop_append,hf,List.drop_eq_nil_of_le (by rw[hf];omega),List.nil_append,List.drop_succ_cons,Nat.add_sub_cancel];exact ih o
    have et:∀ (l:List α) (n:Nat),(l.flatMap f).take n=(l.take n).flatMap f:=fun l=>by
      induction l with
      | nil=>intro n;simp
      | cons x l ih =>
        intro n;cases n with
        | zero=>rfl
        | succ n =>
          rw[List.flatMap_cons,List.take_append,hf,List.take_of_length_le (by rw[hf];omega),List.take_succ_cons,List.flatMap_cons,Nat.add_sub_cancel,ih n]
    intro l o n;rw[ed,et,List.length_take]
    congr 1
    rcases Nat.le_total n (l.drop o).length with h|h
    · rw[Nat.min_eq_left h]
    · rw[Nat.min_eq_right h,List.take_length,List.take_of_length_le h]
  rw[e] at hp
  exact SlO.of_flat hf hp
def Tab (h:Hp):Prop:=Seg h 4 0 (Lib.deBruijn64tab.map fun k=>Value.int .u8 ((k:Nat):Int))
theorem Tab.gw {h h':Hp}(t:Tab h)(u:Gw h h'):Tab h':=Seg.gw t u
theorem SS.aB {w0 w:World}{h0 h:Hp}{B:List Bx}{R:List Rw}{F:List (Hp→Prop)}(s:SS w0 h0 w h B R F)(p:Tab h):SS w0 h0 w h B R ((fun h=>Tab h)::F):=s.add (K:=fun h=>Tab h) p
theorem Tab.at {h:Hp}(t:Tab h){k i:Nat}(e:i<64∧Lib.deBruijn64tab.getD i 0=k):Seg h 4 i [.int .u8 ((k:Nat):Int)]:=by
 have hp:=Seg.part t i 1;obtain ⟨hi,rfl⟩:=e;rw[Nat.zero_add] at hp
 have hl:i<Lib.deBruijn64tab.length:=by show i<64;exact hi
 have e1:((Lib.deBruijn64tab.map fun k=>Value.int .u8 ((k:Nat):Int)).drop i).take 1=[.int .u8 ((Lib.deBruijn64tab.getD i 0:Nat):Int)]:=by
  rw[List.drop_eq_getElem_cons (by simpa using hl)]
  simp[hl]
 rw[e1] at hp
 exact hp
theorem FN {s:Result Next}{b z:Nat}{w:World}(h:s=.ok (.value (.pointer (some ⟨b,0+z*1,none⟩))) w):s=.ok (.value (.pointer (some ⟨b,z,none⟩))) w:=by rw[h,Nat.mul_one,Nat.zero_add]
theorem tm {l:List Nat}(hW:Wd l)(hl:l.length≤(wds (aA l)).length):wds (aA l)=l:=by
 have e:=ma hW;have h1:(wds (aA l)).length=min (tl l l.length) l.length:=by rw[e,List.length_take]
 have h2:=fL l l.length;rw[e,List.take_of_length_le oM]
theorem F6 {l:List Nat}(hW:Wd l):aA l<256^(8*l.length):=by
 have:=bC hW;rw[Nat.pow_mul];exact this
theorem BG {a b:Nat}(h:wds a=wds b):a=b:=by rw[←aR a,←aR b,h]
theorem vd {l:List Nat}{i:Nat}(h:i<l.length)(h0:l.getD i 0=0){n:Nat}(inv:n=18446744073709551616^i*aj 18446744073709551616 (l.drop i)):n=18446744073709551616^(i+1)*aj 18446744073709551616 (l.drop (i+1)):=by
 rw[inv,eD _ h,h0,Nat.zero_add,Nat.pow_succ,Nat.mul_assoc]
theorem El (x:Nat)(hx0:x≠0)(hx:x<18446744073709551616)(w:World)(h:Hp)(g:G w h)(tb:Tab h):CV 217 #[mV x] w h (nV (Lib.ctz 64 x)):=by
 have hs:=((sS g).aB tb);obtain ⟨hlow,hk⟩:=Lib.lowest_bit 64 x hx0 hx;have htz:=Lib.deBruijn64_at _ hk
 generalize Lib.ctz 64 x=k at *
 generalize hp:2^k=p at *
 obtain ⟨y,hy⟩:∃ y,p*285870213051353865%18446744073709551616=y:=⟨_,rfl⟩;rw[hy] at htz
 obtain ⟨z,hz⟩:∃ z,y/288230376151711744=z:=⟨_,rfl⟩;rw[hz] at htz
 refine go Tryz.func217 [(0,mV x)] rfl (ab hs [.v 2 (iV 0)] (ah (ab hs [.m 3 0] ?_)));have hb1:((x:Int) == (0:Int))=false:=cw oM;have phb1:=af hb1;refine lB 4 hb1 (ag (cK (ab hs [.m 5 0,.m 6 0] (lV 7 (mV (18446744073709551616-x)) ?_ (hr:=rU ((0-(x:Int))) kR (by rw[IntKind.wrap_u64];omega))))));refine lV 8 (mV p) ?_ (hr:=aI (n:=bits .and .u64 (x:Int) ((18446744073709551616-x:Nat):Int)) kR (by rw[bits_and_u64_nat _ _ hx oM];exact congrArg _ hlow));refine lV 9 (mV y) ?_ (hr:=rU (((p:Int)*285870213051353865)) kR ((it p 285870213051353865).trans (congrArg _ hy)));refine lV 10 (mV z) ?_ (hr:=aI (fq (t:=39) (u:=131) (x:=.tmp 9) (y:=.const (uV 58)) (ky:=.u64) (a:=y) (n:=58) kR kR kR oM _) (congrArg _ (by rw[show (2:Nat)^58=288230376151711744 from rfl];exact hz)));refine lV 11 (qP 4 z) ?_ (hr:=FN (E1 (t:=255) (e:=5) (x:=.global 4) (ix:=.tmp 10) (b:=4) (off:=0) (sz:=1) (len:=64) (kk:=.u64) (i:=(z:Int)) z kR kR kR kR kR rfl htz.1 _));refine lH 12 (.int .u8 (k:Int)) hs (Tab.at hs.f.1 htz) (lV 13 (nV k) ?_ (hr:=rS ((k:Int)) kR (g5 oM oM)));exact lL hs [.m 2 13] (ae hs [] (nV k) rfl)
theorem n7 (A:Option Addr)(c:Nat)(l:List Nat)(n:Nat)(hn:l.length=n)(hW:Wd l)(hp:0<aA l)(hl:l.length≤1000000000)(w:World)(h:Hp)(g:G w h)(tb:Tab h)(hA:SlO 1 am 0 h A l):CR 187 #[.slice A n c] w h (fun v _=>∃ k m:Nat,v=nV k∧Tz (aA l) k m∧k/64<l.length):=by
 have hs:=(((sS g).aB tb).aS hA);refine go Tryz.func187 [(0,qS A n c)] rfl (ab hs [.v 2 (iV 0)] (aG (lL hs [.v 3 (iV 0)] (ah (kZ ?_)))));refine bI _ (CG.loop (fun μ_ Γ w_=>∃ (i:Nat) (h_:Hp),μ_=l.length-i∧Γ=[(0,qS A n c),(2,iV 0),(3,nV i)]∧SS w h w_ h_ [] [] [fun h_=>SlO 1 am 0 h_ A l,fun h_=>Tab h_]∧i≤l.length∧aA l=18446744073709551616^i*aj 18446744073709551616 (l.drop i)) _ ⟨0,h,rfl,rfl,hs.to _ _,Nat.zero_le _,(by show aj _ _=_;rw[Nat.pow_zero,Nat.one_mul,List.drop_zero])⟩ ?_);rintro _ _ w1 ⟨i,h2,hm3,rfl,hs,hi,inv⟩;have hil:i<l.length:=by rcases Nat.lt_or_ge i l.length with h_|h_;exact h_;rw[List.drop_eq_nil_of_le h_] at inv;simp[aj] at inv;omega
 refine cQ (ab hs [.m 4 0,.m 5 3] (lX 6 A n c 1 (i:Nat) i ((hs.f.1).ok oM) ?_));refine lH 7 (mV (l.getD i 0)) hs ((hs.f.1).el i oM) ?_;cases hb4:(((l.getD i 0:Nat):Int) == (0:Int))
 ·
  have phb4:=af hb4;refine lB 8 hb4 (ag (CG.exit ?_))
  show CG _ _ _ _ _ _ _ _
  refine ab hs [.m 11 3] (lI 12 (64*(i:Nat)) ?_);refine lL hs [.m 13 0,.m 14 3] (lX 15 A n c 1 (i:Nat) i ((hs.f.1).ok oM) ?_);refine lH 16 (mV (l.getD i 0)) hs ((hs.f.1).el i oM) (ai 17 hs (El (l.getD i 0) oM (hW.get i) _ _ hs.g hs.f.2.1) (fun w5 h6 hs=>?_));obtain ⟨mz,htz,hz64⟩:=BU (x:=l.getD i 0) oM (hW.get i);exact lI 18 ((64*(i:Nat))+(Lib.ctz 64 (l.getD i 0):Nat)) (lL hs [.m 2 18] (ae hs [] (iV ((64*(i:Nat))+(Lib.ctz 64 (l.getD i 0):Nat))) (⟨_,_,rfl,Tz.word (by rw[inv,eD _ hil]) htz hz64,by omega⟩)))
 have phb4:=eq_of_beq hb4;refine lB 8 hb4 (ak (cK (kZ (kQ (lL hs [.m 9 3] (bn 10 ((i:Nat)+1) (i+1) ?_))))));refine lL hs [.m 3 10] (lD ?_);intro a_ ka;refine ⟨_,_,?_,⟨i+1,h2,rfl,rfl,hs.to _ _,oM,(vd hil oM inv)⟩,ka.to _ kR⟩
 omega
theorem Bf (A:Option Addr)(c:Nat)(l:List Nat)(n:Nat)(hn:l.length=n)(hl:l.length≤1099511627776)(hc:l.length≤c)(w:World)(h:Hp)(g:G w h)(hA:SlO 1 am 0 h A l):CV 218 #[.slice A n c] w h (.slice A (tl l n) c):=by
 have hs:=((sS g).aS hA);refine go Tryz.func218 [(0,qS A n c)] rfl (ab hs [.v 2 (sZ)] (ah (kZ ?_)));refine bI _ (CG.loop (fun μ_ Γ w_=>∃ (m:Nat) (h_:Hp),μ_=m∧Γ=[(2,sZ),(0,qS A m c)]∧SS w h w_ h_ [] [] [fun h_=>SlO 1 am 0 h_ A l]∧m≤n∧tl l n=tl l m) _ ⟨n,h,rfl,rfl,hs.to _ _,nR _,rfl⟩ ?_);rintro _ _ w1 ⟨m,h2,hm3,rfl,hs,hm,ht⟩;refine cQ (ab hs [.m 3 0,.v 4 (nV m)] ?_);cases hb4:(decide ((0:Int)<(m:Int)))
 ·
  have phb4:=oF hb4;refine lB 5 hb4 (lL hs [.m 6 5] (lG 7 ?_));refine lG 8 (lG 9 (lG 10 (lG 11 (lG 12 (lG 13 (lL hs [.v 14 qF] (ag (CG.exit ?_))))))))
  show CG _ _ _ _ _ _ _ _
  exact ab hs [.m 20 0,.m 2 20] (ae hs [] (qS A m c) (by rw[ht,kY oM]))
 have phb4:=oT hb4;refine lB 5 hb4 (lL hs [.m 6 5,.m 7 0,.m 8 0,.v 9 (nV m)] (bn 10 ((m:Nat)-1) (m-1) ?_));refine lX 11 A m c 1 (m-1:Nat) (m-1) ((hs.f.1).ok oM) (lH 12 (mV (l.getD (m-1) 0)) hs ((hs.f.1).el (m-1) oM) ?_);cases hb5:(((l.getD (m-1) 0:Nat):Int) == (0:Int))
 ·
  have phb5:=af hb5;refine lB 13 hb5 (lL hs [.v 14 qF] (ag (CG.exit ?_)))
  show CG _ _ _ _ _ _ _ _
  exact ab hs [.m 20 0,.m 2 20] (ae hs [] (qS A m c) (by rw[ht,kY oM]))
 have phb5:=eq_of_beq hb5;refine lB 13 hb5 (lL hs [.v 14 qT] (ak (cK (kZ (kQ (lL hs [.m 15 0,.m 16 0,.v 17 (nV m)] (bn 18 ((m:Nat)-1) (m-1) ?_)))))));refine lT 19 A m c 1 (m-1:Nat) (m-1) (lL hs [.m 0 19] (lD ?_));intro a_ ka;refine ⟨_,_,?_,⟨m-1,h2,rfl,rfl,hs.to _ _,oM,(by rw[ht];exact uJ oM oM)⟩,ka.to _ kR⟩
 omega
theorem vC (A:Option Addr)(c:Nat)(D:Option Addr)(d:Nat)(x y n m_:Nat)(hn:(wds x).length=n)(hm_:(wds y).length=m_)(hlx:(wds x).length≤1000000000)(hly:(wds y).length≤1000000000)(w:World)(h:Hp)(g:G w h)(hA:SlO 1 am 0 h A (wds x))(hD:SlO 1 am 0 h D (wds y)):CV 189 #[.slice A n c,.slice D m_ d] w h (iV (bL x y)):=by
 have hs:=(((sS g).aS hA).aS hD);refine go Tryz.func189 [(0,qS A n c),(1,qS D m_ d)] rfl (ab hs [.v 4 (iV 0)] (ah (ab hs [.m 6 0,.v 7 (nV n),.m 8 1,.v 9 (nV m_)] ?_)));cases hb1:((n:Int) != (m_:Int))
 ·
  have phb1:=aY hb1;refine lB 10 hb1 (ag (cK (cQ (ab hs [.m 16 0,.v 17 (nV n)] (lV 18 (iV ((n:Int)-1)) ?_ (hr:=rS (((n:Nat)-1)) kR ((fr oM oM).trans oM)))))));refine lL hs [.m 5 18] (a8 ?_);refine bI _ (CG.loop (fun μ_ Γ w_=>∃ (m:Nat) (h_:Hp),μ_=m∧Γ=[(0,qS A n c),(1,qS D m_ d),(5,iV ((m:Int)-1))]∧SS w h w_ h_ [] [] [fun h_=>SlO 1 am 0 h_ D (wds y),fun h_=>SlO 1 am 0 h_ A (wds x)]∧m≤n∧(wds x).length=(wds y).length∧(wds x).drop m=(wds y).drop m) _ ⟨n,h,rfl,rfl,hs.to _ _,nR _,oM,(by rw[List.drop_eq_nil_of_le oM,List.drop_eq_nil_of_le oM])⟩ ?_);rintro _ _ w2 ⟨m,h3,hm4,rfl,hs,hm,hlen,hdr⟩;refine cQ (ab hs [.m 19 5] ?_);cases hb5:(decide ((0:Int)≤((m:Int)-1:Int)))
  ·
   have phb5:=oF hb5;refine lB 20 hb5 (ag (CG.exit ?_))
   show CG _ _ _ _ _ _ _ _
   exact ab hs [.v 4 (iV 0)] (ae hs [] (iV 0) (by rw[gB (BG (by rw[show m=0 by omega] at hdr;simpa using hdr))]))
  have phb5:=oT hb5;refine lB 20 hb5 (ak (cK (cQ (kZ (cQ (cR 9 [] mixed hs ar ?_))))));refine eV 0 23 (qS A n c) (eV 1 24 (iV ((m:Int)-1)) (eX 2 25 A n c 1 ((m:Int)-1) (m-1) ((hs.f.2.1).ok oM) (eH 3 26 (mV ((wds x).getD (m-1) 0)) hs ((hs.f.2.1).el (m-1) oM) (eV 4 27 (qS D m_ d) (eV 5 28 (iV ((m:Int)-1)) (eX 6 29 D m_ d 1 ((m:Int)-1) (m-1) ((hs.f.1).ok oM) (eH 7 30 (mV ((wds y).getD (m-1) 0)) hs ((hs.f.1).el (m-1) oM) ?_)))))));cases hb6:((((wds x).getD (m-1) 0:Nat):Int) != (((wds y).getD (m-1) 0:Nat):Int))
  ·
   have phb6:=aY hb6;refine eB 8 31 hb6 (ce hs (fun w7 h8 hs=>tN (cY (cK (kQ (lL hs [.m 21 5] (lV 22 (iV (((m-1:Nat):Int)-1)) ?_ (hr:=rS ((((m:Int)-1)-1)) kR ((fr oM oM).trans oM)))))))));refine lL hs [.m 5 22] (lD ?_);intro a_ ka;refine ⟨_,_,?_,⟨m-1,h8,rfl,rfl,hs.to _ _,oM,hlen,(ej (k:=m-1) hlen oM (by rw[show m-1+1=m by omega];exact hdr) oM)⟩,ka.to _ kR⟩
   omega
  have phb6:=ay hb6;refine eB 8 31 hb6 (ce hs (fun _ _ hs=>tN (cl (cQ (cQ (cR 9 [] mixed hs ar ?_))))));refine eV 0 32 (qS A n c) (eV 1 33 (iV ((m:Int)-1)) (eX 2 34 A n c 1 ((m:Int)-1) (m-1) ((hs.f.2.1).ok oM) (eH 3 35 (mV ((wds x).getD (m-1) 0)) hs ((hs.f.2.1).el (m-1) oM) (eV 4 36 (qS D m_ d) (eV 5 37 (iV ((m:Int)-1)) (eX 6 38 D m_ d 1 ((m:Int)-1) (m-1) ((hs.f.1).ok oM) (eH 7 39 (mV ((wds y).getD (m-1) 0)) hs ((hs.f.1).el (m-1) oM) ?_)))))));cases za:(decide ((((wds x).getD (m-1) 0:Nat):Int)<(((wds y).getD (m-1) 0:Nat):Int)))
  ·
   have zc:=oF za;exact eB 8 40 za (ce hs (fun _ _ hs=>tN (cY (cK (ab hs [.v 4 (iV 1)] (ae hs [] (iV 1) (by rw[←jt (k:=m-1) hlen oM (by rw[show m-1+1=m by omega];exact hdr) oM,ei oM])))))))
  have zc:=oT za;exact eB 8 40 za (ce hs (fun _ _ hs=>tN (cl (ab hs [.v 4 (iV (-1))] (ae hs [] (iV (-1)) (by rw[←jt (k:=m-1) hlen oM (by rw[show m-1+1=m by omega];exact hdr) oM,da oM]))))))
 have phb1:=ay hb1;refine lB 10 hb1 (ak (cQ (ab hs [.m 11 0,.v 12 (nV n),.m 13 1,.v 14 (nV m_)] ?_)));cases zb:(decide ((n:Int)<(m_:Int)))
 ·
  have zd:=oF zb;exact lB 15 zb (ag (cK (ab hs [.v 4 (iV 1)] (ae hs [] (iV 1) (by rw[ei (ff oM)])))))
 have zd:=oT zb;exact lB 15 zb (ak (ab hs [.v 4 (iV (-1))] (ae hs [] (iV (-1)) (by rw[da (ff oM)]))))
theorem vq (n:Nat)(hn:0<n)(hl:(wds n).length≤1000000000)(w:World)(h:Hp)(g:G w h):CR 186 #[nv n] w h (fun v h1=>xB h h1 v (wds n)):=by
 have hs:=sS g;have hnb:=jT n;have hwl:=jG n;have hbl:=im n ((nb n+7)/8);have hnb0:=(bU hn).2.2;refine go Tryz.func186 [(0,nv n)] rfl (av (lA 1 41 (nc n) hs (fun b1 w2 h3 hs=>lL hs [.v 2 (sZ)] (aG (lL hs [.o 6 (nv n) 0 0 2] (lC 7 hs (sn n hl _ _ hs.g) ?_))))));rintro _ w4 h5 hs ⟨Ab,rfl,hb⟩;replace hs:=hs.aS hb;refine lL hs [.m 3 7] (aG (lL hs [.m 8 3,.v 9 (nV ((nb n+7)/8))] (bn 10 ((((nb n+7)/8):Nat)+7) ((((nb n+7)/8):Nat)+7) ?_)));refine lV 11 (nV (((((nb n+7)/8):Nat)+7:Nat)/8)) ?_ (hr:=aI (cJ (t:=3) (u:=3) (x:=.tmp 10) (y:=.const (iV 8)) (k:=.i64) (a:=(((((nb n+7)/8):Nat)+7:Nat):Int)) (b:=(8:Int)) kR kR kR oM _) (cI ((((nb n+7)/8):Nat)+7:Nat) 8 oM));refine lK 12 39 (((((nb n+7)/8):Nat)+7:Nat)/8:Nat) 1 8 (uV 0) am 0 hs (fun b6 w7 h8 hs=>?_);have hl9:(List.replicate (((((nb n+7)/8):Nat)+7:Nat)/8:Nat) 0).length=(((((nb n+7)/8):Nat)+7:Nat)/8:Nat):=by simp
 refine lL hs [.m 4 12] (ah (ab hs [.m 13 3,.v 14 (nV ((nb n+7)/8)),.v 15 (iV 0)] (a8 ?_)));refine bI _ (CG.loop (fun μ_ Γ w_=>∃ (i:Nat) (l:List Nat) (h_:Hp),μ_=((nb n+7)/8)-i∧Γ=[(2,sZ),(3,qS Ab ((nb n+7)/8) ((nb n+7)/8)),(4,qS (sB b6) (((((nb n+7)/8):Nat)+7:Nat)/8:Nat) (((((nb n+7)/8):Nat)+7:Nat)/8:Nat)),(14,nV ((nb n+7)/8)),(15,nV i)]∧SS w h w_ h_ [⟨b6,39,(l).flatMap am⟩,⟨b1,41,nc n⟩] [] [fun h_=>SlO 1 ku 0 h_ Ab (eT n ((nb n+7)/8))]∧i≤((nb n+7)/8)∧l.length=(((nb n+7)/8)+7)/8∧Wd l∧aA l=n%256^i) _ ⟨0,List.replicate (((((nb n+7)/8):Nat)+7:Nat)/8:Nat) 0,h8,rfl,rfl,hs.to _ _,Nat.zero_le _,hl9,Wd.rep _,(by show aj _ _=_;rw[cO,Nat.pow_zero,Nat.mod_one])⟩ ?_);rintro _ _ _ ⟨i,l,_,hm12,rfl,hs,hi,hll,hW,inv⟩;have hbi:=i4 n ((nb n+7)/8) (((nb n+7)/8)-1-i);refine av ?_;cases za:(decide ((i:Int)<((((nb n+7)/8):Nat):Int)))
 ·
  have zb:=oF za;refine lB 16 za (ah (cY (CG.exit ?_)))
  show CG _ _ _ _ _ _ _ _
  refine ab hs [.m 39 4,.m 2 39] (lN (kX ?_));have him:i=((nb n+7)/8):=by omega
  have hE:aA l=n:=by rw[inv,him];exact Nat.mod_eq_of_lt (uO n)
  have hlw:l=wds n:=by rw[←hE];exact (tm hW (by rw[hll,hE];omega)).symm
  rw[hlw] at hs
  obtain ⟨_,hs,sg15,lo16,bc17⟩:=hs.pub 0;replace hs:=(hs.to [⟨b1,41,nc n⟩] []).aS (SlO.of_flat (sz:=1) (f:=am) (d:=0) (b:=b6) (o:=0) (l:=wds n) (fun _=>rfl) sg15);exact hs.ret [] (qS (sB b6) (((((nb n+7)/8):Nat)+7:Nat)/8:Nat) (((((nb n+7)/8):Nat)+7:Nat)/8:Nat)) (⟨b6,(by rw[show (((nb n+7)/8)+7)/8=(wds n).length by omega]),lo16,bc17,hs.f.1⟩)
 have zb:=oT za;refine lB 16 za (ah (cl (cK (cQ (kZ (ab hs [.m 17 15,.m 5 17] (lN (cR 19 [] mixed hs ar ?_))))))));refine eV 0 18 (qS (sB b6) (((((nb n+7)/8):Nat)+7:Nat)/8:Nat) (((((nb n+7)/8):Nat)+7:Nat)/8:Nat)) (eV 1 19 (nV i) (eV 2 20 (nV (i/8)) ?_ (hv:=fun _=>aI (cJ (t:=3) (u:=3) (x:=.tmp 19) (y:=.const (iV 8)) (k:=.i64) (a:=(i:Int)) (b:=(8:Int)) kR kR kR oM _) (cI i 8 oM))));refine eX 3 21 (sB b6) (((((nb n+7)/8):Nat)+7:Nat)/8:Nat) (((((nb n+7)/8):Nat)+7:Nat)/8:Nat) 1 (i/8:Nat) (i/8) rfl (eQ 4 22 0 l am 1 0 (i/8) (mV ((l).getD (i/8) 0)) hs oM (eV 5 23 (qS Ab ((nb n+7)/8) ((nb n+7)/8)) (eV 6 24 (qS Ab ((nb n+7)/8) ((nb n+7)/8)) (eV 7 25 (nV ((nb n+7)/8)) (iR 8 26 ((((nb n+7)/8):Nat)-1) ((((nb n+7)/8):Nat)-1) (eV 9 27 (nV i) (iR 10 28 (((((nb n+7)/8):Nat)-1:Nat)-(i:Nat)) (((((nb n+7)/8):Nat)-1:Nat)-i) (eX 11 29 Ab ((nb n+7)/8) ((nb n+7)/8) 1 (((((nb n+7)/8):Nat)-1:Nat)-i:Nat) (((((nb n+7)/8):Nat)-1:Nat)-i:Nat) ((hs.f.1).ok oM) (eH 12 30 (.int .u8 ((eT n ((nb n+7)/8)).getD (((((nb n+7)/8):Nat)-1:Nat)-i:Nat) 0:Nat)) hs ((hs.f.1).el (((((nb n+7)/8):Nat)-1:Nat)-i:Nat) oM) (eV 13 31 (mV ((eT n ((nb n+7)/8)).getD (((((nb n+7)/8):Nat)-1:Nat)-i:Nat) 0)) ?_ (hv:=fun _=>rU ((((eT n ((nb n+7)/8)).getD (((((nb n+7)/8):Nat)-1:Nat)-i:Nat) 0:Nat):Int)) kR (aZ oM oM))))))))))));refine eV 14 32 (nV i) (eV 15 33 (nV (i%8)) ?_ (hv:=fun _=>aI (dC (t:=3) (u:=3) (x:=.tmp 32) (y:=.const (iV 8)) (k:=.i64) (a:=(i:Int)) (b:=(8:Int)) kR kR kR oM _) (bY i 8)));refine iR 16 34 (8*(i%8:Nat)) (8*(i%8)) (eV 17 35 (mV (((eT n ((nb n+7)/8)).getD (((((nb n+7)/8):Nat)-1:Nat)-i:Nat) 0:Nat)*2^(8*(i%8))%18446744073709551616)) ?_ (hv:=fun _=>fB (t:=39) (u:=3) (x:=.tmp 31) (y:=.tmp 34) (ky:=.i64) (a:=((eT n ((nb n+7)/8)).getD (((((nb n+7)/8):Nat)-1:Nat)-i:Nat) 0:Nat)) (n:=(8*(i%8))) kR kR kR _));obtain ⟨hS1,hS2,hS3⟩:=o3 oM inv (show (eT n ((nb n+7)/8)).getD (((nb n+7)/8)-1-i) 0=n/256^i%256 by rw[gx n ((nb n+7)/8) _ oM,show ((nb n+7)/8)-1-(((nb n+7)/8)-1-i)=i by omega]);have hlg:=hW.get (i/8);refine eV 18 36 (mV (l.getD (i/8) 0+(eT n ((nb n+7)/8)).getD (((nb n+7)/8)-1-i) 0*2^(8*(i%8)))) ?_ (hv:=fun _=>aI (fR (t:=39) (u:=39) (x:=.tmp 22) (y:=.tmp 35) (a:=((l).getD (i/8) 0)) (b:=(((eT n ((nb n+7)/8)).getD (((((nb n+7)/8):Nat)-1:Nat)-i:Nat) 0:Nat)*2^(8*(i%8))%18446744073709551616:Nat)) kR kR kR oM oM _) (by rw[hS1]));refine ce hs (fun _ zd hs=>tX 19 37 (sB b6) (((((nb n+7)/8):Nat)+7:Nat)/8:Nat) (((((nb n+7)/8):Nat)+7:Nat)/8:Nat) 1 (i/8:Nat) (i/8) rfl (tW 20 0 l am 1 (i/8) (l.getD (i/8) 0+(eT n ((nb n+7)/8)).getD (((nb n+7)/8)-1-i) 0*2^(8*(i%8)):Nat) hs oM (fun _ hs=>?_)));have zc:((l).set (i/8) (l.getD (i/8) 0+(eT n ((nb n+7)/8)).getD (((nb n+7)/8)-1-i) 0*2^(8*(i%8)):Nat)).length=(((((nb n+7)/8):Nat)+7:Nat)/8:Nat):=by rw[List.length_set];exact hll
 replace hs:=hs.to [⟨b6,39,((l).set (i/8) (l.getD (i/8) 0+(eT n ((nb n+7)/8)).getD (((nb n+7)/8)-1-i) 0*2^(8*(i%8)):Nat)).flatMap am⟩,⟨b1,41,nc n⟩] [];refine tN (kQ (bn 38 ((i:Nat)+1) (i+1) ?_));refine lL hs [.m 15 38] (lD ?_);intro a_ ka;refine ⟨_,_,?_,⟨i+1,(l).set (i/8) (l.getD (i/8) 0+(eT n ((nb n+7)/8)).getD (((nb n+7)/8)-1-i) 0*2^(8*(i%8)):Nat),zd,rfl,rfl,hs.to _ _,oM,zc,(hW.set _ hS2),hS3⟩,ka.to _ kR⟩
 omega
theorem xQ (A:Option Addr)(c:Nat)(l:List Nat)(n:Nat)(hn:l.length=n)(hW:Wd l)(hl:l.length≤1000000000)(w:World)(h:Hp)(g:G w h)(hA:SlO 1 am 0 h A l):CV 191 #[.slice A n c] w h (nv (aA l)):=by
 have hs:=((sS g).aS hA);refine go Tryz.func191 [(0,qS A n c)] rfl (av (lA 2 41 ([uV 0,eS]) hs (fun b1 w2 h3 hs=>aG (lL hs [.m 5 0,.v 6 (nV n)] (bn 7 (8*(n:Nat)) (8*n) ?_)))));refine lK 8 5 (8*n) 1 1 (.int .u8 0) ku 0 hs (fun b4 w5 h6 hs=>?_);have hl7:(List.replicate (8*n) 0).length=(8*n):=by simp
 refine lL hs [.m 3 8] (ah (ab hs [.m 9 3,.v 10 (nV (8*n)),.v 11 (iV 0)] (a8 ?_)));refine bI _ (CG.loop (fun μ_ Γ w_=>∃ (i:Nat) (z:List Nat) (h_:Hp),μ_=8*n-i∧Γ=[(0,qS A n c),(2,pB b1),(3,qS (sB b4) (8*n) (8*n)),(10,nV (8*n)),(11,nV i)]∧SS w h w_ h_ [⟨b4,5,(z).flatMap ku⟩,⟨b1,41,[uV 0,eS]⟩] [] [fun h_=>SlO 1 am 0 h_ A l]∧i≤8*n∧z.length=8*n∧(∀ j,j<i→z.getD (8*n-1-j) 0=aA l/256^j%256)) _ ⟨0,List.replicate (8*n) 0,h6,rfl,rfl,hs.to _ _,Nat.zero_le _,hl7,(fun j hj=>absurd hj oM)⟩ ?_);rintro _ _ w8 ⟨i,z,h9,hm10,rfl,hs,hi,hzl,hg⟩;have hwi:=hW.get (i/8);refine av ?_;cases za:(decide ((i:Int)<(((8*n):Nat):Int)))
 ·
  have zb:=oF za;refine lB 12 za (ah (cY (CG.exit ?_)))
  show CG _ _ _ _ _ _ _ _
  refine ab hs [.m 32 3] ?_;have him:i=8*n:=by omega
  have hlb:z=eT (aA l) (8*n):=oE hzl (fun j hj=>hg j oM);rw[hlb] at hs
  obtain ⟨_,hs,sg13,lo14,bc15⟩:=hs.pub 0;replace hs:=(hs.to [⟨b1,41,[uV 0,eS]⟩] []).aS (SlO.of_flat (sz:=1) (f:=ku) (d:=0) (b:=b4) (o:=0) (l:=eT (aA l) (8*n)) (fun _=>rfl) sg13);exact ai 33 hs (ve (aA l) (8*n) (sB b4) (8*n) oM oM (by have:=F6 hW;rwa [hn] at this) _ _ hs.g hs.f.1) (fun _ _ hs=>lP 0 0 (nc (aA l)) hs (fun _ hs=>ae hs [(0,0,2)] (nv (aA l)) rfl))
 have zb:=oT za;refine lB 12 za (ah (cl (cK (cQ (kZ (ab hs [.m 13 11,.m 4 13] (lN (kQ (lL hs [.m 14 3,.m 15 3,.v 16 (nV (8*n))] (bn 17 (((8*n):Nat)-1) ((8*n)-1) ?_))))))))));refine lL hs [.m 18 4] (bn 19 (((8*n)-1:Nat)-(i:Nat)) (((8*n)-1)-i) ?_);refine lL hs [.m 20 0,.m 21 4] (lV 22 (nV (i/8)) ?_ (hr:=aI (cJ (t:=3) (u:=3) (x:=.tmp 21) (y:=.const (iV 8)) (k:=.i64) (a:=(i:Int)) (b:=(8:Int)) kR kR kR oM _) (cI i 8 oM)));refine lX 23 A n c 1 (i/8:Nat) (i/8) ((hs.f.1).ok oM) (lH 24 (mV (l.getD (i/8) 0)) hs ((hs.f.1).el (i/8) oM) (lL hs [.m 25 4] (lV 26 (nV (i%8)) ?_ (hr:=aI (dC (t:=3) (u:=3) (x:=.tmp 25) (y:=.const (iV 8)) (k:=.i64) (a:=(i:Int)) (b:=(8:Int)) kR kR kR oM _) (bY i 8)))));refine bn 27 (8*(i%8:Nat)) (8*(i%8)) (lV 28 (mV ((l.getD (i/8) 0)/2^(8*(i%8)))) ?_ (hr:=fq (t:=39) (u:=3) (x:=.tmp 24) (y:=.tmp 27) (ky:=.i64) (a:=(l.getD (i/8) 0)) (n:=(8*(i%8))) kR kR kR oM _));refine lV 29 (.int .u8 (l.getD (i/8) 0/2^(8*(i%8))%256:Nat)) ?_ (hr:=aI (n:=IntKind.wrap .u8 ((l.getD (i/8) 0/2^(8*(i%8)):Nat):Int)) kR (xi _));refine lX 30 (sB b4) (8*n) (8*n) 1 (((8*n)-1)-i:Nat) (((8*n)-1)-i:Nat) rfl (lW 0 z ku 1 (((8*n)-1)-i:Nat) (l.getD (i/8) 0/2^(8*(i%8))%256:Nat) hs oM (fun _ hs=>?_));have zc:((z).set (((8*n)-1)-i:Nat) (l.getD (i/8) 0/2^(8*(i%8))%256:Nat)).length=(8*n):=by rw[List.length_set];exact hzl
 replace hs:=hs.to [⟨b4,5,((z).set (((8*n)-1)-i:Nat) (l.getD (i/8) 0/2^(8*(i%8))%256:Nat)).flatMap ku⟩,⟨b1,41,[uV 0,eS]⟩] [];refine lN (kQ (bn 31 ((i:Nat)+1) (i+1) ?_));refine lL hs [.m 11 31] (lD ?_);intro a_ ka;refine ⟨_,_,?_,⟨i+1,(z).set (((8*n)-1)-i:Nat) (l.getD (i/8) 0/2^(8*(i%8))%256:Nat),h9,rfl,rfl,hs.to _ _,oM,zc,(fJ hzl oM hg (mS hW i))⟩,ka.to _ kR⟩
 omega
def win (l:List Nat)(o n:Nat):List Nat:=(l.drop o).take n
theorem bB {l:List Nat}{o n:Nat}(h:o+n≤l.length):(win l o n).length=n:=by unfold win;rw[List.length_take,List.length_drop];omega
theorem pV {l:List Nat}{o n j:Nat}(h:j<n):(win l o n).getD j 0=l.getD (o+j) 0:=by unfold win;rw[gR h,bu]
theorem jw {l:List Nat}{o n i x:Nat}(hi:i<n):win (l.set (o+i) x) o n=(win l o n).set i x:=by
 unfold win
 rw[List.drop_set,if_neg oM,List.take_set,show o+i-o=i by omega]
theorem vu {l:List Nat}{o n q:Nat}:(win l o n).drop q=win l (o+q) (n-q):=by
 unfold win;rw[List.drop_take,List.drop_drop]
theorem m8 {l:List Nat}{o n m:Nat}(h:m≤n):(win l o n).take m=win l o m:=by
 unfold win;rw[List.take_take,Nat.min_eq_left h]
theorem pq (l:List Nat)(n:Nat)(h:l.length≤n):win l 0 n=l:=by unfold win;rw[List.drop_zero,List.take_of_length_le h]
theorem Wd.win {l:List Nat}(h:Wd l)(o n:Nat):Wd (win l o n):=Dg.take (Dg.drop h o) n
theorem pJ {Z W:List Nat}{i p d r0:Nat}(hi:i<Z.length)(inv:2^p*aj 18446744073709551616 (Z.take i)+r0=aj 18446744073709551616 (W.take i)+18446744073709551616^i*(W.getD i 0%2^p))
  (hd:2^p*d+W.getD i 0%2^p=W.getD i 0+18446744073709551616*(W.getD (i+1) 0%2^p)) :
  2^p*aj 18446744073709551616 ((Z.set i d).take (i+1))+r0=aj 18446744073709551616 (W.take (i+1))+18446744073709551616^(i+1)*(W.getD (i+1) 0%2^p):=by
 have e1:=aJ 18446744073709551616 (Z.set i d) i;have e2:(Z.set i d).take i=Z.take i:=by rw[List.take_set,List.set_eq_of_length_le];rw[List.length_take];omega
 rw[e2,bp hi,if_pos rfl] at e1
 have e3:=aJ 18446744073709551616 W i;have e4:=congrArg (18446744073709551616^i * ·) hd
 simp only[Nat.mul_add] at e4
 rw[e1,e3,Nat.pow_succ,Nat.mul_add];have e5:2^p*(18446744073709551616^i*d)=18446744073709551616^i*(2^p*d):=by ac_rfl
 have e6:18446744073709551616^i*18446744073709551616*(W.getD (i+1) 0%2^p)=18446744073709551616^i*(18446744073709551616*(W.getD (i+1) 0%2^p)):=by ac_rfl
 rw[e5,e6]
 omega
theorem t6 {X:List Nat}(hX:Wd X){k m:Nat}(t:Tz (aA X) k m)(hk:k/64<X.length):aA (X.drop (k/64))=2^(k%64)*m∧(X.drop (k/64)).getD 0 0%2^(k%64)=0:=by
 have h1:aA (X.drop (k/64))=2^(k%64)*m:=by
  rw[kS hX oM,t.1,vb k,Nat.mul_assoc,Nat.mul_div_cancel_left _ (Nat.pow_pos kD)]
 refine ⟨h1,?_⟩
 have h2:aA (X.drop (k/64))=(X.drop (k/64)).getD 0 0+18446744073709551616*aj 18446744073709551616 ((X.drop (k/64)).drop 1):=by
  have:=eD 18446744073709551616 (l:=X.drop (k/64)) (k:=0) (by rw[List.length_drop];omega)
  rwa [List.drop_zero] at this
 have e64:(18446744073709551616:Nat)=2^(k%64)*2^(64-k%64):=by rw[←Nat.pow_add,show k%64+(64-k%64)=64 by omega]
 rw[h1] at h2
 have h3:(2^(k%64)*m)%2^(k%64)=0:=Nat.mul_mod_right _ _;rw[h2] at h3
 conv at h3=>lhs;rw[e64]
 rw[Nat.mul_assoc,Nat.add_mul_mod_self_left] at h3
 exact h3
theorem Cw {Z W:List Nat}{p m:Nat}(hl:W.length≤Z.length)(inv:2^p*aj 18446744073709551616 (Z.take Z.length)+0=aj 18446744073709551616 (W.take Z.length)+18446744073709551616^Z.length*(W.getD Z.length 0%2^p))(e:aA W=2^p*m):aA Z=m:=by
 rw[List.take_length,List.take_of_length_le hl,bA hl,Nat.zero_mod,Nat.mul_zero,Nat.add_zero,Nat.add_zero] at inv
 have e2:aj 18446744073709551616 W=2^p*m:=e;rw[e2] at inv
 exact Nat.eq_of_mul_eq_mul_left (Nat.two_pow_pos p) inv
theorem nS {l X:List Nat}{q i x N:Nat}(hl:q+i<l.length)(h:∀ j,i≤j→j<N→l.getD (q+j) 0=X.getD j 0):∀ j,i+1≤j→j<N→(l.set (q+i) x).getD (q+j) 0=X.getD j 0:=fun j h1 h2=>by
 rw[bp hl,if_neg oM];exact h j oM h2
theorem pf (rb:Nat)(l0:List Nat)(o n c x:Nat)(hx:0<x)(hl0:l0.length≤1000000000)(hon:o+n≤l0.length)(hnc:n≤c)(hW0:Wd l0)(hwin:win l0 o n=wds x)(w:World)(h:Hp)(g:G w h)(ho:Own w rb 39 (l0.flatMap am))(hj:h[rb]?=some junk)(tb:Tab h):Calls Tryz.prog 188 #[.slice (some ⟨rb,o,none⟩) n c] w (dQ rb w h fun v w' _=>∃ z:List Nat,∃ o' n' c':Nat,v=.slice (some ⟨rb,o',none⟩) n' c'∧z.length=l0.length∧Wd z∧o'+n'≤z.length∧n'≤c'∧(∃ k m:Nat,Tz x k m∧win z o' n'=wds m)∧Own w' rb 39 (z.flatMap am)):=by
 have hmo:UpM [rb] w h w h:=UpM.refl g;obtain ⟨wz,hz,hs⟩:=SS.at_ g ho hj;have hl0_:l0.length=l0.length:=rfl;replace hs:=(hs.aB tb);refine go Tryz.func188 [(0,qS (some ⟨rb,o,none⟩) n c)] rfl (ab hs [.v 2 (sZ)] (aG (lL hs [.m 6 0] (wG 7 0 hs (fun _ g_ f_ sg_=>n7 (some ⟨rb,o,none⟩) c (win l0 o n) n (bB hon) (hW0.win _ _) (by rw[hwin,aR];exact hx) (by rw[bB hon];omega) _ _ g_ (f_.1) (SlO.win (f:=am) (d:=0) (b:=rb) (l:=l0) (fun _=>rfl) sg_ o n)) ?_))));rintro _ w1 h2 u3 hs ⟨k,m,rfl,htz,hkn⟩;replace hmo:=hmo.trans (u3.m _);rw[bB hon] at hkn
 have hX:=hW0.win o n;obtain ⟨hE0,hr0⟩:=t6 hX htz (by rw[bB hon];omega);rw[vu] at hE0 hr0
 obtain ⟨X,hXd⟩:∃ X,X=win l0 (o+k/64) (n-k/64):=⟨_,rfl⟩;rw[←hXd] at hE0 hr0
 have hXl:X.length=n-k/64:=by rw[hXd];exact bB oM
 have hXW:Wd X:=by rw[hXd];exact hW0.win _ _
 have hXg:∀ j,j<n-k/64→X.getD j 0=l0.getD (o+k/64+j) 0:=fun j hj=>by rw[hXd];exact pV hj
 refine lL hs [.m 3 7] (aG (lL hs [.m 8 0,.m 9 3] (lV 10 (nV (k/64)) ?_ (hr:=aI (cJ (t:=3) (u:=3) (x:=.tmp 9) (y:=.const (iV 64)) (k:=.i64) (a:=(k:Int)) (b:=(64:Int)) kR kR kR oM _) (cI k 64 oM)))));refine GE 11 rb o n c 1 (k/64:Nat) (k/64) (o+(k/64)) (lL hs [.m 0 11] (aG (lL hs [.m 12 3] (lV 13 (nV (k%64)) ?_ (hr:=aI (dC (t:=3) (u:=3) (x:=.tmp 12) (y:=.const (iV 64)) (k:=.i64) (a:=(k:Int)) (b:=(64:Int)) kR kR kR oM _) (bY k 64))))));refine lL hs [.m 4 13] (ah (ab hs [.m 14 0,.v 15 (nV (n-(k/64))),.v 16 (iV 0)] (a8 ?_)));refine bI _ (CG.loop (fun μ_ Γ w_=>∃ (i:Nat) (l:List Nat) (h_:Hp),μ_=(n-k/64)-i∧Γ=[(0,qS (some ⟨rb,(o+(k/64)),none⟩) (n-(k/64)) (c-(k/64))),(2,sZ),(4,nV (k%64)),(15,nV (n-(k/64))),(16,nV i)]∧SS wz hz w_ h_ [⟨rb,39,(l).flatMap am⟩] [] [fun h_=>Tab h_]∧i≤n-k/64∧l.length=l0.length∧Wd l∧2^(k%64)*aj 18446744073709551616 ((win l (o+k/64) (n-k/64)).take i)+0=aj 18446744073709551616 (X.take i)+18446744073709551616^i*(X.getD i 0%2^(k%64))∧(∀ j,i≤j→j<n-k/64→l.getD (o+k/64+j) 0=X.getD j 0)∧UpM [rb] w h w_ h_) _ ⟨0,l0,h2,rfl,rfl,hs.to _ _,Nat.zero_le _,rfl,hW0,(by rw[hr0];simp[aj]),(fun j _ hj=>(hXg j hj).symm),hmo⟩ ?_);rintro _ _ w4 ⟨i,l,h5,hm6,rfl,hs,hi,hll,hW,inv,hun,hmo⟩;refine av ?_;cases hb7:(decide ((i:Int)<((n-(k/64):Nat):Int)))
 ·
  have phb7:=oF hb7;refine lB 17 hb7 (ah (cY (CG.exit ?_)))
  show CG _ _ _ _ _ _ _ _
  refine ab hs [.m 46 0] (wG 47 0 hs (fun _ g_ f_ sg_=>Bf (some ⟨rb,(o+k/64),none⟩) (c-(k/64)) (win l (o+k/64) (n-k/64)) (n-k/64) (bB oM) (by rw[bB oM];omega) (by rw[bB oM];omega) _ _ g_ (SlO.win (f:=am) (d:=0) (b:=rb) (l:=l) (fun _=>rfl) sg_ (o+k/64) (n-k/64))) ?_);rintro _ w8 h9 u10 hs rfl;replace hmo:=hmo.trans (u10.m _);refine lL hs [.m 2 47] (lN (kX ?_));have hiN:i=n-k/64:=by omega
  have hZl:(win l (o+k/64) (n-k/64)).length=n-k/64:=bB oM;have hE:=Cw (Z:=win l (o+k/64) (n-k/64)) oM (by rw[hZl,←hiN];rw[←hiN] at inv;exact inv) hE0;have hZW:Wd (win l (o+k/64) (n-k/64)):=hW.win _ _;have hwm:=ma hZW;rw[hE,hZl] at hwm
  have htl:=fL (win l (o+k/64) (n-k/64)) (n-k/64);exact hs.retM hmo [] (qS (some ⟨rb,(o+k/64),none⟩) (tl (win l (o+k/64) (n-k/64)) (n-k/64)) (c-(k/64))) ⟨l,(o+k/64),_,_,rfl,hll,hW,by omega,by omega,⟨k,m,by rw[hwin,aR] at htz;exact htz,by rw[hwm];exact (m8 htl).symm⟩,hs.own 0⟩
 have phb7:=oT hb7;refine lB 17 hb7 (ah (cl (cK (cQ (kZ (ab hs [.m 18 16,.m 5 18] (aG (lL hs [.m 19 0,.m 20 5] (DC 21 rb (o+(k/64)) (n-(k/64)) (c-(k/64)) 1 (i:Nat) i ((o+(k/64))+i) ?_)))))))));refine lQ 22 0 l am 1 0 ((o+(k/64))+i) (mV ((l).getD ((o+(k/64))+i) 0)) hs oM (lL hs [.m 23 4] ?_);have hXi:X.getD i 0=l.getD (o+k/64+i) 0:=(hun i (nR _) oM).symm;have hxi:=hW.get (o+k/64+i);have hdv:=Nat.div_le_self (l.getD (o+k/64+i) 0) (2^(k%64));refine lV 24 (mV (((l).getD ((o+(k/64))+i) 0:Nat)/2^(k%64))) ?_ (hr:=fq (t:=39) (u:=3) (x:=.tmp 22) (y:=.tmp 23) (ky:=.i64) (a:=((l).getD ((o+(k/64))+i) 0:Nat)) (n:=(k%64)) kR kR kR oM _);refine DC 25 rb (o+(k/64)) (n-(k/64)) (c-(k/64)) 1 (i:Nat) i ((o+(k/64))+i) (Fo 0 l am 1 ((o+(k/64))+i) (((l).getD ((o+(k/64))+i) 0:Nat)/2^(k%64):Nat) hs oM (fun _ pu hs=>?_));replace hmo:=hmo.put pu (List.mem_singleton.2 rfl) hs.g;have zb:((l).set ((o+(k/64))+i) (((l).getD ((o+(k/64))+i) 0:Nat)/2^(k%64):Nat)).length=l0.length:=by rw[List.length_set];exact hll
 replace hs:=hs.to [⟨rb,39,((l).set ((o+(k/64))+i) (((l).getD ((o+(k/64))+i) 0:Nat)/2^(k%64):Nat)).flatMap am⟩] [];refine aG (lL hs [.m 26 5] (bn 27 ((i:Nat)+1) (i+1) ?_));refine lL hs [.m 28 0,.v 29 (nV (n-(k/64)))] ?_;cases za:(decide (((i+1:Nat):Int)<((n-(k/64):Nat):Int)))
 ·
  have zc:=oF za;refine lB 30 za (ag (cK (kQ (bn 45 ((i:Nat)+1) (i+1) ?_))));refine lL hs [.m 16 45] (lD ?_);intro a_ ka;refine ⟨_,_,?_,⟨i+1,(l).set ((o+(k/64))+i) (((l).getD ((o+(k/64))+i) 0:Nat)/2^(k%64):Nat),h5,rfl,rfl,hs.to _ _,oM,zb,(hW.set _ oM),(by rw[jw oM];exact pJ (by rw[bB oM];omega) inv (by rw[hXi,bA (l:=X) (show X.length≤i+1 by omega),Nat.zero_mod,Nat.mul_zero,Nat.add_zero];exact Nat.div_add_mod _ _)),(nS oM hun),hmo⟩,ka.to _ kR⟩
  omega
 have zc:=oT za;refine lB 30 za (ak (sb ⟨[],none⟩ 13 mixed ?_));replace hmo:=hmo.trans ((Up.drew (Up.refl hs.g)).m _);replace hs:=hs.drew;refine aV 0 31 (qS (some ⟨rb,(o+(k/64)),none⟩) (n-(k/64)) (c-(k/64))) (aV 1 32 (nV i) (Gm 2 33 rb (o+(k/64)) (n-(k/64)) (c-(k/64)) 1 (i:Nat) i ((o+(k/64))+i) (aQ 3 34 0 ((l).set ((o+(k/64))+i) (((l).getD ((o+(k/64))+i) 0:Nat)/2^(k%64):Nat)) am 1 0 ((o+(k/64))+i) (mV (((l).set ((o+(k/64))+i) (((l).getD ((o+(k/64))+i) 0:Nat)/2^(k%64):Nat)).getD ((o+(k/64))+i) 0)) hs oM (aV 4 35 (qS (some ⟨rb,(o+(k/64)),none⟩) (n-(k/64)) (c-(k/64))) (aV 5 36 (nV i) (aV 6 37 (nV (i+1)) ?_ (hv:=fun _=>rS (((i:Nat)+1)) kR ((fr oM oM).trans oM))))))));refine Gm 7 38 rb (o+(k/64)) (n-(k/64)) (c-(k/64)) 1 (i+1:Nat) (i+1) ((o+(k/64))+(i+1)) (aQ 8 39 0 ((l).set ((o+(k/64))+i) (((l).getD ((o+(k/64))+i) 0:Nat)/2^(k%64):Nat)) am 1 0 ((o+(k/64))+(i+1)) (mV (((l).set ((o+(k/64))+i) (((l).getD ((o+(k/64))+i) 0:Nat)/2^(k%64):Nat)).getD ((o+(k/64))+(i+1)) 0)) hs oM (aV 9 40 (nV (k%64)) (aV 10 41 (nV (64-(k%64))) ?_ (hv:=fun _=>rS ((64-(k%64:Nat))) kR ((fr oM oM).trans oM)))));refine aV 11 42 (mV ((((l).set ((o+(k/64))+i) (((l).getD ((o+(k/64))+i) 0:Nat)/2^(k%64):Nat)).getD ((o+(k/64))+(i+1)) 0:Nat)*2^(64-(k%64))%18446744073709551616)) ?_ (hv:=fun _=>fB (t:=39) (u:=3) (x:=.tmp 39) (y:=.tmp 41) (ky:=.i64) (a:=(((l).set ((o+(k/64))+i) (((l).getD ((o+(k/64))+i) 0:Nat)/2^(k%64):Nat)).getD ((o+(k/64))+(i+1)) 0:Nat)) (n:=(64-(k%64))) kR kR kR _);have hXn:X.getD (i+1) 0=l.getD (o+k/64+(i+1)) 0:=(hun (i+1) oM oM).symm;obtain ⟨hS1,hS2,hS3⟩:=m9 (x:=l.getD (o+k/64+i) 0) (y:=l.getD (o+k/64+(i+1)) 0) (p:=k%64) oM hxi;have hgs:=bp (l:=l) (k:=o+k/64+i) (j:=o+k/64+i) (x:=l.getD (o+k/64+i) 0/2^(k%64)) oM;rw[if_pos rfl] at hgs
 have hgn:=bp (l:=l) (k:=o+k/64+i) (j:=o+k/64+(i+1)) (x:=l.getD (o+k/64+i) 0/2^(k%64)) oM;rw[if_neg oM] at hgn
 refine aV 12 43 (mV (l.getD (o+k/64+i) 0/2^(k%64)+l.getD (o+k/64+(i+1)) 0*2^(64-k%64)%18446744073709551616)) ?_ (hv:=fun _=>aI (fR (t:=39) (u:=39) (x:=.tmp 34) (y:=.tmp 42) (a:=(((l).set ((o+(k/64))+i) (((l).getD ((o+(k/64))+i) 0:Nat)/2^(k%64):Nat)).getD ((o+(k/64))+i) 0:Nat)) (b:=((((l).set ((o+(k/64))+i) (((l).getD ((o+(k/64))+i) 0:Nat)/2^(k%64):Nat)).getD ((o+(k/64))+(i+1)) 0:Nat)*2^(64-(k%64))%18446744073709551616:Nat)) kR kR kR oM oM _) (by rw[hgs,hgn,hS1]));refine GQ 13 44 rb (o+(k/64)) (n-(k/64)) (c-(k/64)) 1 (i:Nat) i ((o+(k/64))+i) (GN 14 0 ((l).set ((o+(k/64))+i) (((l).getD ((o+(k/64))+i) 0:Nat)/2^(k%64):Nat)) am 1 ((o+(k/64))+i) (l.getD (o+k/64+i) 0/2^(k%64)+l.getD (o+k/64+(i+1)) 0*2^(64-k%64)%18446744073709551616:Nat) hs oM (fun _ pu hs=>?_));replace hmo:=hmo.put pu (List.mem_singleton.2 rfl) hs.g;have zd:(((l).set ((o+(k/64))+i) (((l).getD ((o+(k/64))+i) 0:Nat)/2^(k%64):Nat)).set ((o+(k/64))+i) (l.getD (o+k/64+i) 0/2^(k%64)+l.getD (o+k/64+(i+1)) 0*2^(64-k%64)%18446744073709551616:Nat)).length=l0.length:=by rw[List.length_set];exact zb
 replace hs:=hs.to [⟨rb,39,(((l).set ((o+(k/64))+i) (((l).getD ((o+(k/64))+i) 0:Nat)/2^(k%64):Nat)).set ((o+(k/64))+i) (l.getD (o+k/64+i) 0/2^(k%64)+l.getD (o+k/64+(i+1)) 0*2^(64-k%64)%18446744073709551616:Nat)).flatMap am⟩] [];refine tN (kQ (bn 45 ((i:Nat)+1) (i+1) ?_));refine lL hs [.m 16 45] (lD ?_);intro a_ ka;refine ⟨_,_,?_,⟨i+1,((l).set ((o+(k/64))+i) (((l).getD ((o+(k/64))+i) 0:Nat)/2^(k%64):Nat)).set ((o+(k/64))+i) (l.getD (o+k/64+i) 0/2^(k%64)+l.getD (o+k/64+(i+1)) 0*2^(64-k%64)%18446744073709551616:Nat),h5,rfl,rfl,hs.to _ _,oM,zd,((hW.set _ oM).set _ hS2),(by rw[List.set_set,jw oM];exact pJ (by rw[bB oM];omega) inv (by rw[hXi,hXn];exact hS3)),(by rw[List.set_set];exact nS oM hun),hmo⟩,ka.to _ kR⟩
 omega
theorem EU (rb:Nat)(l0:List Nat)(o n c x:Nat)(hl0:l0.length≤1000000000)(hon:o+n≤l0.length)(hnc:n≤c)(hW0:Wd l0)(hwin:win l0 o n=wds x)(D:Option Addr)(d y m:Nat)(hm:(wds y).length=m)(hmd:m≤d)(hyx:y≤x)(w:World)(h:Hp)(g:G w h)(ho:Own w rb 39 (l0.flatMap am))(hj:h[rb]?=some junk)(hD:SlO 1 am 0 h D (wds y)):Calls Tryz.prog 190 #[.slice (some ⟨rb,o,none⟩) n c,.slice D m d] w (dQ rb w h fun v w' _=>∃ z:List Nat,∃ o' n' c':Nat,v=.slice (some ⟨rb,o',none⟩) n' c'∧z.length=l0.length∧Wd z∧o'+n'≤z.length∧n'≤c'∧win z o' n'=wds (x-y)∧Own w' rb 39 (z.flatMap am)):=by
 have hmo:UpM [rb] w h w h:=UpM.refl g;obtain ⟨wz,hz,hs⟩:=SS.at_ g ho hj;have hl0_:l0.length=l0.length:=rfl;replace hs:=hs.aS hD;have hwn:n=(wds x).length:=by rw[←hwin,bB hon]
 have hlm:=co hyx;refine go Tryz.func190 [(0,qS (some ⟨rb,o,none⟩) n c),(1,qS D m d)] rfl (ab hs [.v 4 (sZ)] (aG (lL hs [.v 5 (uV 0)] (ah (ab hs [.m 8 0,.v 9 (nV n),.v 10 (iV 0)] (a8 ?_))))));refine bI _ (CG.loop (fun μ_ Γ w_=>∃ (i:Nat) (l:List Nat) (bo:Nat) (h_:Hp),μ_=n-i∧Γ=[(0,qS (some ⟨rb,o,none⟩) n c),(1,qS D m d),(4,sZ),(9,nV n),(10,nV i),(5,mV bo)]∧SS wz hz w_ h_ [⟨rb,39,(l).flatMap am⟩] [] [fun h_=>SlO 1 am 0 h_ D (wds y)]∧i≤n∧l.length=l0.length∧Wd l∧bo≤1∧aj 18446744073709551616 (win l o n)+aj 18446744073709551616 ((wds y).take i)=x+18446744073709551616^i*bo∧UpM [rb] w h w_ h_) _ ⟨0,l0,0,h,rfl,rfl,hs.to _ _,Nat.zero_le _,rfl,hW0,oM,(by have hx_:aj 18446744073709551616 (wds x)=x:=aR x;rw[hwin,hx_];simp[aj]),hmo⟩ ?_);rintro _ _ w1 ⟨i,l,bo,h2,hm3,rfl,hs,hi,hll,hW,hbo,inv,hmo⟩;have hlk:=hW.get (o+i);have hyk:=(Wd.wds y).get i;have hwg:=pV (l:=l) (o:=o) (n:=n) (j:=i);refine av ?_;cases hb4:(decide ((i:Int)<(n:Int)))
 ·
  have phb4:=oF hb4;refine lB 11 hb4 (ah (cY (CG.exit ?_)))
  show CG _ _ _ _ _ _ _ _
  refine ab hs [.m 35 0] (wG 36 0 hs (fun _ g_ f_ sg_=>Bf (some ⟨rb,o,none⟩) c (win l o n) n (bB oM) (by rw[bB oM];omega) (by rw[bB oM];omega) _ _ g_ (SlO.win (f:=am) (d:=0) (b:=rb) (l:=l) (fun _=>rfl) sg_ o n)) ?_);rintro _ w5 h6 u7 hs rfl;replace hmo:=hmo.trans (u7.m _);refine lL hs [.m 4 36] (lN (kX ?_));have hiN:i=n:=by omega
  have hZl:(win l o n).length=n:=bB oM;rw[List.take_of_length_le (show (wds y).length≤i by omega),hiN] at inv
  have hZW:Wd (win l o n):=hW.win _ _;have hE:aA (win l o n)=x-y:=mm hZW (by rw[hZl];have hb_:aj 18446744073709551616 (wds y)=y:=aR y;rw[hb_] at inv;exact inv) oM hbo;have hwm:=ma hZW;rw[hE,hZl] at hwm
  have htl:=fL (win l o n) n;exact hs.retM hmo [] (qS (some ⟨rb,o,none⟩) (tl (win l o n) n) c) ⟨l,o,_,_,rfl,hll,hW,by omega,by omega,(by rw[hwm];exact (m8 htl).symm),hs.own 0⟩
 have phb4:=oT hb4;refine lB 11 hb4 (ah (cl (cK (cQ (kZ (ab hs [.m 12 10,.m 6 12] (aG (lL hs [.v 7 (uV 0)] (ah (ab hs [.m 13 6,.m 14 1,.v 15 (nV m)] ?_))))))))));cases hb8:(decide ((i:Int)<(m:Int)))
 ·
  have phb8:=oF hb8;refine lB 16 hb8 (ag (cK (kQ (lL hs [.m 22 0,.m 23 6,.m 24 0,.m 25 6] (DC 26 rb o n c 1 (i:Nat) i (o+i) ?_)))));refine lQ 27 0 l am 1 0 (o+i) (mV ((l).getD (o+i) 0)) hs oM (lL hs [.m 28 7,.m 29 5] ?_);obtain ⟨s9,za,he11,hl12,hm13,hr14⟩:=gW ((l).getD (o+i) 0) 0 bo wM wM oM;refine lV 30 (.tuple #[mV s9,mV za]) ?_ (hr:=cv kR (hr14 _));refine lL hs [.m 21 30,.v 31 (mV s9),.v 32 (mV za)] (DC 33 rb o n c 1 (i:Nat) i (o+i) ?_);refine Fo 0 l am 1 (o+i) s9 hs oM (fun _ pu hs=>?_);replace hmo:=hmo.put pu (List.mem_singleton.2 rfl) hs.g;have zc:((l).set (o+i) s9).length=l0.length:=by rw[List.length_set];exact hll
  replace hs:=hs.to [⟨rb,39,((l).set (o+i) s9).flatMap am⟩] [];refine lL hs [.m 5 32] (lN (kQ (bn 34 ((i:Nat)+1) (i+1) ?_)));refine lL hs [.m 10 34] (lD ?_);intro a_ ka;refine ⟨_,_,?_,⟨i+1,(l).set (o+i) s9,za,h2,rfl,rfl,hs.to _ _,oM,zc,(hW.set _ oM),oM,(by rw[jw oM];exact f5 (by rw[bB oM];omega) inv (by rw[hwg oM];first|omega|(have hy0:=bA (l:=wds y) (k:=i) oM;omega))),hmo⟩,ka.to _ kR⟩
  omega
 have phb8:=oT hb8;refine lB 16 hb8 (ak (kQ (lL hs [.m 17 1,.m 18 6] (lX 19 D m d 1 (i:Nat) i ((hs.f.1).ok oM) ?_))));refine lH 20 (mV ((wds y).getD i 0)) hs ((hs.f.1).el i oM) (lL hs [.m 7 20] (lN (kQ (lL hs [.m 22 0,.m 23 6,.m 24 0,.m 25 6] (DC 26 rb o n c 1 (i:Nat) i (o+i) ?_)))));refine lQ 27 0 l am 1 0 (o+i) (mV ((l).getD (o+i) 0)) hs oM (lL hs [.m 28 7,.m 29 5] ?_);obtain ⟨s23,zb,he25,hl26,hm27,hr28⟩:=gW ((l).getD (o+i) 0) ((wds y).getD i 0) bo wM wM oM;refine lV 30 (.tuple #[mV s23,mV zb]) ?_ (hr:=cv kR (hr28 _));refine lL hs [.m 21 30,.v 31 (mV s23),.v 32 (mV zb)] (DC 33 rb o n c 1 (i:Nat) i (o+i) ?_);refine Fo 0 l am 1 (o+i) s23 hs oM (fun _ pu hs=>?_);replace hmo:=hmo.put pu (List.mem_singleton.2 rfl) hs.g;have zd:((l).set (o+i) s23).length=l0.length:=by rw[List.length_set];exact hll
 replace hs:=hs.to [⟨rb,39,((l).set (o+i) s23).flatMap am⟩] [];refine lL hs [.m 5 32] (lN (kQ (bn 34 ((i:Nat)+1) (i+1) ?_)));refine lL hs [.m 10 34] (lD ?_);intro a_ ka;refine ⟨_,_,?_,⟨i+1,(l).set (o+i) s23,zb,h2,rfl,rfl,hs.to _ _,oM,zd,(hW.set _ oM),oM,(by rw[jw oM];exact f5 (by rw[bB oM];omega) inv (by rw[hwg oM];first|omega|(have hy0:=bA (l:=wds y) (k:=i) oM;omega))),hmo⟩,ka.to _ kR⟩
 omega
theorem Tz.le {n k m:Nat}(t:Tz n k m):m≤n:=by rw[t.1];exact Nat.le_mul_of_pos_left m (Nat.two_pow_pos k)
theorem fH (a b:Nat):(bL a b=0∧a=b)∨(bL a b = -1∧a<b)∨(bL a b=1∧b<a):=by
 rcases Nat.lt_trichotomy a b with h|h|h
 ·exact .inr (.inl ⟨da h,h⟩)
 ·exact .inl ⟨gB h,h⟩
 ·exact .inr (.inr ⟨ei h,h⟩)
theorem qV (A:Option Addr)(c:Nat)(D:Option Addr)(d:Nat)(x y n m_:Nat)(lx ly:List Nat)(ex:lx=wds x)(ey:ly=wds y)(hn:lx.length=n)(hm_:ly.length=m_)(hlx:n≤1000000000)(hly:m_≤1000000000)(w:World)(h:Hp)(g:G w h)(hA:SlO 1 am 0 h A lx)(hD:SlO 1 am 0 h D ly):CV 189 #[.slice A n c,.slice D m_ d] w h (iV (bL x y)):=by
 subst ex ey;exact vC A c D d x y n m_ hn hm_ oM oM w h g hA hD
theorem Et (A:Option Addr)(c:Nat)(l:List Nat)(n x:Nat)(ex:l=wds x)(hn:l.length=n)(hl:n≤1000000000)(w:World)(h:Hp)(g:G w h)(hA:SlO 1 am 0 h A l):CV 191 #[.slice A n c] w h (nv x):=by
 subst ex;have:=xQ A c (wds x) n hn (Wd.wds x) oM w h g hA
 rwa [aR] at this
theorem tT (rb:Nat)(l0:List Nat)(o n c x:Nat)(hl0:l0.length≤1000000000)(hon:o+n≤l0.length)(hnc:n≤c)(hW0:Wd l0)(hwin:win l0 o n=wds x)(D:Option Addr)(d y m:Nat)(ly:List Nat)(ey:ly=wds y)(hm:ly.length=m)(hmd:m≤d)(hyx:y≤x)(w:World)(h:Hp)(g:G w h)(ho:Own w rb 39 (l0.flatMap am))(hj:h[rb]?=some junk)(hD:SlO 1 am 0 h D ly):Calls Tryz.prog 190 #[.slice (some ⟨rb,o,none⟩) n c,.slice D m d] w (dQ rb w h fun v w' _=>∃ z:List Nat,∃ o' n' c':Nat,v=.slice (some ⟨rb,o',none⟩) n' c'∧z.length=l0.length∧Wd z∧o'+n'≤z.length∧n'≤c'∧win z o' n'=wds (x-y)∧Own w' rb 39 (z.flatMap am)):=by
 subst ey;exact EU rb l0 o n c x hl0 hon hnc hW0 hwin D d y m hm hmd hyx w h g ho hj hD
theorem o5 (x y:Nat)(hx:0<x)(hy:0<y)(hlx:(wds x).length≤1000000000)(hly:(wds y).length≤1000000000)(w:World)(h:Hp)(g:G w h)(tb:Tab h):CV 162 #[nv x,nv y] w h (nv (Nat.gcd x y)):=by
 have hs:=((sS g).aB tb);have hpx:=hx;have hpy:=hy;refine go Tryz.func162 [(0,nv x),(1,nv y)] rfl (av (lA 2 41 (nc x) hs (fun b1 w2 h3 hs=>lA 3 41 (nc y) hs (fun b4 w5 h6 hs=>lA 4 41 ([uV 0,eS]) hs (fun b7 w8 h9 hs=>ah ?_)))));obtain ⟨K_,hK_⟩:∃ K_,K_=w8.heap.size:=⟨_,rfl⟩;have hk_b7:b7<K_:=by rw[hK_];exact d6 hs 0
 have hk_b4:b4<K_:=by rw[hK_];exact d6 hs 1
 have hk_b1:b1<K_:=by rw[hK_];exact d6 hs 2
 refine sb ⟨[],some (K_,[])⟩ 0 mixed ?_;have hszK:=hs.g.size;replace hs:=hs.drew;have hKl:=Nat.le_of_eq hK_;refine zO 0 10 [(2,0,2)] (nv x) rfl hKl hs (fun p hp=>by obtain rfl:=List.mem_singleton.1 hp;exact hk_b1) (zO 2 12 [(1,0,2)] (nv y) rfl hKl hs (fun p hp=>by obtain rfl:=List.mem_singleton.1 hp;exact hk_b4) (oK 1 11 (vq x oM oM _ _ hs.g) rfl hKl ?_));rintro _ _ _ u12 hKl ⟨bwx,rfl,hlox,hbcx,hslx⟩;obtain ⟨_,hs,-,-⟩:=hs.take u12 hlox hbcx;replace hs:=hs.to [⟨bwx,39,(wds x).flatMap am⟩,⟨b7,41,[uV 0,eS]⟩,⟨b4,41,nc y⟩,⟨b1,41,nc x⟩] [];refine oK 3 13 (vq y oM oM _ _ hs.g) rfl hKl ?_;rintro _ _ _ u16 hKl ⟨bwy,rfl,hloy,hbcy,hsly⟩;obtain ⟨_,hs,-,-⟩:=hs.take u16 hloy hbcy;replace hs:=hs.to [⟨bwy,39,(wds y).flatMap am⟩,⟨bwx,39,(wds x).flatMap am⟩,⟨b7,41,[uV 0,eS]⟩,⟨b4,41,nc y⟩,⟨b1,41,nc x⟩] [];refine zV 4 5 (qS (sB bwx) ((wds x).length) ((wds x).length)) (zV 5 6 (qS (sB bwy) ((wds y).length) ((wds y).length)) (qI (lL hs [.m 14 5] (FJ 15 1 hs (fun _ g_ f_ sg_=>n7 (sB bwx) (wds x).length (wds x) (wds x).length rfl (Wd.wds x) (by rw[aR];omega) oM _ _ g_ (f_.1) (SlO.of_flat (sz:=1) (f:=am) (d:=0) (b:=bwx) (o:=0) (l:=wds x) (fun _=>rfl) sg_)) ?_))));rintro _ _ _ hs ⟨kx,mx,rfl,htx,hkx⟩;rw[aR] at htx
 refine lL hs [.m 16 6] (FJ 17 0 hs (fun _ g_ f_ sg_=>n7 (sB bwy) (wds y).length (wds y) (wds y).length rfl (Wd.wds y) (by rw[aR];omega) oM _ _ g_ (f_.1) (SlO.of_flat (sz:=1) (f:=am) (d:=0) (b:=bwy) (o:=0) (l:=wds y) (fun _=>rfl) sg_)) ?_);rintro _ _ _ hs ⟨ky,my,rfl,hty,hky⟩;rw[aR] at hty
 refine lV 18 (nV (min kx ky)) ?_ (hr:=aI (n:=if (ky:Int)<(kx:Int) then (ky:Int) else (kx:Int)) kR (by split<;>omega));refine lL hs [.m 7 18] (aG (lL hs [.m 19 5] (dL 20 (pf bwx (wds x) 0 ((wds x).length) ((wds x).length) x hpx oM oM (nR _) (Wd.wds x) (pq _ _ (nR _)) _ _ hs.g (hs.own 1) (hs.jk 1) hs.f.1) ?_)));rintro _ _ _ u27 ⟨z24,o24,n24,zl,rfl,hzl24,hzW24,hzo24,hzc24,⟨kk24,mm24,htt24,hzw24⟩,hO24⟩;replace hs:=(hs.stepM 1 u27 hO24).to [⟨bwy,39,(wds y).flatMap am⟩,⟨bwx,39,(z24).flatMap am⟩,⟨b7,41,[uV 0,eS]⟩,⟨b4,41,nc y⟩,⟨b1,41,nc x⟩] [];have hmp24:=htt24.odd_pos;have hle24:=htt24.le;refine lL hs [.m 21 6] (dL 22 (pf bwy (wds y) 0 ((wds y).length) ((wds y).length) y hpy oM oM (nR _) (Wd.wds y) (pq _ _ (nR _)) _ _ hs.g (hs.own 0) (hs.jk 0) hs.f.1) ?_);rintro _ _ zm u31 ⟨z28,o28,n28,zn,rfl,hzl28,hzW28,hzo28,hzc28,⟨kk28,mm28,htt28,hzw28⟩,hO28⟩;replace hs:=(hs.stepM 0 u31 hO28).to [⟨bwy,39,(z28).flatMap am⟩,⟨bwx,39,(z24).flatMap am⟩,⟨b7,41,[uV 0,eS]⟩,⟨b4,41,nc y⟩,⟨b1,41,nc x⟩] [];have hmp28:=htt28.odd_pos;have hle28:=htt28.le;refine lL hs [.m 5 20,.m 6 22] (ah (kZ ?_));refine bI _ (CG.loop (fun μ_ Γ w_=>∃ (pv:Nat) (l1:List Nat) (o1:Nat) (n1:Nat) (c1:Nat) (pw:Nat) (l2:List Nat) (o2:Nat) (n2:Nat) (c2:Nat) (x1:Nat) (y1:Nat) (h_:Hp),μ_=x1+y1∧Γ=[(4,pB b7),(7,nV (min kx ky)),(5,qS (some ⟨pv,o1,none⟩) n1 c1),(6,qS (some ⟨pw,o2,none⟩) n2 c2)]∧SS w h w_ h_ [⟨pw,39,(l2).flatMap am⟩,⟨pv,39,(l1).flatMap am⟩,⟨b7,41,[uV 0,eS]⟩,⟨b4,41,nc y⟩,⟨b1,41,nc x⟩] [] [fun h_=>Tab h_]∧l1.length≤1000000000∧Wd l1∧o1+n1≤l1.length∧n1≤c1∧win l1 o1 n1=wds x1∧0<x1∧l2.length≤1000000000∧Wd l2∧o2+n2≤l2.length∧n2≤c2∧win l2 o2 n2=wds y1∧0<y1∧x1%2=1∧y1%2=1∧Nat.gcd x1 y1*2^min kx ky=Nat.gcd x y) _ ⟨bwx,z24,o24,n24,zl,bwy,z28,o28,n28,zn,mm24,mm28,zm,rfl,rfl,hs.to _ _,oM,hzW24,hzo24,hzc24,hzw24,hmp24,oM,hzW28,hzo28,hzc28,hzw28,hmp28,htt24.2,htt28.2,(by rw[(htx.uniq htt24).1,(hty.uniq htt28).1];exact (vi htt24 htt28).symm)⟩ ?_);rintro _ _ _ ⟨pv,l1,o1,n1,c1,pw,l2,o2,n2,c2,x1,y1,_,hm34,rfl,hs,hl1,hW1,hon1,hnc1,hwin1,hx1,hl2,hW2,hon2,hnc2,hwin2,hy1,hxo,hyo,hG⟩;have hcmp:=fH x1 y1;have hwl1:=congrArg List.length hwin1;rw[bB hon1] at hwl1
 have hwl2:=congrArg List.length hwin2;rw[bB hon2] at hwl2
 refine kZ (ab hs [.m 23 5,.m 24 6] (FK 25 1 0 hs (fun _ g_ f_ sg_ sh_=>qV (some ⟨pv,o1,none⟩) c1 (some ⟨pw,o2,none⟩) c2 x1 y1 n1 n2 (win l1 o1 n1) (win l2 o2 n2) hwin1 hwin2 (bB hon1) (bB hon2) oM oM _ _ g_ (SlO.win (f:=am) (d:=0) (b:=pv) (l:=l1) (fun _=>rfl) sg_ o1 n1) (SlO.win (f:=am) (d:=0) (b:=pw) (l:=l2) (fun _=>rfl) sh_ o2 n2)) ?_));rintro _ _ _ hs rfl;refine lL hs [.m 8 25] (ah (ab hs [.m 26 8] ?_));cases za:((bL x1 y1:Int) == (0:Int))
 ·
  have zd:=af za;refine lB 27 za (ag (cK (cQ (ab hs [.m 28 8] ?_))));cases zb:(decide ((bL x1 y1:Int)<(0:Int)))
  ·
   have ze:=oF zb;refine lB 29 zb (ag (cK (kQ (lL hs [.m 32 5,.m 33 6] (Fk 34 1 0 hs (fun _ g_ f_ hj_ sh_=>tT pv l1 o1 n1 c1 x1 oM hon1 hnc1 hW1 hwin1 (some ⟨pw,o2,none⟩) c2 y1 n2 (win l2 o2 n2) hwin2 (bB hon2) hnc2 oM _ _ g_ (hs.own 1) hj_ (SlO.win (f:=am) (d:=0) (b:=pw) (l:=l2) (fun _=>rfl) sh_ o2 n2)) ?_)))));rintro _ _ _ u44 ⟨s41,so41,sn41,sc41,rfl,hsl41,hsW41,hso41,hsc41,hsw41,zi⟩;replace hs:=(hs.stepM 1 u44 zi).to [⟨pw,39,(l2).flatMap am⟩,⟨pv,39,(s41).flatMap am⟩,⟨b7,41,[uV 0,eS]⟩,⟨b4,41,nc y⟩,⟨b1,41,nc x⟩] [];refine dL 35 (pf pv s41 so41 sn41 sc41 (x1-y1) oM oM hso41 hsc41 hsW41 hsw41 _ _ hs.g (hs.own 1) (hs.jk 1) hs.f.1) ?_;rintro _ _ zo u48 ⟨z45,o45,n45,zp,rfl,hzl45,hzW45,hzo45,hzc45,⟨kk45,mm45,htt45,hzw45⟩,hO45⟩;replace hs:=(hs.stepM 1 u48 hO45).to [⟨pw,39,(l2).flatMap am⟩,⟨pv,39,(z45).flatMap am⟩,⟨b7,41,[uV 0,eS]⟩,⟨b4,41,nc y⟩,⟨b1,41,nc x⟩] [];have hmp45:=htt45.odd_pos;have hle45:=htt45.le;refine lL hs [.m 5 35] (lD ?_);intro a_ ka;refine ⟨_,_,?_,⟨pv,z45,o45,n45,zp,pw,l2,o2,n2,c2,mm45,y1,zo,rfl,rfl,hs.to _ _,oM,hzW45,hzo45,hzc45,hzw45,hmp45,oM,hW2,hon2,hnc2,hwin2,hy1,htt45.2,hyo,(by rw[pQ oM hyo htt45];exact hG)⟩,ka.to _ kR⟩
   omega
  have ze:=oT zb;refine lB 29 zb (ak (kQ (lL hs [.m 30 6,.m 31 5,.m 5 30,.m 6 31] (lN (kQ (lL hs [.m 32 5,.m 33 6] (Fk 34 0 1 hs (fun _ g_ f_ hj_ sh_=>tT pw l2 o2 n2 c2 y1 oM hon2 hnc2 hW2 hwin2 (some ⟨pv,o1,none⟩) c1 x1 n1 (win l1 o1 n1) hwin1 (bB hon1) hnc1 oM _ _ g_ (hs.own 0) hj_ (SlO.win (f:=am) (d:=0) (b:=pv) (l:=l1) (fun _=>rfl) sh_ o1 n1)) ?_)))))));rintro _ _ _ u67 ⟨s64,so64,sn64,sc64,rfl,hsl64,hsW64,hso64,hsc64,hsw64,zj⟩;replace hs:=(hs.stepM 0 u67 zj).to [⟨pw,39,(s64).flatMap am⟩,⟨pv,39,(l1).flatMap am⟩,⟨b7,41,[uV 0,eS]⟩,⟨b4,41,nc y⟩,⟨b1,41,nc x⟩] [];refine dL 35 (pf pw s64 so64 sn64 sc64 (y1-x1) oM oM hso64 hsc64 hsW64 hsw64 _ _ hs.g (hs.own 0) (hs.jk 0) hs.f.1) ?_;rintro _ _ zq u71 ⟨z68,o68,n68,zr,rfl,hzl68,hzW68,hzo68,hzc68,⟨kk68,mm68,htt68,hzw68⟩,hO68⟩;replace hs:=(hs.stepM 0 u71 hO68).to [⟨pw,39,(z68).flatMap am⟩,⟨pv,39,(l1).flatMap am⟩,⟨b7,41,[uV 0,eS]⟩,⟨b4,41,nc y⟩,⟨b1,41,nc x⟩] [];have hmp68:=htt68.odd_pos;have hle68:=htt68.le;refine lL hs [.m 5 35] (lD ?_);replace hs:=hs.perm (List.Perm.swap _ _ _);intro a_ ka;refine ⟨_,_,?_,⟨pw,z68,o68,n68,zr,pv,l1,o1,n1,c1,mm68,x1,zq,rfl,rfl,hs.to _ _,oM,hzW68,hzo68,hzc68,hzw68,hmp68,oM,hW1,hon1,hnc1,hwin1,hx1,htt68.2,hxo,(by rw[pQ oM hxo htt68,Nat.gcd_comm];exact hG)⟩,ka.to _ kR⟩
  omega
 have zd:=eq_of_beq za;refine lB 27 za (ak (CG.exit ?_))
 show CG _ _ _ _ _ _ _ _
 refine ab hs [.m 36 5] (FJ 37 1 hs (fun _ g_ f_ sg_=>Et (some ⟨pv,o1,none⟩) c1 (win l1 o1 n1) n1 x1 hwin1 (bB hon1) oM _ _ g_ (SlO.win (f:=am) (d:=0) (b:=pv) (l:=l1) (fun _=>rfl) sg_ o1 n1)) ?_);rintro _ _ _ hs rfl;refine lA 9 41 ([uV 0,eS]) hs (fun zg _ zs hs=>lP 0 0 (nc x1) hs (fun _ hs=>ah (kZ ?_)));refine bI _ (CG.loop (fun μ_ Γ w_=>∃ (z:Int) (a:Nat) (h_:Hp),μ_=z.toNat∧Γ=[(4,pB b7),(9,pB zg),(7,iV z)]∧SS w h w_ h_ [⟨zg,41,nc a⟩,⟨pw,39,(l2).flatMap am⟩,⟨pv,39,(l1).flatMap am⟩,⟨b7,41,[uV 0,eS]⟩,⟨b4,41,nc y⟩,⟨b1,41,nc x⟩] [] [fun h_=>Tab h_]∧z≤64000000000∧a*2^z.toNat=Nat.gcd x y) _ ⟨((min kx ky:Nat):Int),x1,zs,rfl,rfl,hs.to _ _,oM,(by rw[show x1=y1 by omega,Nat.gcd_self] at hG;rw[show x1=y1 by omega];rw[show (((min kx ky:Nat):Int)).toNat=min kx ky by omega];exact hG)⟩ ?_);rintro _ _ _ ⟨z,a,_,hm97,rfl,hs,hz,ha⟩;refine cQ (ab hs [.m 38 7] ?_);cases zc:(decide ((0:Int)<(z:Int)))
 ·
  have zf:=oF zc;refine lB 39 zc (ag (CG.exit ?_))
  show CG _ _ _ _ _ _ _ _
  exact ab hs [.o 46 (nv a) 0 0 2] (lP 3 0 (nc a) hs (fun _ hs=>ae hs [(3,0,2)] (nv a) (by rw[show z.toNat=0 by omega,Nat.pow_zero,Nat.mul_one] at ha;rw[ha])))
 have zf:=oT zc;refine lB 39 zc (ak (cK (cQ (kZ (kQ (lL hs [.o 42 (nv a) 0 0 2,.m 43 7] (lV 44 (nV (min z.toNat 65536)) ?_ (hr:=aI (n:=if (65536:Int)<z then (65536:Int) else z) kR (by split<;>omega)))))))));refine ai 45 hs (BB a (min z.toNat 65536) (by have:=co (show a≤x by exact Nat.le_trans (Nat.le_mul_of_pos_right a (Nat.two_pow_pos z.toNat)) (by rw[ha];exact Nat.gcd_le_left y hx));omega) oM _ _ hs.g) (fun _ zk hs=>lP 0 0 (nc (a*2^min z.toNat 65536)) hs (fun _ hs=>lN (kQ (lL hs [.m 40 7] (lI 41 (z-65536) ?_)))));refine lL hs [.m 7 41] (lD ?_);intro a_ ka;refine ⟨_,_,?_,⟨z-65536,a*2^min z.toNat 65536,zk,rfl,rfl,hs.to _ _,oM,(by rw[Nat.mul_assoc,←Nat.pow_add,show min z.toNat 65536+(z-65536).toNat=z.toNat by omega];exact ha)⟩,ka.to _ kR⟩
 omega
theorem fU (n:Nat):(n=0∧nb n=0)∨(0<n∧0<nb n):=by
 rcases Nat.eq_zero_or_pos n with h|h
 ·subst h;exact .inl ⟨rfl,rfl⟩
 ·exact .inr ⟨h,(bU h).2.2⟩
theorem eo (x y:Nat):Nat.gcd y (x%y)=Nat.gcd x y:=by rw[Nat.gcd_comm y,←Nat.gcd_rec,Nat.gcd_comm]
theorem sv (n:Nat)(w:World)(h:Hp)(g:G w h):CR 161 #[nv n] w h (fun v _=>∃ s:Nat,∃ ok:Bool,v=.tuple #[mV s,.bool ok]∧(ok=true→s=n∧n<18446744073709551616)):=by
 rcases Nat.lt_or_ge n 18446744073709551616 with hn|hn
 ·refine (g7 n hn w h g).mono ?_
  rintro _ w' ⟨_,h',rfl,u,rfl⟩;exact ⟨_,h',rfl,u,n,true,rfl,fun _=>⟨rfl,hn⟩⟩
 ·refine (Ak n hn w h g).mono ?_
  rintro _ w' ⟨_,h',rfl,u,rfl⟩;exact ⟨_,h',rfl,u,0,false,rfl,fun e=>by cases e⟩
theorem Gc (a b:Int)(hla:(wds (aa a)).length≤1000000000)(hlb:(wds (aa b)).length≤1000000000)(w:World)(h:Hp)(g:G w h)(tb:Tab h):CV 117 #[iv a,iv b] w h (nv (Nat.gcd (aa a) (aa b))):=by
 have hs:=((sS g).aB tb);refine go Tryz.func117 [(0,iv a),(1,iv b)] rfl (av (lA 2 43 (ic a) hs (fun b1 w2 h3 hs=>lA 3 43 (ic b) hs (fun b4 w5 h6 hs=>lA 4 41 ([uV 0,eS]) hs (fun b7 w8 h9 hs=>ah ?_)))));have hsr:=hs;refine xh 6 [⟨4,5,.cells (List.toArray [uV 0,eS]) 41 (0,0)⟩,⟨5,6,.cells (List.toArray [uV 0,eS]) 41 (0,0)⟩] [] mixed hs (bP (fb kR (fun _ _=>by kernel_rfl)) (bP (fb kR (fun _ _=>by kernel_rfl)) ar)) (eV 0 14 (qP b1 1) (eO 1 15 [(2,1,2)] (nv (aa a)) hs (eV 2 16 (qP b4 1) (rM 3 17 [(1,1,2)] (nv (aa b)) hsr hs (BF hsr hs 41 [uV 0,eS] 41 [uV 0,eS] (fun _ _ za zb hz14 hz15 hs=>tP 6 0 0 (nc (aa a)) hs (fun _ hs=>?_) (hz:=gu hz14)))))));refine tP 7 1 0 (nc (aa b)) hs (fun _ hs=>?_) (hz:=gu hz15);refine tN (cQ (ab hs [.o 18 (nv (aa a)) 0 0 2,.o 19 (nv (aa b)) 1 0 2] (ai 20 hs (jZ (aa a) (aa b) aM aM _ _ hs.g) (fun _ _ hs=>?_))));have hcm:=fH (aa a) (aa b);cases zc:(decide ((bL (aa a) (aa b):Int)<(0:Int)))
 ·
  have zm:=oF zc;refine lB 21 zc (ag (cK (cQ (av ?_))));have hgc:Nat.gcd (aa a) (aa b)=Nat.gcd (aa a) (aa b):=by first|rfl|exact Nat.gcd_comm _ _
  refine lL hs [.o 24 (nv (aa b)) 1 0 2] (ai 25 hs (dW (aa b) (by first|assumption|exact au (Nat.le_of_lt (Nat.mod_lt _ oM)) aM) _ _ hs.g) (fun _ _ hs=>?_));have hnb4:=fU (aa b);cases zd:(((nb (aa b):Nat):Int) == (0:Int))
  ·
   have zn:=af zd;refine lB 26 zd (ag (cK (ab hs [.o 29 (nv (aa a)) 0 0 2,.o 30 (nv (aa b)) 1 0 2] (ai 31 hs (CP (aa a) (aa b) oM aM aM _ _ hs.g) (fun _ _ hs=>?_)))));have hmd:=Nat.mod_lt (aa a) (show 0<(aa b) by omega);refine lL hs [.m 28 31,.v 32 (nv ((aa a)/(aa b))),.v 33 (nv ((aa a)%(aa b))),.v 34 qT] (lA 7 41 ([uV 0,eS]) hs (fun zu _ _ hs=>lA 8 41 ([uV 0,eS]) hs (fun zv _ _ hs=>lP 1 0 (nc ((aa a)/(aa b))) hs (fun _ hs=>lP 0 0 (nc ((aa a)%(aa b))) hs (fun _ hs=>lL hs [.m 9 34] (ah ?_))))));have hsr:=hs;refine xh 2 [] [za,zb] mixed hs ar (eO 0 35 [(3,0,2)] (nv (aa b)) hs (rM 1 36 [(0,0,2)] (nv ((aa a)%(aa b))) hsr hs ?_ (hM:=fun p hp=>by obtain rfl:=List.mem_singleton.1 hp;exact fun hm=>by rcases List.mem_cons.1 hm with e|hm;exact ee hs.st (i:=0) (j:=2) kR kR kR e;rcases List.mem_cons.1 hm with e|hm;exact ee hs.st (i:=0) (j:=3) kR kR kR e;cases hm)));refine ce hs (fun _ _ hs=>tP 2 2 0 (nc (aa b)) hs (fun _ hs=>?_) (hz:=dU (List.mem_cons_self)));refine tP 3 3 0 (nc ((aa a)%(aa b))) hs (fun _ hs=>?_) (hz:=dU (List.mem_cons_of_mem _<|List.mem_cons_self));refine tN (cQ (av ?_));have hg2:Nat.gcd (aa b) ((aa a)%(aa b))=Nat.gcd (aa a) (aa b):=by rw[←hgc];exact eo _ _
   refine lL hs [.o 37 (nv ((aa a)%(aa b))) 3 0 2] (ai 38 hs (dW ((aa a)%(aa b)) (by first|assumption|exact au (Nat.le_of_lt (Nat.mod_lt _ oM)) aM) _ _ hs.g) (fun _ _ hs=>?_));have hnb8:=fU ((aa a)%(aa b));cases ze:(((nb ((aa a)%(aa b)):Nat):Int) == (0:Int))
   ·
    have zo:=af ze;refine lB 39 ze (ag (cK (cQ (ab hs [.o 42 (nv (aa b)) 2 0 2] (lC 43 hs (sv (aa b) _ _ hs.g) ?_)))));rintro _ _ _ hs ⟨sp,ok,rfl,hok⟩;refine lL hs [.m 41 43,.v 44 (mV sp),.v 45 (.bool ok),.m 10 44,.m 11 45] (aG (lL hs [.m 46 11] (lN (bI [(4,pB b7),(6,pB zb),(5,pB za),(10,mV sp),(46,.bool ok)] ?_))));cases zf:(ok)
    ·
     try rw[zf] at hs
     try rw[zf]
     exact cY (cK (ab hs [.o 60 (nv (aa b)) 2 0 2,.o 61 (nv ((aa a)%(aa b))) 3 0 2] (ai 62 hs (o5 (aa b) ((aa a)%(aa b)) oM oM (by first|assumption|exact au (Nat.le_of_lt (Nat.mod_lt _ oM)) aM) (by first|assumption|exact au (Nat.le_of_lt (Nat.mod_lt _ oM)) aM) _ _ hs.g hs.f.1) (fun _ _ hs=>lP 4 0 (nc (Nat.gcd (aa b) ((aa a)%(aa b)))) hs (fun _ hs=>ae hs [(4,0,2)] (nv (Nat.gcd (aa b) ((aa a)%(aa b)))) (congrArg nv hg2))))))
    try rw[zf] at hs
    try rw[zf]
    refine cl (ab hs [.o 48 (nv ((aa a)%(aa b))) 3 0 2] (ai 49 hs (g7 ((aa a)%(aa b)) (by have hok_:=hok aM;omega) _ _ hs.g) (fun _ zw hs=>lL hs [.m 47 49,.v 50 (mV ((aa a)%(aa b))),.v 51 qT,.m 12 50,.m 13 51] (ah (kZ ?_)))));refine bI _ (CG.loop (fun μ_ Γ w_=>∃ (p:Nat) (q:Nat) (h_:Hp),μ_=q∧Γ=[(4,pB b7),(6,pB zb),(5,pB za),(10,mV p),(12,mV q)]∧SS w h w_ h_ [⟨zv,41,nc ((aa a)%(aa b))⟩,⟨zu,41,nc ((aa a)/(aa b))⟩,⟨za,41,nc (aa b)⟩,⟨zb,41,nc ((aa a)%(aa b))⟩,⟨b7,41,[uV 0,eS]⟩,⟨b4,43,ic b⟩,⟨b1,43,ic a⟩] [] [fun h_=>Tab h_]∧p<18446744073709551616∧q<18446744073709551616∧Nat.gcd p q=Nat.gcd (aa a) (aa b)) _ ⟨sp,((aa a)%(aa b)),zw,rfl,rfl,hs.to _ _,(by have hok_:=hok aM;omega),(by have hok_:=hok aM;omega),(by rw[(hok aM).1];exact hg2)⟩ ?_);rintro _ _ _ ⟨p,q,_,hm51,rfl,hs,hp,hq,hG⟩;refine cQ (ab hs [.m 52 12] ?_);cases zg:(decide ((0:Int)<(q:Int)))
    ·
     have zp:=oF zg;refine lB 53 zg (ag (CG.exit ?_))
     show CG _ _ _ _ _ _ _ _
     exact ab hs [.m 58 10] (ai 59 hs (DY p hp _ _ hs.g) (fun _ _ hs=>lP 4 0 (nc p) hs (fun _ hs=>ae hs [(4,0,2)] (nv p) (congrArg nv (by rw[←hG,show q=0 by omega,Nat.gcd_zero_right])))))
    have zp:=oT zg;refine lB 53 zg (ak (cK (kZ (cR 4 [] mixed hs ar ?_))));refine eV 0 54 (mV q) (eV 1 55 (mV p) (eV 2 56 (mV q) (eV 3 57 (mV (p%q)) ?_ (hv:=fun _=>aI (dC (t:=39) (u:=39) (x:=.tmp 55) (y:=.tmp 56) (k:=.u64) (a:=(p:Int)) (b:=(q:Int)) kR kR kR oM _) (bY p q)))));refine ce hs (fun _ zx hs=>tV 4 10 (mV q) (tV 5 12 (mV (p%q)) (tD ?_)));intro a_ ka;refine ⟨_,_,?_,⟨q,p%q,zx,rfl,rfl,hs.to _ _,hq,(by have:=Nat.mod_lt p (show 0<q by omega);omega),(by rw[eo];exact hG)⟩,ka.to _ kR⟩;have hmq_:=Nat.mod_lt p (show 0<q by omega)
    omega
   have zo:=eq_of_beq ze;exact lB 39 ze (ak (ab hs [.o 40 (nv (aa b)) 2 0 2] (lP 4 0 (nc (aa b)) hs (fun _ hs=>ae hs [(4,0,2)] (nv (aa b)) (congrArg nv (by rw[←hg2,show ((aa a)%(aa b))=0 by omega,Nat.gcd_zero_right]))))))
  have zn:=eq_of_beq zd;exact lB 26 zd (ak (ab hs [.o 27 (nv (aa a)) 0 0 2] (lP 2 0 (nc (aa a)) hs (fun _ hs=>ae hs [(2,0,2)] (nv (aa a)) (congrArg nv (by rw[←hgc,show (aa b)=0 by omega,Nat.gcd_zero_right]))))))
 have zm:=oT zc;refine lB 21 zc (ak (kQ (lL hs [.o 22 (nv (aa b)) 1 0 2,.o 23 (nv (aa a)) 0 0 2] (lP 0 0 (nc (aa b)) hs (fun _ hs=>lP 1 0 (nc (aa a)) hs (fun _ hs=>ah (av ?_)))))));have hgc:Nat.gcd (aa b) (aa a)=Nat.gcd (aa a) (aa b):=by first|rfl|exact Nat.gcd_comm _ _
 refine lL hs [.o 24 (nv (aa a)) 1 0 2] (ai 25 hs (dW (aa a) (by first|assumption|exact au (Nat.le_of_lt (Nat.mod_lt _ oM)) aM) _ _ hs.g) (fun _ _ hs=>?_));have hnb4:=fU (aa a);cases zi:(((nb (aa a):Nat):Int) == (0:Int))
 ·
  have zq:=af zi;refine lB 26 zi (ag (cK (ab hs [.o 29 (nv (aa b)) 0 0 2,.o 30 (nv (aa a)) 1 0 2] (ai 31 hs (CP (aa b) (aa a) oM aM aM _ _ hs.g) (fun _ _ hs=>?_)))));have hmd:=Nat.mod_lt (aa b) (show 0<(aa a) by omega);refine lL hs [.m 28 31,.v 32 (nv ((aa b)/(aa a))),.v 33 (nv ((aa b)%(aa a))),.v 34 qT] (lA 7 41 ([uV 0,eS]) hs (fun zA _ _ hs=>lA 8 41 ([uV 0,eS]) hs (fun zB _ _ hs=>lP 1 0 (nc ((aa b)/(aa a))) hs (fun _ hs=>lP 0 0 (nc ((aa b)%(aa a))) hs (fun _ hs=>lL hs [.m 9 34] (ah ?_))))));have hsr:=hs;refine xh 2 [] [za,zb] mixed hs ar (eO 0 35 [(3,0,2)] (nv (aa a)) hs (rM 1 36 [(0,0,2)] (nv ((aa b)%(aa a))) hsr hs ?_ (hM:=fun p hp=>by obtain rfl:=List.mem_singleton.1 hp;exact fun hm=>by rcases List.mem_cons.1 hm with e|hm;exact ee hs.st (i:=0) (j:=2) kR kR kR e;rcases List.mem_cons.1 hm with e|hm;exact ee hs.st (i:=0) (j:=3) kR kR kR e;cases hm)));refine ce hs (fun _ _ hs=>tP 2 2 0 (nc (aa a)) hs (fun _ hs=>?_) (hz:=dU (List.mem_cons_self)));refine tP 3 3 0 (nc ((aa b)%(aa a))) hs (fun _ hs=>?_) (hz:=dU (List.mem_cons_of_mem _<|List.mem_cons_self));refine tN (cQ (av ?_));have hg2:Nat.gcd (aa a) ((aa b)%(aa a))=Nat.gcd (aa a) (aa b):=by rw[←hgc];exact eo _ _
  refine lL hs [.o 37 (nv ((aa b)%(aa a))) 3 0 2] (ai 38 hs (dW ((aa b)%(aa a)) (by first|assumption|exact au (Nat.le_of_lt (Nat.mod_lt _ oM)) aM) _ _ hs.g) (fun _ _ hs=>?_));have hnb8:=fU ((aa b)%(aa a));cases zj:(((nb ((aa b)%(aa a)):Nat):Int) == (0:Int))
  ·
   have zr:=af zj;refine lB 39 zj (ag (cK (cQ (ab hs [.o 42 (nv (aa a)) 2 0 2] (lC 43 hs (sv (aa a) _ _ hs.g) ?_)))));rintro _ _ _ hs ⟨sp,ok,rfl,hok⟩;refine lL hs [.m 41 43,.v 44 (mV sp),.v 45 (.bool ok),.m 10 44,.m 11 45] (lN (bI [(4,pB b7),(6,pB zb),(5,pB za),(10,mV sp),(11,.bool ok)] ?_));refine ab hs [.m 46 11] (lN ?_);cases zk:(ok)
   ·
    try rw[zk] at hs
    try rw[zk]
    exact cY (cK (ab hs [.o 60 (nv (aa a)) 2 0 2,.o 61 (nv ((aa b)%(aa a))) 3 0 2] (ai 62 hs (o5 (aa a) ((aa b)%(aa a)) oM oM (by first|assumption|exact au (Nat.le_of_lt (Nat.mod_lt _ oM)) aM) (by first|assumption|exact au (Nat.le_of_lt (Nat.mod_lt _ oM)) aM) _ _ hs.g hs.f.1) (fun _ _ hs=>lP 4 0 (nc (Nat.gcd (aa a) ((aa b)%(aa a)))) hs (fun _ hs=>ae hs [(4,0,2)] (nv (Nat.gcd (aa a) ((aa b)%(aa a)))) (congrArg nv hg2))))))
   try rw[zk] at hs
   try rw[zk]
   refine cl (ab hs [.o 48 (nv ((aa b)%(aa a))) 3 0 2] (ai 49 hs (g7 ((aa b)%(aa a)) (by have hok_:=hok aM;omega) _ _ hs.g) (fun _ zD hs=>lL hs [.m 47 49,.v 50 (mV ((aa b)%(aa a))),.v 51 qT,.m 12 50,.m 13 51] (ah (kZ ?_)))));refine bI _ (CG.loop (fun μ_ Γ w_=>∃ (p:Nat) (q:Nat) (h_:Hp),μ_=q∧Γ=[(4,pB b7),(6,pB zb),(5,pB za),(10,mV p),(12,mV q)]∧SS w h w_ h_ [⟨zB,41,nc ((aa b)%(aa a))⟩,⟨zA,41,nc ((aa b)/(aa a))⟩,⟨za,41,nc (aa a)⟩,⟨zb,41,nc ((aa b)%(aa a))⟩,⟨b7,41,[uV 0,eS]⟩,⟨b4,43,ic b⟩,⟨b1,43,ic a⟩] [] [fun h_=>Tab h_]∧p<18446744073709551616∧q<18446744073709551616∧Nat.gcd p q=Nat.gcd (aa a) (aa b)) _ ⟨sp,((aa b)%(aa a)),zD,rfl,rfl,hs.to _ _,(by have hok_:=hok aM;omega),(by have hok_:=hok aM;omega),(by rw[(hok aM).1];exact hg2)⟩ ?_);rintro _ _ _ ⟨p,q,_,hm95,rfl,hs,hp,hq,hG⟩;refine cQ (ab hs [.m 52 12] ?_);cases zl:(decide ((0:Int)<(q:Int)))
   ·
    have zs:=oF zl;refine lB 53 zl (ag (CG.exit ?_))
    show CG _ _ _ _ _ _ _ _
    exact ab hs [.m 58 10] (ai 59 hs (DY p hp _ _ hs.g) (fun _ _ hs=>lP 4 0 (nc p) hs (fun _ hs=>ae hs [(4,0,2)] (nv p) (congrArg nv (by rw[←hG,show q=0 by omega,Nat.gcd_zero_right])))))
   have zs:=oT zl;refine lB 53 zl (ak (cK (kZ (cR 4 [] mixed hs ar ?_))));refine eV 0 54 (mV q) (eV 1 55 (mV p) (eV 2 56 (mV q) (eV 3 57 (mV (p%q)) ?_ (hv:=fun _=>aI (dC (t:=39) (u:=39) (x:=.tmp 55) (y:=.tmp 56) (k:=.u64) (a:=(p:Int)) (b:=(q:Int)) kR kR kR oM _) (bY p q)))));refine ce hs (fun _ zt hs=>tV 4 10 (mV q) (tV 5 12 (mV (p%q)) (tD ?_)));intro a_ ka;refine ⟨_,_,?_,⟨q,p%q,zt,rfl,rfl,hs.to _ _,hq,(by have:=Nat.mod_lt p (show 0<q by omega);omega),(by rw[eo];exact hG)⟩,ka.to _ kR⟩;have hmq_:=Nat.mod_lt p (show 0<q by omega)
   omega
  have zr:=eq_of_beq zj;exact lB 39 zj (ak (ab hs [.o 40 (nv (aa a)) 2 0 2] (lP 4 0 (nc (aa a)) hs (fun _ hs=>ae hs [(4,0,2)] (nv (aa a)) (congrArg nv (by rw[←hg2,show ((aa b)%(aa a))=0 by omega,Nat.gcd_zero_right]))))))
 have zq:=eq_of_beq zi;exact lB 26 zi (ak (ab hs [.o 27 (nv (aa b)) 0 0 2] (lP 2 0 (nc (aa b)) hs (fun _ hs=>ae hs [(2,0,2)] (nv (aa b)) (congrArg nv (by rw[←hgc,show (aa a)=0 by omega,Nat.gcd_zero_right]))))))
theorem mI (z:Int)(b:Nat)(hd:(b:Int)∣z):bj (decide (z.sign<0)) (aa z/b)=z/b:=by
 obtain ⟨k,rfl⟩:=hd
 rcases Nat.eq_zero_or_pos b with hb|hb
 ·subst hb;simp[bj,aa]
 have e1:aa ((b:Int)*k)/b=k.natAbs:=by
  unfold aa
  rw[Int.natAbs_mul,Int.natAbs_natCast,Nat.mul_div_cancel_left _ hb]
 have e2:((b:Int)*k)/b=k:=Int.mul_ediv_cancel_left _ oM;have e3:((b:Int)*k).sign=k.sign:=by rw[Int.sign_mul,Int.sign_natCast_of_ne_zero oM,Int.one_mul]
 rw[e1,e2,e3]
 unfold bj
 rcases Int.lt_trichotomy k 0 with h|h|h
 ·rw[Int.sign_eq_neg_one_of_neg h];simp;omega
 ·subst h;simp
 ·rw[Int.sign_eq_one_of_pos h];simp;omega
theorem js (a b:Rat):∀ g h:Nat,∀ up:Int,g=Nat.gcd a.den b.den→up=a.num*((b.den/g:Nat):Int)+b.num*((a.den/g:Nat):Int)→h=Nat.gcd (aa up) g →
    (a+b).num=up/h∧(a+b).den=(a.den/g)*(b.den/h)∧(h:Int)∣up∧h∣b.den∧0<h∧0<g:=by
  intro g h up hg hup hh;have hgp:0<g:=by rw[hg];exact Nat.gcd_pos_of_pos_left _ a.den_pos
  have hhp:0<h:=by rw[hh];exact Nat.gcd_pos_of_pos_right _ hgp
  have hga:g∣a.den:=by rw[hg];exact Nat.gcd_dvd_left _ _
  have hgb:g∣b.den:=by rw[hg];exact Nat.gcd_dvd_right _ _
  have hhg:h∣g:=by rw[hh];exact Nat.gcd_dvd_right _ _
  have hhu:(h:Int)∣up:=by
    have h1:h∣up.natAbs:=by rw[hh];exact Nat.gcd_dvd_left _ _
    exact Int.dvd_trans (Int.natCast_dvd_natCast.2 h1) (Int.natAbs_dvd.2 (Int.dvd_refl _))
  have hhb:h∣b.den:=Nat.dvd_trans hhg hgb;refine ⟨?_,?_,hhu,hhb,hhp,hgp⟩
  · show (Rat.add a b).num=_
    delta Rat.add
    dsimp only
    split
    · rename_i h1
      have g1:g=1:=by rw[hg];exact h1
      dsimp only
      clear h1 hg
      subst g1;have hh1:h=1:=by rw[hh];simp
      rw[hh1,hup];simp
    · subst hg hup hh
      dsimp only[Rat.maybeNormalize]
      split
      · rename_i h1
        dsimp only
        unfold aa
        rw[h1];simp
      · dsimp only
        rw[Int.divExact_eq_ediv]
        rfl
  · show (Rat.add a b).den=_
    delta Rat.add
    dsimp only
    split
    · rename_i h1
      have g1:g=1:=by rw[hg];exact h1
      dsimp only
      clear h1 hg
      subst g1;have hh1:h=1:=by rw[hh];simp
      rw[hh1];simp
    · subst hg hup hh
      dsimp only[Rat.maybeNormalize]
      split
      · rename_i h1
        dsimp only
        unfold aa
        rw[h1];simp
      · dsimp only
        rw[Nat.divExact_eq_div]
        unfold aa at *
        rw[Nat.mul_div_assoc _ hhb]
theorem jA (a b:Rat):∀ g h:Nat,g=Nat.gcd (aa a.num) b.den→h=Nat.gcd (aa b.num) a.den →
  (a*b).num=(a.num/g)*(b.num/h)∧(a*b).den=(a.den/h)*(b.den/g)∧(g:Int)∣a.num∧(h:Int)∣b.num∧0<g∧0<h:=by
 intro g h hg hh;have hgp:0<g:=by rw[hg];exact Nat.gcd_pos_of_pos_right _ b.den_pos
 have hhp:0<h:=by rw[hh];exact Nat.gcd_pos_of_pos_right _ a.den_pos
 have d1:(g:Int)∣a.num:=by
  have h1:g∣a.num.natAbs:=by rw[hg];exact Nat.gcd_dvd_left _ _
  exact Int.dvd_trans (Int.natCast_dvd_natCast.2 h1) (Int.natAbs_dvd.2 (Int.dvd_refl _))
 have d2:(h:Int)∣b.num:=by
  have h1:h∣b.num.natAbs:=by rw[hh];exact Nat.gcd_dvd_left _ _
  exact Int.dvd_trans (Int.natCast_dvd_natCast.2 h1) (Int.natAbs_dvd.2 (Int.dvd_refl _))
 refine ⟨?_,?_,d1,d2,hgp,hhp⟩
 ·show (Rat.mul a b).num=_
  delta Rat.mul
  dsimp only
  rw[Int.divExact_eq_ediv,Int.divExact_eq_ediv,hg,hh];rfl
 ·show (Rat.mul a b).den=_
  delta Rat.mul
  dsimp only
  rw[Nat.divExact_eq_div,Nat.divExact_eq_div,hg,hh];rfl
theorem gh (n:Int)(d:Nat)(hd:0<d):(mkRat n d).num=n/(Nat.gcd (aa n) d:Nat)∧(mkRat n d).den=d/Nat.gcd (aa n) d∧((Nat.gcd (aa n) d:Nat):Int)∣n∧0<Nat.gcd (aa n) d:=by
 have d1:((Nat.gcd (aa n) d:Nat):Int)∣n:=by
  have h1:Nat.gcd (aa n) d∣n.natAbs:=Nat.gcd_dvd_left _ _;exact Int.dvd_trans (Int.natCast_dvd_natCast.2 h1) (Int.natAbs_dvd.2 (Int.dvd_refl _))
 unfold mkRat
 rw[dif_neg oM,Rat.normalize_eq];exact ⟨rfl,rfl,d1,Nat.gcd_pos_of_pos_right _ hd⟩
theorem qA (b:Rat)(h:b.num≠0):(b⁻¹).num=bj (decide (b.num.sign<0)) b.den∧(b⁻¹).den=aa b.num:=by
 have e:b⁻¹=Rat.inv b:=rfl;rw[e]
 delta Rat.inv
 split
 ·rename_i h1
  rw[Int.sign_eq_neg_one_of_neg h1];simp[bj,aa]
 ·split
  ·rename_i h1
   rw[Int.sign_eq_one_of_pos h1];simp[bj,aa]
  ·omega
def LQ (k:Nat)(q:Rat):Prop:=(wds (aa q.num)).length≤k∧(wds q.den).length≤k
theorem dt (n:Nat)(w:World)(h:Hp)(g:G w h):CV 38 #[.bool false,nv n] w h (iv (n:Int)):=vj n w h g
theorem ia (x y:Int)(d:Nat)(hd:d=Nat.gcd (aa x) (aa y))(hla:(wds (aa x)).length≤1000000000)(hlb:(wds (aa y)).length≤1000000000)(w:World)(h:Hp)(g:G w h)(tb:Tab h):CV 117 #[iv x,iv y] w h (nv d):=by
 subst hd;exact Gc x y hla hlb w h g tb
theorem tw {n:Nat}:nb n=1↔n=1:=by
 rcases Nat.eq_zero_or_pos n with h|h
 ·subst h;simp[nb]
 ·have h1:=bU h
  constructor
  ·intro e;rw[e] at h1;omega
  ·intro e;subst e;rfl
theorem nE {n:Nat}:nb n=0↔n=0:=by
 rcases fU n with ⟨h1,h2⟩|⟨h1,h2⟩<;>omega
theorem jM {q:Rat}(h:q.den=1):qd q=0:=by unfold qd;rw[if_pos h]
theorem AD {q:Rat}(h:q.den≠1):qd q=q.den:=by unfold qd;rw[if_neg h]
theorem xw {q:Rat}:qd q=0↔q.den=1:=by
 unfold qd
 have:=q.den_pos
 split<;>omega
theorem GP (q:Rat):(((nb (qd q):Nat):Int) == (0:Int))=decide (q.den=1):=by
 rw[Bool.eq_iff_iff]
 simp only[beq_iff_eq,decide_eq_true_eq]
 rw[←xw,←nE]
 omega
theorem ge {q:Rat}{z:Int}{d:Nat}(hz:q.num=z)(hd:qd q=d):Value.agg #[.bool (ac z),.int .u64 (lo (aa z)),.string (hi (aa z)),.int .u64 (lo d),.string (hi d)]=qv q:=by subst hz hd;rfl
theorem LQ.qd {k:Nat}{q:Rat}(h:LQ k q):(wds (qd q)).length≤k:=by
 unfold Go.Proofs.YtinhhhfjchckcaaGreatDoor.qd
 split
 ·exact Nat.zero_le _
 ·exact h.2
theorem Fj (a:Rat)(ha:LQ 1000000000 a)(w:World)(h:Hp)(g:G w h):CV 118 #[iv a.num,nv a.den] w h (qv a):=by
 have hs:=sS g;obtain ⟨ha1,ha2⟩:=ha;have hn1:=@tw a.den;refine go Tryz.func118 [(0,iv a.num),(1,nv a.den)] rfl (av (lA 2 43 (ic a.num) hs (fun b1 w2 h3 hs=>lA 3 41 (nc a.den) hs (fun b4 w5 h6 hs=>lA 4 45 ([qF,uV 0,eS,uV 0,eS]) hs (fun b7 w8 h9 hs=>ah (ab hs [.o 5 (nv a.den) 1 0 2] (ai 6 hs (dW a.den cf _ _ hs.g) (fun _ _ hs=>?_))))))));cases za:(((nb a.den:Nat):Int) == (1:Int))
 ·
  have zb:=af za;exact lB 7 za (ag (cK (ab hs [.o 10 (iv a.num) 2 0 3,.o 11 (nv a.den) 1 0 2,.v 12 (.agg #[.bool (ac a.num),uV (lo (aa a.num)),.string (hi (aa a.num)),uV (lo a.den),.string (hi a.den)])] (lP 0 0 ([.bool (ac a.num),uV (lo (aa a.num)),.string (hi (aa a.num)),uV (lo a.den),.string (hi a.den)]) hs (fun _ hs=>ae hs [(0,0,5)] (.agg #[.bool (ac a.num),uV (lo (aa a.num)),.string (hi (aa a.num)),uV (lo a.den),.string (hi a.den)]) (ge (q:=a) (d:=a.den) rfl (AD oM)))))))
 have zb:=eq_of_beq za;exact lB 7 za (ak (ab hs [.o 8 (iv a.num) 2 0 3,.v 9 (.agg #[.bool (ac a.num),uV (lo (aa a.num)),.string (hi (aa a.num)),uV 0,eS])] (lP 0 0 ([.bool (ac a.num),uV (lo (aa a.num)),.string (hi (aa a.num)),uV 0,eS]) hs (fun _ hs=>ae hs [(0,0,5)] (.agg #[.bool (ac a.num),uV (lo (aa a.num)),.string (hi (aa a.num)),uV 0,eS]) (ge (q:=a) (d:=0) rfl (jM oM))))))
theorem iL (q:Rat)(z:Int)(d:Nat)(hz:q.num=z)(hd:d=q.den)(hq:LQ 1000000000 q)(w:World)(h:Hp)(g:G w h):CV 118 #[iv z,nv d] w h (qv q):=by
 subst hz hd;exact Fj q hq w h g
theorem bS (z:Int)(g:Nat)(hd:(g:Int)∣z):aa (z/g)≤aa z:=by
 unfold aa
 rcases Nat.eq_zero_or_pos g with h|h
 ·subst h;simp
 ·obtain ⟨k,rfl⟩:=hd
  rw[Int.mul_ediv_cancel_left _ oM,Int.natAbs_mul,Int.natAbs_natCast];exact Nat.le_mul_of_pos_left _ h
theorem fM (a b:Nat)(hb:0<b)(hla:(wds a).length≤1000000000)(hlb:(wds b).length≤1000000000)(w:World)(h:Hp)(g:G w h):CV 120 #[nv a,nv b] w h (nv (a/b)):=by
 have hs:=sS g;have hn1:=@tw b;refine go Tryz.func120 [(0,nv a),(1,nv b)] rfl (av (lA 2 41 (nc a) hs (fun b1 w2 h3 hs=>lA 3 41 (nc b) hs (fun b4 w5 h6 hs=>lA 4 41 ([uV 0,eS]) hs (fun b7 w8 h9 hs=>ah (ab hs [.o 8 (nv b) 1 0 2] (ai 9 hs (dW b cf _ _ hs.g) (fun _ _ hs=>?_))))))));cases za:(((nb b:Nat):Int) == (1:Int))
 ·
  have zb:=af za;exact lB 10 za (ag (cK (ab hs [.o 13 (nv a) 2 0 2,.o 14 (nv b) 1 0 2] (ai 15 hs (CP a b oM aM aM _ _ hs.g) (fun _ _ hs=>lL hs [.m 12 15,.v 16 (nv (a/b)),.v 17 (nv (a%b)),.v 18 qT] (lA 5 41 ([uV 0,eS]) hs (fun b15 _ _ hs=>lA 6 41 ([uV 0,eS]) hs (fun b18 _ _ hs=>lP 1 0 (nc (a/b)) hs (fun _ hs=>lP 0 0 (nc (a%b)) hs (fun _ hs=>lL hs [.m 7 18] (aG (lL hs [.o 19 (nv (a/b)) 1 0 2] (lP 2 0 (nc (a/b)) hs (fun _ hs=>ae hs [(2,0,2)] (nv (a/b)) rfl))))))))))))))
 have zb:=eq_of_beq za;exact lB 10 za (ak (ab hs [.o 11 (nv a) 2 0 2] (lP 0 0 (nc a) hs (fun _ hs=>ae hs [(0,0,2)] (nv a) (by rw[show b=1 by omega,Nat.div_one])))))
theorem ko (z:Int)(b:Nat)(hb:0<b)(hd:(b:Int)∣z)(hla:(wds (aa z)).length≤1000000000)(hlb:(wds b).length≤1000000000)(w:World)(h:Hp)(g:G w h):CV 119 #[iv z,nv b] w h (iv (z/b)):=by
 have hs:=sS g;have hdl:(wds (aa z/b)).length≤1000000000:=au (Nat.div_le_self _ _) hla;refine go Tryz.func119 [(0,iv z),(1,nv b)] rfl (av (lA 2 43 (ic z) hs (fun b1 w2 h3 hs=>lA 3 41 (nc b) hs (fun b4 w5 h6 hs=>lA 4 43 ([qF,uV 0,eS]) hs (fun b7 w8 h9 hs=>ah (cR 8 [] mixed hs ar ?_))))));exact eO 0 5 [(2,0,3)] (iv z) hs (eO 3 8 [(2,0,3)] (iv z) hs (eO 5 10 [(1,0,2)] (nv b) hs (aq 1 6 hs (fun _ _ hs=>ke z cf _ _ hs.g) (fun _ _ hs=>eV 2 7 (.bool (decide (((z).sign:Int)<(0:Int)))) (aq 4 9 hs (fun _ _ hs=>qy z _ _ hs.g) (fun _ _ hs=>aq 6 11 hs (fun _ _ hs=>fM (aa z) b aM cf cf _ _ hs.g) (fun _ _ hs=>aq 7 12 hs (fun _ _ hs=>eL (decide (((z).sign:Int)<(0:Int))) ((aa z)/b) cf _ _ hs.g) (fun _ _ hs=>ce hs (fun _ _ hs=>tP 8 0 0 (ic (bj (decide (((z).sign:Int)<(0:Int))) ((aa z)/b))) hs (fun _ hs=>tN (kX (hs.ret [(0,0,3)] (iv (bj (decide (((z).sign:Int)<(0:Int))) ((aa z)/b))) (congrArg iv (mI z b hd))))))))))))))
theorem f0 (z:Int)(d:Nat)(hl:(wds (aa z)).length+(wds d).length≤1000000000)(w:World)(h:Hp)(g:G w h):CV 129 #[iv z,nv d] w h (iv (z*d)):=by
 have hs:=sS g;refine go Tryz.func129 [(0,iv z),(1,nv d)] rfl (av (lA 2 43 (ic z) hs (fun b1 w2 h3 hs=>lA 3 41 (nc d) hs (fun b4 w5 h6 hs=>lA 4 43 ([qF,uV 0,eS]) hs (fun b7 w8 h9 hs=>ah (cR 4 [] mixed hs ar ?_))))));exact eO 0 5 [(2,0,3)] (iv z) hs (eO 1 6 [(1,0,2)] (nv d) hs (aq 2 7 hs (fun _ _ hs=>dt d _ _ hs.g) (fun _ _ hs=>aq 3 8 hs (fun _ _ hs=>wm z (d:Int) cf _ _ hs.g) (fun _ _ hs=>ce hs (fun _ _ hs=>tP 4 0 0 (ic (z*(d:Int))) hs (fun _ hs=>tN (kX (hs.ret [(0,0,3)] (iv (z*(d:Int))) rfl))))))))
theorem iF (a:Rat)(ha:LQ 100000000 a)(w:World)(h:Hp)(g:G w h):CV 114 #[qv a] w h (.bool (decide (a.den=1))):=by
 have hs:=sS g;have hqd:=ha.qd;exact go Tryz.func114 [(0,qv a)] rfl (av (lA 1 45 (qc a) hs (fun b1 w2 h3 hs=>lL hs [.v 2 qF] (aG (lL hs [.v 3 (qP b1 3),.o 4 (nv (qd a)) 0 3 2] (ai 5 hs (dW (qd a) cf _ _ hs.g) (fun w4 h5 hs=>lL hs [.v 6 (.bool (((nb (qd a):Nat):Int) == (0:Int))),.m 2 6] (ae hs [] (.bool (((nb (qd a):Nat):Int) == (0:Int))) (congrArg Value.bool (GP a))))))))))
theorem en (a:Rat)(ha:LQ 100000000 a)(w:World)(h:Hp)(g:G w h):CV 59 #[qv a] w h (nv a.den):=by
 have hs:=sS g;refine go Tryz.func59 [(0,qv a)] rfl (av (lA 1 45 (qc a) hs (fun b1 w2 h3 hs=>lA 2 41 ([uV 0,eS]) hs (fun b4 w5 h6 hs=>ah (ab hs [.o 3 (qv a) 1 0 5] (ai 4 hs (iF a aM _ _ hs.g) (fun w7 h8 hs=>?_)))))));cases hb9:(decide (a.den=1))
 ·
  have phb9:=oF hb9;exact ag (cK (ab hs [.v 6 (qP b1 3),.o 7 (nv (qd a)) 1 3 2] (lP 0 0 (nc (qd a)) hs (fun _ hs=>ae hs [(0,0,2)] (nv (qd a)) (by rw[AD (by simpa using (by assumption:decide (a.den=1)=false))])))))
 have phb9:=oT hb9;exact ak (av (ai 5 hs (DY 1 oM _ _ hs.g) (fun _ _ hs=>lP 0 0 (nc 1) hs (fun _ hs=>ae hs [(0,0,2)] (nv 1) (by rw[show a.den=1 by simpa using (by assumption:decide (a.den=1)=true)])))))
theorem Fs (a:Rat)(w:World)(h:Hp)(g:G w h):CV 57 #[qv a] w h (iv a.num):=by
 have hs:=sS g;exact go Tryz.func57 [(0,qv a)] rfl (av (lA 1 45 (qc a) hs (fun b1 w2 h3 hs=>lA 2 43 ([qF,uV 0,eS]) hs (fun b4 w5 h6 hs=>aG (lL hs [.v 3 (pB b1),.o 4 (iv a.num) 1 0 3] (lP 0 0 (ic a.num) hs (fun w7 hs=>ae hs [(0,0,3)] (iv a.num) rfl)))))))
theorem ir (a:Rat)(ha:LQ 100000000 a)(w:World)(h:Hp)(g:G w h):CV 71 #[qv a] w h (iV a.num.sign):=by
 have hs:=sS g;obtain ⟨ha1,ha2⟩:=ha;exact go Tryz.func71 [(0,qv a)] rfl (av (lA 1 45 (qc a) hs (fun b1 w2 h3 hs=>lL hs [.v 2 (iV 0)] (aG (lL hs [.v 3 (pB b1),.o 4 (iv a.num) 0 0 3] (ai 5 hs (ke a.num cf _ _ hs.g) (fun w4 h5 hs=>lL hs [.m 2 5] (ae hs [] (iV ((a.num).sign)) rfl))))))))
theorem Bh (z:Int)(h0 : -9223372036854775808≤z)(h1:z≤9223372036854775807)(w:World)(h:Hp)(g:G w h):CV 82 #[iV z] w h (qv (z:Rat)):=by
 have hs:=sS g;exact go Tryz.func82 [(0,iV z)] rfl (av (lA 2 45 ([qF,uV 0,eS,uV 0,eS]) hs (fun b1 w2 h3 hs=>aG (lL hs [.m 3 0] (ai 4 hs (GJ z oM oM _ _ hs.g) (fun w4 h5 hs=>lL hs [.v 5 (.agg #[.bool (ac z),uV (lo (aa z)),.string (hi (aa z)),uV 0,eS])] (lP 0 0 ([.bool (ac z),uV (lo (aa z)),.string (hi (aa z)),uV 0,eS]) hs (fun w6 hs=>ae hs [(0,0,5)] (.agg #[.bool (ac z),uV (lo (aa z)),.string (hi (aa z)),uV 0,eS]) (ge (d:=0) (Rat.num_intCast z) (jM (Rat.den_intCast z)))))))))))
theorem Ff (a:Rat)(ha:LQ 100000000 a)(w:World)(h:Hp)(g:G w h):CV 78 #[qv a] w h (qv (-a)):=by
 have hs:=sS g;obtain ⟨ha1,ha2⟩:=ha;refine go Tryz.func78 [(0,qv a)] rfl (av (lA 1 45 (qc a) hs (fun b1 w2 h3 hs=>lA 2 45 ([qF,uV 0,eS,uV 0,eS]) hs (fun b4 w5 h6 hs=>ah (cR 6 [] mixed hs ar ?_)))));exact eV 0 3 (pB b1) (eO 1 4 [(1,0,3)] (iv a.num) hs (eV 3 6 (qP b1 3) (eO 4 7 [(1,3,2)] (nv (qd a)) hs (aq 2 5 hs (fun _ _ hs=>EV a.num cf _ _ hs.g) (fun w7 h8 hs=>eV 5 8 (.agg #[.bool (ac (-a.num)),uV (lo (aa (-a.num))),.string (hi (aa (-a.num))),uV (lo (qd a)),.string (hi (qd a))]) (ce hs (fun w9 _ hs=>tP 6 0 0 ([.bool (ac (-a.num)),uV (lo (aa (-a.num))),.string (hi (aa (-a.num))),uV (lo (qd a)),.string (hi (qd a))]) hs (fun _ hs=>tN (kX (hs.ret [(0,0,5)] (.agg #[.bool (ac (-a.num)),uV (lo (aa (-a.num))),.string (hi (aa (-a.num))),uV (lo (qd a)),.string (hi (qd a))]) (ge (Rat.neg_num a) (by unfold qd;rw[Rat.neg_den]))))))))))))
theorem qo (z:Int)(d:Nat)(hd:0<d)(hla:(wds (aa z)).length≤1000000000)(hlb:(wds d).length≤1000000000)(w:World)(h:Hp)(g:G w h)(tb:Tab h):CV 65 #[iv z,nv d] w h (qv (mkRat z d)):=by
 have hs:=((sS g).aB tb);obtain ⟨hm1,hm2,hm3,hm4⟩:=gh z d hd;obtain ⟨q,hq⟩:∃ q,q=Nat.gcd (aa z) d:=⟨_,rfl⟩;rw[←hq] at hm1 hm2 hm3 hm4
 have hql:(wds q).length≤1000000000:=au (by rw[hq];exact Nat.gcd_le_right _ hd) hlb;have hLQ:LQ 1000000000 (mkRat z d):=⟨by rw[hm1];exact au (bS z q hm3) hla,by rw[hm2];exact au (Nat.div_le_self _ _) hlb⟩;refine go Tryz.func65 [(0,iv z),(1,nv d)] rfl (av (lA 2 43 (ic z) hs (fun b1 w2 h3 hs=>lA 3 41 (nc d) hs (fun b4 w5 h6 hs=>lA 4 45 ([qF,uV 0,eS,uV 0,eS]) hs (fun b7 w8 h9 hs=>ah ?_)))));have hsr:=hs;refine cR 5 [⟨4,5,.cells (List.toArray [uV 0,eS]) 41 (0,0)⟩] mixed hs (bP (fb kR (fun _ _=>by kernel_rfl)) ar) (eO 0 6 [(2,0,3)] (iv z) hs (eO 1 7 [(1,0,2)] (nv d) hs (aq 2 8 hs (fun _ _ hs=>dt d _ _ hs.g) (fun _ _ hs=>aq 3 9 hs (fun _ _ hs=>ia z (d:Int) q (by first|assumption|exact hq) cf (show (wds d).length≤1000000000 by first|assumption|omega) _ _ hs.g hs.f.1) (fun _ _ hs=>iu [] hsr hs 41 [uV 0,eS] (fun _ _ b16 hs=>tP 5 0 0 (nc q) hs (fun _ hs=>tN (cQ (cR 7 [] mixed hs ar ?_)))))))));exact eO 0 10 [(3,0,3)] (iv z) hs (eO 1 11 [(0,0,2)] (nv q) hs (eO 3 13 [(2,0,2)] (nv d) hs (eO 4 14 [(0,0,2)] (nv q) hs (aq 2 12 hs (fun _ _ hs=>ko z q aM aM cf cf _ _ hs.g) (fun _ _ hs=>aq 5 15 hs (fun _ _ hs=>fM d q aM cf cf _ _ hs.g) (fun _ _ hs=>aq 6 16 hs (fun _ _ hs=>iL (mkRat z d) (z/(q:Int)) (d/q) (by first|assumption|exact hm1|exact (hm1).symm) (by first|assumption|exact hm2.symm) aM _ _ hs.g) (fun _ _ hs=>ce hs (fun _ _ hs=>tP 7 1 0 (qc (mkRat z d)) hs (fun _ hs=>tN (kX (hs.ret [(1,0,5)] (qv (mkRat z d)) rfl)))))))))))
theorem dd (a:Rat)(ha:LQ 100000000 a)(h1:a.den=1)(w:World)(h:Hp)(g:G w h):CV 114 #[qv a] w h (.bool true):=by
 have:=iF a ha w h g;rwa [decide_eq_true h1] at this
theorem eE (a:Rat)(ha:LQ 100000000 a)(h1:a.den≠1)(w:World)(h:Hp)(g:G w h):CV 114 #[qv a] w h (.bool false):=by
 have:=iF a ha w h g;rwa [decide_eq_false h1] at this
theorem AT (x y z:Int)(e:z=x+y)(hl:(wds (aa x)).length+(wds (aa y)).length≤999999999)(w:World)(h:Hp)(g:G w h):CV 128 #[iv x,iv y] w h (iv z):=by
 subst e;exact EW x y hl w h g
theorem gn (x y:Int):(wds (aa (x*y))).length≤(wds (aa x)).length+(wds (aa y)).length:=by
 have:aa (x*y)=aa x*aa y:=Int.natAbs_mul x y;rw[this];exact cC
theorem cM (x:Int)(d:Nat):(wds (aa (x*((d:Nat):Int)))).length≤(wds (aa x)).length+(wds d).length:=gn x (d:Int)
theorem nh (x y:Int):(wds (aa (x+y))).length≤(wds (aa x)).length+(wds (aa y)).length+1 :=
 Nat.le_trans (co (show aa (x+y)≤aa x+aa y from Int.natAbs_add_le x y)) jf
theorem gI {a b:Rat}(ha:a.den=1)(hb:b.den=1):(a+b).num=a.num+b.num∧(a+b).den=1:=by
 obtain ⟨e1,e2,e3,e4,e5,e6⟩:=js a b 1 1 (a.num+b.num) (by rw[ha,hb];rfl) (by rw[ha,hb];simp) (by simp);rw[ha,hb] at e2
 exact ⟨by simpa using e1,by simpa using e2⟩
theorem gH {a b:Rat}(ha:a.den=1)(hb:b.den=1):(a*b).num=a.num*b.num∧(a*b).den=1:=by
 obtain ⟨e1,e2,e3,e4,e5,e6⟩:=jA a b 1 1 (by rw[hb];simp) (by rw[ha];simp);rw[ha,hb] at e2
 exact ⟨by simpa using e1,by simpa using e2⟩
theorem Cx (a b:Rat)(ha:LQ 100000000 a)(hb:LQ 100000000 b)(hwa:a.den=1)(hwb:b.den=1)(w:World)(h:Hp)(g:G w h)(tb:Tab h):CV 74 #[qv a,qv b] w h (qv (a+b)):=by
 have hs:=((sS g).aB tb);have ha_:=ha;have hb_:=hb;obtain ⟨ha1,ha2⟩:=ha_;obtain ⟨hb1,hb2⟩:=hb_;exact go Tryz.func74 [(0,qv a),(1,qv b)] rfl (av (lA 2 45 (qc a) hs (fun b1 w2 h3 hs=>lA 3 45 (qc b) hs (fun b4 w5 h6 hs=>lA 4 45 ([qF,uV 0,eS,uV 0,eS]) hs (fun b7 w8 h9 hs=>ah (ab hs [.o 10 (qv a) 2 0 5] (ai 11 hs (dd a aM aM _ _ hs.g) (fun _ _ hs=>lL hs [.m 12 11,.o 13 (qv b) 1 0 5] (ai 14 hs (dd b aM aM _ _ hs.g) (fun _ _ hs=>lL hs [.v 15 qT] (ak (ab hs [.v 16 (pB b1),.o 17 (iv a.num) 2 0 3,.v 18 (pB b4),.o 19 (iv b.num) 1 0 3] (ai 20 hs (EW a.num b.num cf _ _ hs.g) (fun _ _ hs=>lL hs [.v 21 (.agg #[.bool (ac (a.num+b.num)),uV (lo (aa (a.num+b.num))),.string (hi (aa (a.num+b.num))),uV 0,eS])] (lP 0 0 ([.bool (ac (a.num+b.num)),uV (lo (aa (a.num+b.num))),.string (hi (aa (a.num+b.num))),uV 0,eS]) hs (fun _ hs=>ae hs [(0,0,5)] (.agg #[.bool (ac (a.num+b.num)),uV (lo (aa (a.num+b.num))),.string (hi (aa (a.num+b.num))),uV 0,eS]) (ge (d:=0) (gI hwa hwb).1 (jM (gI hwa hwb).2))))))))))))))))))
theorem Da (a b:Rat)(ha:LQ 100000000 a)(hb:LQ 100000000 b)(hwa:a.den≠1)(w:World)(h:Hp)(g:G w h)(tb:Tab h):CV 74 #[qv a,qv b] w h (qv (a+b)):=by
 have hs:=((sS g).aB tb);have ha_:=ha;have hb_:=hb;obtain ⟨ha1,ha2⟩:=ha;obtain ⟨hb1,hb2⟩:=hb;obtain ⟨q,hq⟩:∃ q,q=Nat.gcd a.den b.den:=⟨_,rfl⟩;obtain ⟨up,hup⟩:∃ up,up=a.num*((b.den/q:Nat):Int)+b.num*((a.den/q:Nat):Int):=⟨_,rfl⟩;obtain ⟨r,hr⟩:∃ r,r=Nat.gcd (aa up) q:=⟨_,rfl⟩;obtain ⟨hm1,hm2,hd1,hd2,hr0,hq0⟩:=js a b q r up hq hup hr;have hql:(wds q).length≤100000000:=au (by rw[hq];exact Nat.gcd_le_left _ a.den_pos) ha2;have hrl:(wds r).length≤100000000:=au (by rw[hr];exact Nat.gcd_le_right _ hq0) hql;have haq:(wds (a.den/q)).length≤100000000:=au (Nat.div_le_self _ _) ha2;have hbq:(wds (b.den/q)).length≤100000000:=au (Nat.div_le_self _ _) hb2;have hbr:(wds (b.den/r)).length≤100000000:=au (Nat.div_le_self _ _) hb2;have hx1:=cM a.num (b.den/q);have hx2:=cM b.num (a.den/q);have hul:(wds (aa up)).length≤999999999:=Nat.le_trans (by rw[hup];exact nh _ _) oM;have hdl:=@cC (a.den/q) (b.den/r);have hLQ:LQ 1000000000 (a+b):=⟨by rw[hm1];exact au (bS up r hd1) oM,by rw[hm2];omega⟩;have ha:=ha_;have hb:=hb_;refine go Tryz.func74 [(0,qv a),(1,qv b)] rfl (av (lA 2 45 (qc a) hs (fun b1 w2 h3 hs=>lA 3 45 (qc b) hs (fun b4 w5 h6 hs=>lA 4 45 ([qF,uV 0,eS,uV 0,eS]) hs (fun b7 w8 h9 hs=>ah (ab hs [.o 10 (qv a) 2 0 5] (ai 11 hs (eE a aM aM _ _ hs.g) (fun _ _ hs=>lL hs [.m 12 11] (lG 13 ?_)))))))));refine lG 14 (lL hs [.v 15 qF] (ag (cK (cQ ?_))));have hsr:=hs;refine cR 8 [⟨7,5,.cells (List.toArray [uV 0,eS]) 41 (0,0)⟩] mixed hs (bP (fb kR (fun _ _=>by kernel_rfl)) ar) (eO 0 22 [(2,0,5)] (qv a) hs (eO 3 25 [(1,0,5)] (qv b) hs (aq 1 23 hs (fun _ _ hs=>en a aM _ _ hs.g) (fun _ _ hs=>aq 2 24 hs (fun _ _ hs=>dt a.den _ _ hs.g) (fun _ _ hs=>aq 4 26 hs (fun _ _ hs=>en b aM _ _ hs.g) (fun _ _ hs=>aq 5 27 hs (fun _ _ hs=>dt b.den _ _ hs.g) (fun _ _ hs=>aq 6 28 hs (fun _ _ hs=>ia (a.den:Int) (b.den:Int) q (by first|assumption|exact hq) (show (wds a.den).length≤1000000000 by first|assumption|omega) (show (wds b.den).length≤1000000000 by first|assumption|omega) _ _ hs.g hs.f.1) (fun _ _ hs=>iu [] hsr hs 41 [uV 0,eS] (fun _ _ b24 hs=>tP 8 0 0 (nc q) hs (fun _ hs=>tN (cQ ?_)))))))))));have hsr:=hs;refine xh 10 [⟨8,6,.cells (List.toArray [uV 0,eS]) 41 (0,0)⟩,⟨9,7,.cells (List.toArray [uV 0,eS]) 41 (0,0)⟩] [] mixed hs (bP (fb kR (fun _ _=>by kernel_rfl)) (bP (fb kR (fun _ _=>by kernel_rfl)) ar)) (eO 0 29 [(3,0,5)] (qv a) hs (eO 2 31 [(0,0,2)] (nv q) hs (rM 4 33 [(2,0,5)] (qv b) hsr hs (rM 6 35 [(0,0,2)] (nv q) hsr hs (aq 1 30 hs (fun _ _ hs=>en a aM _ _ hs.g) (fun _ _ hs=>aq 3 32 hs (fun _ _ hs=>fM a.den q aM cf cf _ _ hs.g) (fun _ _ hs=>aq 5 34 hs (fun _ _ hs=>en b aM _ _ hs.g) (fun _ _ hs=>aq 7 36 hs (fun _ _ hs=>fM b.den q aM cf cf _ _ hs.g) (fun _ _ hs=>BF hsr hs 41 [uV 0,eS] 41 [uV 0,eS] (fun _ _ za b37 hz38 hz39 hs=>tP 10 0 0 (nc (a.den/q)) hs (fun _ hs=>?_) (hz:=gu hz38)))))))))));refine tP 11 1 0 (nc (b.den/q)) hs (fun _ hs=>?_) (hz:=gu hz39);refine tN (cQ ?_);have hsr:=hs;refine cR 10 [⟨9,8,.cells (List.toArray [qF,uV 0,eS]) 43 (0,0)⟩] mixed hs (bP (fb kR (fun _ _=>by kernel_rfl)) ar) (eV 0 37 (pB b1) (eO 1 38 [(5,0,3)] (iv a.num) hs (eO 2 39 [(1,0,2)] (nv (b.den/q)) hs (eV 4 41 (pB b4) (eO 5 42 [(4,0,3)] (iv b.num) hs (eO 6 43 [(0,0,2)] (nv (a.den/q)) hs (aq 3 40 hs (fun _ _ hs=>f0 a.num (b.den/q) cf _ _ hs.g) (fun _ _ hs=>aq 7 44 hs (fun _ _ hs=>f0 b.num (a.den/q) cf _ _ hs.g) (fun _ _ hs=>aq 8 45 hs (fun _ _ hs=>AT (a.num*(((b.den/q):Nat):Int)) (b.num*(((a.den/q):Nat):Int)) up hup oM _ _ hs.g) (fun _ _ hs=>iu [] hsr hs 43 [qF,uV 0,eS] (fun _ _ zb hs=>tP 10 0 0 (ic up) hs (fun _ hs=>tN (cQ ?_)))))))))))));have hsr:=hs;refine cR 5 [⟨4,9,.cells (List.toArray [uV 0,eS]) 41 (0,0)⟩] mixed hs (bP (fb kR (fun _ _=>by kernel_rfl)) ar) (eO 0 46 [(0,0,3)] (iv up) hs (eO 1 47 [(3,0,2)] (nv q) hs (aq 2 48 hs (fun _ _ hs=>dt q _ _ hs.g) (fun _ _ hs=>aq 3 49 hs (fun _ _ hs=>ia up (q:Int) r (by first|assumption|exact hr) cf (show (wds q).length≤1000000000 by first|assumption|omega) _ _ hs.g hs.f.1) (fun _ _ hs=>iu [] hsr hs 41 [uV 0,eS] (fun _ _ zc hs=>tP 5 0 0 (nc r) hs (fun _ hs=>tN (bI [(3,pB b4),(4,pB b7),(6,pB za),(8,pB zb),(9,pB zc)] ?_))))))));refine cQ (cR 10 [] mixed hs ar ?_);exact eO 0 50 [(1,0,3)] (iv up) hs (eO 1 51 [(0,0,2)] (nv r) hs (eO 3 53 [(2,0,2)] (nv (a.den/q)) hs (eO 4 54 [(6,0,5)] (qv b) hs (eO 6 56 [(0,0,2)] (nv r) hs (aq 2 52 hs (fun _ _ hs=>ko up r aM aM cf cf _ _ hs.g) (fun _ _ hs=>aq 5 55 hs (fun _ _ hs=>en b aM _ _ hs.g) (fun _ _ hs=>aq 7 57 hs (fun _ _ hs=>fM b.den r aM cf cf _ _ hs.g) (fun _ _ hs=>aq 8 58 hs (fun _ _ hs=>nN (a.den/q) (b.den/r) cf cf _ _ hs.g) (fun _ _ hs=>aq 9 59 hs (fun _ _ hs=>iL (a+b) (up/(r:Int)) ((a.den/q)*(b.den/r)) (by first|assumption|exact hm1|exact (hm1).symm) (by first|assumption|exact hm2.symm) aM _ _ hs.g) (fun _ _ hs=>ce hs (fun _ _ hs=>tP 10 5 0 (qc (a+b)) hs (fun _ hs=>tN (kX (hs.ret [(5,0,5)] (qv (a+b)) rfl))))))))))))))
theorem Bv (a b:Rat)(ha:LQ 100000000 a)(hb:LQ 100000000 b)(hwa:a.den=1)(hwb:b.den≠1)(w:World)(h:Hp)(g:G w h)(tb:Tab h):CV 74 #[qv a,qv b] w h (qv (a+b)):=by
 have hs:=((sS g).aB tb);have ha_:=ha;have hb_:=hb;obtain ⟨ha1,ha2⟩:=ha;obtain ⟨hb1,hb2⟩:=hb;obtain ⟨q,hq⟩:∃ q,q=Nat.gcd a.den b.den:=⟨_,rfl⟩;obtain ⟨up,hup⟩:∃ up,up=a.num*((b.den/q:Nat):Int)+b.num*((a.den/q:Nat):Int):=⟨_,rfl⟩;obtain ⟨r,hr⟩:∃ r,r=Nat.gcd (aa up) q:=⟨_,rfl⟩;obtain ⟨hm1,hm2,hd1,hd2,hr0,hq0⟩:=js a b q r up hq hup hr;have hql:(wds q).length≤100000000:=au (by rw[hq];exact Nat.gcd_le_left _ a.den_pos) ha2;have hrl:(wds r).length≤100000000:=au (by rw[hr];exact Nat.gcd_le_right _ hq0) hql;have haq:(wds (a.den/q)).length≤100000000:=au (Nat.div_le_self _ _) ha2;have hbq:(wds (b.den/q)).length≤100000000:=au (Nat.div_le_self _ _) hb2;have hbr:(wds (b.den/r)).length≤100000000:=au (Nat.div_le_self _ _) hb2;have hx1:=cM a.num (b.den/q);have hx2:=cM b.num (a.den/q);have hul:(wds (aa up)).length≤999999999:=Nat.le_trans (by rw[hup];exact nh _ _) oM;have hdl:=@cC (a.den/q) (b.den/r);have hLQ:LQ 1000000000 (a+b):=⟨by rw[hm1];exact au (bS up r hd1) oM,by rw[hm2];omega⟩;have ha:=ha_;have hb:=hb_;refine go Tryz.func74 [(0,qv a),(1,qv b)] rfl (av (lA 2 45 (qc a) hs (fun b1 w2 h3 hs=>lA 3 45 (qc b) hs (fun b4 w5 h6 hs=>lA 4 45 ([qF,uV 0,eS,uV 0,eS]) hs (fun b7 w8 h9 hs=>ah (ab hs [.o 10 (qv a) 2 0 5] (ai 11 hs (dd a aM aM _ _ hs.g) (fun _ _ hs=>lL hs [.m 12 11,.o 13 (qv b) 1 0 5] (ai 14 hs (eE b aM aM _ _ hs.g) (fun _ _ hs=>lL hs [.v 15 qF] (ag (cK (cQ ?_)))))))))))));have hsr:=hs;refine cR 8 [⟨7,5,.cells (List.toArray [uV 0,eS]) 41 (0,0)⟩] mixed hs (bP (fb kR (fun _ _=>by kernel_rfl)) ar) (eO 0 22 [(2,0,5)] (qv a) hs (eO 3 25 [(1,0,5)] (qv b) hs (aq 1 23 hs (fun _ _ hs=>en a aM _ _ hs.g) (fun _ _ hs=>aq 2 24 hs (fun _ _ hs=>dt a.den _ _ hs.g) (fun _ _ hs=>aq 4 26 hs (fun _ _ hs=>en b aM _ _ hs.g) (fun _ _ hs=>aq 5 27 hs (fun _ _ hs=>dt b.den _ _ hs.g) (fun _ _ hs=>aq 6 28 hs (fun _ _ hs=>ia (a.den:Int) (b.den:Int) q (by first|assumption|exact hq) (show (wds a.den).length≤1000000000 by first|assumption|omega) (show (wds b.den).length≤1000000000 by first|assumption|omega) _ _ hs.g hs.f.1) (fun _ _ hs=>iu [] hsr hs 41 [uV 0,eS] (fun _ _ b26 hs=>tP 8 0 0 (nc q) hs (fun _ hs=>tN (cQ ?_)))))))))));have hsr:=hs;refine xh 10 [⟨8,6,.cells (List.toArray [uV 0,eS]) 41 (0,0)⟩,⟨9,7,.cells (List.toArray [uV 0,eS]) 41 (0,0)⟩] [] mixed hs (bP (fb kR (fun _ _=>by kernel_rfl)) (bP (fb kR (fun _ _=>by kernel_rfl)) ar)) (eO 0 29 [(3,0,5)] (qv a) hs (eO 2 31 [(0,0,2)] (nv q) hs (rM 4 33 [(2,0,5)] (qv b) hsr hs (rM 6 35 [(0,0,2)] (nv q) hsr hs (aq 1 30 hs (fun _ _ hs=>en a aM _ _ hs.g) (fun _ _ hs=>aq 3 32 hs (fun _ _ hs=>fM a.den q aM cf cf _ _ hs.g) (fun _ _ hs=>aq 5 34 hs (fun _ _ hs=>en b aM _ _ hs.g) (fun _ _ hs=>aq 7 36 hs (fun _ _ hs=>fM b.den q aM cf cf _ _ hs.g) (fun _ _ hs=>BF hsr hs 41 [uV 0,eS] 41 [uV 0,eS] (fun _ _ za b39 hz40 hz41 hs=>tP 10 0 0 (nc (a.den/q)) hs (fun _ hs=>?_) (hz:=gu hz40)))))))))));refine tP 11 1 0 (nc (b.den/q)) hs (fun _ hs=>?_) (hz:=gu hz41);refine tN (cQ ?_);have hsr:=hs;refine cR 10 [⟨9,8,.cells (List.toArray [qF,uV 0,eS]) 43 (0,0)⟩] mixed hs (bP (fb kR (fun _ _=>by kernel_rfl)) ar) (eV 0 37 (pB b1) (eO 1 38 [(5,0,3)] (iv a.num) hs (eO 2 39 [(1,0,2)] (nv (b.den/q)) hs (eV 4 41 (pB b4) (eO 5 42 [(4,0,3)] (iv b.num) hs (eO 6 43 [(0,0,2)] (nv (a.den/q)) hs (aq 3 40 hs (fun _ _ hs=>f0 a.num (b.den/q) cf _ _ hs.g) (fun _ _ hs=>aq 7 44 hs (fun _ _ hs=>f0 b.num (a.den/q) cf _ _ hs.g) (fun _ _ hs=>aq 8 45 hs (fun _ _ hs=>AT (a.num*(((b.den/q):Nat):Int)) (b.num*(((a.den/q):Nat):Int)) up hup oM _ _ hs.g) (fun _ _ hs=>iu [] hsr hs 43 [qF,uV 0,eS] (fun _ _ zb hs=>tP 10 0 0 (ic up) hs (fun _ hs=>tN (cQ ?_)))))))))))));have hsr:=hs;refine cR 5 [⟨4,9,.cells (List.toArray [uV 0,eS]) 41 (0,0)⟩] mixed hs (bP (fb kR (fun _ _=>by kernel_rfl)) ar) (eO 0 46 [(0,0,3)] (iv up) hs (eO 1 47 [(3,0,2)] (nv q) hs (aq 2 48 hs (fun _ _ hs=>dt q _ _ hs.g) (fun _ _ hs=>aq 3 49 hs (fun _ _ hs=>ia up (q:Int) r (by first|assumption|exact hr) cf (show (wds q).length≤1000000000 by first|assumption|omega) _ _ hs.g hs.f.1) (fun _ _ hs=>iu [] hsr hs 41 [uV 0,eS] (fun _ _ zc hs=>tP 5 0 0 (nc r) hs (fun _ hs=>tN (bI [(3,pB b4),(4,pB b7),(6,pB za),(8,pB zb),(9,pB zc)] ?_))))))));refine cQ (cR 10 [] mixed hs ar ?_);exact eO 0 50 [(1,0,3)] (iv up) hs (eO 1 51 [(0,0,2)] (nv r) hs (eO 3 53 [(2,0,2)] (nv (a.den/q)) hs (eO 4 54 [(6,0,5)] (qv b) hs (eO 6 56 [(0,0,2)] (nv r) hs (aq 2 52 hs (fun _ _ hs=>ko up r aM aM cf cf _ _ hs.g) (fun _ _ hs=>aq 5 55 hs (fun _ _ hs=>en b aM _ _ hs.g) (fun _ _ hs=>aq 7 57 hs (fun _ _ hs=>fM b.den r aM cf cf _ _ hs.g) (fun _ _ hs=>aq 8 58 hs (fun _ _ hs=>nN (a.den/q) (b.den/r) cf cf _ _ hs.g) (fun _ _ hs=>aq 9 59 hs (fun _ _ hs=>iL (a+b) (up/(r:Int)) ((a.den/q)*(b.den/r)) (by first|assumption|exact hm1|exact (hm1).symm) (by first|assumption|exact hm2.symm) aM _ _ hs.g) (fun _ _ hs=>ce hs (fun _ _ hs=>tP 10 5 0 (qc (a+b)) hs (fun _ hs=>tN (kX (hs.ret [(5,0,5)] (qv (a+b)) rfl))))))))))))))
theorem CK (a b:Rat)(ha:LQ 100000000 a)(hb:LQ 100000000 b)(w:World)(h:Hp)(g:G w h)(tb:Tab h):CV 74 #[qv a,qv b] w h (qv (a+b)):=by
 by_cases h1:a.den=1
 ·by_cases h2:b.den=1
  ·exact Cx a b ha hb h1 h2 w h g tb
  ·exact Bv a b ha hb h1 h2 w h g tb
 ·exact Da a b ha hb h1 w h g tb
theorem B9 (a b:Rat)(ha:LQ 100000000 a)(hb:LQ 100000000 b)(hwa:a.den=1)(hwb:b.den=1)(w:World)(h:Hp)(g:G w h)(tb:Tab h):CV 76 #[qv a,qv b] w h (qv (a*b)):=by
 have hs:=((sS g).aB tb);have ha_:=ha;have hb_:=hb;obtain ⟨ha1,ha2⟩:=ha_;obtain ⟨hb1,hb2⟩:=hb_;exact go Tryz.func76 [(0,qv a),(1,qv b)] rfl (av (lA 2 45 (qc a) hs (fun b1 w2 h3 hs=>lA 3 45 (qc b) hs (fun b4 w5 h6 hs=>lA 4 45 ([qF,uV 0,eS,uV 0,eS]) hs (fun b7 w8 h9 hs=>ah (ab hs [.o 7 (qv a) 2 0 5] (ai 8 hs (dd a aM aM _ _ hs.g) (fun _ _ hs=>lL hs [.m 9 8,.o 10 (qv b) 1 0 5] (ai 11 hs (dd b aM aM _ _ hs.g) (fun _ _ hs=>lL hs [.v 12 qT] (ak (ab hs [.v 13 (pB b1),.o 14 (iv a.num) 2 0 3,.v 15 (pB b4),.o 16 (iv b.num) 1 0 3] (ai 17 hs (wm a.num b.num cf _ _ hs.g) (fun _ _ hs=>lL hs [.v 18 (.agg #[.bool (ac (a.num*b.num)),uV (lo (aa (a.num*b.num))),.string (hi (aa (a.num*b.num))),uV 0,eS])] (lP 0 0 ([.bool (ac (a.num*b.num)),uV (lo (aa (a.num*b.num))),.string (hi (aa (a.num*b.num))),uV 0,eS]) hs (fun _ hs=>ae hs [(0,0,5)] (.agg #[.bool (ac (a.num*b.num)),uV (lo (aa (a.num*b.num))),.string (hi (aa (a.num*b.num))),uV 0,eS]) (ge (d:=0) (gH hwa hwb).1 (jM (gH hwa hwb).2))))))))))))))))))
theorem CH (a b:Rat)(ha:LQ 100000000 a)(hb:LQ 100000000 b)(hwa:a.den≠1)(w:World)(h:Hp)(g:G w h)(tb:Tab h):CV 76 #[qv a,qv b] w h (qv (a*b)):=by
 have hs:=((sS g).aB tb);have ha_:=ha;have hb_:=hb;obtain ⟨ha1,ha2⟩:=ha;obtain ⟨hb1,hb2⟩:=hb;obtain ⟨q,hq⟩:∃ q,q=Nat.gcd (aa a.num) b.den:=⟨_,rfl⟩;obtain ⟨r,hr⟩:∃ r,r=Nat.gcd (aa b.num) a.den:=⟨_,rfl⟩;obtain ⟨hm1,hm2,hd1,hd2,hq0,hr0⟩:=jA a b q r hq hr;have hql:(wds q).length≤100000000:=au (by rw[hq];exact Nat.gcd_le_right _ b.den_pos) hb2;have hrl:(wds r).length≤100000000:=au (by rw[hr];exact Nat.gcd_le_right _ a.den_pos) ha2;have haq:(wds (aa (a.num/(q:Int)))).length≤100000000:=au (bS _ _ hd1) ha1;have hbr:(wds (aa (b.num/(r:Int)))).length≤100000000:=au (bS _ _ hd2) hb1;have har:(wds (a.den/r)).length≤100000000:=au (Nat.div_le_self _ _) ha2;have hbq:(wds (b.den/q)).length≤100000000:=au (Nat.div_le_self _ _) hb2;have hdl:=@cC (a.den/r) (b.den/q);have hnl:=gn (a.num/(q:Int)) (b.num/(r:Int));have hLQ:LQ 1000000000 (a*b):=⟨by rw[hm1];omega,by rw[hm2];omega⟩;have ha:=ha_;have hb:=hb_;refine go Tryz.func76 [(0,qv a),(1,qv b)] rfl (av (lA 2 45 (qc a) hs (fun b1 w2 h3 hs=>lA 3 45 (qc b) hs (fun b4 w5 h6 hs=>lA 4 45 ([qF,uV 0,eS,uV 0,eS]) hs (fun b7 w8 h9 hs=>ah (ab hs [.o 7 (qv a) 2 0 5] (ai 8 hs (eE a aM aM _ _ hs.g) (fun _ _ hs=>lL hs [.m 9 8] (lG 10 ?_)))))))));refine lG 11 (lL hs [.v 12 qF] (ag (cK (cQ ?_))));have hsr:=hs;refine cR 7 [⟨6,5,.cells (List.toArray [uV 0,eS]) 41 (0,0)⟩] mixed hs (bP (fb kR (fun _ _=>by kernel_rfl)) ar) (eV 0 19 (pB b1) (eO 1 20 [(2,0,3)] (iv a.num) hs (eO 2 21 [(1,0,5)] (qv b) hs (aq 3 22 hs (fun _ _ hs=>en b aM _ _ hs.g) (fun _ _ hs=>aq 4 23 hs (fun _ _ hs=>dt b.den _ _ hs.g) (fun _ _ hs=>aq 5 24 hs (fun _ _ hs=>ia a.num (b.den:Int) q (by first|assumption|exact hq) cf (show (wds b.den).length≤1000000000 by first|assumption|omega) _ _ hs.g hs.f.1) (fun _ _ hs=>iu [] hsr hs 41 [uV 0,eS] (fun _ _ b20 hs=>tP 7 0 0 (nc q) hs (fun _ hs=>tN (cQ ?_))))))))));have hsr:=hs;refine cR 7 [⟨6,6,.cells (List.toArray [uV 0,eS]) 41 (0,0)⟩] mixed hs (bP (fb kR (fun _ _=>by kernel_rfl)) ar) (eV 0 25 (pB b4) (eO 1 26 [(2,0,3)] (iv b.num) hs (eO 2 27 [(3,0,5)] (qv a) hs (aq 3 28 hs (fun _ _ hs=>en a aM _ _ hs.g) (fun _ _ hs=>aq 4 29 hs (fun _ _ hs=>dt a.den _ _ hs.g) (fun _ _ hs=>aq 5 30 hs (fun _ _ hs=>ia b.num (a.den:Int) r (by first|assumption|exact hr) cf (show (wds a.den).length≤1000000000 by first|assumption|omega) _ _ hs.g hs.f.1) (fun _ _ hs=>iu [] hsr hs 41 [uV 0,eS] (fun _ _ b30 hs=>tP 7 0 0 (nc r) hs (fun _ hs=>tN (cQ (cR 19 [] mixed hs ar ?_)))))))))));refine eV 0 31 (pB b1) (eO 1 32 [(4,0,3)] (iv a.num) hs (eO 2 33 [(1,0,2)] (nv q) hs (eV 4 35 (pB b4) (eO 5 36 [(3,0,3)] (iv b.num) hs (eO 6 37 [(0,0,2)] (nv r) hs (eO 9 40 [(4,0,5)] (qv a) hs (eO 11 42 [(0,0,2)] (nv r) hs (eO 13 44 [(3,0,5)] (qv b) hs (eO 15 46 [(1,0,2)] (nv q) hs (aq 3 34 hs (fun _ _ hs=>ko a.num q aM aM cf cf _ _ hs.g) (fun _ _ hs=>aq 7 38 hs (fun _ _ hs=>ko b.num r aM aM cf cf _ _ hs.g) (fun _ _ hs=>aq 8 39 hs (fun _ _ hs=>wm (a.num/(q:Int)) (b.num/(r:Int)) cf _ _ hs.g) (fun _ _ hs=>aq 10 41 hs (fun _ _ hs=>en a aM _ _ hs.g) (fun _ _ hs=>aq 12 43 hs (fun _ _ hs=>fM a.den r aM cf cf _ _ hs.g) (fun _ _ hs=>aq 14 45 hs (fun _ _ hs=>en b aM _ _ hs.g) (fun _ _ hs=>aq 16 47 hs (fun _ _ hs=>fM b.den q aM cf cf _ _ hs.g) (fun _ _ hs=>aq 17 48 hs (fun _ _ hs=>nN (a.den/r) (b.den/q) cf cf _ _ hs.g) (fun _ _ hs=>aq 18 49 hs (fun _ _ hs=>iL (a*b) ((a.num/(q:Int))*(b.num/(r:Int))) ((a.den/r)*(b.den/q)) (by first|assumption|exact hm1|exact (hm1).symm) (by first|assumption|exact hm2.symm) aM _ _ hs.g) (fun _ _ hs=>ce hs (fun _ _ hs=>tP 19 2 0 (qc (a*b)) hs (fun _ hs=>tN (bI [(4,pB b7)] ?_))))))))))))))))))))));exact kX (hs.ret [(2,0,5)] (qv (a*b)) rfl)
theorem Cz (a b:Rat)(ha:LQ 100000000 a)(hb:LQ 100000000 b)(hwa:a.den=1)(hwb:b.den≠1)(w:World)(h:Hp)(g:G w h)(tb:Tab h):CV 76 #[qv a,qv b] w h (qv (a*b)):=by
 have hs:=((sS g).aB tb);have ha_:=ha;have hb_:=hb;obtain ⟨ha1,ha2⟩:=ha;obtain ⟨hb1,hb2⟩:=hb;obtain ⟨q,hq⟩:∃ q,q=Nat.gcd (aa a.num) b.den:=⟨_,rfl⟩;obtain ⟨r,hr⟩:∃ r,r=Nat.gcd (aa b.num) a.den:=⟨_,rfl⟩;obtain ⟨hm1,hm2,hd1,hd2,hq0,hr0⟩:=jA a b q r hq hr;have hql:(wds q).length≤100000000:=au (by rw[hq];exact Nat.gcd_le_right _ b.den_pos) hb2;have hrl:(wds r).length≤100000000:=au (by rw[hr];exact Nat.gcd_le_right _ a.den_pos) ha2;have haq:(wds (aa (a.num/(q:Int)))).length≤100000000:=au (bS _ _ hd1) ha1;have hbr:(wds (aa (b.num/(r:Int)))).length≤100000000:=au (bS _ _ hd2) hb1;have har:(wds (a.den/r)).length≤100000000:=au (Nat.div_le_self _ _) ha2;have hbq:(wds (b.den/q)).length≤100000000:=au (Nat.div_le_self _ _) hb2;have hdl:=@cC (a.den/r) (b.den/q);have hnl:=gn (a.num/(q:Int)) (b.num/(r:Int));have hLQ:LQ 1000000000 (a*b):=⟨by rw[hm1];omega,by rw[hm2];omega⟩;have ha:=ha_;have hb:=hb_;refine go Tryz.func76 [(0,qv a),(1,qv b)] rfl (av (lA 2 45 (qc a) hs (fun b1 w2 h3 hs=>lA 3 45 (qc b) hs (fun b4 w5 h6 hs=>lA 4 45 ([qF,uV 0,eS,uV 0,eS]) hs (fun b7 w8 h9 hs=>ah (ab hs [.o 7 (qv a) 2 0 5] (ai 8 hs (dd a aM aM _ _ hs.g) (fun _ _ hs=>lL hs [.m 9 8,.o 10 (qv b) 1 0 5] (ai 11 hs (eE b aM aM _ _ hs.g) (fun _ _ hs=>lL hs [.v 12 qF] (ag (cK (cQ ?_)))))))))))));have hsr:=hs;refine cR 7 [⟨6,5,.cells (List.toArray [uV 0,eS]) 41 (0,0)⟩] mixed hs (bP (fb kR (fun _ _=>by kernel_rfl)) ar) (eV 0 19 (pB b1) (eO 1 20 [(2,0,3)] (iv a.num) hs (eO 2 21 [(1,0,5)] (qv b) hs (aq 3 22 hs (fun _ _ hs=>en b aM _ _ hs.g) (fun _ _ hs=>aq 4 23 hs (fun _ _ hs=>dt b.den _ _ hs.g) (fun _ _ hs=>aq 5 24 hs (fun _ _ hs=>ia a.num (b.den:Int) q (by first|assumption|exact hq) cf (show (wds b.den).length≤1000000000 by first|assumption|omega) _ _ hs.g hs.f.1) (fun _ _ hs=>iu [] hsr hs 41 [uV 0,eS] (fun _ _ b22 hs=>tP 7 0 0 (nc q) hs (fun _ hs=>tN (cQ ?_))))))))));have hsr:=hs;refine cR 7 [⟨6,6,.cells (List.toArray [uV 0,eS]) 41 (0,0)⟩] mixed hs (bP (fb kR (fun _ _=>by kernel_rfl)) ar) (eV 0 25 (pB b4) (eO 1 26 [(2,0,3)] (iv b.num) hs (eO 2 27 [(3,0,5)] (qv a) hs (aq 3 28 hs (fun _ _ hs=>en a aM _ _ hs.g) (fun _ _ hs=>aq 4 29 hs (fun _ _ hs=>dt a.den _ _ hs.g) (fun _ _ hs=>aq 5 30 hs (fun _ _ hs=>ia b.num (a.den:Int) r (by first|assumption|exact hr) cf (show (wds a.den).length≤1000000000 by first|assumption|omega) _ _ hs.g hs.f.1) (fun _ _ hs=>iu [] hsr hs 41 [uV 0,eS] (fun _ _ b32 hs=>tP 7 0 0 (nc r) hs (fun _ hs=>tN (cQ (cR 19 [] mixed hs ar ?_)))))))))));refine eV 0 31 (pB b1) (eO 1 32 [(4,0,3)] (iv a.num) hs (eO 2 33 [(1,0,2)] (nv q) hs (eV 4 35 (pB b4) (eO 5 36 [(3,0,3)] (iv b.num) hs (eO 6 37 [(0,0,2)] (nv r) hs (eO 9 40 [(4,0,5)] (qv a) hs (eO 11 42 [(0,0,2)] (nv r) hs (eO 13 44 [(3,0,5)] (qv b) hs (eO 15 46 [(1,0,2)] (nv q) hs (aq 3 34 hs (fun _ _ hs=>ko a.num q aM aM cf cf _ _ hs.g) (fun _ _ hs=>aq 7 38 hs (fun _ _ hs=>ko b.num r aM aM cf cf _ _ hs.g) (fun _ _ hs=>aq 8 39 hs (fun _ _ hs=>wm (a.num/(q:Int)) (b.num/(r:Int)) cf _ _ hs.g) (fun _ _ hs=>aq 10 41 hs (fun _ _ hs=>en a aM _ _ hs.g) (fun _ _ hs=>aq 12 43 hs (fun _ _ hs=>fM a.den r aM cf cf _ _ hs.g) (fun _ _ hs=>aq 14 45 hs (fun _ _ hs=>en b aM _ _ hs.g) (fun _ _ hs=>aq 16 47 hs (fun _ _ hs=>fM b.den q aM cf cf _ _ hs.g) (fun _ _ hs=>aq 17 48 hs (fun _ _ hs=>nN (a.den/r) (b.den/q) cf cf _ _ hs.g) (fun _ _ hs=>aq 18 49 hs (fun _ _ hs=>iL (a*b) ((a.num/(q:Int))*(b.num/(r:Int))) ((a.den/r)*(b.den/q)) (by first|assumption|exact hm1|exact (hm1).symm) (by first|assumption|exact hm2.symm) aM _ _ hs.g) (fun _ _ hs=>ce hs (fun _ _ hs=>tP 19 2 0 (qc (a*b)) hs (fun _ hs=>tN (bI [(4,pB b7)] ?_))))))))))))))))))))));exact kX (hs.ret [(2,0,5)] (qv (a*b)) rfl)
theorem uh (a b:Rat)(ha:LQ 100000000 a)(hb:LQ 100000000 b)(w:World)(h:Hp)(g:G w h)(tb:Tab h):CV 76 #[qv a,qv b] w h (qv (a*b)):=by
 by_cases h1:a.den=1
 ·by_cases h2:b.den=1
  ·exact B9 a b ha hb h1 h2 w h g tb
  ·exact Cz a b ha hb h1 h2 w h g tb
 ·exact CH a b ha hb h1 w h g tb
theorem LQ.neg {k:Nat}{a:Rat}(h:LQ k a):LQ k (-a):=⟨by rw[Rat.neg_num];unfold aa;rw[Int.natAbs_neg];exact h.1,by rw[Rat.neg_den];exact h.2⟩
theorem FH (a b:Rat)(ha:LQ 100000000 a)(hb:LQ 100000000 b)(w:World)(h:Hp)(g:G w h)(tb:Tab h):CV 75 #[qv a,qv b] w h (qv (a-b)):=by
 have hs:=((sS g).aB tb);have hnb:=hb.neg;refine go Tryz.func75 [(0,qv a),(1,qv b)] rfl (av (lA 2 45 (qc a) hs (fun b1 w2 h3 hs=>lA 3 45 (qc b) hs (fun b4 w5 h6 hs=>lA 4 45 ([qF,uV 0,eS,uV 0,eS]) hs (fun b7 w8 h9 hs=>ah (cR 4 [] mixed hs ar ?_))))));exact eO 0 5 [(2,0,5)] (qv a) hs (eO 1 6 [(1,0,5)] (qv b) hs (aq 2 7 hs (fun _ _ hs=>Ff b aM _ _ hs.g) (fun _ _ hs=>aq 3 8 hs (fun _ _ hs=>CK a (-b) aM aM _ _ hs.g hs.f.1) (fun _ _ hs=>ce hs (fun _ _ hs=>tP 4 0 0 (qc (a+(-b))) hs (fun _ hs=>tN (kX (hs.ret [(0,0,5)] (qv (a+(-b))) (by rw[Rat.sub_eq_add_neg])))))))))
theorem LQ.add {k l:Nat}{a b:Rat}(ha:LQ k a)(hb:LQ l b):LQ (k+l+1) (a+b):=by
 obtain ⟨ha1,ha2⟩:=ha;obtain ⟨hb1,hb2⟩:=hb;obtain ⟨q,hq⟩:∃ q,q=Nat.gcd a.den b.den:=⟨_,rfl⟩;obtain ⟨up,hup⟩:∃ up,up=a.num*((b.den/q:Nat):Int)+b.num*((a.den/q:Nat):Int):=⟨_,rfl⟩;obtain ⟨r,hr⟩:∃ r,r=Nat.gcd (aa up) q:=⟨_,rfl⟩;obtain ⟨hm1,hm2,hd1,hd2,hr0,hq0⟩:=js a b q r up hq hup hr;have haq:=au (Nat.div_le_self a.den q) ha2;have hbq:=au (Nat.div_le_self b.den q) hb2;have hbr:=au (Nat.div_le_self b.den r) hb2;have hx1:=cM a.num (b.den/q);have hx2:=cM b.num (a.den/q);have hdl:=@cC (a.den/q) (b.den/r);refine ⟨?_,by rw[hm2];omega⟩;rw[hm1];refine au (bS up r hd1) ?_;rw[hup];exact Nat.le_trans (co (show aa _≤aa _+aa _ from Int.natAbs_add_le _ _)) (nA oM oM)
theorem LQ.mul {k l:Nat}{a b:Rat}(ha:LQ k a)(hb:LQ l b):LQ (k+l) (a*b):=by
 obtain ⟨ha1,ha2⟩:=ha;obtain ⟨hb1,hb2⟩:=hb;obtain ⟨hm1,hm2,hd1,hd2,hq0,hr0⟩:=jA a b _ _ rfl rfl;refine ⟨?_,?_⟩
 ·rw[hm1]
  have h1:=au (bS _ _ hd1) ha1;have h2:=au (bS _ _ hd2) hb1;exact Nat.le_trans (gn _ _) oM
 ·rw[hm2]
  have h1:=au (Nat.div_le_self a.den (Nat.gcd (aa b.num) a.den)) ha2;have h2:=au (Nat.div_le_self b.den (Nat.gcd (aa a.num) b.den)) hb2;exact Nat.le_trans cC oM
theorem LQ.mono {k l:Nat}{a:Rat}(h:LQ k a)(hkl:k≤l):LQ l a:=⟨Nat.le_trans h.1 hkl,Nat.le_trans h.2 hkl⟩
def du (a b:Rat):Int:=dB (a.num*b.den) (b.num*a.den)
theorem eU {a b:Rat}(h1:a.den=1)(h2:b.den=1):dB a.num b.num=du a b:=by unfold du;rw[h1,h2];simp
theorem fw {a b:Rat}(h:(a.num.sign != b.num.sign)=true):dB a.num b.num=du a b:=by
 have h:a.num.sign≠b.num.sign:=by simpa using h
 have ha:=a.den_pos;have hb:=b.den_pos
 unfold du dB
 rcases Int.lt_trichotomy a.num 0 with p|p|p<;>rcases Int.lt_trichotomy b.num 0 with q|q|q
 ·exact absurd (by rw[Int.sign_eq_neg_one_of_neg p,Int.sign_eq_neg_one_of_neg q]) h
 ·have:a.num*(b.den:Int)<0:=Int.mul_neg_of_neg_of_pos p oM
  rw[q];simp;rw[if_pos p,if_pos this]
 ·have t1:a.num*(b.den:Int)<0:=Int.mul_neg_of_neg_of_pos p oM
  have t2:0<b.num*(a.den:Int):=Int.mul_pos q oM;rw[if_pos oM,if_pos oM]
 ·have:b.num*(a.den:Int)<0:=Int.mul_neg_of_neg_of_pos q oM
  rw[p];simp;rw[if_neg oM,if_pos q,if_neg oM,if_pos this]
 ·exact absurd (by rw[p,q]) h
 ·have:0<b.num*(a.den:Int):=Int.mul_pos q oM
  rw[p];simp;rw[if_pos q,if_pos this]
 ·have t1:0<a.num*(b.den:Int):=Int.mul_pos p oM
  have t2:b.num*(a.den:Int)<0:=Int.mul_neg_of_neg_of_pos q oM;rw[if_neg oM,if_pos oM,if_neg oM,if_pos oM]
 ·have:0<a.num*(b.den:Int):=Int.mul_pos p oM
  rw[q];simp;rw[if_neg oM,if_pos p,if_neg oM,if_pos this]
 ·exact absurd (by rw[Int.sign_eq_one_of_pos p,Int.sign_eq_one_of_pos q]) h
theorem CD (a b:Rat)(ha:LQ 100000000 a)(hb:LQ 100000000 b)(hwa:a.den=1)(hwb:b.den=1)(w:World)(h:Hp)(g:G w h):CV 132 #[qv a,qv b] w h (iV (du a b)):=by
 have hs:=sS g;have ha_:=ha;have hb_:=hb;obtain ⟨ha1,ha2⟩:=ha_;obtain ⟨hb1,hb2⟩:=hb_;have hx1:=cM a.num b.den;have hx2:=cM b.num a.den;refine go Tryz.func132 [(0,qv a),(1,qv b)] rfl (av (lA 2 45 (qc a) hs (fun b1 w2 h3 hs=>lA 3 45 (qc b) hs (fun b4 w5 h6 hs=>lL hs [.v 4 (iV 0)] (ah (cQ (cR 13 [] mixed hs ar ?_)))))));exact eO 0 5 [(1,0,5)] (qv a) hs (aq 1 6 hs (fun _ _ hs=>dd a aM aM _ _ hs.g) (fun w7 h8 hs=>eV 2 7 qT (eO 3 8 [(0,0,5)] (qv b) hs (aq 4 9 hs (fun _ _ hs=>dd b aM aM _ _ hs.g) (fun w9 _ hs=>eV 5 10 qT (eV 6 11 qT (eG 7 12 (eG 8 13 (eG 9 14 (eG 10 15 (eG 11 16 (eV 12 17 qT (ce hs (fun _ _ hs=>tN (cl (ab hs [.v 18 (pB b1),.o 19 (iv a.num) 1 0 3,.v 20 (pB b4),.o 21 (iv b.num) 0 0 3] (ai 22 hs (r8 a.num b.num cf cf _ _ hs.g) (fun _ _ hs=>lL hs [.m 4 22] (ae hs [] (iV (dB a.num b.num)) (congrArg (Value.int .i64) (by first|rfl|exact eU hwa hwb|exact fw ‹_›)))))))))))))))))))))
theorem Dt (a b:Rat)(ha:LQ 100000000 a)(hb:LQ 100000000 b)(hwa:a.den≠1)(w:World)(h:Hp)(g:G w h):CV 132 #[qv a,qv b] w h (iV (du a b)):=by
 have hs:=sS g;have ha_:=ha;have hb_:=hb;obtain ⟨ha1,ha2⟩:=ha_;obtain ⟨hb1,hb2⟩:=hb_;have hx1:=cM a.num b.den;have hx2:=cM b.num a.den;refine go Tryz.func132 [(0,qv a),(1,qv b)] rfl (av (lA 2 45 (qc a) hs (fun b1 w2 h3 hs=>lA 3 45 (qc b) hs (fun b4 w5 h6 hs=>lL hs [.v 4 (iV 0)] (ah (cQ (cR 13 [] mixed hs ar ?_)))))));refine eO 0 5 [(1,0,5)] (qv a) hs (aq 1 6 hs (fun _ _ hs=>eE a aM aM _ _ hs.g) (fun w7 h8 hs=>eV 2 7 qF (eG 3 8 (eG 4 9 (eV 5 10 qF (eV 6 11 qF (eO 7 12 [(1,0,5)] (qv a) hs (eO 9 14 [(0,0,5)] (qv b) hs (aq 8 13 hs (fun _ _ hs=>ir a aM _ _ hs.g) (fun w9 _ hs=>aq 10 15 hs (fun _ _ hs=>ir b aM _ _ hs.g) (fun _ _ hs=>?_)))))))))));cases za:(((a.num).sign:Int) != ((b.num).sign:Int))
 ·
  have zb:=aY za;refine eB 11 16 za (eV 12 17 qF (ce hs (fun _ _ hs=>tN (cY (cK (cQ (cR 11 [] mixed hs ar ?_)))))));exact eV 0 23 (pB b1) (eO 1 24 [(1,0,3)] (iv a.num) hs (eO 2 25 [(0,0,5)] (qv b) hs (eV 5 28 (pB b4) (eO 6 29 [(0,0,3)] (iv b.num) hs (eO 7 30 [(1,0,5)] (qv a) hs (aq 3 26 hs (fun _ _ hs=>en b aM _ _ hs.g) (fun _ _ hs=>aq 4 27 hs (fun _ _ hs=>f0 a.num b.den cf _ _ hs.g) (fun _ _ hs=>aq 8 31 hs (fun _ _ hs=>en a aM _ _ hs.g) (fun _ _ hs=>aq 9 32 hs (fun _ _ hs=>f0 b.num a.den cf _ _ hs.g) (fun _ _ hs=>aq 10 33 hs (fun _ _ hs=>r8 (a.num*(b.den:Int)) (b.num*(a.den:Int)) cf cf _ _ hs.g) (fun _ _ hs=>ce hs (fun _ _ hs=>tV 11 4 (iV (dB (a.num*(b.den:Int)) (b.num*(a.den:Int)))) (tN (kX (hs.ret [] (iV (dB (a.num*(b.den:Int)) (b.num*(a.den:Int)))) (congrArg (Value.int .i64) (by first|rfl|exact eU hwa hwb|exact fw ‹_›)))))))))))))))))
 have zb:=ay za;exact eB 11 16 za (eV 12 17 qT (ce hs (fun _ _ hs=>tN (cl (ab hs [.v 18 (pB b1),.o 19 (iv a.num) 1 0 3,.v 20 (pB b4),.o 21 (iv b.num) 0 0 3] (ai 22 hs (r8 a.num b.num cf cf _ _ hs.g) (fun _ _ hs=>lL hs [.m 4 22] (ae hs [] (iV (dB a.num b.num)) (congrArg (Value.int .i64) (by first|rfl|exact eU hwa hwb|exact fw ‹_›))))))))))
theorem BZ (a b:Rat)(ha:LQ 100000000 a)(hb:LQ 100000000 b)(hwa:a.den=1)(hwb:b.den≠1)(w:World)(h:Hp)(g:G w h):CV 132 #[qv a,qv b] w h (iV (du a b)):=by
 have hs:=sS g;have ha_:=ha;have hb_:=hb;obtain ⟨ha1,ha2⟩:=ha_;obtain ⟨hb1,hb2⟩:=hb_;have hx1:=cM a.num b.den;have hx2:=cM b.num a.den;refine go Tryz.func132 [(0,qv a),(1,qv b)] rfl (av (lA 2 45 (qc a) hs (fun b1 w2 h3 hs=>lA 3 45 (qc b) hs (fun b4 w5 h6 hs=>lL hs [.v 4 (iV 0)] (ah (cQ (cR 13 [] mixed hs ar ?_)))))));refine eO 0 5 [(1,0,5)] (qv a) hs (aq 1 6 hs (fun _ _ hs=>dd a aM aM _ _ hs.g) (fun w7 h8 hs=>eV 2 7 qT (eO 3 8 [(0,0,5)] (qv b) hs (aq 4 9 hs (fun _ _ hs=>eE b aM aM _ _ hs.g) (fun w9 _ hs=>eV 5 10 qF (eV 6 11 qF (eO 7 12 [(1,0,5)] (qv a) hs (eO 9 14 [(0,0,5)] (qv b) hs (aq 8 13 hs (fun _ _ hs=>ir a aM _ _ hs.g) (fun _ _ hs=>aq 10 15 hs (fun _ _ hs=>ir b aM _ _ hs.g) (fun _ _ hs=>?_)))))))))));cases za:(((a.num).sign:Int) != ((b.num).sign:Int))
 ·
  have zb:=aY za;refine eB 11 16 za (eV 12 17 qF (ce hs (fun _ _ hs=>tN (cY (cK (cQ (cR 11 [] mixed hs ar ?_)))))));exact eV 0 23 (pB b1) (eO 1 24 [(1,0,3)] (iv a.num) hs (eO 2 25 [(0,0,5)] (qv b) hs (eV 5 28 (pB b4) (eO 6 29 [(0,0,3)] (iv b.num) hs (eO 7 30 [(1,0,5)] (qv a) hs (aq 3 26 hs (fun _ _ hs=>en b aM _ _ hs.g) (fun _ _ hs=>aq 4 27 hs (fun _ _ hs=>f0 a.num b.den cf _ _ hs.g) (fun _ _ hs=>aq 8 31 hs (fun _ _ hs=>en a aM _ _ hs.g) (fun _ _ hs=>aq 9 32 hs (fun _ _ hs=>f0 b.num a.den cf _ _ hs.g) (fun _ _ hs=>aq 10 33 hs (fun _ _ hs=>r8 (a.num*(b.den:Int)) (b.num*(a.den:Int)) cf cf _ _ hs.g) (fun _ _ hs=>ce hs (fun _ _ hs=>tV 11 4 (iV (dB (a.num*(b.den:Int)) (b.num*(a.den:Int)))) (tN (kX (hs.ret [] (iV (dB (a.num*(b.den:Int)) (b.num*(a.den:Int)))) (congrArg (Value.int .i64) (by first|rfl|exact eU hwa hwb|exact fw ‹_›)))))))))))))))))
 have zb:=ay za;exact eB 11 16 za (eV 12 17 qT (ce hs (fun _ _ hs=>tN (cl (ab hs [.v 18 (pB b1),.o 19 (iv a.num) 1 0 3,.v 20 (pB b4),.o 21 (iv b.num) 0 0 3] (ai 22 hs (r8 a.num b.num cf cf _ _ hs.g) (fun _ _ hs=>lL hs [.m 4 22] (ae hs [] (iV (dB a.num b.num)) (congrArg (Value.int .i64) (by first|rfl|exact eU hwa hwb|exact fw ‹_›))))))))))
theorem Bq (a b:Rat)(ha:LQ 100000000 a)(hb:LQ 100000000 b)(w:World)(h:Hp)(g:G w h):CV 132 #[qv a,qv b] w h (iV (du a b)):=by
 by_cases h1:a.den=1
 ·by_cases h2:b.den=1
  ·exact CD a b ha hb h1 h2 w h g
  ·exact BZ a b ha hb h1 h2 w h g
 ·exact Dt a b ha hb h1 w h g
theorem jC {a b:Rat}:du a b<0↔a<b:=by
 unfold du dB
 rw[Rat.lt_iff]
 split
 ·simp;assumption
 ·split<;>simp<;>omega
theorem jp {a b:Rat}:du a b>0↔b<a:=by
 unfold du dB
 rw[Rat.lt_iff]
 split
 ·simp;omega
 ·split<;>simp<;>omega
def mkR (n d:Int):Rat:=mkRat (if d<0 then -n else n) (aa d)
theorem Eb (a b:Rat)(ha:LQ 100000000 a)(hb:LQ 100000000 b)(w:World)(h:Hp)(g:G w h):CV 81 #[qv a,qv b] w h (qv (if a<b then b else a)):=by
 have hs:=sS g;refine go Tryz.func81 [(0,qv a),(1,qv b)] rfl (av (lA 2 45 (qc a) hs (fun b1 w2 h3 hs=>lA 3 45 (qc b) hs (fun b4 w5 h6 hs=>lA 4 45 ([qF,uV 0,eS,uV 0,eS]) hs (fun b7 w8 h9 hs=>ah (ab hs [.o 5 (qv b) 1 0 5,.o 6 (qv a) 2 0 5] (ai 7 hs (Bq b a aM aM _ _ hs.g) (fun _ _ hs=>?_))))))));cases za:(decide ((0:Int)<(du b a:Int)))
 ·
  have zb:=oF za;exact lB 8 za (ag (cK (ab hs [.o 10 (qv a) 2 0 5] (lP 0 0 (qc a) hs (fun _ hs=>ae hs [(0,0,5)] (qv a) (by rw[if_neg (fun h_=>by have:=jp.2 h_;omega)]))))))
 have zb:=oT za;exact lB 8 za (ak (ab hs [.o 9 (qv b) 1 0 5] (lP 0 0 (qc b) hs (fun _ hs=>ae hs [(0,0,5)] (qv b) (by rw[if_pos (jp.1 oM)])))))
theorem BJ (n d:Int)(hd:d<0)(hla:(wds (aa n)).length≤1000000000)(hlb:(wds (aa d)).length≤1000000000)(w:World)(h:Hp)(g:G w h)(tb:Tab h):CV 36 #[iv n,iv d] w h (.tuple #[qv (mkR n d),.bool true]):=by
 have hs:=((sS g).aB tb);have hds:=Int.sign_eq_neg_one_of_neg hd;have hd0:0<aa d:=by unfold aa;omega
 have hln:(wds (aa (-n))).length≤1000000000:=by unfold aa;rw[Int.natAbs_neg];exact hla
 refine go Tryz.func36 [(0,iv n),(1,iv d)] rfl (av (lA 2 43 (ic n) hs (fun b1 w2 h3 hs=>lA 3 43 (ic d) hs (fun b4 w5 h6 hs=>lA 4 45 ([qF,uV 0,eS,uV 0,eS]) hs (fun b7 w8 h9 hs=>lL hs [.v 5 qF] (ah (ab hs [.o 6 (iv d) 1 0 3] (ai 7 hs (ke d cf _ _ hs.g) (fun _ _ hs=>?_)))))))));have za:(((d).sign:Int) == (0:Int))=false:=cw oM;have phb12:=af za;refine lB 8 za (ag (cK (cQ (ab hs [.o 10 (iv d) 1 0 3] (ai 11 hs (ke d cf _ _ hs.g) (fun _ _ hs=>?_))))));have ⟨zb,phb15⟩:=dT (p:=((d).sign:Int)<(0:Int)) oM;refine lB 12 zb (ak (kQ (lL hs [.o 13 (iv n) 2 0 3] (ai 14 hs (EV n cf _ _ hs.g) (fun _ _ hs=>lP 2 0 (ic (-n)) hs (fun _ hs=>ah (cR 4 [] mixed hs ar ?_)))))));exact eO 0 15 [(2,0,3)] (iv (-n)) hs (eO 1 16 [(1,0,3)] (iv d) hs (aq 2 17 hs (fun _ _ hs=>qy d _ _ hs.g) (fun _ _ hs=>aq 3 18 hs (fun _ _ hs=>qo (-n) (aa d) cf cf cf _ _ hs.g hs.f.1) (fun _ _ hs=>ce hs (fun _ _ hs=>tP 4 0 0 (qc (mkRat (-n) (aa d))) hs (fun _ hs=>tV 5 5 qT (tN (kX (hs.ret [(0,0,5)] (.tuple #[qv (mkRat (-n) (aa d)),qT]) (by unfold mkR;rw[if_pos hd]))))))))))
theorem Bp (n d:Int)(hd:0<d)(hla:(wds (aa n)).length≤1000000000)(hlb:(wds (aa d)).length≤1000000000)(w:World)(h:Hp)(g:G w h)(tb:Tab h):CV 36 #[iv n,iv d] w h (.tuple #[qv (mkR n d),.bool true]):=by
 have hs:=((sS g).aB tb);have hds:=Int.sign_eq_one_of_pos hd;have hd0:0<aa d:=by unfold aa;omega
 refine go Tryz.func36 [(0,iv n),(1,iv d)] rfl (av (lA 2 43 (ic n) hs (fun b1 w2 h3 hs=>lA 3 43 (ic d) hs (fun b4 w5 h6 hs=>lA 4 45 ([qF,uV 0,eS,uV 0,eS]) hs (fun b7 w8 h9 hs=>lL hs [.v 5 qF] (ah (ab hs [.o 6 (iv d) 1 0 3] (ai 7 hs (ke d cf _ _ hs.g) (fun _ _ hs=>?_)))))))));have za:(((d).sign:Int) == (0:Int))=false:=cw oM;have phb12:=af za;refine lB 8 za (ag (cK (cQ (ab hs [.o 10 (iv d) 1 0 3] (ai 11 hs (ke d cf _ _ hs.g) (fun _ _ hs=>?_))))));have ⟨zb,phb15⟩:=dF (p:=((d).sign:Int)<(0:Int)) oM;refine lB 12 zb (ag (cK (cQ (cR 4 [] mixed hs ar ?_))));exact eO 0 15 [(2,0,3)] (iv n) hs (eO 1 16 [(1,0,3)] (iv d) hs (aq 2 17 hs (fun _ _ hs=>qy d _ _ hs.g) (fun _ _ hs=>aq 3 18 hs (fun _ _ hs=>qo n (aa d) cf cf cf _ _ hs.g hs.f.1) (fun _ _ hs=>ce hs (fun _ _ hs=>tP 4 0 0 (qc (mkRat n (aa d))) hs (fun _ hs=>tV 5 5 qT (tN (kX (hs.ret [(0,0,5)] (.tuple #[qv (mkRat n (aa d)),qT]) (by unfold mkR;rw[if_neg oM]))))))))))
theorem EN (n d:Int)(hd:d≠0)(hla:(wds (aa n)).length≤1000000000)(hlb:(wds (aa d)).length≤1000000000)(w:World)(h:Hp)(g:G w h)(tb:Tab h):CV 36 #[iv n,iv d] w h (.tuple #[qv (mkR n d),.bool true]):=by
 rcases Int.lt_trichotomy d 0 with h1|h1|h1
 ·exact BJ n d h1 hla hlb w h g tb
 ·exact absurd h1 hd
 ·exact Bp n d h1 hla hlb w h g tb
theorem rV (a b:Rat)(ha:LQ 100000000 a)(hb:LQ 100000000 b)(hz:b.num≠0)(w:World)(h:Hp)(g:G w h)(tb:Tab h):CV 77 #[qv a,qv b] w h (.tuple #[qv (a/b),.bool true]):=by
 have hs:=((sS g).aB tb);have ha_:=ha;have hb_:=hb;obtain ⟨ha1,ha2⟩:=ha_;obtain ⟨hb1,hb2⟩:=hb_;have hzs:((b.num).sign == (0:Int))=false:=by simpa using hz
 obtain ⟨hi1,hi2⟩:=qA b hz;have hsl:(wds (aa (bj (decide ((b.num).sign<(0:Int))) b.den))).length≤100000000:=by rw[dy];exact hb2
 have hli:LQ 100000000 b⁻¹:=⟨by rw[hi1];exact hsl,by rw[hi2];exact hb1⟩;have hli2:LQ 1000000000 b⁻¹:=hli.mono oM;refine go Tryz.func77 [(0,qv a),(1,qv b)] rfl (av (lA 2 45 (qc a) hs (fun b1 w2 h3 hs=>lA 3 45 (qc b) hs (fun b4 w5 h6 hs=>lA 4 45 ([qF,uV 0,eS,uV 0,eS]) hs (fun b7 w8 h9 hs=>lL hs [.v 5 qF] (ah (ab hs [.o 6 (qv b) 1 0 5] (ai 7 hs (ir b aM _ _ hs.g) (fun _ _ hs=>lV 8 qF ?_ (hr:=rb (e:=((b.num).sign == (0:Int))) kR hzs))))))))));refine ag (cK (cQ (cR 12 [] mixed hs ar ?_)));exact eO 0 10 [(2,0,5)] (qv a) hs (eO 1 11 [(1,0,5)] (qv b) hs (eO 4 14 [(1,0,5)] (qv b) hs (eV 7 17 (pB b4) (eO 8 18 [(1,0,3)] (iv b.num) hs (aq 2 12 hs (fun _ _ hs=>ir b aM _ _ hs.g) (fun _ _ hs=>eV 3 13 (.bool (decide (((b.num).sign:Int)<(0:Int)))) (aq 5 15 hs (fun _ _ hs=>en b aM _ _ hs.g) (fun _ _ hs=>aq 6 16 hs (fun _ _ hs=>eL (decide (((b.num).sign:Int)<(0:Int))) b.den cf _ _ hs.g) (fun _ _ hs=>aq 9 19 hs (fun _ _ hs=>qy b.num _ _ hs.g) (fun _ _ hs=>aq 10 20 hs (fun _ _ hs=>iL b⁻¹ (bj (decide (((b.num).sign:Int)<(0:Int))) b.den) (aa b.num) hi1 hi2.symm aM _ _ hs.g) (fun _ _ hs=>aq 11 21 hs (fun _ _ hs=>uh a (b⁻¹) aM aM _ _ hs.g hs.f.1) (fun _ _ hs=>ce hs (fun _ _ hs=>tP 12 0 0 (qc (a*(b⁻¹))) hs (fun _ hs=>tV 13 5 qT (tN (kX (hs.ret [(0,0,5)] (.tuple #[qv (a*(b⁻¹)),qT]) (by rw[Rat.div_def]))))))))))))))))))
theorem Ex (a:Rat)(hb:LQ 100000000 (0:Rat))(w:World)(h:Hp)(g:G w h):CV 77 #[qv a,qv (0:Rat)] w h (.tuple #[qv 0,.bool false]):=by
 have hs:=sS g;have hzs:((0:Rat).num).sign=0:=rfl;refine go Tryz.func77 [(0,qv a),(1,qv (0:Rat))] rfl (av (lA 2 45 (qc a) hs (fun b1 w2 h3 hs=>lA 3 45 (qc (0:Rat)) hs (fun b4 w5 h6 hs=>lA 4 45 ([qF,uV 0,eS,uV 0,eS]) hs (fun b7 w8 h9 hs=>lL hs [.v 5 qF] (ah (ab hs [.o 6 (qv (0:Rat)) 1 0 5] (ai 7 hs (ir (0:Rat) aM _ _ hs.g) (fun _ _ hs=>?_)))))))));have za:((((0:Rat).num).sign:Int) == (0:Int))=true:=jg oM;have phb12:=eq_of_beq za;exact lB 8 za (ak (ab hs [.v 9 (.agg #[qF,uV 0,eS,uV 0,eS])] (lP 0 0 ([qF,uV 0,eS,uV 0,eS]) hs (fun _ hs=>lL hs [.v 5 qF] (ae hs [(0,0,5)] (.tuple #[.agg #[qF,uV 0,eS,uV 0,eS],qF]) rfl)))))
theorem fE (x:Int)(A:Option Addr)(c:Nat)(hc:(lim (aa x)).length≤c)(hLx:(lim (aa x)).length≤2000000000)(y:Int)(D:Option Addr)(d:Nat)(hd:(lim (aa y)).length≤d)(hLy:(lim (aa y)).length≤2000000000)(w:World)(h:Hp)(g:G w h)(hA:S3 A (lim (aa x)) h)(hD:S3 D (lim (aa y)) h):CR 138 #[.agg #[.bool (ac x),.slice A ((lim (aa x)).length) c],.agg #[.bool (ac y),.slice D ((lim (aa y)).length) d]] w h (fun v h1=>RI h1 v (x*y)):=by
 have hs:=(((sS g).aS hA).aS hD);refine go Tryz.func138 [(0,.agg #[.bool (ac x),qS A ((lim (aa x)).length) c]),(1,.agg #[.bool (ac y),qS D ((lim (aa y)).length) d])] rfl (av (lA 2 26 ([.bool (ac x),qS A ((lim (aa x)).length) c]) hs (fun b1 w2 h3 hs=>lA 3 26 ([.bool (ac y),qS D ((lim (aa y)).length) d]) hs (fun b4 w5 h6 hs=>lA 4 26 ([qF,sZ]) hs (fun b7 w8 h9 hs=>ah (cR 11 [] mixed hs ar ?_))))));refine eV 0 5 (pB b1) (eO 1 6 [(2,0,1)] (.bool (ac x)) hs (eV 2 7 (pB b4) (eO 3 8 [(1,0,1)] (.bool (ac y)) hs (eV 4 9 (.bool ((ac x) != (ac y))) (eV 5 10 (qP b1 1) (eO 6 11 [(2,1,1)] (qS A ((lim (aa x)).length) c) hs (eV 7 12 (qP b4 1) (eO 8 13 [(1,1,1)] (qS D ((lim (aa y)).length) d) hs (eC 9 14 hs (fun _ _ hs=>lp (aa x) A c hc (aa y) D d hd oM oM _ _ hs.g hs.f.2.1 hs.f.1) ?_)))))))));rintro _ _ _ _ _ hs ⟨zg,zi,rfl,zc,zd⟩;replace hs:=hs.aS zd;refine eC 10 15 hs (fun _ _ hs=>rI ((ac x) != (ac y)) ((aa x)*(aa y)) zg zi zc _ _ hs.g hs.f.1) ?_;rintro _ _ _ _ _ hs ⟨za,zb,rfl,ze,zf⟩;replace hs:=hs.aS zf;exact ce hs (fun _ _ hs=>tP 11 0 0 ([.bool (ac (bj ((ac x) != (ac y)) ((aa x)*(aa y)))),qS za ((lim (aa (bj ((ac x) != (ac y)) ((aa x)*(aa y))))).length) zb]) hs (fun _ hs=>tN (kX (hs.ret [(0,0,2)] (.agg #[.bool (ac (bj ((ac x) != (ac y)) ((aa x)*(aa y)))),qS za ((lim (aa (bj ((ac x) != (ac y)) ((aa x)*(aa y))))).length) zb]) (by rw[←j5 x y];exact ⟨_,_,rfl,ze,hs.f.1⟩)))))
theorem uD (x:Int)(A:Option Addr)(c:Nat)(hc:(lim (aa x)).length≤c)(hLx:(lim (aa x)).length≤2000000000)(hx:ac x=false)(w:World)(h:Hp)(g:G w h)(hA:S3 A (lim (aa x)) h):CR 142 #[.agg #[.bool false,.slice A ((lim (aa x)).length) c]] w h (fun v h1=>RI h1 v (-x)):=by
 have hs:=((sS g).aS hA);refine go Tryz.func142 [(0,.agg #[qF,qS A ((lim (aa x)).length) c])] rfl (av (lA 1 26 ([qF,qS A ((lim (aa x)).length) c]) hs (fun b1 w2 h3 hs=>lA 2 26 ([qF,sZ]) hs (fun b4 w5 h6 hs=>aG (lL hs [.v 3 (pB b1),.o 4 qF 1 0 1,.v 5 qT,.v 6 (qP b1 1),.o 7 (qS A ((lim (aa x)).length) c) 1 1 1] (lC 8 hs (rI true (aa x) A c hc _ _ hs.g hs.f.1) ?_))))));rintro _ _ _ hs ⟨A7,c8,rfl,hc9,za⟩;replace hs:=hs.aS za;exact lP 0 0 ([.bool (ac (bj true (aa x))),qS A7 ((lim (aa (bj true (aa x)))).length) c8]) hs (fun _ hs=>ae hs [(0,0,2)] (.agg #[.bool (ac (bj true (aa x))),qS A7 ((lim (aa (bj true (aa x)))).length) c8]) (by rw[←jo x,hx];exact ⟨_,_,rfl,hc9,hs.f.1⟩))
theorem tL (x:Int)(A:Option Addr)(c:Nat)(hc:(lim (aa x)).length≤c)(hLx:(lim (aa x)).length≤2000000000)(hx:ac x=true)(w:World)(h:Hp)(g:G w h)(hA:S3 A (lim (aa x)) h):CR 142 #[.agg #[.bool true,.slice A ((lim (aa x)).length) c]] w h (fun v h1=>RI h1 v (-x)):=by
 have hs:=((sS g).aS hA);refine go Tryz.func142 [(0,.agg #[qT,qS A ((lim (aa x)).length) c])] rfl (av (lA 1 26 ([qT,qS A ((lim (aa x)).length) c]) hs (fun b1 w2 h3 hs=>lA 2 26 ([qF,sZ]) hs (fun b4 w5 h6 hs=>aG (lL hs [.v 3 (pB b1),.o 4 qT 1 0 1,.v 5 qF,.v 6 (qP b1 1),.o 7 (qS A ((lim (aa x)).length) c) 1 1 1] (lC 8 hs (rI false (aa x) A c hc _ _ hs.g hs.f.1) ?_))))));rintro _ _ _ hs ⟨A7,c8,rfl,hc9,za⟩;replace hs:=hs.aS za;exact lP 0 0 ([.bool (ac (bj false (aa x))),qS A7 ((lim (aa (bj false (aa x)))).length) c8]) hs (fun _ hs=>ae hs [(0,0,2)] (.agg #[.bool (ac (bj false (aa x))),qS A7 ((lim (aa (bj false (aa x)))).length) c8]) (by rw[←jo x,hx];exact ⟨_,_,rfl,hc9,hs.f.1⟩))
theorem qt (x:Int)(A:Option Addr)(c:Nat)(hc:(lim (aa x)).length≤c)(hLx:(lim (aa x)).length≤2000000000)(w:World)(h:Hp)(g:G w h)(hA:S3 A (lim (aa x)) h):CR 142 #[.agg #[.bool (ac x),.slice A (lim (aa x)).length c]] w h (fun v h1=>RI h1 v (-x)):=by
 rcases hx:ac x with _|_
 ·exact uD x A c hc hLx hx w h g hA
 ·exact tL x A c hc hLx hx w h g hA
theorem qY (x:Int)(A:Option Addr)(c:Nat)(hc:(lim (aa x)).length≤c)(hLx:(lim (aa x)).length≤2000000000)(y:Int)(D:Option Addr)(d:Nat)(hd:(lim (aa y)).length≤d)(hLy:(lim (aa y)).length≤2000000000)(hx:ac x=false)(hy:ac y=false)(w:World)(h:Hp)(g:G w h)(hA:S3 A (lim (aa x)) h)(hD:S3 D (lim (aa y)) h):CR 137 #[.agg #[.bool false,.slice A ((lim (aa x)).length) c],.agg #[.bool false,.slice D ((lim (aa y)).length) d]] w h (fun v h1=>RI h1 v (x+y)):=by
 have hs:=(((sS g).aS hA).aS hD);have hx_:=a6 hx;have hy_:=a6 hy;refine go Tryz.func137 [(0,.agg #[qF,qS A ((lim (aa x)).length) c]),(1,.agg #[qF,qS D ((lim (aa y)).length) d])] rfl (av (lA 2 26 ([qF,qS A ((lim (aa x)).length) c]) hs (fun b1 w2 h3 hs=>lA 3 26 ([qF,qS D ((lim (aa y)).length) d]) hs (fun b4 w5 h6 hs=>lA 4 26 ([qF,sZ]) hs (fun b7 w8 h9 hs=>ah (ab hs [.v 5 (pB b1),.o 6 qF 2 0 1,.v 7 (pB b4),.o 8 qF 1 0 1,.v 9 qT] (ak (cQ (cR 8 [] mixed hs ar ?_)))))))));refine eV 0 10 (pB b1) (eO 1 11 [(2,0,1)] qF hs (eV 2 12 (qP b1 1) (eO 3 13 [(2,1,1)] (qS A ((lim (aa x)).length) c) hs (eV 4 14 (qP b4 1) (eO 5 15 [(1,1,1)] (qS D ((lim (aa y)).length) d) hs (eC 6 16 hs (fun _ _ hs=>qx (aa x) A c hc (aa y) D d hd oM oM _ _ hs.g hs.f.2.1 hs.f.1) ?_))))));rintro _ _ _ _ _ hs ⟨zg,zi,rfl,zc,zd⟩;replace hs:=hs.aS zd;refine eC 7 17 hs (fun _ _ hs=>rI false ((aa x)+(aa y)) zg zi zc _ _ hs.g hs.f.1) ?_;rintro _ _ _ _ _ hs ⟨za,zb,rfl,ze,zf⟩;replace hs:=hs.aS zf;exact ce hs (fun _ _ hs=>tP 8 0 0 ([.bool (ac (bj false ((aa x)+(aa y)))),qS za ((lim (aa (bj false ((aa x)+(aa y))))).length) zb]) hs (fun _ hs=>tN (kX (hs.ret [(0,0,2)] (.agg #[.bool (ac (bj false ((aa x)+(aa y)))),qS za ((lim (aa (bj false ((aa x)+(aa y))))).length) zb]) (by rw[show x+y=(bj false ((aa x)+(aa y))) by unfold bj aa at *;simp;omega];exact ⟨_,_,rfl,ze,hs.f.1⟩)))))
theorem qG (x:Int)(A:Option Addr)(c:Nat)(hc:(lim (aa x)).length≤c)(hLx:(lim (aa x)).length≤2000000000)(y:Int)(D:Option Addr)(d:Nat)(hd:(lim (aa y)).length≤d)(hLy:(lim (aa y)).length≤2000000000)(hx:ac x=false)(hy:ac y=true)(w:World)(h:Hp)(g:G w h)(hA:S3 A (lim (aa x)) h)(hD:S3 D (lim (aa y)) h):CR 137 #[.agg #[.bool false,.slice A ((lim (aa x)).length) c],.agg #[.bool true,.slice D ((lim (aa y)).length) d]] w h (fun v h1=>RI h1 v (x+y)):=by
 have hs:=(((sS g).aS hA).aS hD);have hx_:=a6 hx;have hy_:=bc hy;refine go Tryz.func137 [(0,.agg #[qF,qS A ((lim (aa x)).length) c]),(1,.agg #[qT,qS D ((lim (aa y)).length) d])] rfl (av (lA 2 26 ([qF,qS A ((lim (aa x)).length) c]) hs (fun b1 w2 h3 hs=>lA 3 26 ([qT,qS D ((lim (aa y)).length) d]) hs (fun b4 w5 h6 hs=>lA 4 26 ([qF,sZ]) hs (fun b7 w8 h9 hs=>ah (ab hs [.v 5 (pB b1),.o 6 qF 2 0 1,.v 7 (pB b4),.o 8 qT 1 0 1,.v 9 qF] (ag (cK (cQ (ab hs [.v 18 (qP b1 1),.o 19 (qS A ((lim (aa x)).length) c) 2 1 1,.v 20 (qP b4 1),.o 21 (qS D ((lim (aa y)).length) d) 1 1 1] (ai 22 hs (fA (aa x) A c hc (aa y) D d hd oM oM _ _ hs.g hs.f.2.1 hs.f.1) (fun _ _ hs=>?_))))))))))));have hcm:=fH (aa x) (aa y);cases za:(decide ((0:Int)≤(bL (aa x) (aa y):Int)))
 ·
  have zb:=oF za;refine lB 23 za (ag (cK (cQ (cR 8 [] mixed hs ar ?_))));refine eV 0 32 (pB b4) (eO 1 33 [(1,0,1)] qT hs (eV 2 34 (qP b4 1) (eO 3 35 [(1,1,1)] (qS D ((lim (aa y)).length) d) hs (eV 4 36 (qP b1 1) (eO 5 37 [(2,1,1)] (qS A ((lim (aa x)).length) c) hs (eC 6 38 hs (fun _ _ hs=>ju (aa y) D d hd (aa x) A c hc oM oM oM _ _ hs.g hs.f.1 hs.f.2.1) ?_))))));rintro _ _ _ _ _ hs ⟨zp,zq,rfl,zg,zi⟩;replace hs:=hs.aS zi;refine eC 7 39 hs (fun _ _ hs=>rI true ((aa y)-(aa x)) zp zq zg _ _ hs.g hs.f.1) ?_;rintro _ _ _ _ _ hs ⟨zc,zd,rfl,zj,zk⟩;replace hs:=hs.aS zk;exact ce hs (fun _ _ hs=>tP 8 0 0 ([.bool (ac (bj true ((aa y)-(aa x)))),qS zc ((lim (aa (bj true ((aa y)-(aa x))))).length) zd]) hs (fun _ hs=>tN (kX (hs.ret [(0,0,2)] (.agg #[.bool (ac (bj true ((aa y)-(aa x)))),qS zc ((lim (aa (bj true ((aa y)-(aa x))))).length) zd]) (by rw[show x+y=(bj true ((aa y)-(aa x))) by unfold bj aa at *;simp;omega];exact ⟨_,_,rfl,zj,hs.f.1⟩)))))
 have zb:=oT za;refine lB 23 za (ak (cQ (cR 8 [] mixed hs ar ?_)));refine eV 0 24 (pB b1) (eO 1 25 [(2,0,1)] qF hs (eV 2 26 (qP b1 1) (eO 3 27 [(2,1,1)] (qS A ((lim (aa x)).length) c) hs (eV 4 28 (qP b4 1) (eO 5 29 [(1,1,1)] (qS D ((lim (aa y)).length) d) hs (eC 6 30 hs (fun _ _ hs=>ju (aa x) A c hc (aa y) D d hd oM oM oM _ _ hs.g hs.f.2.1 hs.f.1) ?_))))));rintro _ _ _ _ _ hs ⟨zr,zs,rfl,zl,zm⟩;replace hs:=hs.aS zm;refine eC 7 31 hs (fun _ _ hs=>rI false ((aa x)-(aa y)) zr zs zl _ _ hs.g hs.f.1) ?_;rintro _ _ _ _ _ hs ⟨ze,zf,rfl,zn,zo⟩;replace hs:=hs.aS zo;exact ce hs (fun _ _ hs=>tP 8 0 0 ([.bool (ac (bj false ((aa x)-(aa y)))),qS ze ((lim (aa (bj false ((aa x)-(aa y))))).length) zf]) hs (fun _ hs=>tN (kX (hs.ret [(0,0,2)] (.agg #[.bool (ac (bj false ((aa x)-(aa y)))),qS ze ((lim (aa (bj false ((aa x)-(aa y))))).length) zf]) (by rw[show x+y=(bj false ((aa x)-(aa y))) by unfold bj aa at *;simp;omega];exact ⟨_,_,rfl,zn,hs.f.1⟩)))))
theorem qz (x:Int)(A:Option Addr)(c:Nat)(hc:(lim (aa x)).length≤c)(hLx:(lim (aa x)).length≤2000000000)(y:Int)(D:Option Addr)(d:Nat)(hd:(lim (aa y)).length≤d)(hLy:(lim (aa y)).length≤2000000000)(hx:ac x=true)(hy:ac y=false)(w:World)(h:Hp)(g:G w h)(hA:S3 A (lim (aa x)) h)(hD:S3 D (lim (aa y)) h):CR 137 #[.agg #[.bool true,.slice A ((lim (aa x)).length) c],.agg #[.bool false,.slice D ((lim (aa y)).length) d]] w h (fun v h1=>RI h1 v (x+y)):=by
 have hs:=(((sS g).aS hA).aS hD);have hx_:=bc hx;have hy_:=a6 hy;refine go Tryz.func137 [(0,.agg #[qT,qS A ((lim (aa x)).length) c]),(1,.agg #[qF,qS D ((lim (aa y)).length) d])] rfl (av (lA 2 26 ([qT,qS A ((lim (aa x)).length) c]) hs (fun b1 w2 h3 hs=>lA 3 26 ([qF,qS D ((lim (aa y)).length) d]) hs (fun b4 w5 h6 hs=>lA 4 26 ([qF,sZ]) hs (fun b7 w8 h9 hs=>ah (ab hs [.v 5 (pB b1),.o 6 qT 2 0 1,.v 7 (pB b4),.o 8 qF 1 0 1,.v 9 qF] (ag (cK (cQ (ab hs [.v 18 (qP b1 1),.o 19 (qS A ((lim (aa x)).length) c) 2 1 1,.v 20 (qP b4 1),.o 21 (qS D ((lim (aa y)).length) d) 1 1 1] (ai 22 hs (fA (aa x) A c hc (aa y) D d hd oM oM _ _ hs.g hs.f.2.1 hs.f.1) (fun _ _ hs=>?_))))))))))));have hcm:=fH (aa x) (aa y);cases za:(decide ((0:Int)≤(bL (aa x) (aa y):Int)))
 ·
  have zb:=oF za;refine lB 23 za (ag (cK (cQ (cR 8 [] mixed hs ar ?_))));refine eV 0 32 (pB b4) (eO 1 33 [(1,0,1)] qF hs (eV 2 34 (qP b4 1) (eO 3 35 [(1,1,1)] (qS D ((lim (aa y)).length) d) hs (eV 4 36 (qP b1 1) (eO 5 37 [(2,1,1)] (qS A ((lim (aa x)).length) c) hs (eC 6 38 hs (fun _ _ hs=>ju (aa y) D d hd (aa x) A c hc oM oM oM _ _ hs.g hs.f.1 hs.f.2.1) ?_))))));rintro _ _ _ _ _ hs ⟨zp,zq,rfl,zg,zi⟩;replace hs:=hs.aS zi;refine eC 7 39 hs (fun _ _ hs=>rI false ((aa y)-(aa x)) zp zq zg _ _ hs.g hs.f.1) ?_;rintro _ _ _ _ _ hs ⟨zc,zd,rfl,zj,zk⟩;replace hs:=hs.aS zk;exact ce hs (fun _ _ hs=>tP 8 0 0 ([.bool (ac (bj false ((aa y)-(aa x)))),qS zc ((lim (aa (bj false ((aa y)-(aa x))))).length) zd]) hs (fun _ hs=>tN (kX (hs.ret [(0,0,2)] (.agg #[.bool (ac (bj false ((aa y)-(aa x)))),qS zc ((lim (aa (bj false ((aa y)-(aa x))))).length) zd]) (by rw[show x+y=(bj false ((aa y)-(aa x))) by unfold bj aa at *;simp;omega];exact ⟨_,_,rfl,zj,hs.f.1⟩)))))
 have zb:=oT za;refine lB 23 za (ak (cQ (cR 8 [] mixed hs ar ?_)));refine eV 0 24 (pB b1) (eO 1 25 [(2,0,1)] qT hs (eV 2 26 (qP b1 1) (eO 3 27 [(2,1,1)] (qS A ((lim (aa x)).length) c) hs (eV 4 28 (qP b4 1) (eO 5 29 [(1,1,1)] (qS D ((lim (aa y)).length) d) hs (eC 6 30 hs (fun _ _ hs=>ju (aa x) A c hc (aa y) D d hd oM oM oM _ _ hs.g hs.f.2.1 hs.f.1) ?_))))));rintro _ _ _ _ _ hs ⟨zr,zs,rfl,zl,zm⟩;replace hs:=hs.aS zm;refine eC 7 31 hs (fun _ _ hs=>rI true ((aa x)-(aa y)) zr zs zl _ _ hs.g hs.f.1) ?_;rintro _ _ _ _ _ hs ⟨ze,zf,rfl,zn,zo⟩;replace hs:=hs.aS zo;exact ce hs (fun _ _ hs=>tP 8 0 0 ([.bool (ac (bj true ((aa x)-(aa y)))),qS ze ((lim (aa (bj true ((aa x)-(aa y))))).length) zf]) hs (fun _ hs=>tN (kX (hs.ret [(0,0,2)] (.agg #[.bool (ac (bj true ((aa x)-(aa y)))),qS ze ((lim (aa (bj true ((aa x)-(aa y))))).length) zf]) (by rw[show x+y=(bj true ((aa x)-(aa y))) by unfold bj aa at *;simp;omega];exact ⟨_,_,rfl,zn,hs.f.1⟩)))))
theorem rp (x:Int)(A:Option Addr)(c:Nat)(hc:(lim (aa x)).length≤c)(hLx:(lim (aa x)).length≤2000000000)(y:Int)(D:Option Addr)(d:Nat)(hd:(lim (aa y)).length≤d)(hLy:(lim (aa y)).length≤2000000000)(hx:ac x=true)(hy:ac y=true)(w:World)(h:Hp)(g:G w h)(hA:S3 A (lim (aa x)) h)(hD:S3 D (lim (aa y)) h):CR 137 #[.agg #[.bool true,.slice A ((lim (aa x)).length) c],.agg #[.bool true,.slice D ((lim (aa y)).length) d]] w h (fun v h1=>RI h1 v (x+y)):=by
 have hs:=(((sS g).aS hA).aS hD);have hx_:=bc hx;have hy_:=bc hy;refine go Tryz.func137 [(0,.agg #[qT,qS A ((lim (aa x)).length) c]),(1,.agg #[qT,qS D ((lim (aa y)).length) d])] rfl (av (lA 2 26 ([qT,qS A ((lim (aa x)).length) c]) hs (fun b1 w2 h3 hs=>lA 3 26 ([qT,qS D ((lim (aa y)).length) d]) hs (fun b4 w5 h6 hs=>lA 4 26 ([qF,sZ]) hs (fun b7 w8 h9 hs=>ah (ab hs [.v 5 (pB b1),.o 6 qT 2 0 1,.v 7 (pB b4),.o 8 qT 1 0 1,.v 9 qT] (ak (cQ (cR 8 [] mixed hs ar ?_)))))))));refine eV 0 10 (pB b1) (eO 1 11 [(2,0,1)] qT hs (eV 2 12 (qP b1 1) (eO 3 13 [(2,1,1)] (qS A ((lim (aa x)).length) c) hs (eV 4 14 (qP b4 1) (eO 5 15 [(1,1,1)] (qS D ((lim (aa y)).length) d) hs (eC 6 16 hs (fun _ _ hs=>qx (aa x) A c hc (aa y) D d hd oM oM _ _ hs.g hs.f.2.1 hs.f.1) ?_))))));rintro _ _ _ _ _ hs ⟨zg,zi,rfl,zc,zd⟩;replace hs:=hs.aS zd;refine eC 7 17 hs (fun _ _ hs=>rI true ((aa x)+(aa y)) zg zi zc _ _ hs.g hs.f.1) ?_;rintro _ _ _ _ _ hs ⟨za,zb,rfl,ze,zf⟩;replace hs:=hs.aS zf;exact ce hs (fun _ _ hs=>tP 8 0 0 ([.bool (ac (bj true ((aa x)+(aa y)))),qS za ((lim (aa (bj true ((aa x)+(aa y))))).length) zb]) hs (fun _ hs=>tN (kX (hs.ret [(0,0,2)] (.agg #[.bool (ac (bj true ((aa x)+(aa y)))),qS za ((lim (aa (bj true ((aa x)+(aa y))))).length) zb]) (by rw[show x+y=(bj true ((aa x)+(aa y))) by unfold bj aa at *;simp;omega];exact ⟨_,_,rfl,ze,hs.f.1⟩)))))
theorem o8 (x:Int)(A:Option Addr)(c:Nat)(hc:(lim (aa x)).length≤c)(hLx:(lim (aa x)).length≤2000000000)(y:Int)(D:Option Addr)(d:Nat)(hd:(lim (aa y)).length≤d)(hLy:(lim (aa y)).length≤2000000000)(w:World)(h:Hp)(g:G w h)(hA:S3 A (lim (aa x)) h)(hD:S3 D (lim (aa y)) h):CR 137 #[.agg #[.bool (ac x),.slice A (lim (aa x)).length c],.agg #[.bool (ac y),.slice D (lim (aa y)).length d]] w h (fun v h1=>RI h1 v (x+y)):=by
 rcases hx:ac x with _|_<;>rcases hy:ac y with _|_
 ·exact qY x A c hc hLx y D d hd hLy hx hy w h g hA hD
 ·exact qG x A c hc hLx y D d hd hLy hx hy w h g hA hD
 ·exact qz x A c hc hLx y D d hd hLy hx hy w h g hA hD
 ·exact rp x A c hc hLx y D d hd hLy hx hy w h g hA hD
theorem qE (x:Int)(A:Option Addr)(c:Nat)(hc:(lim (aa x)).length≤c)(hLx:(lim (aa x)).length≤2000000000)(hz:x=0)(w:World)(h:Hp)(g:G w h)(hA:S3 A (lim (aa x)) h):CV 141 #[.agg #[.bool (ac x),.slice A ((lim (aa x)).length) c]] w h (iV x.sign):=by
 have hs:=((sS g).aS hA);have hlp:=@bG (aa x);have hia:aa x=x.natAbs:=rfl;refine go Tryz.func141 [(0,.agg #[.bool (ac x),qS A ((lim (aa x)).length) c])] rfl (av (lA 1 26 ([.bool (ac x),qS A ((lim (aa x)).length) c]) hs (fun b1 w2 h3 hs=>lL hs [.v 2 (iV 0)] (ah (kZ (ab hs [.v 4 (qP b1 1),.o 5 (qS A ((lim (aa x)).length) c) 0 1 1,.v 6 (nV ((lim (aa x)).length))] ?_))))));have hb4:((((lim (aa x)).length:Nat):Int) == (0:Int))=true:=jg oM;have phb4:=eq_of_beq hb4;exact lB 7 hb4 (lL hs [.m 3 7] (ak (ab hs [.v 2 (iV 0)] (ae hs [] (iV 0) (by subst hz;rfl)))))
theorem qK (x:Int)(A:Option Addr)(c:Nat)(hc:(lim (aa x)).length≤c)(hLx:(lim (aa x)).length≤2000000000)(hz:x<0)(w:World)(h:Hp)(g:G w h)(hA:S3 A (lim (aa x)) h):CV 141 #[.agg #[.bool true,.slice A ((lim (aa x)).length) c]] w h (iV x.sign):=by
 have hs:=((sS g).aS hA);have hlp:=@bG (aa x);have hia:aa x=x.natAbs:=rfl;refine go Tryz.func141 [(0,.agg #[qT,qS A ((lim (aa x)).length) c])] rfl (av (lA 1 26 ([qT,qS A ((lim (aa x)).length) c]) hs (fun b1 w2 h3 hs=>lL hs [.v 2 (iV 0)] (ah (kZ (ab hs [.v 4 (qP b1 1),.o 5 (qS A ((lim (aa x)).length) c) 0 1 1,.v 6 (nV ((lim (aa x)).length))] ?_))))));have hb4:((((lim (aa x)).length:Nat):Int) == (0:Int))=false:=cw oM;have phb4:=af hb4;exact lB 7 hb4 (lL hs [.m 3 7] (ag (ab hs [.v 9 (pB b1),.o 10 qT 0 0 1,.m 8 10] (ak (ab hs [.v 2 (iV (-1))] (ae hs [] (iV (-1)) (by rw[Int.sign_eq_neg_one_of_neg hz])))))))
theorem qR (x:Int)(A:Option Addr)(c:Nat)(hc:(lim (aa x)).length≤c)(hLx:(lim (aa x)).length≤2000000000)(hz:0<x)(w:World)(h:Hp)(g:G w h)(hA:S3 A (lim (aa x)) h):CV 141 #[.agg #[.bool false,.slice A ((lim (aa x)).length) c]] w h (iV x.sign):=by
 have hs:=((sS g).aS hA);have hlp:=@bG (aa x);have hia:aa x=x.natAbs:=rfl;refine go Tryz.func141 [(0,.agg #[qF,qS A ((lim (aa x)).length) c])] rfl (av (lA 1 26 ([qF,qS A ((lim (aa x)).length) c]) hs (fun b1 w2 h3 hs=>lL hs [.v 2 (iV 0)] (ah (kZ (ab hs [.v 4 (qP b1 1),.o 5 (qS A ((lim (aa x)).length) c) 0 1 1,.v 6 (nV ((lim (aa x)).length))] ?_))))));have hb4:((((lim (aa x)).length:Nat):Int) == (0:Int))=false:=cw oM;have phb4:=af hb4;exact lB 7 hb4 (lL hs [.m 3 7] (ag (ab hs [.v 9 (pB b1),.o 10 qF 0 0 1,.m 8 10] (ag (cK (ab hs [.v 2 (iV 1)] (ae hs [] (iV 1) (by rw[Int.sign_eq_one_of_pos hz]))))))))
theorem mA (x:Int)(A:Option Addr)(c:Nat)(hc:(lim (aa x)).length≤c)(hLx:(lim (aa x)).length≤2000000000)(w:World)(h:Hp)(g:G w h)(hA:S3 A (lim (aa x)) h):CV 141 #[.agg #[.bool (ac x),.slice A (lim (aa x)).length c]] w h (iV x.sign):=by
 rcases Int.lt_trichotomy x 0 with hz|hz|hz
 ·have:=qK x A c hc hLx hz w h g hA
  rwa [←show ac x=true by simp[ac,hz]] at this
 ·exact qE x A c hc hLx hz w h g hA
 ·have:=qR x A c hc hLx hz w h g hA
  rwa [←show ac x=false by simp[ac];omega] at this
theorem vI (x:Int)(A:Option Addr)(c:Nat)(hc:(lim (aa x)).length≤c)(hLx:(lim (aa x)).length≤2000000000)(y:Int)(D:Option Addr)(d:Nat)(hd:(lim (aa y)).length≤d)(hLy:(lim (aa y)).length≤2000000000)(w:World)(h:Hp)(g:G w h)(hA:S3 A (lim (aa x)) h)(hD:S3 D (lim (aa y)) h):CR 174 #[.agg #[.bool (ac x),.slice A ((lim (aa x)).length) c],.agg #[.bool (ac y),.slice D ((lim (aa y)).length) d]] w h (fun v h1=>RI h1 v (x-y)):=by
 have hs:=(((sS g).aS hA).aS hD);have hny:(lim (aa (-y))).length=(lim (aa y)).length:=by unfold aa;rw[Int.natAbs_neg]
 refine go Tryz.func174 [(0,.agg #[.bool (ac x),qS A ((lim (aa x)).length) c]),(1,.agg #[.bool (ac y),qS D ((lim (aa y)).length) d])] rfl (av (lA 2 26 ([.bool (ac x),qS A ((lim (aa x)).length) c]) hs (fun b1 w2 h3 hs=>lA 3 26 ([.bool (ac y),qS D ((lim (aa y)).length) d]) hs (fun b4 w5 h6 hs=>lA 4 26 ([qF,sZ]) hs (fun b7 w8 h9 hs=>ah (cR 4 [] mixed hs ar ?_))))));refine eO 0 5 [(2,0,2)] (.agg #[.bool (ac x),qS A ((lim (aa x)).length) c]) hs (eO 1 6 [(1,0,2)] (.agg #[.bool (ac y),qS D ((lim (aa y)).length) d]) hs (eC 2 7 hs (fun _ _ hs=>qt y D d hd oM _ _ hs.g hs.f.1) ?_));rintro _ _ _ _ _ hs ⟨zg,zi,rfl,zc,zd⟩;replace hs:=hs.aS zd;refine eC 3 8 hs (fun _ _ hs=>o8 x A c hc oM (-y) zg zi zc oM _ _ hs.g hs.f.r.1 hs.f.1) ?_;rintro _ _ _ _ _ hs ⟨za,zb,rfl,ze,zf⟩;replace hs:=hs.aS zf;exact ce hs (fun _ _ hs=>tP 4 0 0 ([.bool (ac (x+(-y))),qS za ((lim (aa (x+(-y)))).length) zb]) hs (fun _ hs=>tN (kX (hs.ret [(0,0,2)] (.agg #[.bool (ac (x+(-y))),qS za ((lim (aa (x+(-y)))).length) zb]) (by rw[Int.sub_eq_add_neg];exact ⟨_,_,rfl,ze,hs.f.1⟩)))))
theorem rB (x y:Int):(x-y).sign=dB x y:=by
 unfold dB
 rcases Int.lt_trichotomy x y with h|h|h
 ·rw[if_pos h,Int.sign_eq_neg_one_of_neg oM]
 ·subst h;simp
 ·rw[if_neg oM,if_pos h,Int.sign_eq_one_of_pos oM]
theorem wh (x:Int)(A:Option Addr)(c:Nat)(hc:(lim (aa x)).length≤c)(hLx:(lim (aa x)).length≤1999999999)(y:Int)(D:Option Addr)(d:Nat)(hd:(lim (aa y)).length≤d)(hLy:(lim (aa y)).length≤1999999999)(w:World)(h:Hp)(g:G w h)(hA:S3 A (lim (aa x)) h)(hD:S3 D (lim (aa y)) h):CV 143 #[.agg #[.bool (ac x),.slice A ((lim (aa x)).length) c],.agg #[.bool (ac y),.slice D ((lim (aa y)).length) d]] w h (iV (dB x y)):=by
 have hs:=(((sS g).aS hA).aS hD);have hxy:(lim (aa (x-y))).length≤2000000000:=fk (show aa (x-y)≤aa x+aa y by unfold aa;omega) (f4 hLx hLy);refine go Tryz.func143 [(0,.agg #[.bool (ac x),qS A ((lim (aa x)).length) c]),(1,.agg #[.bool (ac y),qS D ((lim (aa y)).length) d])] rfl (av (lA 2 26 ([.bool (ac x),qS A ((lim (aa x)).length) c]) hs (fun b1 w2 h3 hs=>lA 3 26 ([.bool (ac y),qS D ((lim (aa y)).length) d]) hs (fun b4 w5 h6 hs=>lL hs [.v 4 (iV 0)] (aG (lL hs [.o 5 (.agg #[.bool (ac x),qS A ((lim (aa x)).length) c]) 1 0 2,.o 6 (.agg #[.bool (ac y),qS D ((lim (aa y)).length) d]) 0 0 2] (lC 7 hs (vI x A c hc oM y D d hd oM _ _ hs.g hs.f.2.1 hs.f.1) ?_)))))));rintro _ _ _ hs ⟨A7,c8,rfl,hc9,za⟩;replace hs:=hs.aS za;exact ai 8 hs (mA (x-y) A7 c8 hc9 oM _ _ hs.g hs.f.1) (fun _ _ hs=>lL hs [.m 4 8] (ae hs [] (iV (((x-y)).sign)) (by rw[rB])))
theorem ug (a:Nat)(A:Option Addr)(c:Nat)(hc:(lim a).length≤c)(b:Nat)(D:Option Addr)(d:Nat)(hd:(lim b).length≤d)(q:Nat)(hq:q=Nat.gcd a b)(hLa:(lim a).length≤3000000000)(hLb:(lim b).length≤3000000000)(w:World)(h:Hp)(g:G w h)(hA:S3 A (lim a) h)(hD:S3 D (lim b) h):CR 157 #[.slice A (lim a).length c,.slice D (lim b).length d] w h (fun v h1=>RN h1 v q):=by
 subst hq;exact wj a A c hc b D d hd hLa hLb w h g hA hD
theorem kH (n d:Int)(hd:d≠0):(mkR n d).num=bj (ac n != ac d) (aa n/Nat.gcd (aa n) (aa d))∧(mkR n d).den=aa d/Nat.gcd (aa n) (aa d)∧0<Nat.gcd (aa n) (aa d):=by
  have hd0:0<aa d:=by unfold aa;omega
  have hz:aa (if d<0 then -n else n)=aa n:=by unfold aa;split<;>omega
  obtain ⟨h1,h2,h3,h4⟩:=gh (if d<0 then -n else n) (aa d) hd0;rw[hz] at h1 h2 h3 h4
  refine ⟨?_,h2,h4⟩;have hs:=mI _ _ h3;rw[hz] at hs
  show (mkRat _ _).num=_
  rw[h1,←hs]
  by_cases hn:n=0
  · have hk:aa n/Nat.gcd (aa n) (aa d)=0:=by rw[hn];exact Nat.zero_div _
    rw[hk]
    unfold bj
    simp
  · have e:decide ((if d<0 then -n else n).sign<0)=(ac n != ac d):=by
      unfold ac
      rcases Int.lt_trichotomy n 0 with a|a|a
      · rcases Int.lt_trichotomy d 0 with b|b|b
        · rw[if_pos b,Int.sign_eq_one_of_pos oM];simp[a,b]
        · exact absurd b hd
        · rw[if_neg oM,Int.sign_eq_neg_one_of_neg a];simp[a,show ¬d<0 by omega]
      · exact absurd a hn
      · rcases Int.lt_trichotomy d 0 with b|b|b
        · rw[if_pos b,Int.sign_eq_neg_one_of_neg oM];simp[show ¬n<0 by omega,b]
        · exact absurd b hd
        · rw[if_neg oM,Int.sign_eq_one_of_pos a];simp[show ¬n<0 by omega,show ¬d<0 by omega]
    rw[e]
theorem vA (x:Int)(A:Option Addr)(c:Nat)(hc:(lim (aa x)).length≤c)(hLx:(lim (aa x)).length≤2000000000)(y:Int)(D:Option Addr)(d:Nat)(hd:(lim (aa y)).length≤d)(hLy:(lim (aa y)).length≤2000000000)(hd0:y≠0)(w:World)(h:Hp)(g:G w h)(hA:S3 A (lim (aa x)) h)(hD:S3 D (lim (aa y)) h):CR 116 #[.agg #[.bool (ac x),.slice A ((lim (aa x)).length) c],.agg #[.bool (ac y),.slice D ((lim (aa y)).length) d]] w h (fun v h1=>RQ h1 v (mkR x y)):=by
 have hs:=(((sS g).aS hA).aS hD);obtain ⟨hm1,hm2,hq0⟩:=kH x y hd0;obtain ⟨q,hq⟩:∃ q,q=Nat.gcd (aa x) (aa y):=⟨_,rfl⟩;rw[←hq] at hm1 hm2 hq0
 have hql:(lim q).length≤2000000000:=fk (by rw[hq];exact Nat.gcd_le_right _ (by unfold aa;omega)) hLy;refine go Tryz.func116 [(0,.agg #[.bool (ac x),qS A ((lim (aa x)).length) c]),(1,.agg #[.bool (ac y),qS D ((lim (aa y)).length) d])] rfl (av (lA 2 26 ([.bool (ac x),qS A ((lim (aa x)).length) c]) hs (fun b1 w2 h3 hs=>lA 3 26 ([.bool (ac y),qS D ((lim (aa y)).length) d]) hs (fun b4 w5 h6 hs=>lA 4 28 ([qF,sZ,sZ]) hs (fun b7 w8 h9 hs=>aG (lL hs [.v 10 (qP b1 1),.o 11 (qS A ((lim (aa x)).length) c) 2 1 1,.v 12 (qP b4 1),.o 13 (qS D ((lim (aa y)).length) d) 1 1 1] (lC 14 hs (ug (aa x) A c hc (aa y) D d hd q hq oM oM _ _ hs.g hs.f.2.1 hs.f.1) ?_)))))));rintro _ _ _ hs ⟨zf,zg,rfl,zc,zk⟩;replace hs:=hs.aS zk;refine lL hs [.m 5 14] (aG (lL hs [.v 16 (qP b1 1),.o 17 (qS A ((lim (aa x)).length) c) 2 1 1,.m 18 5] (lC 19 hs (l6 (aa x) A c hc q zf zg zc oM oM hq0 _ _ hs.g hs.f.r.1 hs.f.1) ?_)));rintro _ _ _ hs ⟨_,v2_A16,rfl,⟨zi,zj,rfl,zl,zm⟩,-⟩;replace hs:=hs.aS zm;refine lL hs [.m 15 19,.v 20 (qS zi ((lim ((aa x)/q)).length) zj),.v 21 v2_A16,.m 6 20,.m 7 21] (aG (lL hs [.v 23 (qP b4 1),.o 24 (qS D ((lim (aa y)).length) d) 1 1 1,.m 25 5] (lC 26 hs (l6 (aa y) D d hd q zf zg zc oM oM hq0 _ _ hs.g hs.f.r.1 hs.f.2.1) ?_)));rintro _ _ _ hs ⟨_,v2_A22,rfl,⟨za,zb,rfl,zn,zo⟩,-⟩;replace hs:=hs.aS zo;refine lL hs [.m 22 26,.v 27 (qS za ((lim ((aa y)/q)).length) zb),.v 28 v2_A22,.m 8 27,.m 9 28] (aG (lL hs [.v 29 (pB b1),.o 30 (.bool (ac x)) 2 0 1,.v 31 (pB b4),.o 32 (.bool (ac y)) 1 0 1,.v 33 (.bool ((ac x) != (ac y))),.m 34 6] (lC 35 hs (rI ((ac x) != (ac y)) ((aa x)/q) zi zj zl _ _ hs.g hs.f.2.1) ?_)));rintro _ _ _ hs ⟨zd,ze,rfl,zp,zq⟩;replace hs:=hs.aS zq;exact lL hs [.m 36 8,.v 37 (.agg #[.bool (ac (bj ((ac x) != (ac y)) ((aa x)/q))),qS zd ((lim (aa (bj ((ac x) != (ac y)) ((aa x)/q)))).length) ze,qS za ((lim ((aa y)/q)).length) zb])] (lP 0 0 ([.bool (ac (bj ((ac x) != (ac y)) ((aa x)/q))),qS zd ((lim (aa (bj ((ac x) != (ac y)) ((aa x)/q)))).length) ze,qS za ((lim ((aa y)/q)).length) zb]) hs (fun _ hs=>ae hs [(0,0,3)] (.agg #[.bool (ac (bj ((ac x) != (ac y)) ((aa x)/q))),qS zd ((lim (aa (bj ((ac x) != (ac y)) ((aa x)/q)))).length) ze,qS za ((lim ((aa y)/q)).length) zb]) (by unfold RQ;rw[hm1,hm2];exact ⟨_,_,_,_,rfl,zp,zn,hs.f.1,hs.f.2.1⟩)))
theorem gg (x:Int)(d:Nat):(lim (aa (x*((d:Nat):Int)))).length≤(lim (aa x)).length+(lim d).length:=by
 have:aa (x*((d:Nat):Int))=aa x*d:=Int.natAbs_mul x (d:Int);rw[this];exact fg
theorem qL (a:Rat)(A1:Option Addr)(c1:Nat)(D1:Option Addr)(d1:Nat)(hc1:(lim (aa a.num)).length≤c1)(hd1:(lim a.den).length≤d1)(hn1:(lim (aa a.num)).length≤300000000)(hm1:(lim a.den).length≤300000000)(w:World)(h:Hp)(g:G w h)(hA1:S3 A1 (lim (aa a.num)) h)(hD1:S3 D1 (lim a.den) h):CR 139 #[.agg #[.bool (ac a.num),.slice A1 ((lim (aa a.num)).length) c1,.slice D1 ((lim (a.den)).length) d1]] w h (fun v h1=>RI h1 v (a.den:Int)):=by
 have hs:=(((sS g).aS hA1).aS hD1);refine go Tryz.func139 [(0,.agg #[.bool (ac a.num),qS A1 ((lim (aa a.num)).length) c1,qS D1 ((lim (a.den)).length) d1])] rfl (av (lA 1 28 ([.bool (ac a.num),qS A1 ((lim (aa a.num)).length) c1,qS D1 ((lim (a.den)).length) d1]) hs (fun b1 w2 h3 hs=>lA 2 26 ([qF,sZ]) hs (fun b4 w5 h6 hs=>aG (lL hs [.v 3 (qP b1 2),.o 4 (qS D1 ((lim (a.den)).length) d1) 1 2 1] (lC 5 hs (rI false a.den D1 d1 hd1 _ _ hs.g hs.f.1) ?_))))));rintro _ _ _ hs ⟨A7,c8,rfl,hc9,za⟩;replace hs:=hs.aS za;exact lP 0 0 ([.bool (ac (bj false a.den)),qS A7 ((lim (aa (bj false a.den))).length) c8]) hs (fun _ hs=>ae hs [(0,0,2)] (.agg #[.bool (ac (bj false a.den)),qS A7 ((lim (aa (bj false a.den))).length) c8]) (⟨_,_,rfl,hc9,hs.f.1⟩))
theorem nu (a:Rat)(A1:Option Addr)(c1:Nat)(D1:Option Addr)(d1:Nat)(hc1:(lim (aa a.num)).length≤c1)(hd1:(lim a.den).length≤d1)(hn1:(lim (aa a.num)).length≤300000000)(hm1:(lim a.den).length≤300000000)(w:World)(h:Hp)(g:G w h)(hA1:S3 A1 (lim (aa a.num)) h)(hD1:S3 D1 (lim a.den) h):CV 91 #[.agg #[.bool (ac a.num),.slice A1 ((lim (aa a.num)).length) c1,.slice D1 ((lim (a.den)).length) d1]] w h (iV a.num.sign):=by
 have hs:=(((sS g).aS hA1).aS hD1);exact go Tryz.func91 [(0,.agg #[.bool (ac a.num),qS A1 ((lim (aa a.num)).length) c1,qS D1 ((lim (a.den)).length) d1])] rfl (av (lA 1 28 ([.bool (ac a.num),qS A1 ((lim (aa a.num)).length) c1,qS D1 ((lim (a.den)).length) d1]) hs (fun b1 w2 h3 hs=>lL hs [.v 2 (iV 0)] (aG (lL hs [.v 3 (pB b1),.o 4 (.agg #[.bool (ac a.num),qS A1 ((lim (aa a.num)).length) c1]) 0 0 2] (ai 5 hs (mA a.num A1 c1 hc1 oM _ _ hs.g hs.f.2.1) (fun w4 h5 hs=>lL hs [.m 2 5] (ae hs [] (iV ((a.num).sign)) rfl))))))))
theorem DR (a:Rat)(A1:Option Addr)(c1:Nat)(D1:Option Addr)(d1:Nat)(hc1:(lim (aa a.num)).length≤c1)(hd1:(lim a.den).length≤d1)(hn1:(lim (aa a.num)).length≤300000000)(hm1:(lim a.den).length≤300000000)(b:Rat)(A2:Option Addr)(c2:Nat)(D2:Option Addr)(d2:Nat)(hc2:(lim (aa b.num)).length≤c2)(hd2:(lim b.den).length≤d2)(hn2:(lim (aa b.num)).length≤300000000)(hm2:(lim b.den).length≤300000000)(w:World)(h:Hp)(g:G w h)(hA1:S3 A1 (lim (aa a.num)) h)(hD1:S3 D1 (lim a.den) h)(hA2:S3 A2 (lim (aa b.num)) h)(hD2:S3 D2 (lim b.den) h):CV 96 #[.agg #[.bool (ac a.num),.slice A1 ((lim (aa a.num)).length) c1,.slice D1 ((lim (a.den)).length) d1],.agg #[.bool (ac b.num),.slice A2 ((lim (aa b.num)).length) c2,.slice D2 ((lim (b.den)).length) d2]] w h (iV (du a b)):=by
 have hs:=(((((sS g).aS hA1).aS hD1).aS hA2).aS hD2);have hx1:=gg a.num b.den;have hx2:=gg b.num a.den;refine go Tryz.func96 [(0,.agg #[.bool (ac a.num),qS A1 ((lim (aa a.num)).length) c1,qS D1 ((lim (a.den)).length) d1]),(1,.agg #[.bool (ac b.num),qS A2 ((lim (aa b.num)).length) c2,qS D2 ((lim (b.den)).length) d2])] rfl (av (lA 2 28 ([.bool (ac a.num),qS A1 ((lim (aa a.num)).length) c1,qS D1 ((lim (a.den)).length) d1]) hs (fun b1 w2 h3 hs=>lA 3 28 ([.bool (ac b.num),qS A2 ((lim (aa b.num)).length) c2,qS D2 ((lim (b.den)).length) d2]) hs (fun b4 w5 h6 hs=>lL hs [.v 4 (iV 0)] (ah (cR 11 [] mixed hs ar ?_))))));refine eV 0 5 (pB b1) (eO 1 6 [(1,0,2)] (.agg #[.bool (ac a.num),qS A1 ((lim (aa a.num)).length) c1]) hs (eO 2 7 [(0,0,3)] (.agg #[.bool (ac b.num),qS A2 ((lim (aa b.num)).length) c2,qS D2 ((lim (b.den)).length) d2]) hs (eV 5 10 (pB b4) (eO 6 11 [(0,0,2)] (.agg #[.bool (ac b.num),qS A2 ((lim (aa b.num)).length) c2]) hs (eO 7 12 [(1,0,3)] (.agg #[.bool (ac a.num),qS A1 ((lim (aa a.num)).length) c1,qS D1 ((lim (a.den)).length) d1]) hs (eC 3 8 hs (fun _ _ hs=>qL b A2 c2 D2 d2 hc2 hd2 oM oM _ _ hs.g hs.f.2.1 hs.f.1) ?_))))));rintro _ _ _ _ _ hs ⟨A7,c8,rfl,hc9,za⟩;replace hs:=hs.aS za;refine eC 4 9 hs (fun _ _ hs=>fE a.num A1 c1 hc1 oM (b.den:Int) A7 c8 hc9 (show (lim (b.den)).length≤2000000000 by omega) _ _ hs.g hs.f.q.1 hs.f.1) ?_;rintro _ _ _ _ _ hs ⟨zi,zj,rfl,zb,zc⟩;replace hs:=hs.aS zc;refine eC 8 13 hs (fun _ _ hs=>qL a A1 c1 D1 d1 hc1 hd1 oM oM _ _ hs.g hs.f.q.2.1 hs.f.q.1) ?_;rintro _ _ _ _ _ hs ⟨zk,zl,rfl,zd,ze⟩;replace hs:=hs.aS ze;refine eC 9 14 hs (fun _ _ hs=>fE b.num A2 c2 hc2 oM (a.den:Int) zk zl zd (show (lim (a.den)).length≤2000000000 by omega) _ _ hs.g hs.f.q.1 hs.f.1) ?_;rintro _ _ _ _ _ hs ⟨zm,zn,rfl,zf,zg⟩;replace hs:=hs.aS zg;exact aq 10 15 hs (fun _ _ hs=>wh (a.num*(b.den:Int)) zi zj zb oM (b.num*(a.den:Int)) zm zn zf oM _ _ hs.g hs.f.r.1 hs.f.1) (fun _ _ hs=>ce hs (fun _ _ hs=>tV 11 4 (iV (dB (a.num*(b.den:Int)) (b.num*(a.den:Int)))) (tN (kX (hs.ret [] (iV (dB (a.num*(b.den:Int)) (b.num*(a.den:Int)))) rfl)))))
theorem sP (x y:Int){k:Nat}(hx:(lim (aa x)).length≤k)(hy:(lim (aa y)).length≤k):(lim (aa (x+y))).length≤k+1:=fk (show aa (x+y)≤aa x+aa y from Int.natAbs_add_le x y) (f4 hx hy)
theorem kI (x y:Int):(lim (aa (x*y))).length≤(lim (aa x)).length+(lim (aa y)).length:=by
 have:aa (x*y)=aa x*aa y:=Int.natAbs_mul x y;rw[this];exact fg
theorem p7 (z:Int)(n:Nat):mkR z (bj false n)=mkRat z n:=by
 have h1:bj false n=(n:Int):=rfl;rw[h1];unfold mkR;rw[if_neg oM];rfl
theorem vL (a b:Rat):mkR (a.num*((b.den:Nat):Int)+b.num*((a.den:Nat):Int)) (bj false (a.den*b.den))=a+b:=by
 rw[p7,Rat.add_def,Rat.normalize_eq_mkRat]
theorem xC (a b:Rat):mkR (a.num*b.num) (bj false (a.den*b.den))=a*b:=by
 rw[p7,Rat.mul_def,Rat.normalize_eq_mkRat]
theorem AO (a b:Rat):bj false (a.den*b.den)≠0:=by
 have h:=Nat.mul_pos a.den_pos b.den_pos
 show ((a.den*b.den:Nat):Int)≠0
 omega
theorem Dn (a:Rat)(A1:Option Addr)(c1:Nat)(D1:Option Addr)(d1:Nat)(hc1:(lim (aa a.num)).length≤c1)(hd1:(lim a.den).length≤d1)(hn1:(lim (aa a.num)).length≤300000000)(hm1:(lim a.den).length≤300000000)(b:Rat)(A2:Option Addr)(c2:Nat)(D2:Option Addr)(d2:Nat)(hc2:(lim (aa b.num)).length≤c2)(hd2:(lim b.den).length≤d2)(hn2:(lim (aa b.num)).length≤300000000)(hm2:(lim b.den).length≤300000000)(w:World)(h:Hp)(g:G w h)(hA1:S3 A1 (lim (aa a.num)) h)(hD1:S3 D1 (lim a.den) h)(hA2:S3 A2 (lim (aa b.num)) h)(hD2:S3 D2 (lim b.den) h):CR 88 #[.agg #[.bool (ac a.num),.slice A1 ((lim (aa a.num)).length) c1,.slice D1 ((lim (a.den)).length) d1],.agg #[.bool (ac b.num),.slice A2 ((lim (aa b.num)).length) c2,.slice D2 ((lim (b.den)).length) d2]] w h (fun v h1=>RQ h1 v (a+b)):=by
 have hs:=(((((sS g).aS hA1).aS hD1).aS hA2).aS hD2);have hx1:=gg a.num b.den;have hx2:=gg b.num a.den;have hxs:=sP (a.num*(b.den:Int)) (b.num*(a.den:Int)) (k:=600000000) oM oM;have hdl:=@fg a.den b.den;refine go Tryz.func88 [(0,.agg #[.bool (ac a.num),qS A1 ((lim (aa a.num)).length) c1,qS D1 ((lim (a.den)).length) d1]),(1,.agg #[.bool (ac b.num),qS A2 ((lim (aa b.num)).length) c2,qS D2 ((lim (b.den)).length) d2])] rfl (av (lA 2 28 ([.bool (ac a.num),qS A1 ((lim (aa a.num)).length) c1,qS D1 ((lim (a.den)).length) d1]) hs (fun b1 w2 h3 hs=>lA 3 28 ([.bool (ac b.num),qS A2 ((lim (aa b.num)).length) c2,qS D2 ((lim (b.den)).length) d2]) hs (fun b4 w5 h6 hs=>lA 4 28 ([qF,sZ,sZ]) hs (fun b7 w8 h9 hs=>ah (cR 18 [] mixed hs ar ?_))))));refine eV 0 5 (pB b1) (eO 1 6 [(2,0,2)] (.agg #[.bool (ac a.num),qS A1 ((lim (aa a.num)).length) c1]) hs (eO 2 7 [(1,0,3)] (.agg #[.bool (ac b.num),qS A2 ((lim (aa b.num)).length) c2,qS D2 ((lim (b.den)).length) d2]) hs (eV 5 10 (pB b4) (eO 6 11 [(1,0,2)] (.agg #[.bool (ac b.num),qS A2 ((lim (aa b.num)).length) c2]) hs (eO 7 12 [(2,0,3)] (.agg #[.bool (ac a.num),qS A1 ((lim (aa a.num)).length) c1,qS D1 ((lim (a.den)).length) d1]) hs (eV 11 16 (qP b1 2) (eO 12 17 [(2,2,1)] (qS D1 ((lim (a.den)).length) d1) hs (eV 13 18 (qP b4 2) (eO 14 19 [(1,2,1)] (qS D2 ((lim (b.den)).length) d2) hs (eC 3 8 hs (fun _ _ hs=>qL b A2 c2 D2 d2 hc2 hd2 oM oM _ _ hs.g hs.f.2.1 hs.f.1) ?_))))))))));rintro _ _ _ _ _ hs ⟨zx,zA,rfl,ze,zf⟩;replace hs:=hs.aS zf;refine eC 4 9 hs (fun _ _ hs=>fE a.num A1 c1 hc1 oM (b.den:Int) zx zA ze (show (lim (b.den)).length≤2000000000 by omega) _ _ hs.g hs.f.q.1 hs.f.1) ?_;rintro _ _ _ _ _ hs ⟨zB,zD,rfl,zg,zi⟩;replace hs:=hs.aS zi;refine eC 8 13 hs (fun _ _ hs=>qL a A1 c1 D1 d1 hc1 hd1 oM oM _ _ hs.g hs.f.q.2.1 hs.f.q.1) ?_;rintro _ _ _ _ _ hs ⟨zE,zG,rfl,zj,zk⟩;replace hs:=hs.aS zk;refine eC 9 14 hs (fun _ _ hs=>fE b.num A2 c2 hc2 oM (a.den:Int) zE zG zj (show (lim (a.den)).length≤2000000000 by omega) _ _ hs.g hs.f.q.1 hs.f.1) ?_;rintro _ _ _ _ _ hs ⟨zH,zI,rfl,zl,zm⟩;replace hs:=hs.aS zm;refine eC 10 15 hs (fun _ _ hs=>o8 (a.num*(b.den:Int)) zB zD zg oM (b.num*(a.den:Int)) zH zI zl oM _ _ hs.g hs.f.r.1 hs.f.1) ?_;rintro _ _ _ _ _ hs ⟨zJ,zK,rfl,zn,zo⟩;replace hs:=hs.aS zo;refine eC 15 20 hs (fun _ _ hs=>lp a.den D1 d1 hd1 b.den D2 d2 hd2 oM oM _ _ hs.g hs.f.q.r.2.1 hs.f.q.2.1) ?_;rintro _ _ _ _ _ hs ⟨zL,zM,rfl,zp,zq⟩;replace hs:=hs.aS zq;refine eC 16 21 hs (fun _ _ hs=>rI false (a.den*b.den) zL zM zp _ _ hs.g hs.f.1) ?_;rintro _ _ _ _ _ hs ⟨zN,zP,rfl,zr,zs⟩;replace hs:=hs.aS zs;refine eC 17 22 hs (fun _ _ hs=>vA ((a.num*(b.den:Int))+(b.num*(a.den:Int))) zJ zK zn oM (bj false (a.den*b.den)) zN zP zr (show (lim ((a.den*b.den))).length≤2000000000 by omega) (AO a b) _ _ hs.g hs.f.r.1 hs.f.1) ?_;rintro _ _ _ _ _ hs ⟨za,zb,zc,zd,rfl,zt,zu,zv,zw⟩;replace hs:=hs.aP zv zw;exact ce hs (fun _ _ hs=>tP 18 0 0 (ct (mkR ((a.num*(b.den:Int))+(b.num*(a.den:Int))) (bj false (a.den*b.den))) za zb zc zd) hs (fun _ hs=>tN (kX (hs.ret [(0,0,3)] (rG (mkR ((a.num*(b.den:Int))+(b.num*(a.den:Int))) (bj false (a.den*b.den))) za zb zc zd) (by rw[←vL a b];exact ⟨_,_,_,_,rfl,zt,zu,hs.f.2.1,hs.f.1⟩)))))
theorem DI (a:Rat)(A1:Option Addr)(c1:Nat)(D1:Option Addr)(d1:Nat)(hc1:(lim (aa a.num)).length≤c1)(hd1:(lim a.den).length≤d1)(hn1:(lim (aa a.num)).length≤300000000)(hm1:(lim a.den).length≤300000000)(b:Rat)(A2:Option Addr)(c2:Nat)(D2:Option Addr)(d2:Nat)(hc2:(lim (aa b.num)).length≤c2)(hd2:(lim b.den).length≤d2)(hn2:(lim (aa b.num)).length≤300000000)(hm2:(lim b.den).length≤300000000)(w:World)(h:Hp)(g:G w h)(hA1:S3 A1 (lim (aa a.num)) h)(hD1:S3 D1 (lim a.den) h)(hA2:S3 A2 (lim (aa b.num)) h)(hD2:S3 D2 (lim b.den) h):CR 90 #[.agg #[.bool (ac a.num),.slice A1 ((lim (aa a.num)).length) c1,.slice D1 ((lim (a.den)).length) d1],.agg #[.bool (ac b.num),.slice A2 ((lim (aa b.num)).length) c2,.slice D2 ((lim (b.den)).length) d2]] w h (fun v h1=>RQ h1 v (a*b)):=by
 have hs:=(((((sS g).aS hA1).aS hD1).aS hA2).aS hD2);have hx1:=kI a.num b.num;have hdl:=@fg a.den b.den;refine go Tryz.func90 [(0,.agg #[.bool (ac a.num),qS A1 ((lim (aa a.num)).length) c1,qS D1 ((lim (a.den)).length) d1]),(1,.agg #[.bool (ac b.num),qS A2 ((lim (aa b.num)).length) c2,qS D2 ((lim (b.den)).length) d2])] rfl (av (lA 2 28 ([.bool (ac a.num),qS A1 ((lim (aa a.num)).length) c1,qS D1 ((lim (a.den)).length) d1]) hs (fun b1 w2 h3 hs=>lA 3 28 ([.bool (ac b.num),qS A2 ((lim (aa b.num)).length) c2,qS D2 ((lim (b.den)).length) d2]) hs (fun b4 w5 h6 hs=>lA 4 28 ([qF,sZ,sZ]) hs (fun b7 w8 h9 hs=>ah (cR 12 [] mixed hs ar ?_))))));refine eV 0 5 (pB b1) (eO 1 6 [(2,0,2)] (.agg #[.bool (ac a.num),qS A1 ((lim (aa a.num)).length) c1]) hs (eV 2 7 (pB b4) (eO 3 8 [(1,0,2)] (.agg #[.bool (ac b.num),qS A2 ((lim (aa b.num)).length) c2]) hs (eV 5 10 (qP b1 2) (eO 6 11 [(2,2,1)] (qS D1 ((lim (a.den)).length) d1) hs (eV 7 12 (qP b4 2) (eO 8 13 [(1,2,1)] (qS D2 ((lim (b.den)).length) d2) hs (eC 4 9 hs (fun _ _ hs=>fE a.num A1 c1 hc1 oM b.num A2 c2 hc2 oM _ _ hs.g hs.f.r.2.1 hs.f.2.1) ?_))))))));rintro _ _ _ _ _ hs ⟨zp,zq,rfl,ze,zf⟩;replace hs:=hs.aS zf;refine eC 9 14 hs (fun _ _ hs=>lp a.den D1 d1 hd1 b.den D2 d2 hd2 oM oM _ _ hs.g hs.f.r.2.1 hs.f.2.1) ?_;rintro _ _ _ _ _ hs ⟨zr,zs,rfl,zg,zi⟩;replace hs:=hs.aS zi;refine eC 10 15 hs (fun _ _ hs=>rI false (a.den*b.den) zr zs zg _ _ hs.g hs.f.1) ?_;rintro _ _ _ _ _ hs ⟨zt,zu,rfl,zj,zk⟩;replace hs:=hs.aS zk;refine eC 11 16 hs (fun _ _ hs=>vA (a.num*b.num) zp zq ze oM (bj false (a.den*b.den)) zt zu zj (show (lim ((a.den*b.den))).length≤2000000000 by omega) (AO a b) _ _ hs.g hs.f.r.1 hs.f.1) ?_;rintro _ _ _ _ _ hs ⟨za,zb,zc,zd,rfl,zl,zm,zn,zo⟩;replace hs:=hs.aP zn zo;exact ce hs (fun _ _ hs=>tP 12 0 0 (ct (mkR (a.num*b.num) (bj false (a.den*b.den))) za zb zc zd) hs (fun _ hs=>tN (kX (hs.ret [(0,0,3)] (rG (mkR (a.num*b.num) (bj false (a.den*b.den))) za zb zc zd) (by rw[←xC a b];exact ⟨_,_,_,_,rfl,zl,zm,hs.f.2.1,hs.f.1⟩)))))
theorem BT (n d:Int)(hd:d≠0):mkR n d=(n:Rat)/(d:Rat):=by
 unfold mkR
 have hD:(d:Rat)≠0:=by simpa using hd
 rcases Int.lt_trichotomy d 0 with h|h|h
 ·rw[if_pos h,Rat.mkRat_eq_div]
  have e:((aa d:Nat):Rat) = -(d:Rat):=by
   have:((aa d:Nat):Int) = -d:=by unfold aa;omega
   have h2:(((aa d:Nat):Int):Rat)=((-d:Int):Rat):=by rw[this]
   rw[Rat.intCast_natCast,Rat.intCast_neg] at h2;exact h2
  rw[e];simp;grind
 ·exact absurd h hd
 ·rw[if_neg oM,Rat.mkRat_eq_div]
  have e:((aa d:Nat):Rat)=(d:Rat):=by
   have:((aa d:Nat):Int)=d:=by unfold aa;omega
   have h2:(((aa d:Nat):Int):Rat)=((d:Int):Rat):=by rw[this]
   rw[Rat.intCast_natCast] at h2;exact h2
  rw[e]
theorem ww (a b:Rat)(hb:b.num≠0):mkR (a.num*((b.den:Nat):Int)) (((a.den:Nat):Int)*b.num)=a/b:=by
 have ha:=a.den_pos;have hbd:=b.den_pos;have hne:((a.den:Nat):Int)*b.num≠0:=Int.mul_ne_zero oM hb;rw[BT _ _ hne];have e1:a=(a.num:Rat)/(a.den:Rat):=by rw[←Rat.mkRat_eq_div,Rat.mkRat_self]
 have e2:b=(b.num:Rat)/(b.den:Rat):=by rw[←Rat.mkRat_eq_div,Rat.mkRat_self]
 have h1:((a.den:Nat):Rat)≠0:=by simp;omega
 have h2:((b.den:Nat):Rat)≠0:=by simp;omega
 have h3:((b.num:Int):Rat)≠0:=by simpa using hb
 have e3:a/b=((a.num:Rat)/(a.den:Rat))/((b.num:Rat)/(b.den:Rat)):=by rw[←e1,←e2]
 rw[e3]
 simp only[Rat.intCast_mul,Rat.intCast_natCast]
 generalize (a.num:Rat)=x at *
 generalize (b.num:Rat)=y at *
 generalize ((a.den:Nat):Rat)=z at *
 generalize ((b.den:Nat):Rat)=t at *
 grind
theorem rt {z:Int}(h0 : -9223372036854775808≤z)(h1:z<9223372036854775808):(lim (aa z)).length≤2:=dw (by unfold aa;omega)
theorem kr (z:Int)(h0 : -9223372036854775808≤z)(h1:z<9223372036854775808)(w:World)(h:Hp)(g:G w h):CR 13 #[iV z] w h (fun v h1=>RQ h1 v (z:Rat)):=by
 have hs:=sS g;refine go Tryz.func13 [(0,iV z)] rfl (av (lA 2 28 ([qF,sZ,sZ]) hs (fun b1 w2 h3 hs=>aG (lL hs [.m 3 0] (lC 4 hs (nW z oM oM _ _ hs.g) ?_)))));rintro _ w8 h9 hs ⟨A4,c5,rfl,hc6,hA7⟩;replace hs:=hs.aS hA7;refine lC 5 hs (lw 1 oM _ _ hs.g) ?_;rintro _ _ _ hs ⟨za,zb,rfl,zc,zd⟩;replace hs:=hs.aS zd;exact lL hs [.v 6 (.agg #[.bool (ac z),qS A4 ((lim (aa z)).length) c5,qS za ((lim 1).length) zb])] (lP 0 0 ([.bool (ac z),qS A4 ((lim (aa z)).length) c5,qS za ((lim 1).length) zb]) hs (fun _ hs=>ae hs [(0,0,3)] (.agg #[.bool (ac z),qS A4 ((lim (aa z)).length) c5,qS za ((lim 1).length) zb]) (by unfold RQ;rw[Rat.num_intCast,Rat.den_intCast];exact ⟨_,_,_,_,rfl,hc6,zc,hs.f.2.1,hs.f.1⟩)))
theorem BY (a:Rat)(A1:Option Addr)(c1:Nat)(D1:Option Addr)(d1:Nat)(hc1:(lim (aa a.num)).length≤c1)(hd1:(lim a.den).length≤d1)(hn1:(lim (aa a.num)).length≤300000000)(hm1:(lim a.den).length≤300000000)(b:Rat)(A2:Option Addr)(c2:Nat)(D2:Option Addr)(d2:Nat)(hc2:(lim (aa b.num)).length≤c2)(hd2:(lim b.den).length≤d2)(hn2:(lim (aa b.num)).length≤300000000)(hm2:(lim b.den).length≤300000000)(hb0:b.num≠0)(w:World)(h:Hp)(g:G w h)(hA1:S3 A1 (lim (aa a.num)) h)(hD1:S3 D1 (lim a.den) h)(hA2:S3 A2 (lim (aa b.num)) h)(hD2:S3 D2 (lim b.den) h):CR 92 #[.agg #[.bool (ac a.num),.slice A1 ((lim (aa a.num)).length) c1,.slice D1 ((lim (a.den)).length) d1],.agg #[.bool (ac b.num),.slice A2 ((lim (aa b.num)).length) c2,.slice D2 ((lim (b.den)).length) d2]] w h (fun v h1=>RQ h1 v (a/b)):=by
 have hs:=(((((sS g).aS hA1).aS hD1).aS hA2).aS hD2);have hx1:=gg a.num b.den;have hx2:(lim (aa ((a.den:Int)*b.num))).length≤600000000:=Nat.le_trans (kI (a.den:Int) b.num) (by show (lim a.den).length+_≤_;omega);refine go Tryz.func92 [(0,.agg #[.bool (ac a.num),qS A1 ((lim (aa a.num)).length) c1,qS D1 ((lim (a.den)).length) d1]),(1,.agg #[.bool (ac b.num),qS A2 ((lim (aa b.num)).length) c2,qS D2 ((lim (b.den)).length) d2])] rfl (av (lA 2 28 ([.bool (ac a.num),qS A1 ((lim (aa a.num)).length) c1,qS D1 ((lim (a.den)).length) d1]) hs (fun b1 w2 h3 hs=>lA 3 28 ([.bool (ac b.num),qS A2 ((lim (aa b.num)).length) c2,qS D2 ((lim (b.den)).length) d2]) hs (fun b4 w5 h6 hs=>lA 4 28 ([qF,sZ,sZ]) hs (fun b7 w8 h9 hs=>ah (cR 11 [] mixed hs ar ?_))))));refine eV 0 5 (pB b1) (eO 1 6 [(2,0,2)] (.agg #[.bool (ac a.num),qS A1 ((lim (aa a.num)).length) c1]) hs (eO 2 7 [(1,0,3)] (.agg #[.bool (ac b.num),qS A2 ((lim (aa b.num)).length) c2,qS D2 ((lim (b.den)).length) d2]) hs (eO 5 10 [(2,0,3)] (.agg #[.bool (ac a.num),qS A1 ((lim (aa a.num)).length) c1,qS D1 ((lim (a.den)).length) d1]) hs (eV 7 12 (pB b4) (eO 8 13 [(1,0,2)] (.agg #[.bool (ac b.num),qS A2 ((lim (aa b.num)).length) c2]) hs (eC 3 8 hs (fun _ _ hs=>qL b A2 c2 D2 d2 hc2 hd2 oM oM _ _ hs.g hs.f.2.1 hs.f.1) ?_))))));rintro _ _ _ _ _ hs ⟨zr,zs,rfl,ze,zf⟩;replace hs:=hs.aS zf;refine eC 4 9 hs (fun _ _ hs=>fE a.num A1 c1 hc1 oM (b.den:Int) zr zs ze (show (lim (b.den)).length≤2000000000 by omega) _ _ hs.g hs.f.q.1 hs.f.1) ?_;rintro _ _ _ _ _ hs ⟨zt,zu,rfl,zg,zi⟩;replace hs:=hs.aS zi;refine eC 6 11 hs (fun _ _ hs=>qL a A1 c1 D1 d1 hc1 hd1 oM oM _ _ hs.g hs.f.q.2.1 hs.f.q.1) ?_;rintro _ _ _ _ _ hs ⟨zv,zw,rfl,zj,zk⟩;replace hs:=hs.aS zk;refine eC 9 14 hs (fun _ _ hs=>fE (a.den:Int) zv zw zj (show (lim (a.den)).length≤2000000000 by omega) b.num A2 c2 hc2 oM _ _ hs.g hs.f.1 hs.f.q.1) ?_;rintro _ _ _ _ _ hs ⟨zx,zA,rfl,zl,zm⟩;replace hs:=hs.aS zm;refine eC 10 15 hs (fun _ _ hs=>vA (a.num*(b.den:Int)) zt zu zg oM ((a.den:Int)*b.num) zx zA zl oM (Int.mul_ne_zero (by have:=a.den_pos;omega) hb0) _ _ hs.g hs.f.r.1 hs.f.1) ?_;rintro _ _ _ _ _ hs ⟨za,zb,zc,zd,rfl,zn,zo,zp,zq⟩;replace hs:=hs.aP zp zq;exact ce hs (fun _ _ hs=>tP 11 0 0 (ct (mkR (a.num*(b.den:Int)) ((a.den:Int)*b.num)) za zb zc zd) hs (fun _ hs=>tN (kX (hs.ret [(0,0,3)] (rG (mkR (a.num*(b.den:Int)) ((a.den:Int)*b.num)) za zb zc zd) (by rw[←ww a b hb0];exact ⟨_,_,_,_,rfl,zn,zo,hs.f.2.1,hs.f.1⟩)))))
theorem Cg {P:Program}{Γ:bM}{o:Oper}{t u:TypeId}{x y:Operand}{k ky:IntKind}{a n:Nat}(ho:o.op=.binOp .shr t x y u)(hx:ev Γ x=.int k (a:Int))(hy:ev Γ y=.int ky (n:Int))(hn:n≤k.bits)(w:World) :
  (execOp (ev Γ) o).run P w=.ok (.value (.int k ((a/2^n:Nat):Int))) w:=by
 have:=En (P:=P) ho hx hy hn w;rw[show ((a:Int)/2^n)=((a/2^n:Nat):Int) by simp] at this
 exact this
theorem rz {P:Program}{Γ:bM}{o:Oper}{t u:TypeId}{x y:Operand}{ky:IntKind}{a n:Nat}(ho:o.op=.binOp .shl t x y u)(hx:ev Γ x=.int .u32 (a:Int))(hy:ev Γ y=.int ky (n:Int))(hn:n≤32)(hf:a*2^n<4294967296)(w:World) :
  (execOp (ev Γ) o).run P w=.ok (.value (.int .u32 ((a*2^n:Nat):Int))) w:=by
 have:=D7 (P:=P) ho hx hy hn w;rw[show ((a:Int)*2^n)=((a*2^n:Nat):Int) by simp,ET hf] at this
 exact this
theorem qB (a:Nat)(A:Option Addr)(c:Nat)(hc:(lim a).length≤c)(hLa:(lim a).length≤4000000000)(w:World)(h:Hp)(g:G w h)(hA:S3 A (lim a) h):CR 69 #[.slice A ((lim a).length) c] w h (fun v h1=>∃ A,v=.slice A ((nb a+7)/8) ((nb a+7)/8)∧SlO 1 ku 0 h1 A (eT a ((nb a+7)/8))):=by
 have hs:=((sS g).aS hA);have hna:=n3 a;refine go Tryz.func69 [(0,qS A ((lim a).length) c)] rfl (ab hs [.v 2 (sZ)] (aG (lL hs [.m 6 0] (ai 7 hs (nx a A c hc hLa _ _ hs.g hs.f.1) (fun w1 h2 hs=>bn 8 ((nb a:Nat)+7) ((nb a)+7) (lV 9 (nV (((nb a)+7)/8)) ?_ (hr:=aI (cJ (t:=3) (u:=3) (x:=.tmp 8) (y:=.const (iV 8)) (k:=.i64) (a:=(((nb a)+7:Nat):Int)) (b:=(8:Int)) kR kR kR oM _) (cI ((nb a)+7) 8 oM))))))));refine lL hs [.m 3 9] (aG (lL hs [.m 10 3] (lK 11 5 (((nb a)+7)/8:Nat) 1 1 (.int .u8 0) ku 0 hs (fun b3 w4 h5 hs=>?_))));have hl6:(List.replicate (((nb a)+7)/8:Nat) 0).length=(((nb a)+7)/8:Nat):=by simp
 refine lL hs [.m 4 11] (ah (ab hs [.v 5 (iV 0)] (a8 ?_)));refine bI _ (CG.loop (fun μ_ Γ w_=>∃ (i:Nat) (l:List Nat) (h_:Hp),μ_=((nb a+7)/8)-i∧Γ=[(0,qS A ((lim a).length) c),(2,sZ),(3,nV (((nb a)+7)/8)),(4,qS (sB b3) (((nb a)+7)/8:Nat) (((nb a)+7)/8:Nat)),(5,nV i)]∧SS w h w_ h_ [⟨b3,5,(l).flatMap ku⟩] [] [S3 A (lim a)]∧i≤((nb a+7)/8)∧l.length=((nb a+7)/8)∧(∀ j,j<i→l.getD (((nb a+7)/8)-1-j) 0=a/256^j%256)) _ ⟨0,List.replicate (((nb a)+7)/8:Nat) 0,h5,rfl,rfl,hs.to _ _,Nat.zero_le _,hl6,(fun j hj=>absurd hj oM)⟩ ?_);rintro _ _ w7 ⟨i,l,h8,hm9,rfl,hs,hi,hll,hg⟩;have hai:=(Ld.lim a).get (i/4);refine cQ (ab hs [.m 12 5,.m 13 3] ?_);cases za:(decide ((i:Int)<((((nb a)+7)/8:Nat):Int)))
 ·
  have zb:=oF za;refine lB 14 za (ag (CG.exit ?_))
  show CG _ _ _ _ _ _ _ _
  refine ab hs [.m 34 4,.m 2 34] (lN (kX ?_));have him:i=((nb a+7)/8):=by omega
  have hlb:l=eT a ((nb a+7)/8):=oE hll (fun j hj=>hg j oM);rw[hlb] at hs
  obtain ⟨_,hs,sg12,lo13,bc14⟩:=hs.pub 0;replace hs:=(hs.to [] []).aS (SlO.of_flat (sz:=1) (f:=ku) (d:=0) (b:=b3) (o:=0) (l:=eT a ((nb a+7)/8)) (fun _=>rfl) sg12);exact hs.ret [] (qS (sB b3) (((nb a)+7)/8:Nat) (((nb a)+7)/8:Nat)) (⟨sB b3,rfl,hs.f.1⟩)
 have zb:=oT za;refine lB 14 za (ak (cK (cQ (kZ (kQ (lL hs [.m 17 4,.m 18 3] (bn 19 ((((nb a)+7)/8:Nat)-1) ((((nb a)+7)/8:Nat)-1) ?_)))))));refine lL hs [.m 20 5] (bn 21 (((((nb a)+7)/8:Nat)-1:Nat)-(i:Nat)) (((((nb a)+7)/8:Nat)-1:Nat)-i) ?_);refine lL hs [.m 22 0,.m 23 5] (lV 24 (nV (i/4)) ?_ (hr:=aI (cJ (t:=3) (u:=3) (x:=.tmp 23) (y:=.const (iV 4)) (k:=.i64) (a:=(i:Int)) (b:=(4:Int)) kR kR kR oM _) (cI i 4 oM)));refine lX 25 A ((lim a).length) c 1 (i/4:Nat) (i/4) ((hs.f.1).ok oM) (lH 26 (mW ((lim a).getD (i/4) 0)) hs ((hs.f.1).el (i/4) oM) (lL hs [.m 27 5] (lV 28 (nV (i%4)) ?_ (hr:=aI (dC (t:=3) (u:=3) (x:=.tmp 27) (y:=.const (iV 4)) (k:=.i64) (a:=(i:Int)) (b:=(4:Int)) kR kR kR oM _) (bY i 4)))));refine bn 29 (8*(i%4:Nat)) (8*(i%4)) (lV 30 (mV (8*(i%4))) ?_ (hr:=rU (((8*(i%4):Nat):Int)) kR (aZ oM oM)));refine lV 31 (mW ((lim a).getD (i/4) 0/2^(8*(i%4)))) ?_ (hr:=Cg (t:=128) (u:=131) (x:=.tmp 26) (y:=.tmp 30) (k:=.u32) (ky:=.u64) (a:=(lim a).getD (i/4) 0) (n:=8*(i%4)) kR kR kR (show 8*(i%4)≤32 by omega) _);refine lV 32 (.int .u8 ((lim a).getD (i/4) 0/2^(8*(i%4))%256:Nat)) ?_ (hr:=aI (n:=IntKind.wrap .u8 (((lim a).getD (i/4) 0/2^(8*(i%4)):Nat):Int)) kR (xi _));refine lX 33 (sB b3) (((nb a)+7)/8:Nat) (((nb a)+7)/8:Nat) 1 (((((nb a)+7)/8:Nat)-1:Nat)-i:Nat) (((((nb a)+7)/8:Nat)-1:Nat)-i:Nat) rfl (lW 0 l ku 1 (((((nb a)+7)/8:Nat)-1:Nat)-i:Nat) ((lim a).getD (i/4) 0/2^(8*(i%4))%256:Nat) hs oM (fun _ hs=>?_));have zc:((l).set (((((nb a)+7)/8:Nat)-1:Nat)-i:Nat) ((lim a).getD (i/4) 0/2^(8*(i%4))%256:Nat)).length=(((nb a)+7)/8:Nat):=by rw[List.length_set];exact hll
 replace hs:=hs.to [⟨b3,5,((l).set (((((nb a)+7)/8:Nat)-1:Nat)-i:Nat) ((lim a).getD (i/4) 0/2^(8*(i%4))%256:Nat)).flatMap ku⟩] [];refine lN (kQ (lL hs [.m 15 5] (bn 16 ((i:Nat)+1) (i+1) ?_)));refine lL hs [.m 5 16] (lD ?_);intro a_ ka;refine ⟨_,_,?_,⟨i+1,(l).set (((((nb a)+7)/8:Nat)-1:Nat)-i:Nat) ((lim a).getD (i/4) 0/2^(8*(i%4))%256:Nat),h8,rfl,rfl,hs.to _ _,oM,zc,(fJ hll oM hg (sU a i))⟩,ka.to _ kR⟩
 omega
theorem qD {n m:Nat}(h:n<256^m):∀ j,j<(m+3)/4→(List.replicate ((m+3)/4) 0).getD j 0=ef n (m-0) j:=fun j hj=>by
 rw[Nat.sub_zero,tZ h];simp[hj]
theorem rH {l:List Nat}{n m i x:Nat}(hi:i<m)(hl:l.length=(m+3)/4)(hv:∀ j,j<(m+3)/4→l.getD j 0=ef n (m-i) j)(hx:x=ef n (m-1-i) ((m-1-i)/4)) :
  ∀ j,j<(m+3)/4→(l.set ((m-1-i)/4) x).getD j 0=ef n (m-(i+1)) j:=by
 intro j hj;rw[show m-(i+1)=m-1-i by omega]
 by_cases e:j=(m-1-i)/4
 ·subst e
  have:(m-1-i)/4<l.length:=by omega
  simp[this,hx]
 ·rw[kU,if_neg e,show m-1-i+1=m-i by omega,←hv j hj]
  simp only[List.getD_eq_getElem?_getD]
  rw[List.getElem?_set_ne (Ne.symm e)]
theorem pZ {n k:Nat}:ef n (k+1) (k/4) ||| (n/256^k%256)*2^(8*(k%4))=ef n k (k/4):=by rw[kU n k (k/4),if_pos rfl]
theorem lh {b k:Nat}(hb:b<256):b*2^(8*(k%4))<4294967296:=by
 have:k%4=0∨k%4=1∨k%4=2∨k%4=3:=by omega
 rcases this with e|e|e|e<;>rw[e]<;>omega
theorem uB {l:List Nat}{n m:Nat}(hn:n<256^m)(hl:l.length=(m+3)/4)(hv:∀ j,j<(m+3)/4→l.getD j 0=ef n (m-m) j):aj 4294967296 l=n∧Ld l:=by
 constructor
 ·rw[←iW]
  refine fW l n (fun j hj=>by rw[hv j oM,Nat.sub_self,q6]) ?_;refine Nat.lt_of_lt_of_le hn ?_;rw[hl,show (256:Nat)=2^8 by rfl,show (4294967296:Nat)=2^32 by rfl,←Nat.pow_mul,←Nat.pow_mul];exact Nat.pow_le_pow_right oM oM
 ·intro x hx
  obtain ⟨j,hj,rfl⟩:=List.mem_iff_getElem.1 hx;have:=hv j oM;have e:l[j]=l.getD j 0:=by simp[hj]
  rw[e,this];exact mq _ _ _
theorem tY (n m:Nat)(A:Option Addr)(cap:Nat)(hc:m≤cap)(hm:m≤1099511627776)(hn:n<256^m)(w:World)(h:Hp)(g:G w h)(hA:SlO 1 ku 0 h A (eT n m)):CR 112 #[.slice A m cap] w h (fun v h1=>RN h1 v n):=by
 have hs:=((sS g).aS hA);have hbl:=im n m;refine go Tryz.func112 [(0,qS A m cap)] rfl (ab hs [.v 2 (sZ)] (aG (lL hs [.m 6 0,.v 7 (nV m)] (bn 8 ((m:Nat)+3) (m+3) ?_))));refine lV 9 (nV ((m+3)/4)) ?_ (hr:=aI (cJ (t:=3) (u:=3) (x:=.tmp 8) (y:=.const (iV 4)) (k:=.i64) (a:=((m+3:Nat):Int)) (b:=(4:Int)) kR kR kR oM _) (cI (m+3) 4 oM));refine lK 10 128 ((m+3)/4) 1 4 (uW 0) aW 0 hs (fun b1 w2 h3 hs=>?_);have hl4:(List.replicate ((m+3)/4) 0).length=((m+3)/4):=by simp
 refine lL hs [.m 3 10] (ah (ab hs [.v 4 (iV 0)] (a8 ?_)));refine bI _ (CG.loop (fun μ_ Γ w_=>∃ (i:Nat) (l:List Nat) (h_:Hp),μ_=m-i∧Γ=[(0,qS A m cap),(2,sZ),(3,qS (sB b1) ((m+3)/4) ((m+3)/4)),(4,nV i)]∧SS w h w_ h_ [⟨b1,128,(l).flatMap aW⟩] [] [fun h_=>SlO 1 ku 0 h_ A (eT n m)]∧i≤m∧l.length=(m+3)/4∧(∀ j,j<(m+3)/4→l.getD j 0=ef n (m-i) j)) _ ⟨0,List.replicate ((m+3)/4) 0,h3,rfl,rfl,hs.to _ _,Nat.zero_le _,hl4,(qD hn)⟩ ?_);rintro _ _ w5 ⟨i,l,h6,hm7,rfl,hs,hi,hll,hv⟩;refine cQ (ab hs [.m 11 4,.m 12 0,.v 13 (nV m)] ?_);cases hb8:(decide ((i:Int)<(m:Int)))
 ·
  have phb8:=oF hb8;refine lB 14 hb8 (ag (CG.exit ?_))
  show CG _ _ _ _ _ _ _ _
  refine ab hs [.m 42 3] ?_;have him:i=m:=by omega
  rw[him] at hv
  obtain ⟨hf1,hf2⟩:=uB hn hll hv;obtain ⟨h9,hs,sg10,lo11,bc12⟩:=hs.pub 0;replace hs:=(hs.to [] []).aS (SlO.of_flat (sz:=1) (f:=aW) (d:=0) (b:=b1) (o:=0) (l:=l) (fun _=>rfl) sg10);exact ai 43 hs (gL (sB b1) ((m+3)/4) l ((m+3)/4) hll oM oM _ _ hs.g hs.f.1) (fun _ _ hs=>lL hs [.m 2 43] (ae hs [] (qS (sB b1) (tl l ((m+3)/4)) ((m+3)/4)) (RN.trim hf2 hf1 hll oM hs.f.1)))
 have phb8:=oT hb8;refine lB 14 hb8 (ak (cK (cQ (kZ (ab hs [.m 17 0,.v 18 (nV m)] (bn 19 ((m:Nat)-1) (m-1) ?_))))));refine lL hs [.m 20 4] (bn 21 ((m-1:Nat)-(i:Nat)) ((m-1)-i) ?_);refine lL hs [.m 5 21] (lN (cR 19 [] mixed hs ar ?_));refine eV 0 22 (qS (sB b1) ((m+3)/4) ((m+3)/4)) (eV 1 23 (nV ((m-1)-i)) (eV 2 24 (nV (((m-1)-i)/4)) ?_ (hv:=fun _=>aI (cJ (t:=3) (u:=3) (x:=.tmp 23) (y:=.const (iV 4)) (k:=.i64) (a:=(((m-1)-i:Nat):Int)) (b:=(4:Int)) kR kR kR oM _) (cI ((m-1)-i) 4 oM))));refine eV 3 25 (qS (sB b1) ((m+3)/4) ((m+3)/4)) (eV 4 26 (nV ((m-1)-i)) (eV 5 27 (nV (((m-1)-i)/4)) ?_ (hv:=fun _=>aI (cJ (t:=3) (u:=3) (x:=.tmp 26) (y:=.const (iV 4)) (k:=.i64) (a:=(((m-1)-i:Nat):Int)) (b:=(4:Int)) kR kR kR oM _) (cI ((m-1)-i) 4 oM))));refine eX 6 28 (sB b1) ((m+3)/4) ((m+3)/4) 1 (((m-1)-i)/4:Nat) (((m-1)-i)/4:Nat) rfl (eQ 7 29 0 l aW 1 0 (((m-1)-i)/4:Nat) (mW ((l).getD (((m-1)-i)/4:Nat) 0)) hs oM (eV 8 30 (qS A m cap) (eV 9 31 (nV i) (eX 10 32 A m cap 1 (i:Nat) i ((hs.f.1).ok oM) ?_))));have hvk:=hv ((m-1-i)/4) oM;have hor:l.getD ((m-1-i)/4) 0 ||| (n/256^(m-1-i)%256)*2^(8*((m-1-i)%4))=ef n (m-1-i) ((m-1-i)/4):=by rw[hvk,show m-i=m-1-i+1 by omega];exact pZ
 have hlt:l.getD ((m-1-i)/4) 0<4294967296:=by rw[hvk];exact mq _ _ _
 have hvk:=hv ((m-1-i)/4) oM;have hor:l.getD ((m-1-i)/4) 0 ||| (n/256^(m-1-i)%256)*2^(8*((m-1-i)%4))=ef n (m-1-i) ((m-1-i)/4):=by rw[hvk,show m-i=m-1-i+1 by omega];exact pZ
 have hlt:l.getD ((m-1-i)/4) 0<4294967296:=by rw[hvk];exact mq _ _ _
 refine GG 11 33 (.int .u8 ((eT n m).getD i 0:Nat)) hs ((hs.f.1).el i oM) (by rw[gx n m _ oM]) (eV 12 34 (mW (n/256^(m-1-i)%256)) ?_ (hv:=fun _=>rT (((n/256^(m-1-i)%256:Nat):Int)) kR (lj oM oM)));refine eV 13 35 (nV ((m-1)-i)) (eV 14 36 (nV (((m-1)-i)%4)) ?_ (hv:=fun _=>aI (dC (t:=3) (u:=3) (x:=.tmp 35) (y:=.const (iV 4)) (k:=.i64) (a:=(((m-1)-i:Nat):Int)) (b:=(4:Int)) kR kR kR oM _) (bY ((m-1)-i) 4)));refine iR 15 37 (8*(((m-1)-i)%4:Nat)) (8*(((m-1)-i)%4:Nat)) (eV 16 38 (mV (8*(((m-1)-i)%4:Nat))) ?_ (hv:=fun _=>rU (((8*(((m-1)-i)%4:Nat):Nat):Int)) kR (aZ oM oM)));refine eV 17 39 (mW ((n/256^(m-1-i)%256)*2^(8*((m-1-i)%4)))) ?_ (hv:=fun _=>rz (t:=128) (u:=131) (x:=.tmp 34) (y:=.tmp 38) (ky:=.u64) (a:=n/256^(m-1-i)%256) (n:=8*((m-1-i)%4)) kR kR kR oM (lh oM) _);refine eV 18 40 (mW (ef n (m-1-i) ((m-1-i)/4))) ?_ (hv:=fun _=>aI (Dl (t:=128) (u:=128) (x:=.tmp 29) (y:=.tmp 39) (a:=l.getD ((m-1-i)/4) 0) (b:=(n/256^(m-1-i)%256)*2^(8*((m-1-i)%4))) kR kR kR hlt (lh oM) _) (congrArg Int.ofNat hor));refine ce hs (fun _ zb hs=>tX 19 41 (sB b1) ((m+3)/4) ((m+3)/4) 1 (((m-1)-i)/4:Nat) (((m-1)-i)/4:Nat) rfl (tW 20 0 l aW 1 (((m-1)-i)/4:Nat) (ef n (m-1-i) ((m-1-i)/4):Nat) hs oM (fun _ hs=>?_)));have za:((l).set (((m-1)-i)/4:Nat) (ef n (m-1-i) ((m-1-i)/4):Nat)).length=((m+3)/4):=by rw[List.length_set];exact hll
 replace hs:=hs.to [⟨b1,128,((l).set (((m-1)-i)/4:Nat) (ef n (m-1-i) ((m-1-i)/4):Nat)).flatMap aW⟩] [];refine tN (kQ (lL hs [.m 15 4] (bn 16 ((i:Nat)+1) (i+1) ?_)));refine lL hs [.m 4 16] (lD ?_);intro a_ ka;refine ⟨_,_,?_,⟨i+1,(l).set (((m-1)-i)/4:Nat) (ef n (m-1-i) ((m-1-i)/4):Nat),zb,rfl,rfl,hs.to _ _,oM,za,(rH oM hll hv rfl)⟩,ka.to _ kR⟩
 omega
def db (q:Rat):Rat:=if q.num<0 then -q else q
theorem iB (q:Rat):(db q).num=((aa q.num:Nat):Int):=by
 unfold db aa;split
 ·rw[Rat.neg_num];omega
 ·omega
theorem j7 (q:Rat):(db q).den=q.den:=by
 unfold db;split
 ·rw[Rat.neg_den]
 ·rfl
theorem LQ.ln {q:Rat}(h:LQ 100000000 q):(lim (aa q.num)).length≤300000000:=Nat.le_trans (qf _) (by have:=h.1;omega)
theorem LQ.ld {q:Rat}(h:LQ 100000000 q):(lim q.den).length≤300000000:=Nat.le_trans (qf _) (by have:=h.2;omega)
theorem nl {k:Nat}{q:Rat}(h:LQ k q)(hk:k≤100000000:=by omega):(lim (aa q.num)).length≤300000000:=LQ.ln (h.mono hk)
theorem nD {k:Nat}{q:Rat}(h:LQ k q)(hk:k≤100000000:=by omega):(lim q.den).length≤300000000:=LQ.ld (h.mono hk)
theorem LQ.abs {k:Nat}{q:Rat}(h:LQ k q):LQ k (db q):=⟨by rw[iB];exact h.1,by rw[j7];exact h.2⟩
theorem LQ.sub {k l:Nat}{a b:Rat}(ha:LQ k a)(hb:LQ l b):LQ (k+l+1) (a-b):=by rw[Rat.sub_eq_add_neg];exact ha.add hb.neg
theorem LQ.inv {k:Nat}{q:Rat}(h:LQ k q):LQ k q⁻¹:=by
 by_cases hz:q.num=0
 ·have:q=0:=by rw[←Rat.num_eq_zero];exact hz
  subst this;rw[Rat.inv_zero];exact h
 ·obtain ⟨h1,h2⟩:=qA q hz
  exact ⟨by rw[h1,dy];exact h.2,by rw[h2];exact h.1⟩
theorem LQ.div {k l:Nat}{a b:Rat}(ha:LQ k a)(hb:LQ l b):LQ (k+l) (a/b):=by rw[Rat.div_def];exact ha.mul hb.inv
theorem LQ.int {z:Int}(h0 : -9223372036854775808≤z)(h1:z≤9223372036854775807):LQ 1 (z:Rat):=⟨by rw[Rat.num_intCast];exact fd.2 (by unfold aa;omega),by rw[Rat.den_intCast];exact fd.2 oM⟩
theorem LQ.lit {z:Int}(h : -9223372036854775808≤z∧z≤9223372036854775807):LQ 1 (z:Rat):=LQ.int h.1 h.2
def CW (a b:List Rat):Nat→Rat
  | 0=>0
  | k+1=>CW a b k+a.getD k 0*b.getD k 0
theorem EQ {h:Hp}{v:Value}{a:Rat}(hv:RP h v (-a.num) a.den):RQ h v (-a):=by unfold RQ;rw[Rat.neg_num,Rat.neg_den];exact hv
theorem Ee (a:Rat)(A1:Option Addr)(c1:Nat)(D1:Option Addr)(d1:Nat)(hc1:(lim (aa a.num)).length≤c1)(hd1:(lim a.den).length≤d1)(hn1:(lim (aa a.num)).length≤300000000)(hm1:(lim a.den).length≤300000000)(w:World)(h:Hp)(g:G w h)(hA1:S3 A1 (lim (aa a.num)) h)(hD1:S3 D1 (lim a.den) h):CR 93 #[rG a A1 c1 D1 d1] w h (fun v h1=>RQ h1 v (-a)):=by
 have hs:=(((sS g).aS hA1).aS hD1);refine go Tryz.func93 [(0,rG a A1 c1 D1 d1)] rfl (av (lA 1 28 (ct a A1 c1 D1 d1) hs (fun b1 w2 h3 hs=>lA 2 28 ([qF,sZ,sZ]) hs (fun b4 w5 h6 hs=>ah (cR 6 [] mixed hs ar ?_)))));refine eV 0 3 (pB b1) (eO 1 4 [(1,0,2)] (.agg #[.bool (ac a.num),qS A1 ((lim (aa a.num)).length) c1]) hs (eV 3 6 (qP b1 2) (eO 4 7 [(1,2,1)] (qS D1 ((lim a.den).length) d1) hs (eC 2 5 hs (fun _ _ hs=>qt a.num A1 c1 hc1 oM _ _ hs.g hs.f.2.1) ?_))));rintro _ _ _ _ _ hs ⟨A7,c8,rfl,hc9,za⟩;replace hs:=hs.aS za;exact eV 5 8 (.agg #[.bool (ac (-a.num)),qS A7 ((lim (aa (-a.num))).length) c8,qS D1 ((lim a.den).length) d1]) (ce hs (fun _ _ hs=>tP 6 0 0 ([.bool (ac (-a.num)),qS A7 ((lim (aa (-a.num))).length) c8,qS D1 ((lim a.den).length) d1]) hs (fun _ hs=>tN (kX (hs.ret [(0,0,3)] (.agg #[.bool (ac (-a.num)),qS A7 ((lim (aa (-a.num))).length) c8,qS D1 ((lim a.den).length) d1]) (EQ ⟨_,_,_,_,rfl,hc9,hd1,hs.f.1,hs.f.2.1⟩))))))
theorem Dz (a:Rat)(A1:Option Addr)(c1:Nat)(D1:Option Addr)(d1:Nat)(hc1:(lim (aa a.num)).length≤c1)(hd1:(lim a.den).length≤d1)(hn1:(lim (aa a.num)).length≤300000000)(hm1:(lim a.den).length≤300000000)(w:World)(h:Hp)(g:G w h)(hA1:S3 A1 (lim (aa a.num)) h)(hD1:S3 D1 (lim a.den) h):CR 95 #[rG a A1 c1 D1 d1] w h (fun v h1=>RQ h1 v (db a)):=by
 have hs:=(((sS g).aS hA1).aS hD1);refine go Tryz.func95 [(0,rG a A1 c1 D1 d1)] rfl (av (lA 1 28 (ct a A1 c1 D1 d1) hs (fun b1 w2 h3 hs=>lA 2 28 ([qF,sZ,sZ]) hs (fun b4 w5 h6 hs=>ah (cR 7 [] mixed hs ar ?_)))));refine eV 0 3 (pB b1) (eV 1 4 (qP b1 1) (eO 2 5 [(1,1,1)] (qS A1 ((lim (aa a.num)).length) c1) hs (eV 4 7 (qP b1 2) (eO 5 8 [(1,2,1)] (qS D1 ((lim a.den).length) d1) hs (eC 3 6 hs (fun _ _ hs=>rI false (aa a.num) A1 c1 hc1 _ _ hs.g hs.f.2.1) ?_)))));rintro _ _ _ _ _ hs ⟨A7,c8,rfl,hc9,za⟩;replace hs:=hs.aS za;exact eV 6 9 (.agg #[.bool (ac (bj false (aa a.num))),qS A7 ((lim (aa (bj false (aa a.num)))).length) c8,qS D1 ((lim a.den).length) d1]) (ce hs (fun _ _ hs=>tP 7 0 0 ([.bool (ac (bj false (aa a.num))),qS A7 ((lim (aa (bj false (aa a.num)))).length) c8,qS D1 ((lim a.den).length) d1]) hs (fun _ hs=>tN (kX (hs.ret [(0,0,3)] (.agg #[.bool (ac (bj false (aa a.num))),qS A7 ((lim (aa (bj false (aa a.num)))).length) c8,qS D1 ((lim a.den).length) d1]) (by unfold RQ;rw[iB,j7];exact ⟨_,_,_,_,rfl,hc9,hd1,hs.f.1,hs.f.2.1⟩))))))
theorem FU (a:Rat)(A1:Option Addr)(c1:Nat)(D1:Option Addr)(d1:Nat)(hc1:(lim (aa a.num)).length≤c1)(hd1:(lim a.den).length≤d1)(hn1:(lim (aa a.num)).length≤300000000)(hm1:(lim a.den).length≤300000000)(b:Rat)(A2:Option Addr)(c2:Nat)(D2:Option Addr)(d2:Nat)(hc2:(lim (aa b.num)).length≤c2)(hd2:(lim b.den).length≤d2)(hn2:(lim (aa b.num)).length≤300000000)(hm2:(lim b.den).length≤300000000)(w:World)(h:Hp)(g:G w h)(hA1:S3 A1 (lim (aa a.num)) h)(hD1:S3 D1 (lim a.den) h)(hA2:S3 A2 (lim (aa b.num)) h)(hD2:S3 D2 (lim b.den) h):CR 89 #[rG a A1 c1 D1 d1,rG b A2 c2 D2 d2] w h (fun v h1=>RQ h1 v (a-b)):=by
 have hs:=(((((sS g).aS hA1).aS hD1).aS hA2).aS hD2);refine go Tryz.func89 [(0,rG a A1 c1 D1 d1),(1,rG b A2 c2 D2 d2)] rfl (av (lA 2 28 (ct a A1 c1 D1 d1) hs (fun b1 w2 h3 hs=>lA 3 28 (ct b A2 c2 D2 d2) hs (fun b4 w5 h6 hs=>lA 4 28 ([qF,sZ,sZ]) hs (fun b7 w8 h9 hs=>ah (cR 4 [] mixed hs ar ?_))))));refine eO 0 5 [(2,0,3)] (rG a A1 c1 D1 d1) hs (eO 1 6 [(1,0,3)] (rG b A2 c2 D2 d2) hs (eC 2 7 hs (fun _ _ hs=>Ee b A2 c2 D2 d2 hc2 hd2 hn2 hm2 _ _ hs.g hs.f.2.1 hs.f.1) ?_));rintro _ _ _ _ _ hs ⟨zn,zo,zp,zq,rfl,ze,zf,zg,zi⟩;replace hs:=hs.aP zg zi;refine eC 3 8 hs (fun _ _ hs=>Dn a A1 c1 D1 d1 hc1 hd1 hn1 hm1 (-b) zn zo zp zq ze zf (by rw[Rat.neg_num];unfold aa;rw[Int.natAbs_neg];exact hn2) (by rw[Rat.neg_den];exact hm2) _ _ hs.g hs.f.q.2.1 hs.f.q.1 hs.f.2.1 hs.f.1) ?_;rintro _ _ _ _ _ hs ⟨za,zb,zc,zd,rfl,zj,zk,zl,zm⟩;replace hs:=hs.aP zl zm;exact ce hs (fun _ _ hs=>tP 4 0 0 (ct (a+(-b)) za zb zc zd) hs (fun _ hs=>tN (kX (hs.ret [(0,0,3)] (rG (a+(-b)) za zb zc zd) (by rw[Rat.sub_eq_add_neg];exact ⟨_,_,_,_,rfl,zj,zk,hs.f.2.1,hs.f.1⟩)))))
theorem jN (a:Nat)(A:Option Addr)(c:Nat)(hc:(lim a).length≤c)(b:Nat)(D:Option Addr)(d:Nat)(hd:(lim b).length≤d)(hLa:(lim a).length≤3000000000)(hLb:(lim b).length≤1)(hb:0<b)(w:World)(h:Hp)(g:G w h)(hA:S3 A (lim a) h)(hD:S3 D (lim b) h):CR 158 #[.slice A (lim a).length c,.slice D (lim b).length d] w h (fun v h1=>∃ v1 v2,v=.tuple #[v1,v2]∧RN h1 v1 (a/b)∧RN h1 v2 (a%b)):=by
 have hp:=bG.2 hb
 rcases Nat.lt_or_ge a b with h1|h1
 ·exact kL a A c hc b D d hd hLa oM h1 w h g hA hD
 ·exact kh a A c hc b D d hd hLa oM h1 oM w h g hA hD
theorem uw (a:Nat)(A:Option Addr)(c:Nat)(hc:(lim a).length≤c)(b:Nat)(D:Option Addr)(d:Nat)(hd:(lim b).length≤d)(hLa:(lim a).length≤3000000000)(hLb:(lim b).length≤1)(w:World)(h:Hp)(g:G w h)(hA:S3 A (lim a) h)(hD:S3 D (lim b) h):CR 157 #[.slice A ((lim a).length) c,.slice D ((lim b).length) d] w h (fun v h1=>RN h1 v (Nat.gcd a b)):=by
 have hs:=(((sS g).aS hA).aS hD);refine go Tryz.func157 [(0,qS A ((lim a).length) c),(1,qS D ((lim b).length) d)] rfl (ab hs [.v 4 (sZ)] (ah (kZ ?_)));replace hs:=hs.aS hs.f.1;replace hs:=hs.aS hs.f.r.1;refine bI _ (CG.loop (fun μ_ Γ w_=>∃ (x:Nat) (A1:Option Addr) (c1:Nat) (y:Nat) (A2:Option Addr) (c2:Nat) (h_:Hp),μ_=y∧Γ=[(4,sZ),(0,qS A1 ((lim x).length) c1),(1,qS A2 ((lim y).length) c2)]∧SS w h w_ h_ [] [] [S3 A1 (lim x),S3 A2 (lim y),S3 D (lim b),S3 A (lim a)]∧(lim x).length≤c1∧(lim y).length≤c2∧(lim x).length≤3000000000∧(lim y).length≤1∧Nat.gcd x y=Nat.gcd a b) _ ⟨a,A,c,b,D,d,h,rfl,rfl,hs.to _ _,hc,hd,hLa,hLb,rfl⟩ ?_);rintro _ _ w1 ⟨x,A1,c1,y,A2,c2,h2,hm3,rfl,hs,hc1,hc2,hl1,hl2,hG⟩;refine cQ (ab hs [.m 7 1,.v 8 (nV ((lim y).length))] ?_);cases hb4:(decide ((0:Int)<(((lim y).length:Nat):Int)))
 ·
  have phb4:=oF hb4;refine lB 9 hb4 (ag (CG.exit ?_))
  show CG _ _ _ _ _ _ _ _
  refine ab hs [.m 18 0,.m 4 18] (lN (kX ?_));have hy0:y=0:=Nat.eq_zero_of_not_pos (fun h_=>by have:=bG.2 h_;omega);exact hs.ret [] (qS A1 ((lim x).length) c1) (by rw[←hG,hy0,Nat.gcd_zero_right];exact ⟨A1,c1,rfl,hc1,hs.f.1⟩)
 have phb4:=oT hb4;refine lB 9 hb4 (ak (cK (kZ (ab hs [.m 11 0,.m 12 1] (lC 13 hs (jN x A1 c1 hc1 y A2 c2 hc2 oM oM (bG.1 oM) _ _ hs.g hs.f.1 hs.f.2.1) ?_)))));rintro _ w5 h6 hs ⟨_,_,rfl,⟨Aq,cq,rfl,hcq,hq⟩,⟨Ar,cr,rfl,hcr,hr⟩⟩;replace hs:=hs.aS hr;have hmd:=Nat.mod_lt x (bG.1 (show 0<(lim y).length by omega));have hml:=cG (show x%y≤y by omega);refine lL hs [.m 10 13,.v 14 (qS Aq (lim (x/y)).length cq),.v 15 (qS Ar ((lim (x%y)).length) cr),.m 5 14,.m 6 15] (aG (lL hs [.m 16 1,.m 0 16] (lN (kQ (lL hs [.m 17 6,.m 1 17] (lD ?_))))));intro a_ ka;replace hs:=((hs.tl.tl.tl.aS hs.f.1).aS hs.f.r.1);refine ⟨_,_,?_,⟨y,A2,c2,x%y,Ar,cr,h6,rfl,rfl,hs.to _ _,hc2,hcr,oM,oM,(by rw[gG];exact hG)⟩,ka.to _ kR⟩
 omega
theorem rj (a:Nat)(A:Option Addr)(c:Nat)(hc:(lim a).length≤c)(b:Nat)(D:Option Addr)(d:Nat)(hd:(lim b).length≤d)(q:Nat)(hq:q=Nat.gcd a b)(hLa:(lim a).length≤3000000000)(hLb:(lim b).length≤1)(w:World)(h:Hp)(g:G w h)(hA:S3 A (lim a) h)(hD:S3 D (lim b) h):CR 157 #[.slice A (lim a).length c,.slice D (lim b).length d] w h (fun v h1=>RN h1 v q):=by
 subst hq;exact uw a A c hc b D d hd hLa hLb w h g hA hD
theorem oS {z:Int}(h0 : -4294967296<z)(h1:z<4294967296):(lim (aa z)).length≤1:=dw (by unfold aa;omega)
theorem Dr (x:Int)(A:Option Addr)(c:Nat)(hc:(lim (aa x)).length≤c)(hLx:(lim (aa x)).length≤2000000000)(y:Int)(D:Option Addr)(d:Nat)(hd:(lim (aa y)).length≤d)(hLy:(lim (aa y)).length≤1)(hd0:y≠0)(w:World)(h:Hp)(g:G w h)(hA:S3 A (lim (aa x)) h)(hD:S3 D (lim (aa y)) h):CR 116 #[.agg #[.bool (ac x),.slice A ((lim (aa x)).length) c],.agg #[.bool (ac y),.slice D ((lim (aa y)).length) d]] w h (fun v h1=>RQ h1 v (mkR x y)):=by
 have hs:=(((sS g).aS hA).aS hD);obtain ⟨hm1,hm2,hq0⟩:=kH x y hd0;obtain ⟨q,hq⟩:∃ q,q=Nat.gcd (aa x) (aa y):=⟨_,rfl⟩;rw[←hq] at hm1 hm2 hq0
 have hql:(lim q).length≤1:=fk (by rw[hq];exact Nat.gcd_le_right _ (by unfold aa;omega)) hLy;refine go Tryz.func116 [(0,.agg #[.bool (ac x),qS A ((lim (aa x)).length) c]),(1,.agg #[.bool (ac y),qS D ((lim (aa y)).length) d])] rfl (av (lA 2 26 ([.bool (ac x),qS A ((lim (aa x)).length) c]) hs (fun b1 w2 h3 hs=>lA 3 26 ([.bool (ac y),qS D ((lim (aa y)).length) d]) hs (fun b4 w5 h6 hs=>lA 4 28 ([qF,sZ,sZ]) hs (fun b7 w8 h9 hs=>aG (lL hs [.v 10 (qP b1 1),.o 11 (qS A ((lim (aa x)).length) c) 2 1 1,.v 12 (qP b4 1),.o 13 (qS D ((lim (aa y)).length) d) 1 1 1] (lC 14 hs (rj (aa x) A c hc (aa y) D d hd q hq oM oM _ _ hs.g hs.f.2.1 hs.f.1) ?_)))))));rintro _ _ _ hs ⟨zf,zg,rfl,zc,zk⟩;replace hs:=hs.aS zk;refine lL hs [.m 5 14] (aG (lL hs [.v 16 (qP b1 1),.o 17 (qS A ((lim (aa x)).length) c) 2 1 1,.m 18 5] (lC 19 hs (jN (aa x) A c hc q zf zg zc oM oM hq0 _ _ hs.g hs.f.r.1 hs.f.1) ?_)));rintro _ _ _ hs ⟨_,v2_A16,rfl,⟨zi,zj,rfl,zl,zm⟩,-⟩;replace hs:=hs.aS zm;refine lL hs [.m 15 19,.v 20 (qS zi ((lim ((aa x)/q)).length) zj),.v 21 v2_A16,.m 6 20,.m 7 21] (aG (lL hs [.v 23 (qP b4 1),.o 24 (qS D ((lim (aa y)).length) d) 1 1 1,.m 25 5] (lC 26 hs (jN (aa y) D d hd q zf zg zc oM oM hq0 _ _ hs.g hs.f.r.1 hs.f.2.1) ?_)));rintro _ _ _ hs ⟨_,v2_A22,rfl,⟨za,zb,rfl,zn,zo⟩,-⟩;replace hs:=hs.aS zo;refine lL hs [.m 22 26,.v 27 (qS za ((lim ((aa y)/q)).length) zb),.v 28 v2_A22,.m 8 27,.m 9 28] (aG (lL hs [.v 29 (pB b1),.o 30 (.bool (ac x)) 2 0 1,.v 31 (pB b4),.o 32 (.bool (ac y)) 1 0 1,.v 33 (.bool ((ac x) != (ac y))),.m 34 6] (lC 35 hs (rI ((ac x) != (ac y)) ((aa x)/q) zi zj zl _ _ hs.g hs.f.2.1) ?_)));rintro _ _ _ hs ⟨zd,ze,rfl,zp,zq⟩;replace hs:=hs.aS zq;exact lL hs [.m 36 8,.v 37 (.agg #[.bool (ac (bj ((ac x) != (ac y)) ((aa x)/q))),qS zd ((lim (aa (bj ((ac x) != (ac y)) ((aa x)/q)))).length) ze,qS za ((lim ((aa y)/q)).length) zb])] (lP 0 0 ([.bool (ac (bj ((ac x) != (ac y)) ((aa x)/q))),qS zd ((lim (aa (bj ((ac x) != (ac y)) ((aa x)/q)))).length) ze,qS za ((lim ((aa y)/q)).length) zb]) hs (fun _ hs=>ae hs [(0,0,3)] (.agg #[.bool (ac (bj ((ac x) != (ac y)) ((aa x)/q))),qS zd ((lim (aa (bj ((ac x) != (ac y)) ((aa x)/q)))).length) ze,qS za ((lim ((aa y)/q)).length) zb]) (by unfold RQ;rw[hm1,hm2];exact ⟨_,_,_,_,rfl,zp,zn,hs.f.1,hs.f.2.1⟩)))
theorem CS (x y:Int)(hy0:y≠0)(h0 : -9223372036854775808≤x)(h1:x<9223372036854775808)(h2 : -4294967296<y)(h3:y<4294967296)(w:World)(h:Hp)(g:G w h):CR 62 #[iV x,iV y] w h (fun v h1=>RQ h1 v (mkR x y)):=by
 have hs:=sS g;have hx_:=rt h0 h1;have hy_:=oS h2 h3;refine go Tryz.func62 [(0,iV x),(1,iV y)] rfl (av (lA 4 28 ([qF,sZ,sZ]) hs (fun b1 w2 h3 hs=>aG (lL hs [.m 5 0] (lC 6 hs (nW x oM oM _ _ hs.g) ?_)))));rintro _ w8 h9 hs ⟨A4,c5,rfl,hc6,hA7⟩;replace hs:=hs.aS hA7;refine lL hs [.m 7 1] (lC 8 hs (nW y oM oM _ _ hs.g) ?_);rintro _ _ _ hs ⟨zl,zm,rfl,ze,zf⟩;replace hs:=hs.aS zf;refine lC 9 hs (Dr x A4 c5 hc6 oM y zl zm ze oM hy0 _ _ hs.g hs.f.2.1 hs.f.1) ?_;rintro _ _ _ hs ⟨za,zb,zc,zd,rfl,zg,zi,zj,zk⟩;replace hs:=hs.aP zj zk;exact lP 0 0 (ct (mkR x y) za zb zc zd) hs (fun _ hs=>ae hs [(0,0,3)] (rG (mkR x y) za zb zc zd) (by skip;exact ⟨_,_,_,_,rfl,zg,zi,hs.f.2.1,hs.f.1⟩))
theorem Fg (a:Nat)(A:Option Addr)(c:Nat)(hc:(lim a).length≤c)(hl:(lim a).length≤300000000)(w:World)(h:Hp)(g:G w h)(hA:S3 A (lim a) h):CV 39 #[.slice A ((lim a).length) c] w h (nv a):=by
 have hs:=((sS g).aS hA);have hnb:=n3 a;refine go Tryz.func39 [(0,qS A ((lim a).length) c)] rfl (av (lA 2 41 ([uV 0,eS]) hs (fun b1 w2 h3 hs=>aG (lL hs [.m 3 0] (lC 4 hs (qB a A c hc oM _ _ hs.g hs.f.1) ?_)))));rintro _ w6 h7 hs ⟨A4,rfl,hA5⟩;replace hs:=hs.aS hA5;exact ai 5 hs (ve a ((nb a+7)/8) A4 ((nb a+7)/8) (nR _) oM (uO a) _ _ hs.g hs.f.1) (fun w8 h9 hs=>lP 0 0 (nc a) hs (fun _ hs=>ae hs [(0,0,2)] (nv a) rfl))
theorem FT (z:Int)(A:Option Addr)(c:Nat)(hc:(lim (aa z)).length≤c)(hl:(lim (aa z)).length≤300000000)(w:World)(h:Hp)(g:G w h)(hA:S3 A (lim (aa z)) h):CV 37 #[.agg #[.bool (ac z),.slice A ((lim (aa z)).length) c]] w h (iv z):=by
 have hs:=((sS g).aS hA);have hwl:=xb (aa z);refine go Tryz.func37 [(0,.agg #[.bool (ac z),qS A ((lim (aa z)).length) c])] rfl (av (lA 1 26 ([.bool (ac z),qS A ((lim (aa z)).length) c]) hs (fun b1 w2 h3 hs=>lA 2 43 ([qF,uV 0,eS]) hs (fun b4 w5 h6 hs=>ah (cR 6 [] mixed hs ar ?_)))));exact eV 0 3 (pB b1) (eO 1 4 [(1,0,1)] (.bool (ac z)) hs (eV 2 5 (qP b1 1) (eO 3 6 [(1,1,1)] (qS A ((lim (aa z)).length) c) hs (aq 4 7 hs (fun _ _ hs=>Fg (aa z) A c hc (by first|exact hl|exact LQ.ld hq|omega) _ _ hs.g hs.f.1) (fun w7 h8 hs=>aq 5 8 hs (fun _ _ hs=>eL (ac z) (aa z) oM _ _ hs.g) (fun w9 _ hs=>ce hs (fun _ _ hs=>tP 6 0 0 (ic (bj (ac z) (aa z))) hs (fun _ hs=>tN (kX (hs.ret [(0,0,3)] (iv (bj (ac z) (aa z))) (congrArg iv (kf z))))))))))))
theorem sE (q:Rat):mkR q.num ((q.den:Nat):Int)=q:=by
 unfold mkR;rw[if_neg oM];show mkRat q.num q.den=q;rw[Rat.mkRat_self]
theorem Gt (q:Rat)(A1:Option Addr)(c1:Nat)(D1:Option Addr)(d1:Nat)(hc1:(lim (aa q.num)).length≤c1)(hd1:(lim q.den).length≤d1)(hq:LQ 100000000 q)(w:World)(h:Hp)(g:G w h)(hA1:S3 A1 (lim (aa q.num)) h)(hD1:S3 D1 (lim q.den) h)(tb:Tab h):CV 19 #[rG q A1 c1 D1 d1] w h (qv q):=by
 have hs:=((((sS g).aS hA1).aS hD1).aB tb);refine go Tryz.func19 [(0,rG q A1 c1 D1 d1)] rfl (av (lA 1 28 (ct q A1 c1 D1 d1) hs (fun b1 w2 h3 hs=>lA 2 45 ([qF,uV 0,eS,uV 0,eS]) hs (fun b4 w5 h6 hs=>ah ?_))));have hsr:=hs;exact cR 12 [⟨11,3,.cells (List.toArray [qF,uV 0,eS,uV 0,eS]) 45 (0,0)⟩] mixed hs (bP (fb kR (fun _ _=>by kernel_rfl)) ar) (eV 0 6 (pB b1) (eO 1 7 [(1,0,2)] (.agg #[.bool (ac q.num),qS A1 ((lim (aa q.num)).length) c1]) hs (eV 3 9 (qP b1 2) (eO 4 10 [(1,2,1)] (qS D1 ((lim q.den).length) d1) hs (aq 2 8 hs (fun _ _ hs=>FT q.num A1 c1 hc1 (LQ.ln hq) _ _ hs.g hs.f.r.1) (fun w7 h8 hs=>aq 5 11 hs (fun _ _ hs=>Fg q.den D1 d1 hd1 (by first|exact hl|exact LQ.ld hq|omega) _ _ hs.g hs.f.2.1) (fun w9 _ hs=>aq 6 12 hs (fun _ _ hs=>dt q.den _ _ hs.g) (fun _ _ hs=>aq 7 13 hs (fun _ _ hs=>EN q.num (q.den:Int) (by have:=q.den_pos;omega) (by have:=hq.1;omega) (by show (wds q.den).length≤_;have:=hq.2;omega) _ _ hs.g hs.f.1) (fun _ _ hs=>eV 8 5 (.tuple #[qv (mkR q.num (q.den:Int)),qT]) (eV 9 14 (qv (mkR q.num (q.den:Int))) (eV 10 15 qT (iu [] hsr hs 45 [qF,uV 0,eS,uV 0,eS] (fun _ _ b17 hs=>tP 12 0 0 (qc (mkR q.num (q.den:Int))) hs (fun _ hs=>tV 13 4 qT (qI (lL hs [.o 16 (qv (mkR q.num (q.den:Int))) 0 0 5] (lP 1 0 (qc (mkR q.num (q.den:Int))) hs (fun _ hs=>ae hs [(1,0,5)] (qv (mkR q.num (q.den:Int))) (congrArg qv (sE q))))))))))))))))))))
theorem Fz (v:Value)(q:Rat)(hq:LQ 100000000 q)(w:World)(h:Hp)(g:G w h)(hv:RQ h v q)(tb:Tab h):CV 19 #[v] w h (qv q):=by
 obtain ⟨A,c,B,d,rfl,h1,h2,h3,h4⟩:=hv;exact Gt q A c B d h1 h2 hq w h g h3 h4 tb
theorem qp (n:Nat)(hl:(wds n).length≤100000000)(w:World)(h:Hp)(g:G w h):CR 58 #[nv n] w h (fun v h1=>RN h1 v n):=by
 have hs:=sS g;have hnb:=jT n;refine go Tryz.func58 [(0,nv n)] rfl (av (lA 1 41 (nc n) hs (fun b1 w2 h3 hs=>lL hs [.v 2 (sZ)] (aG (lL hs [.o 3 (nv n) 0 0 2] (lC 4 hs (sn n oM _ _ hs.g) ?_))))));rintro _ w6 h7 hs ⟨A4,rfl,hA5⟩;replace hs:=hs.aS hA5;refine lC 5 hs (tY n ((nb n+7)/8) A4 ((nb n+7)/8) (nR _) oM (uO n) _ _ hs.g hs.f.1) ?_;rintro _ _ _ hs ⟨A8,c9,rfl,za,zb⟩;replace hs:=hs.aS zb;exact lL hs [.m 2 5] (ae hs [] (qS A8 ((lim n).length) c9) (⟨_,_,rfl,za,hs.f.1⟩))
theorem xf (z:Int):bj (decide (z.sign<(0:Int))) (aa z)=z:=by
 rcases Int.lt_trichotomy z 0 with h|h|h
 ·rw[Int.sign_eq_neg_one_of_neg h];unfold bj aa;simp;omega
 ·subst h;rfl
 ·rw[Int.sign_eq_one_of_pos h];unfold bj aa;simp;omega
theorem wZ (z:Int)(hl:(wds (aa z)).length≤100000000)(w:World)(h:Hp)(g:G w h):CR 56 #[iv z] w h (fun v h1=>RI h1 v z):=by
 have hs:=sS g;refine go Tryz.func56 [(0,iv z)] rfl (av (lA 1 43 (ic z) hs (fun b1 w2 h3 hs=>lA 2 26 ([qF,sZ]) hs (fun b4 w5 h6 hs=>ah (cR 7 [] mixed hs ar ?_)))));refine eO 0 3 [(1,0,3)] (iv z) hs (eO 3 6 [(1,0,3)] (iv z) hs (aq 1 4 hs (fun _ _ hs=>ke z oM _ _ hs.g) (fun w7 h8 hs=>eV 2 5 (.bool (decide ((z.sign:Int)<(0:Int)))) (aq 4 7 hs (fun _ _ hs=>qy z _ _ hs.g) (fun w9 _ hs=>eC 5 8 hs (fun _ _ hs=>qp (aa z) (by first|exact hq.2|omega) _ _ hs.g) ?_)))));rintro _ _ _ _ _ hs ⟨zg,zi,rfl,zc,zd⟩;replace hs:=hs.aS zd;refine eC 6 9 hs (fun _ _ hs=>rI (decide ((z.sign:Int)<(0:Int))) (aa z) zg zi zc _ _ hs.g hs.f.1) ?_;rintro _ _ _ _ _ hs ⟨za,zb,rfl,ze,zf⟩;replace hs:=hs.aS zf;exact ce hs (fun _ _ hs=>tP 7 0 0 ([.bool (ac (bj (decide ((z.sign:Int)<(0:Int))) (aa z))),qS za ((lim (aa (bj (decide ((z.sign:Int)<(0:Int))) (aa z)))).length) zb]) hs (fun _ hs=>tN (kX (hs.ret [(0,0,2)] (.agg #[.bool (ac (bj (decide ((z.sign:Int)<(0:Int))) (aa z))),qS za ((lim (aa (bj (decide ((z.sign:Int)<(0:Int))) (aa z)))).length) zb]) (by rw[xf] at *;exact ⟨_,_,rfl,ze,hs.f.1⟩)))))
theorem F4 (q:Rat)(hq:LQ 100000000 q)(w:World)(h:Hp)(g:G w h):CR 27 #[qv q] w h (fun v h1=>RQ h1 v q):=by
 have hs:=sS g;refine go Tryz.func27 [(0,qv q)] rfl (av (lA 1 45 (qc q) hs (fun b1 w2 h3 hs=>lA 2 28 ([qF,sZ,sZ]) hs (fun b4 w5 h6 hs=>ah (cR 7 [] mixed hs ar ?_)))));refine eO 0 3 [(1,0,5)] (qv q) hs (eO 3 6 [(1,0,5)] (qv q) hs (aq 1 4 hs (fun _ _ hs=>Fs q _ _ hs.g) (fun w7 h8 hs=>eC 2 5 hs (fun _ _ hs=>wZ q.num hq.1 _ _ hs.g) ?_)));rintro _ _ _ _ _ hs ⟨A9,za,rfl,zd,ze⟩;replace hs:=hs.aS ze;refine aq 4 7 hs (fun _ _ hs=>en q hq _ _ hs.g) (fun _ _ hs=>eC 5 8 hs (fun _ _ hs=>qp q.den (by first|exact hq.2|omega) _ _ hs.g) ?_);rintro _ _ _ _ _ hs ⟨zb,zc,rfl,zf,zg⟩;replace hs:=hs.aS zg;exact eV 6 9 (rG q A9 za zb zc) (ce hs (fun _ _ hs=>tP 7 0 0 (ct q A9 za zb zc) hs (fun _ hs=>tN (kX (hs.ret [(0,0,3)] (rG q A9 za zb zc) (⟨_,_,_,_,rfl,zd,zf,hs.f.2.1,hs.f.1⟩))))))
def py (a b:Rat):Bool:=decide (a=b)
theorem wc {a b:Rat}(h1:bL (aa a.num) (aa b.num)=0)(h2:ac a.num=ac b.num)(h3:bL a.den b.den=0):true=py a b:=by
 have e1:aa a.num=aa b.num:=by unfold bL at h1;split at h1;omega;split at h1;omega;omega
 have e3:a.den=b.den:=by unfold bL at h3;split at h3;omega;split at h3;omega;omega
 have e2:a.num=b.num:=by rw[←kf a.num,←kf b.num,e1,h2]
 symm
 exact decide_eq_true (Rat.ext e2 e3)
theorem kJ (a:Nat):bL a a=0:=by simp[bL]
theorem ms {a b:Rat}(h:bL (aa a.num) (aa b.num)≠0∨ac a.num≠ac b.num∨bL a.den b.den≠0):false=py a b:=by
 symm
 refine decide_eq_false ?_;rintro rfl
 rcases h with h|h|h
 ·exact h (kJ _)
 ·exact h rfl
 ·exact h (kJ _)
theorem DW (q r:Rat)(hq:LQ 100000000 q)(hr:LQ 100000000 r)(A1:Option Addr)(c1:Nat)(D1:Option Addr)(d1:Nat)(hc1:(lim (aa r.num)).length≤c1)(hd1:(lim r.den).length≤d1)(w:World)(h:Hp)(g:G w h)(hA1:S3 A1 (lim (aa r.num)) h)(hD1:S3 D1 (lim r.den) h):CV 12 #[qv q,rG r A1 c1 D1 d1] w h (.bool (py q r)):=by
 have hs:=(((sS g).aS hA1).aS hD1);have hpd:0<(lim r.den).length:=bG.2 r.den_pos;have hq1:=LQ.ln hq;have hq2:=LQ.ld hq;have hr1:=LQ.ln hr;have hr2:=LQ.ld hr;refine go Tryz.func12 [(0,qv q),(1,rG r A1 c1 D1 d1)] rfl (av (lA 2 45 (qc q) hs (fun b1 w2 h3 hs=>lA 3 28 (ct r A1 c1 D1 d1) hs (fun b4 w5 h6 hs=>lL hs [.v 4 qF] (aG (lL hs [.o 6 (qv q) 1 0 5] (lC 7 hs (F4 q hq _ _ hs.g) ?_)))))));rintro _ _ _ hs ⟨A7,c8,zd,ze,rfl,hc9,zk,zl,zm⟩;replace hs:=hs.aP zl zm;refine lA 5 28 ([qF,sZ,sZ]) hs (fun zc _ _ hs=>lP 0 0 (ct q A7 c8 zd ze) hs (fun _ hs=>ah (ab hs [.v 8 (qP b4 2),.o 9 (qS D1 ((lim r.den).length) d1) 1 2 1,.v 10 (nV ((lim r.den).length))] ?_)));have zf:((((lim r.den).length:Nat):Int) == (0:Int))=false:=(by simp;exact fun h=>Nat.lt_irrefl 0 (by rw[h] at hpd;exact hpd));have phb21:=af zf;refine lB 11 zf (ag (cK (ab hs [.v 13 (pB zc),.v 14 (qP zc 1),.o 15 (qS A7 ((lim (aa q.num)).length) c8) 0 1 1,.v 16 (pB b4),.v 17 (qP b4 1),.o 18 (qS A1 ((lim (aa r.num)).length) c1) 1 1 1] (ai 19 hs (fA (aa q.num) A7 c8 hc9 (aa r.num) A1 c1 hc1 oM oM _ _ hs.g hs.f.2.1 hs.f.r.2.1) (fun _ _ hs=>?_)))));cases za:((bL (aa q.num) (aa r.num):Int) == (0:Int))
 ·
  have zi:=af za;refine lB 20 za (lL hs [.m 21 20] (lG 22 ?_));refine lG 23 (lG 24 (lG 25 (lG 26 (lG 27 (lG 28 (lL hs [.v 29 qF,.m 30 29] (lG 31 ?_)))))));exact lG 32 (lG 33 (lG 34 (lG 35 (lG 36 (lL hs [.v 37 qF,.m 4 37] (ae hs [] qF (congrArg Value.bool (ms (by first|(left;assumption)|(right;right;assumption)|(right;left;exact beq_eq_false_iff_ne.1 ‹_›))))))))))
 have zi:=eq_of_beq za;refine lB 20 za (lL hs [.m 21 20,.v 22 (pB zc),.v 23 (pB zc),.o 24 (.bool (ac q.num)) 0 0 1,.v 25 (pB b4),.v 26 (pB b4),.o 27 (.bool (ac r.num)) 1 0 1] ?_);cases zg:((ac q.num) == (ac r.num))
 ·
  refine lB 28 zg (lL hs [.v 29 qF,.m 30 29] (lG 31 ?_));exact lG 32 (lG 33 (lG 34 (lG 35 (lG 36 (lL hs [.v 37 qF,.m 4 37] (ae hs [] qF (congrArg Value.bool (ms (by first|(left;assumption)|(right;right;assumption)|(right;left;exact beq_eq_false_iff_ne.1 ‹_›))))))))))
 refine lB 28 zg (lL hs [.v 29 qT,.m 30 29,.v 31 (qP zc 2),.o 32 (qS zd ((lim q.den).length) ze) 0 2 1,.v 33 (qP b4 2),.o 34 (qS D1 ((lim r.den).length) d1) 1 2 1] (ai 35 hs (fA q.den zd ze zk r.den D1 d1 hd1 oM oM _ _ hs.g hs.f.1 hs.f.r.1) (fun _ _ hs=>?_)));cases zb:((bL q.den r.den:Int) == (0:Int))
 ·
  have zj:=af zb;exact lB 36 zb (lL hs [.v 37 qF,.m 4 37] (ae hs [] qF (congrArg Value.bool (ms (by first|(left;assumption)|(right;right;assumption)|(right;left;exact beq_eq_false_iff_ne.1 ‹_›))))))
 have zj:=eq_of_beq zb;exact lB 36 zb (lL hs [.v 37 qT,.m 4 37] (ae hs [] qT (congrArg Value.bool (wc aM (eq_of_beq ‹_›) aM))))
theorem LQ.mkR {n d:Int}(hd:d≠0)(h0 : -9223372036854775808≤n)(h1:n≤9223372036854775807)(h2 : -9223372036854775808≤d)(h3:d≤9223372036854775807):LQ 1 (mkR n d):=by
 unfold Go.Proofs.YtinhhhfjchckcaaGreatDoor.mkR
 have hp:0<aa d:=by unfold aa;omega
 obtain ⟨p1,p2,p3,p4⟩:=gh (if d<0 then -n else n) (aa d) hp;refine ⟨?_,?_⟩
 ·rw[p1];refine fd.2 (Nat.lt_of_le_of_lt (bS _ _ p3) ?_)
  unfold aa;split<;>omega
 ·rw[p2];exact fd.2 (Nat.lt_of_le_of_lt (Nat.div_le_self _ _) (by unfold aa;omega))
def aK (n:Int)(m:Nat):Nat:=(n%(m:Int)).toNat
theorem ck (n:Int)(m:Nat)(h:0<m):aK n m<m:=by
 unfold aK
 have h1:=Int.emod_nonneg n (show (m:Int)≠0 by omega);have h2:=Int.emod_lt_of_pos n (show (0:Int)<m by omega)
 omega
theorem mM (n:Int)(m:Nat)(h:0<m):((aK n m:Nat):Int)=n%(m:Int):=by
 unfold aK
 have h1:=Int.emod_nonneg n (show (m:Int)≠0 by omega)
 omega
theorem nH (n:Int)(m:Nat)(hm:0<m)(hn:n<0):(n%(m:Int)=0∧n.tmod (m:Int)=0)∨(0<n%(m:Int)∧n.tmod (m:Int)=n%(m:Int)-m):=by
 have b1:=Int.emod_nonneg n (show (m:Int)≠0 by omega);rw[Int.tmod_eq_emod]
 by_cases h:(m:Int)∣n
 ·left
  rw[if_pos (.inr h)];have:=Int.emod_eq_zero_of_dvd h;exact ⟨this,by omega⟩
 ·right
  have h2:¬(n%(m:Int)=0):=fun h'=>h (Int.dvd_of_emod_eq_zero h')
  rw[if_neg (by intro h';rcases h' with h'|h';omega;exact h h')];refine ⟨by omega,by simp⟩
def mh (k:Nat):Nat:=match k with|0=>1|1=>1|2=>1|3=>2|4=>3|_=>4
theorem mX (k:Nat):0<mh k:=by unfold mh;split<;>omega
theorem pd (k:Nat):mh k≤4:=by unfold mh;split<;>omega
def cV (n:Int):Rat:=mkR ((aK n 41:Int)-20) (mh (aK (n.tdiv 41) 6):Nat)
def Cj (n:Int):Rat:=mkR ((aK n 9:Int)-4) (((aK (n.tdiv 9) 2:Nat):Int)+1)
theorem qj (n:Int)(m:Int)(hm:1<m)(hn0 : -9223372036854775808≤n)(hn1:n≤9223372036854775807) : -9223372036854775808≤n.tdiv m∧n.tdiv m≤9223372036854775807:=by
 have h1:(n.tdiv m).natAbs≤n.natAbs/2:=by
  rw[Int.natAbs_tdiv];exact Nat.div_le_div_left oM oM
 omega
theorem sR {n:Int}{m:Nat}(hm:0<m)(h:n.tmod (m:Int)<0):n.tmod (m:Int)+m=((aK n m:Nat):Int):=by
 rw[mM n m hm]
 rcases Int.lt_or_le n 0 with hn|hn
 ·rcases nH n m hm hn with ⟨h1,h2⟩|⟨h1,h2⟩<;>omega
 ·rw[Int.tmod_eq_emod_of_nonneg hn] at h
  have:=Int.emod_nonneg n (show (m:Int)≠0 by omega)
  omega
theorem rC {n:Int}{m:Nat}(hm:0<m)(h:¬n.tmod (m:Int)<0):n.tmod (m:Int)=((aK n m:Nat):Int):=by
 rw[mM n m hm]
 rcases Int.lt_or_le n 0 with hn|hn
 ·rcases nH n m hm hn with ⟨h1,h2⟩|⟨h1,h2⟩
  ·omega
  ·have:=Int.emod_lt_of_pos n (show (0:Int)<m by omega)
   omega
 ·rw[Int.tmod_eq_emod_of_nonneg hn]
theorem xu (n:Int){m:Nat}(hm:0<m) : -(m:Int)<n.tmod (m:Int)∧n.tmod (m:Int)<m:=by
 have h1:=Int.tmod_lt_of_pos n (show (0:Int)<m by omega);have h2:=Int.lt_tmod_of_pos n (show (0:Int)<m by omega);exact ⟨h2,h1⟩
theorem dM (n:Int)(m:Nat)(hm:0<m)(hm2:m<1000000)(w:World)(h:Hp)(g:G w h):CV 7 #[iV n,nV m] w h (nV (aK n m)):=by
 have hs:=sS g;obtain ⟨b1,b2⟩:=xu n hm;refine go Tryz.func7 [(0,iV n),(1,nV m)] rfl (ab hs [.v 4 (iV 0)] (aG (lL hs [.m 5 0,.m 6 1] (lV 7 (iV (n.tmod (m:Nat))) ?_ (hr:=dC (t:=3) (u:=3) (x:=.tmp 5) (y:=.tmp 6) (k:=.i64) (a:=n) (b:=(m:Nat)) kR kR kR oM _)))));refine lL hs [.m 0 7] (ah (ab hs [.m 8 0] ?_));cases hb1:(decide ((n.tmod (m:Nat):Int)<(0:Int)))
 ·
  have phb1:=oF hb1;exact lB 9 hb1 (ag (cK (ab hs [.m 13 0,.m 4 13] (ae hs [] (iV (n.tmod (m:Nat))) (congrArg (Value.int .i64) (rC hm aM))))))
 have phb1:=oT hb1;refine lB 9 hb1 (ak (kQ (lL hs [.m 10 0,.m 11 1] (lI 12 ((n.tmod (m:Nat))+(m:Nat)) ?_))));exact lL hs [.m 0 12] (aG (lL hs [.m 13 0,.m 4 13] (ae hs [] (iV ((n.tmod (m:Nat))+(m:Nat))) (congrArg (Value.int .i64) (sR hm aM)))))
theorem uY (w:World):(Instr.index 133 (.agg #[.int .i64 1,.int .i64 1,.int .i64 1,.int .i64 2,.int .i64 3,.int .i64 4]) (.int .i64 0)).run Tryz.prog w=.ok (.int .i64 1) w:=by kernel_rfl
theorem sQ (w:World):(Instr.index 133 (.agg #[.int .i64 1,.int .i64 1,.int .i64 1,.int .i64 2,.int .i64 3,.int .i64 4]) (.int .i64 1)).run Tryz.prog w=.ok (.int .i64 1) w:=by kernel_rfl
theorem sV (w:World):(Instr.index 133 (.agg #[.int .i64 1,.int .i64 1,.int .i64 1,.int .i64 2,.int .i64 3,.int .i64 4]) (.int .i64 2)).run Tryz.prog w=.ok (.int .i64 1) w:=by kernel_rfl
theorem uS (w:World):(Instr.index 133 (.agg #[.int .i64 1,.int .i64 1,.int .i64 1,.int .i64 2,.int .i64 3,.int .i64 4]) (.int .i64 3)).run Tryz.prog w=.ok (.int .i64 2) w:=by kernel_rfl
theorem ry (w:World):(Instr.index 133 (.agg #[.int .i64 1,.int .i64 1,.int .i64 1,.int .i64 2,.int .i64 3,.int .i64 4]) (.int .i64 4)).run Tryz.prog w=.ok (.int .i64 3) w:=by kernel_rfl
theorem tG (w:World):(Instr.index 133 (.agg #[.int .i64 1,.int .i64 1,.int .i64 1,.int .i64 2,.int .i64 3,.int .i64 4]) (.int .i64 5)).run Tryz.prog w=.ok (.int .i64 4) w:=by kernel_rfl
theorem Dj (k:Nat)(h:k<6)(w:World):(Instr.index 133 (.agg #[.int .i64 1,.int .i64 1,.int .i64 1,.int .i64 2,.int .i64 3,.int .i64 4]) (.int .i64 (k:Int))).run Tryz.prog w=.ok (.int .i64 ((mh k:Nat):Int)) w:=by
 have:k=0∨k=1∨k=2∨k=3∨k=4∨k=5:=by omega
 rcases this with rfl|rfl|rfl|rfl|rfl|rfl
 ·exact uY w
 ·exact sQ w
 ·exact sV w
 ·exact uS w
 ·exact ry w
 ·exact tG w
theorem FI {Γ:bM}{o:Oper}{x y:Operand}(k:Nat)(h:k<6)(ho:o.op=.index 133 x y)(hx:ev Γ x=.agg #[.int .i64 1,.int .i64 1,.int .i64 1,.int .i64 2,.int .i64 3,.int .i64 4])(hy:ev Γ y=.int .i64 (k:Nat))(w:World) :
  (execOp (ev Γ) o).run Tryz.prog w=.ok (.value (.int .i64 (mh k:Nat))) w:=by
 unfold execOp;simp only[ho];rw[hx,hy,Sem.run_bind,Dj k h w];rfl
theorem hR (n:Int)(h0 : -9223372036854775808≤n)(h1:n≤9223372036854775807)(w:World)(h:Hp)(g:G w h):CR 33 #[iV n] w h (fun v h1=>RQ h1 v (cV n)):=by
 have hs:=sS g;obtain ⟨t0,t1⟩:=qj n 41 oM h0 h1;have l1:=ck n 41 oM;have l2:=ck (n.tdiv 41) 6 oM;have p1:=mX (aK (n.tdiv 41) 6);have p2:=pd (aK (n.tdiv 41) 6);refine go Tryz.func33 [(0,iV n)] rfl (av (lA 2 28 ([qF,sZ,sZ]) hs (fun b1 w2 h3 hs=>aG (lL hs [.m 3 0] (ai 4 hs (dM (n) 41 oM oM _ _ hs.g) (fun w5 h6 hs=>?_))))));have lp4:=ck (n) 41 oM;refine lI 5 ((aK (n) 41:Nat)-20) (lL hs [.v 6 (.agg #[iV 1,iV 1,iV 1,iV 2,iV 3,iV 4]),.m 7 0] (lV 8 (iV (n.tdiv 41)) ?_ (hr:=rS ((n.tdiv 41)) kR (g5 oM oM))));refine ai 9 hs (dM (n.tdiv 41) 6 oM oM _ _ hs.g) (fun w8 h9 hs=>?_);have lp7:=ck (n.tdiv 41) 6 oM;refine lV 10 (nV (mh (aK (n.tdiv 41) 6))) ?_ (hr:=FI (x:=.tmp 6) (y:=.tmp 9) (aK (n.tdiv 41) 6) l2 kR kR kR _);refine lC 11 hs (CS ((aK (n) 41:Nat)-20) (mh (aK (n.tdiv 41) 6):Nat) oM oM oM oM oM _ _ hs.g) ?_;rintro _ _ _ hs ⟨za,zb,zc,zd,rfl,ze,zf,zg,zi⟩;replace hs:=hs.aP zg zi;exact lP 0 0 (ct (cV n) za zb zc zd) hs (fun _ hs=>ae hs [(0,0,3)] (rG (cV n) za zb zc zd) (⟨_,_,_,_,rfl,ze,zf,hs.f.2.1,hs.f.1⟩))
theorem LQ.hand (n:Int):LQ 1 (cV n):=by
 unfold cV
 have l1:=ck n 41 oM;have p1:=mX (aK (n.tdiv 41) 6);have p2:=pd (aK (n.tdiv 41) 6);exact LQ.mkR oM oM oM oM oM
abbrev RT:=Bool × Value × Value
def i7 (t:RT):List Value:=[.bool t.1,t.2.1,t.2.2]
def pz:RT:=(false,undef,undef)
abbrev rA (t:RT):Value:=.agg #[.bool t.1,t.2.1,t.2.2]
abbrev Sr (A:Option Addr)(l:List RT):Hp→Prop:=fun h_=>SlO 3 i7 pz h_ A l
def Ev (t:RT):Value:=.agg #[.bool t.1,t.2.1,t.2.2]
structure RTs (h:Hp) (ts:List RT) (qs:List Rat):Prop where
  len:ts.length=qs.length
  at_:∀ i,i<qs.length→RQ h (Ev (ts.getD i pz)) (qs.getD i 0)
abbrev Rt (t:List RT)(l:List Rat):Hp→Prop:=fun h_=>RTs h_ t l
theorem RTs.gw {h h':Hp}{ts:List RT}{qs:List Rat}(r:RTs h ts qs)(u:Gw h h'):RTs h' ts qs:=⟨r.len,fun i hi=>(r.at_ i hi).gw u⟩
theorem SS.aT {t:List RT}{l:List Rat}{w0 w:World}{h0 h:Hp}{B:List Bx}{R:List Rw}{F:List (Hp→Prop)}(s:SS w0 h0 w h B R F)(p:RTs h t l):SS w0 h0 w h B R (Rt t l::F):=s.add (K:=Rt t l) p
theorem RTs.nil {h:Hp}:RTs h [] []:=⟨rfl,fun i hi=>by simp at hi⟩
theorem cu {α:Type}(l:List α)(x d:α)(i:Nat):(l++[x]).getD i d=if i<l.length then l.getD i d else if i=l.length then x else d:=by
 split
 ·rename_i h;simp[List.getElem?_append_left h]
 ·rename_i h
  split
  ·rename_i h2;subst h2;simp
  ·rename_i h2;simp[List.getElem?_eq_none (show (l++[x]).length≤i by simp;omega)]
theorem RTs.snoc {h:Hp}{ts:List RT}{qs:List Rat}(r:RTs h ts qs){t:RT}{q:Rat}(hq:RQ h (Ev t) q):RTs h (ts++[t]) (qs++[q]):=by
 refine ⟨by simp[r.len],fun i hi=>?_⟩;rw[cu,cu,r.len]
 split
 ·rename_i h1;exact r.at_ i h1
 ·rename_i h1
  have:i=qs.length:=by simp at hi;omega
  rw[if_pos this,if_pos this];exact hq
theorem nz {α:Type}{l:List α}{k:Nat}(d:α)(h:k<l.length):l.take (k+1)=l.take k++[l.getD k d]:=by
 rw[List.take_add_one];simp[h]
def vc (v:Value):List Value:=[v]
abbrev Sv (A:Option Addr)(l:List Value):Hp→Prop:=fun h_=>SlO 1 vc undef h_ A l
def bT (zs:List Int):Nat→List Rat
  | 0=>[]
  | k+1=>bT zs k++[if k<zs.length then cV (zs.getD k 0) else 0]
theorem jP (zs:List Int)(k:Nat):(bT zs k).length=k:=by induction k with|zero=>rfl|succ k ih=>simp[bT,ih]
def jW (zs:List Int):Prop:=∀ k,-9223372036854775808≤zs.getD k 0∧zs.getD k 0≤9223372036854775807
structure RVs (h:Hp) (vs:List Value) (qss:List (List Rat)):Prop where
  len:vs.length=qss.length
  at_:∀ i,i<qss.length→∃ A cap,∃ ts:List RT,vs.getD i undef=.slice A ts.length cap∧ts.length≤cap∧SlO 3 i7 pz h A ts∧RTs h ts (qss.getD i [])
abbrev Ru (t:List Value)(l:List (List Rat)):Hp→Prop:=fun h_=>RVs h_ t l
structure QVs (h:Hp) (vs:List Value) (qss:List (List Rat)):Prop where
  len:vs.length=qss.length
  at_:∀ i,i<qss.length→FW 5 qc 0 h (vs.getD i undef) (qss.getD i [])
abbrev Qu (t:List Value)(l:List (List Rat)):Hp→Prop:=fun h_=>QVs h_ t l
theorem k6 {zs:List Int}{k:Nat}{q:Rat}(hq:(if k<zs.length then cV (zs.getD k 0) else 0)=q){ts':List RT}{h':Hp}(hh:RTs h' ts' (bT zs k++[q])):RTs h' ts' (bT zs (k+1)):=by
 show RTs h' ts' (bT zs k++[_]);rw[hq];exact hh
theorem mt (zs:List Int):∀ n i,LQ 1 ((bT zs n).getD i 0)
  | 0,i=>LQ.lit (z:=0) kD
  | n + 1,i=>by
    show LQ 1 ((bT zs n++[_]).getD i 0)
    rw[cu]
    split
    · exact mt zs n i
    · split
      · split
        · exact LQ.hand _
        · exact LQ.lit (z:=0) kD
      · exact LQ.lit (z:=0) kD
theorem DP {h:Hp}{A D:Option Addr}{c d:Nat}{q:Rat}(h1:(lim (aa q.num)).length≤c)(h2:(lim q.den).length≤d)(h3:SlO 1 aW 0 h A (lim (aa q.num)))(h4:SlO 1 aW 0 h D (lim q.den)):RQ h (Ev ((ac q.num,.slice A (lim (aa q.num)).length c,.slice D (lim q.den).length d):RT)) q:=⟨_,_,_,_,rfl,h1,h2,h3,h4⟩
theorem Ft (A:Option Addr)(cap:Nat)(zs:List Int)(n:Nat)(hn:n≤1000000)(hl:zs.length≤9223372036854775807)(hz:jW zs)(w:World)(h:Hp)(g:G w h)(hA:Si A zs h):CR 17 #[.slice A zs.length cap,nV n] w h (fun v h1=>∃ A c,∃ ts:List RT,v=.slice A ts.length c∧ts.length≤c∧Sr A ts h1∧RTs h1 ts (bT zs n)):=by
 have hs:=((sS g).aS hA);refine go Tryz.func17 [(0,qS A zs.length cap),(1,nV n)] rfl (ab hs [.v 4 (sZ)] (aG (lL hs [.v 5 (sZ)] (ah (ab hs [.v 6 (iV 0)] (a8 ?_))))));replace hs:=hs.nil 28 3;refine bI [(0,qS A zs.length cap),(1,nV n),(4,sZ),(6,iV 0),(5,sZ)] ?_;replace hs:=hs.aT (RTs.nil);refine CG.loop (fun μ_ Γ w_=>∃ (k:Nat) (sA:Option Addr) (sc:Nat) (ts:List RT) (h_:Hp),μ_=n-k∧Γ=[(0,qS A zs.length cap),(1,nV n),(4,sZ),(6,nV k),(5,qS sA ((ts).length) sc)]∧SS w h w_ h_ [] [⟨28,3,sA,sc,(ts).length,(ts).flatMap i7⟩] [Rt ts (bT zs k),Si A zs]∧k≤n) _ ⟨0,none,0,[],h,rfl,rfl,hs.to _ _,Nat.zero_le _⟩ ?_;rintro _ _ w1 ⟨k,sA,sc,ts,h2,hm3,rfl,hs,hk⟩;have hlT:=(hs.f.1).len;rw[jP] at hlT
 refine cQ (ab hs [.m 7 6,.m 8 1] ?_);cases hb4:(decide ((k:Int)<(n:Int)))
 ·
  have phb4:=oF hb4;refine lB 9 hb4 (ag (CG.exit ?_))
  show CG _ _ _ _ _ _ _ _
  refine ab hs [.m 28 5,.m 4 28] (lN (kX ?_));have hkq:k=n:=by omega
  subst hkq;obtain ⟨h5,hs,hc6⟩:=hs.pubr 0 (A:=sA) (c:=sc) (l:=ts) (f:=i7) (ty:=28) (sz:=3) pz (fun _=>rfl);exact hs.ret [] (qS sA ((ts).length) sc) (⟨_,_,ts,rfl,hc6,hs.f.1,hs.f.2.1⟩)
 have phb4:=oT hb4;refine lB 9 hb4 (ak (cK (cQ (kZ (ab hs [.m 12 6,.m 13 0,.v 14 (nV zs.length)] ?_)))));cases hb8:(decide ((k:Int)<(zs.length:Int)))
 ·
  have phb8:=oF hb8;refine lB 15 hb8 (ag (kQ (lL hs [.m 24 5] (lC 25 hs (kr 0 oM oM _ _ hs.g) ?_))));rintro _ _ _ hs ⟨A9,za,zb,zc,rfl,zi,zj,zk,zl⟩;replace hs:=hs.aP zk zl;refine lR 26 28 1 (ct ((0:Int):Rat) A9 za zb zc) hs (fun zq _ _ hs=>lY 27 0 28 3 sc sA ts i7 ((ac ((0:Int):Rat).num,qS A9 ((lim (aa ((0:Int):Rat).num)).length) za,qS zb ((lim ((0:Int):Rat).den).length) zc):RT) 56 zq (.agg #[qF,sZ,sZ]) hs hs.f.1 (fun zr zt _ zu hs=>lL hs [.m 5 27] (lN (kQ (lL hs [.m 10 6] (bn 11 ((k:Nat)+1) (k+1) ?_))))));refine lL hs [.m 6 11] (lD ?_);intro a_ ka;replace hs:=(hs.tl.tl.tl.tl.add (K:=Rt (ts++[((ac ((0:Int):Rat).num,qS A9 ((lim (aa ((0:Int):Rat).num)).length) za,qS zb ((lim ((0:Int):Rat).den).length) zc):RT)]) (bT zs (k+1))) (k6 ((if_neg oM).trans (show (0:Rat)=((0:Int):Rat) from rfl)) (RTs.snoc hs.f.r.2.1 (DP zi zj hs.f.r.1 hs.f.2.1))));refine ⟨_,_,?_,⟨k+1,zr,zt,ts++[((ac ((0:Int):Rat).num,qS A9 ((lim (aa ((0:Int):Rat).num)).length) za,qS zb ((lim ((0:Int):Rat).den).length) zc):RT)],zu,rfl,rfl,hs.to _ _,oM⟩,ka.to _ kR⟩
  omega
 have phb8:=oT hb8;refine lB 15 hb8 (ak (kQ (lL hs [.m 16 5,.m 17 0,.m 18 6] (lX 19 A zs.length cap 1 (k:Nat) k ((hs.f.2.1).ok oM) ?_))));refine lH 20 (iV (zs.getD k 0)) hs ((hs.f.2.1).el k oM) (lC 21 hs (hR (zs.getD k 0) (hz k).1 (hz k).2 _ _ hs.g) ?_);rintro _ _ _ hs ⟨zd,ze,zf,zg,rfl,zm,zn,zo,zp⟩;replace hs:=hs.aP zo zp;refine lR 22 28 1 (ct (cV (zs.getD k 0)) zd ze zf zg) hs (fun zv _ _ hs=>lY 23 0 28 3 sc sA ts i7 ((ac (cV (zs.getD k 0)).num,qS zd ((lim (aa (cV (zs.getD k 0)).num)).length) ze,qS zf ((lim (cV (zs.getD k 0)).den).length) zg):RT) 56 zv (.agg #[qF,sZ,sZ]) hs hs.f.1 (fun zw zx _ zA hs=>lL hs [.m 5 23] (lN (kQ (lL hs [.m 10 6] (bn 11 ((k:Nat)+1) (k+1) ?_))))));refine lL hs [.m 6 11] (lD ?_);intro a_ ka;replace hs:=(hs.tl.tl.tl.tl.aT (k6 (if_pos oM) (RTs.snoc hs.f.r.2.1 (DP zm zn hs.f.r.1 hs.f.2.1))));refine ⟨_,_,?_,⟨k+1,zw,zx,ts++[((ac (cV (zs.getD k 0)).num,qS zd ((lim (aa (cV (zs.getD k 0)).num)).length) ze,qS zf ((lim (cV (zs.getD k 0)).den).length) zg):RT)],zA,rfl,rfl,hs.to _ _,oM⟩,ka.to _ kR⟩
 omega
def maxR (a b:Rat):Rat:=if a<b then b else a
theorem LQ.maxR {k:Nat}{a b:Rat}(ha:LQ k a)(hb:LQ k b):LQ k (maxR a b):=by unfold Go.Proofs.YtinhhhfjchckcaaGreatDoor.maxR;split;exact hb;exact ha
theorem EM (a:Rat)(ha:LQ 100000000 a)(w:World)(h:Hp)(g:G w h):CV 80 #[qv a] w h (qv (db a)):=by
 have hs:=sS g;refine go Tryz.func80 [(0,qv a)] rfl (av (lA 1 45 (qc a) hs (fun b1 w2 h3 hs=>lA 2 45 ([qF,uV 0,eS,uV 0,eS]) hs (fun b4 w5 h6 hs=>ah (cR 7 [] mixed hs ar ?_)))));exact eV 0 3 (pB b1) (eO 1 4 [(1,0,3)] (iv a.num) hs (eV 4 7 (qP b1 3) (eO 5 8 [(1,3,2)] (nv (qd a)) hs (aq 2 5 hs (fun _ _ hs=>qy a.num _ _ hs.g) (fun w7 h8 hs=>aq 3 6 hs (fun _ _ hs=>dt (aa a.num) _ _ hs.g) (fun w9 _ hs=>eV 6 9 (.agg #[.bool (ac (((aa a.num):Nat):Int)),uV (lo (aa (((aa a.num):Nat):Int))),.string (hi (aa (((aa a.num):Nat):Int))),uV (lo (qd a)),.string (hi (qd a))]) (ce hs (fun _ _ hs=>tP 7 0 0 ([.bool (ac (((aa a.num):Nat):Int)),uV (lo (aa (((aa a.num):Nat):Int))),.string (hi (aa (((aa a.num):Nat):Int))),uV (lo (qd a)),.string (hi (qd a))]) hs (fun _ hs=>tN (kX (hs.ret [(0,0,5)] (.agg #[.bool (ac (((aa a.num):Nat):Int)),uV (lo (aa (((aa a.num):Nat):Int))),.string (hi (aa (((aa a.num):Nat):Int))),uV (lo (qd a)),.string (hi (qd a))]) (ge (iB a) (by unfold qd;rw[j7])))))))))))))
structure Lay where
  k:Int
  W:List (List Rat)
  B:List Rat
def gC:Lay:=⟨0,[],[]⟩
abbrev LV:=Int × Value × Value
def Dv:LV:=(0,undef,undef)
structure NetL (h:Hp) (ts:List LV) (ls:List Lay):Prop where
  len:ts.length=ls.length
  at_:∀ i,i<ls.length→(ts.getD i Dv).1=(ls.getD i gC).k∧(∃ A c,∃ us:List Value,(ts.getD i Dv).2.1=.slice A us.length c∧us.length≤c∧SlO 1 vc undef h A us∧QVs h us (ls.getD i gC).W)∧FW 5 qc 0 h (ts.getD i Dv).2.2 (ls.getD i gC).B
abbrev Nn (t:List LV)(l:List Lay):Hp→Prop:=fun h_=>NetL h_ t l
structure RNetL (h:Hp) (ts:List LV) (ls:List Lay):Prop where
  len:ts.length=ls.length
  at_:∀ i,i<ls.length→(ts.getD i Dv).1=(ls.getD i gC).k∧(∃ A c,∃ us:List Value,(ts.getD i Dv).2.1=.slice A us.length c∧us.length≤c∧SlO 1 vc undef h A us∧RVs h us (ls.getD i gC).W) ∧
    (∃ A c,∃ rs:List RT,(ts.getD i Dv).2.2=.slice A rs.length c∧rs.length≤c∧SlO 3 i7 pz h A rs∧RTs h rs (ls.getD i gC).B)
abbrev Rn (t:List LV)(l:List Lay):Hp→Prop:=fun h_=>RNetL h_ t l
def uP (l:List Rat):Prop:=∀ q∈l,∃ z,q=Cj z
structure LayMk (L:Lay) (kq:Nat) (r c:Nat):Prop where
  k:L.k=(kq:Int)
  rows:L.W.length=r
  row:∀ q∈L.W,q.length=c∧uP q
  bl:L.B.length=r
  bs:uP L.B
theorem sf (A:Option Addr)(cap:Nat)(zs:List Int)(hl:zs.length≤9223372036854775807)(hz:jW zs)(rbk at_:Nat)(ha:at_≤zs.length)(w:World)(h:Hp)(g:G w h)(ho:Own w rbk 64 [.slice A zs.length cap,nV at_])(hj:h[rbk]?=some junk)(hA:Si A zs h):Calls Tryz.prog 32 #[pB rbk] w (dQ rbk w h fun v w' _=>∃ (z:Int) (at2:Nat),v=iV z∧at2≤zs.length∧(-9223372036854775808≤z∧z≤9223372036854775807)∧Own w' rbk 64 [.slice A zs.length cap,nV at2]):=by
 have hmo:UpM [rbk] w h w h:=UpM.refl g;obtain ⟨wz,hz0_,hs⟩:=SS.at_ g ho hj;replace hs:=hs.aS hA;refine go Tryz.func32 [(0,pB rbk)] rfl (ab hs [.v 2 (iV 0)] (ah (cQ (cR 10 [] mixed hs ar ?_))));refine eV 0 3 (pB rbk) (eV 1 4 (pB rbk) (eV 2 5 (qP rbk 1) (eO 3 6 [(0,1,1)] (nV at_) hs (eV 4 7 (pB rbk) (eV 5 8 (pB rbk) (eV 6 9 (pB rbk) (eO 7 10 [(0,0,1)] (qS A zs.length cap) hs (eV 8 11 (nV zs.length) ?_))))))));cases hb1:(decide ((zs.length:Int)≤(at_:Int)))
 ·
  have phb1:=oF hb1;refine eB 9 12 hb1 (gM hs (fun w2 h3 u4 hs=>?_));replace hmo:=hmo.trans (u4.m _);refine tN (cY (cK (ab hs [.m 13 0,.v 14 (pB rbk),.v 15 (qP rbk 1),.o 16 (nV at_) 0 1 1] (bn 17 ((at_:Nat)+1) (at_+1) ?_))));refine lL hs [.v 18 (pB rbk),.v 19 (qP rbk 1)] (ip 0 1 ([nV (at_+1)]) hs (fun w5 pu hs=>?_));replace hmo:=hmo.put pu (List.mem_singleton.2 rfl) hs.g;refine ah (cR 11 [] mixed hs ar ?_);refine eV 0 20 (pB rbk) (eV 1 21 (pB rbk) (eV 2 22 (pB rbk) (eO 3 23 [(0,0,1)] (qS A zs.length cap) hs (eV 4 24 (pB rbk) (eV 5 25 (pB rbk) (eV 6 26 (qP rbk 1) (eO 7 27 [(0,1,1)] (nV (at_+1)) hs (iR 8 28 ((at_+1:Nat)-1) ((at_+1)-1) (eX 9 29 A zs.length cap 1 ((at_+1)-1:Nat) ((at_+1)-1) ((hs.f.1).ok oM) (eH 10 30 (iV (zs.getD ((at_+1)-1) 0)) hs ((hs.f.1).el ((at_+1)-1) oM) (gM hs (fun w6 h7 u8 hs=>?_))))))))))));replace hmo:=hmo.trans (u8.m _);exact tV 11 2 (iV (zs.getD ((at_+1)-1) 0)) (tN (kX (hs.retM hmo [] (iV (zs.getD ((at_+1)-1) 0)) ⟨zs.getD ((at_+1)-1) 0,(at_+1),rfl,by omega,hz _,hs.own 0⟩)))
 have phb1:=oT hb1;refine eB 9 12 hb1 (gM hs (fun w9 _ u11 hs=>?_));replace hmo:=hmo.trans (u11.m _);exact tN (cl (ab hs [.v 2 (iV 0)] (lN (kX (hs.retM hmo [] (iV 0) ⟨0,at_,rfl,by omega,⟨by decide,by decide⟩,hs.own 0⟩)))))
structure LayFit (L:Lay):Prop where
  rl:L.W.length≤1000000
  rls:∀ i,i<L.W.length→(L.W.getD i []).length≤1000000
  rf:∀ i,i<L.W.length→∀ j,j<(L.W.getD i []).length→LQ 100000000 ((L.W.getD i []).getD j 0)
  bl:L.B.length≤1000000
  bf:∀ i,i<L.B.length→LQ 100000000 (L.B.getD i 0)
structure Stp where
  op:Int
  a:Int
  b:Int
  n:Int
  q:Rat
abbrev sX (p:Stp):Value:=.agg #[iV p.op,iV p.a,iV p.b,iV p.n,.bool (ac p.q.num),uV (lo (aa p.q.num)),.string (hi (aa p.q.num)),uV (lo (qd p.q)),.string (hi (qd p.q))]
abbrev sC (p:Stp):List Value:=[iV p.op,iV p.a,iV p.b,iV p.n,.bool (ac p.q.num),uV (lo (aa p.q.num)),.string (hi (aa p.q.num)),uV (lo (qd p.q)),.string (hi (qd p.q))]
abbrev sW (o a b n:Int)(q:Rat):Value:=.agg #[iV o,iV a,iV b,iV n,.bool (ac q.num),uV (lo (aa q.num)),.string (hi (aa q.num)),uV (lo (qd q)),.string (hi (qd q))]
abbrev sG (o a b n:Int)(q:Rat):List Value:=[iV o,iV a,iV b,iV n,.bool (ac q.num),uV (lo (aa q.num)),.string (hi (aa q.num)),uV (lo (qd q)),.string (hi (qd q))]
def dX:Stp:=⟨0,0,0,0,0⟩
abbrev gP (l:List Stp)(k:Nat):Stp:=l.getD k dX
def fs (op:Int):Int :=
  if op=1∨op=2 then 0 else if op=7∨op=8∨op=9∨op=10∨op=11 then 1
  else if op=3∨op=4∨op=5∨op=6∨op=12∨op=13 then 2 else -1
theorem aF (op:Int):(fs op=0∧(op=1∨op=2))∨(fs op=1∧(op=7∨op=8∨op=9∨op=10∨op=11))∨(fs op=2∧(op=3∨op=4∨op=5∨op=6∨op=12∨op=13))∨(fs op = -1∧(op<1∨13<op)):=by
 unfold fs;split
 ·exact .inl ⟨rfl,by assumption⟩
 ·split
  ·exact .inr (.inl ⟨rfl,by assumption⟩)
  ·split
   ·exact .inr (.inr (.inl ⟨rfl,by assumption⟩))
   ·exact .inr (.inr (.inr ⟨rfl,by omega⟩))
def lU (i:Nat)(tt:Int)(used:Prop):Prop:=(used→0≤tt∧tt<i)∧(¬used→tt=0)
def gU (inp:Int)(i:Nat)(s:Stp):Prop :=
  0≤fs s.op∧lU i s.a (0<fs s.op)∧lU i s.b (1<fs s.op)∧(s.op≠1→s.q.num=0) ∧
  (s.op=2→0≤s.n∧s.n<inp)∧(s.op=8 → -12≤s.n∧s.n≤12)∧(s.op≠2→s.op≠8→s.n=0)
instance (i:Nat) (tt:Int) (u:Prop) [Decidable u]:Decidable (lU i tt u):=by unfold lU;infer_instance
instance (inp:Int) (i:Nat) (s:Stp):Decidable (gU inp i s):=by unfold gU;infer_instance
def th (n:Nat)(os:List Int):Prop:=∀ i,i<os.length→0≤os.getD i 0∧os.getD i 0<n
instance (n:Nat) (os:List Int):Decidable (th n os):=by unfold th;infer_instance
structure RSt where
  op:Int
  a:Int
  b:Int
  n:Int
  t:RT
def Gg:RSt:=⟨0,0,0,0,pz⟩
structure OSt where
  op:Int
  a:Int
  b:Int
  n:Int
  q:Rat
  has:Bool
def wJ:OSt:=⟨0,0,0,0,0,false⟩
def mf (o:OSt):Nat:=if o.has then o.q.den else 0
def OSt.stp (o:OSt):Stp:=⟨o.op,o.a,o.b,o.n,o.q⟩
abbrev gO (s:List OSt)(k:Nat):OSt:=s.getD k wJ
abbrev mO (s:List OSt):List Stp:=s.map OSt.stp
theorem xY {o:OSt}:0<(lim (mf o)).length↔o.has=true:=by
 rw[bG];unfold mf;have:=o.q.den_pos;cases o.has<;>simp;omega
theorem Aj {o:OSt}(h:o.has=true):mf o=o.q.den:=by unfold mf;rw[h];rfl
structure RS1 (h:Hp) (t:RSt) (o:OSt):Prop where
  op:t.op=o.op
  a:t.a=o.a
  b:t.b=o.b
  n:t.n=o.n
  q:RP h (Ev t.t) o.q.num (mf o)
  z:o.has=false→o.q=0
structure RSs (h:Hp) (ts:List RSt) (os:List OSt):Prop where
  len:ts.length=os.length
  at_:∀ i,i<os.length→RS1 h (ts.getD i Gg) (os.getD i wJ)
structure OSm (o:OSt):Prop where
  op : -1000≤o.op∧o.op≤1000
  a : -1000≤o.a∧o.a≤1000
  b : -1000≤o.b∧o.b≤1000
  n : -1000≤o.n∧o.n≤1000
  q:LQ 1 o.q
def FL (os:List OSt):Prop:=∀ i,i<os.length→OSm (os.getD i wJ)
section
variable {inp:Int} {i:Nat} {s:Stp} (h:gU inp i s)
include h
end
structure LayLen (L:Lay):Prop where
  rl:L.W.length≤1000000
  rls:∀ i,i<L.W.length→(L.W.getD i []).length≤1000000
  bl:L.B.length≤1000000
structure Mat (W:List (List Rat)) (r c:Nat):Prop where
  rows:W.length=r
  rpos:0<r
  cpos:0<c
  row:∀ i,i<r→(W.getD i []).length=c
structure Net3 (ls:List Lay) (d:Nat→Nat):Prop where
  len:1≤ls.length∧ls.length≤4
  first:d 0≤20
  lay:∀ i,i<ls.length→Mat (ls.getD i gC).W (d (i+1)) (d i)∧(ls.getD i gC).B.length=d (i+1)∧d (i+1)≤12∧((ls.getD i gC).k=1∨(ls.getD i gC).k=2∨(ls.getD i gC).k=3)
theorem nL (u:Rat):0<((1:Int):Rat)+db u:=by
 have h:(0:Rat)≤db u:=by rw[←Rat.num_nonneg,iB];omega
 have h1:(0:Rat)<((1:Int):Rat):=by decide
 grind
theorem jL (u:Rat):(((1:Int):Rat)+db u).num≠0:=by
 have:=nL u;intro e;have e2:((1:Int):Rat)+db u=0:=by rw[←Rat.num_eq_zero];exact e
 rw[e2] at this;exact absurd this kD
def GL (k:Int)(u:Rat):Rat:=if k=2 then maxR u 0 else if k=3 then u/(((1:Int):Rat)+db u) else u
def Fx (L:Lay)(x:List Rat):List Rat:=(List.range L.W.length).map fun i=>GL L.k (CW (L.W.getD i []) x x.length+L.B.getD i 0)
def Ao (ls:List Lay)(xs:List Rat):Nat→List Rat
  | 0=>xs
  | k+1=>Fx (ls.getD k gC) (Ao ls xs k)
abbrev gD (ls:List Lay)(xs:List Rat)(k r:Nat):Rat:=CW ((ls.getD k gC).W.getD r []) (Ao ls xs k) (Ao ls xs k).length
abbrev gS (ls:List Lay)(xs:List Rat)(k r:Nat):Rat:=gD ls xs k r+((ls.getD k gC).B).getD r 0
end Go.Proofs.YtinhhhfjchckcaaGreatDoor
