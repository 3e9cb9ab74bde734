/- Laws and contracts of this claim, part 5. No condition of ours. -/
import Derived.Test.YtahgaogfpimkpaaGreatDoorPu3
set_option maxRecDepth 100000
set_option maxHeartbeats 4000000
namespace Go.Proofs.YtahgaogfpimkpaaGreatDoor
open Go.RowKit
open Go.RowKit Go.Shelf
def dD (op:Int):Int :=
  if op=1∨op=2 then 0 else if op=7∨op=8∨op=9∨op=10∨op=11 then 1
  else if op=3∨op=4∨op=5∨op=6∨op=12∨op=13 then 2 else -1
theorem aG (op:Int):(dD op=0∧(op=1∨op=2))∨(dD op=1∧(op=7∨op=8∨op=9∨op=10∨op=11))∨(dD op=2∧(op=3∨op=4∨op=5∨op=6∨op=12∨op=13))∨(dD op = -1∧(op<1∨13<op)):=by
 unfold dD;split
 ·exact .inl ⟨rfl,by assumption⟩
 ·split
  ·exact .inr (.inl ⟨rfl,by assumption⟩)
  ·split
   ·exact .inr (.inr (.inl ⟨rfl,by assumption⟩))
   ·exact .inr (.inr (.inr ⟨rfl,by omega⟩))
def ef (i:Nat)(tt:Int)(used:Prop):Prop:=(used→0≤tt∧tt<i)∧(¬used→tt=0)
def Formed (inp:Int)(i:Nat)(s:Stp):Prop :=
  0≤dD s.op∧ef i s.a (0<dD s.op)∧ef i s.b (1<dD s.op)∧(s.op≠1→s.q.num=0) ∧
  (s.op=2→0≤s.n∧s.n<inp)∧(s.op=8 → -12≤s.n∧s.n≤12)∧(s.op≠2→s.op≠8→s.n=0)
instance (i:Nat) (tt:Int) (u:Prop) [Decidable u]:Decidable (ef i tt u):=by unfold ef;infer_instance
instance (inp:Int) (i:Nat) (s:Stp):Decidable (Formed inp i s):=by unfold Formed;infer_instance
def bK (s:Stp)(hv:List Int):Int :=
  if dD s.op=0 then 1 else if dD s.op=2 then hv.getD s.a.toNat 0+hv.getD s.b.toNat 0
  else if s.op=11 then 2*hv.getD s.a.toNat 0 else if s.op=8 then max (max s.n (0-s.n)) 1*hv.getD s.a.toNat 0 else hv.getD s.a.toNat 0
def oN (inp:Int):List Stp→List Int→Int
  | [],_=>0
  | s::r,hv=>if Formed inp hv.length s then (if 65536<bK s hv then 18 else oN inp r (hv++[bK s hv])) else 2
def i9 (n:Nat)(os:List Int):Prop:=∀ i,i<os.length→0≤os.getD i 0∧os.getD i 0<n
instance (n:Nat) (os:List Int):Decidable (i9 n os):=by unfold i9;infer_instance
def bv (inp:Int)(l:List Stp)(os:List Int):Int :=
  if 0≤inp∧inp≤1000∧l.length≤65536∧os.length≤300 then (if oN inp l []=0 then (if i9 l.length os then 0 else 1) else oN inp l []) else 5
theorem jj {l:List Stp}{k:Nat}(h:k<l.length):l.drop k=l.getD k ac::l.drop (k+1):=by
 rw[List.drop_eq_getElem_cons h];simp[h]
theorem rk {inp:Int}{l:List Stp}{hv:List Int}{k:Nat}(hk:k<l.length)(hl:hv.length=k)(h:¬Formed inp k (l.getD k ac)):oN inp (l.drop k) hv=2:=by
 rw[jj hk,oN,hl,if_neg h]
theorem ph {inp:Int}{l:List Stp}{hv:List Int}{k:Nat}(hk:k<l.length)(hl:hv.length=k)(h:Formed inp k (l.getD k ac))(hw:65536<bK (l.getD k ac) hv):oN inp (l.drop k) hv=18:=by
 rw[jj hk,oN,hl,if_pos h,if_pos hw]
theorem xA {inp:Int}{l:List Stp}{hv:List Int}{k:Nat}(hk:k<l.length)(hl:hv.length=k)(h:Formed inp k (l.getD k ac))(hw:¬65536<bK (l.getD k ac) hv):oN inp (l.drop k) hv=oN inp (l.drop (k+1)) (hv++[bK (l.getD k ac) hv]):=by
 rw[jj hk,oN,hl,if_pos h,if_neg hw]
theorem jU {l:List Int}{k j:Nat}(h:j<k):(l.take k).getD j 0=l.getD j 0:=by
 rw[List.getD_eq_getElem?_getD,List.getElem?_take_of_lt h,←List.getD_eq_getElem?_getD]
theorem gj {inp:Int}{s:Stp}{L:List Int}{k:Nat}(h:Formed inp k s):bK s (L.take k)=bK s L:=by
 obtain ⟨h0,⟨ha,_⟩,⟨hb,_⟩,_⟩:=h
 unfold bK
 rcases aG s.op with ⟨e,_⟩|⟨e,_⟩|⟨e,_⟩|⟨e,_⟩
 ·rw[e];rfl
 ·have:=ha oM
  rw[e,jU oM];simp
 ·have:=ha oM;have:=hb oM
  rw[e,jU oM,jU oM]
 ·omega
theorem mH {L:List Int}{k:Nat}{x:Int}(h:k<L.length):(L.set k x).take (k+1)=L.take k++[x]:=by
 rw[List.take_add_one,List.take_set_of_le (Nat.le_refl k)]
 simp[h]
def Wts (L:List Int)(k:Nat):Prop:=∀ j,j<k→1≤L.getD j 0∧L.getD j 0≤65536
theorem Wts.weight {inp:Int}{s:Stp}{L:List Int}{k:Nat}(w:Wts L k)(h:Formed inp k s):1≤bK s L∧bK s L≤786432:=by
  obtain ⟨h0,⟨ha,_⟩,⟨hb,_⟩,_,_,h8,_⟩:=h
  unfold bK
  rcases aG s.op with ⟨e,_⟩|⟨e,_⟩|⟨e,_⟩|⟨e,_⟩
  · rw[e,if_pos rfl];decide
  · have h1:=ha oM
    have h2:=w s.a.toNat oM;rw[e,if_neg kD,if_neg kD]
    split
    · omega
    · split
      · have h3:=h8 aM
        have h4:1≤max (max s.n (0-s.n)) 1∧max (max s.n (0-s.n)) 1≤12:=by omega
        have h5:1*1≤max (max s.n (0-s.n)) 1*L.getD s.a.toNat 0:=Int.mul_le_mul h4.1 h2.1 oM oM;have h6:max (max s.n (0-s.n)) 1*L.getD s.a.toNat 0≤12*65536:=Int.mul_le_mul h4.2 h2.2 oM oM
        omega
      · omega
  · have h1:=ha oM
    have h2:=w s.a.toNat oM;have h3:=hb oM;have h4:=w s.b.toNat oM;rw[e,if_neg kD,if_pos rfl];omega
  · omega
theorem Wts.pow {inp:Int}{s:Stp}{L:List Int}{k:Nat}(w:Wts L k)(h:Formed inp k s)(h8:s.op=8):1≤max (max s.n (0-s.n)) 1*L.getD s.a.toNat 0∧max (max s.n (0-s.n)) 1*L.getD s.a.toNat 0≤786432:=by
 have:=w.weight h
 unfold bK dD at this
 simp only[h8] at this
 simpa using this
theorem Wts.snoc {L:List Int}{k:Nat}{x:Int}(w:Wts L k)(hk:k<L.length)(h1:1≤x)(h2:x≤65536):Wts (L.set k x) (k+1):=fun j hj=>by
 by_cases e:j=k
 ·subst e;rw[List.getD_eq_getElem?_getD,List.getElem?_set_self hk];exact ⟨h1,h2⟩
 ·rw[List.getD_eq_getElem?_getD,List.getElem?_set_ne (Ne.symm e),←List.getD_eq_getElem?_getD];exact w j oM
theorem fj {inp:Int}{l:List Stp}{os:List Int}(h:¬(0≤inp∧inp≤1000∧l.length≤65536∧os.length≤300)):bv inp l os=5:=by unfold bv;rw[if_neg h]
theorem pO {inp:Int}{l:List Stp}{os:List Int}(h:0≤inp∧inp≤1000∧l.length≤65536∧os.length≤300)(hg:oN inp l []≠0):bv inp l os=oN inp l []:=by unfold bv;rw[if_pos h,if_neg hg]
theorem na {inp:Int}{l:List Stp}{os:List Int}(h:0≤inp∧inp≤1000∧l.length≤65536∧os.length≤300)(hg:oN inp l []=0)(ho:¬i9 l.length os):bv inp l os=1:=by unfold bv;rw[if_pos h,if_pos hg,if_neg ho]
theorem vq {inp:Int}{l:List Stp}{os:List Int}(h:0≤inp∧inp≤1000∧l.length≤65536∧os.length≤300)(hg:oN inp l []=0)(ho:i9 l.length os):bv inp l os=0:=by unfold bv;rw[if_pos h,if_pos hg,if_pos ho]
structure RSt where
  op:Int
  a:Int
  b:Int
  n:Int
  t:RT
def IW:RSt:=⟨0,0,0,0,uG⟩
structure OSt where
  op:Int
  a:Int
  b:Int
  n:Int
  q:Rat
  has:Bool
def Iv:OSt:=⟨0,0,0,0,0,false⟩
def Je (o:OSt):Nat:=if o.has then o.q.den else 0
structure RS1 (h:Hp) (t:RSt) (o:OSt):Prop where
  op:t.op=o.op
  a:t.a=o.a
  b:t.b=o.b
  n:t.n=o.n
  q:RP h (HI t.t) o.q.num (Je o)
  z:o.has=false→o.q=0
structure RSs (h:Hp) (ts:List RSt) (os:List OSt):Prop where
  len:ts.length=os.length
  at_:∀ i,i<os.length→RS1 h (ts.getD i IW) (os.getD i Iv)
structure OSm (o:OSt):Prop where
  op : -1000≤o.op∧o.op≤1000
  a : -1000≤o.a∧o.a≤1000
  b : -1000≤o.b∧o.b≤1000
  n : -1000≤o.n∧o.n≤1000
  q:LQ 1 o.q
def F5 (k:Nat)(s:Stp):Prop:=(0<dD s.op→s.a.toNat<k)∧(1<dD s.op→s.b.toNat<k)∧(0<dD s.op→s.b.toNat<k)∧(s.op≠2→0≤dD s.op)
theorem Formed.opr {inp:Int}{k:Nat}{s:Stp}(h:Formed inp k s):F5 k s:=by
 obtain ⟨f0,⟨f1,f1'⟩,⟨f2,f2'⟩,_⟩:=h;refine ⟨fun h=>by have:=f1 h;omega,fun h=>by have:=f2 h;omega,fun h=>?_,fun _=>f0⟩;have:=f1 h
 by_cases h2:1<dD s.op
 ·have:=f2 h2;omega
 ·have:=f2' h2;omega
section
variable {inp:Int} {i:Nat} {s:Stp} (h:Formed inp i s)
include h
theorem Formed.ix:0≤s.a∧0≤s.b∧s.a.toNat≤i∧s.b.toNat≤i:=by
 obtain ⟨f0,⟨f1,f1'⟩,⟨f2,f2'⟩,_⟩:=h
 by_cases h1:0<dD s.op
 ·have:=f1 h1
  by_cases h2:1<dD s.op
  ·have:=f2 h2;omega
  ·have:=f2' h2;omega
 ·have:=f1' h1;have:=f2' oM;omega
theorem Formed.nm (e:s.op=2):0≤s.n∧s.n<inp:=h.2.2.2.2.1 e
theorem Formed.op_ (h2:s.op≠2):1≤s.op∧s.op≤13∧s.op≠2:=by have:=aG s.op;have:=h.1;omega
theorem Formed.o68:(s.op=6∨s.op=8→s.a.toNat<i)∧(s.op=6→s.b.toNat<i):=⟨fun e=>h.opr.1 (by rcases e with e|e<;>rw[e]<;>decide),fun e=>h.opr.2.1 (by rw[e];decide)⟩
end
def ip (W:List (List Rat)):Prop:=0<W.length∧0<(W.getD 0 []).length∧∀ i,i<W.length→(W.getD i []).length=(W.getD 0 []).length
noncomputable def fR (W:List (List Rat)):Bool:=@decide (ip W) (Classical.propDecidable _)
theorem qM {W:List (List Rat)}{k:Nat}(hR:∀ i,i<k→(W.getD i []).length=(W.getD 0 []).length)(h:(W.getD k []).length=(W.getD 0 []).length):∀ i,i<k+1→(W.getD i []).length=(W.getD 0 []).length:=fun i hi=>by
 by_cases e:i=k
 ·rw[e];exact h
 ·exact hR i oM
theorem HB {W:List (List Rat)}(h:ip W):Value.bool true=.bool (fR W):=by unfold fR;rw[@decide_eq_true _ (Classical.propDecidable _) h]
theorem EP {W:List (List Rat)}(h:¬ip W):Value.bool false=.bool (fR W):=by unfold fR;rw[@decide_eq_false _ (Classical.propDecidable _) h]
theorem C4 {W:List (List Rat)}(h:fR W=true):ip W:=by unfold fR at h;exact @oT _ (Classical.propDecidable _) h
theorem xn {W:List (List Rat)}(h:fR W=false):¬ip W:=by unfold fR at h;exact @oF _ (Classical.propDecidable _) h
theorem td (A:Option Addr)(cap:Nat)(us:List Value)(W:List (List Rat))(hl:W.length≤1000000)(hls:∀ i,i<W.length→(W.getD i []).length≤1000000)(w:World)(h:Hp)(g:G w h)(hA:Sv A us h)(hU:QVs h us W):CV 157 #[.slice A us.length cap] w h (.bool (fR W)):=by
 have hs:=(((sS g).aS hA).aQ hU);have hlu:=(hs.f.1).len;refine go Tryz.func157 [(0,qS A us.length cap)] rfl (ab hs [.v 2 qF] (af (ab hs [.m 5 0,.v 6 (nV us.length)] ?_)));cases hb1:((us.length:Int) == (0:Int))
 ·
  have phb1:=aj hb1;refine lB 7 hb1 (lL hs [.m 8 7,.m 9 0] (lX 10 A us.length cap 1 0 0 ((hs.f.2.1).ok oM) ?_));obtain ⟨Aqz,cqz,eqz,hcqz,hRqz⟩:=(hs.f.1).at_ 0 oM;replace hs:=hs.aS hRqz;refine Ae 11 (us.getD 0 undef) hs ((hs.f.r.1).el 0 oM) eqz (lL hs [.v 12 (nV ((W.getD 0 []).length))] ?_);cases hb2:((((W.getD 0 []).length:Nat):Int) == (0:Int))
  ·
   have phb2:=aj hb2;refine lB 13 hb2 (lL hs [.v 14 qF] (am (cK (cQ (ab hs [.m 15 0,.v 16 (nV us.length),.v 17 (iV 0)] (bd ?_))))));refine bD _ (CG.loop (fun μ_ Γ w_=>∃ (k:Nat) (h_:Hp),μ_=us.length-k∧Γ=[(0,qS A us.length cap),(15,qS A us.length cap),(16,nV us.length),(17,nV k)]∧SS w h w_ h_ [] [] [Sq Aqz (W.getD 0 []),Qu us W,Sv A us]∧k≤us.length∧(∀ i,i<k→(W.getD i []).length=(W.getD 0 []).length)) _ ⟨0,h,rfl,rfl,hs.to _ _,Nat.zero_le _,fun i hi=>absurd hi (Nat.not_lt_zero i)⟩ ?_);rintro _ _ w3 ⟨k,h4,hm5,rfl,hs,hk,hR⟩;refine aD ?_;cases hb6:(decide ((k:Int)<(us.length:Int)))
   ·
    have phb6:=oF hb6;refine lB 18 hb6 (af (dK (CG.exit ?_)))
    show CG _ _ _ _ _ _ _ _
    exact ab hs [.v 2 qT] (ae hs [] qT (HB ⟨by omega,by omega,fun i hi=>hR i oM⟩))
   have phb6:=oT hb6;refine lB 18 hb6 (af (cI (cK (cQ (kZ (aD (lX 19 A us.length cap 1 (k:Nat) k ((hs.f.r.1).ok oM) ?_)))))));obtain ⟨Aqx,cqx,eqx,hcqx,hRqx⟩:=(hs.f.2.1).at_ k oM;replace hs:=hs.aS hRqx;refine Ae 20 (us.getD k undef) hs ((hs.f.r.2.1).el k oM) eqx (lL hs [.m 4 20] (ay (lL hs [.m 21 4,.v 22 (nV ((W.getD k []).length)),.m 23 0] (lX 24 A us.length cap 1 0 0 ((hs.f.r.2.1).ok oM) ?_))));obtain ⟨Aqy,cqy,eqy,hcqy,hRqy⟩:=(hs.f.r.1).at_ 0 oM;replace hs:=hs.aS hRqy;refine Ae 25 (us.getD 0 undef) hs ((hs.f.q.1).el 0 oM) eqy (lL hs [.v 26 (nV ((W.getD 0 []).length))] ?_);cases hb7:((((W.getD k []).length:Nat):Int) != (((W.getD 0 []).length:Nat):Int))
   ·
    have phb7:=aJ hb7;refine lB 27 hb7 (am (cK (kQ (bw 28 ((k:Nat)+1) (k+1) ?_))));refine lL hs [.m 17 28] (lD ?_);intro a_ ka;replace hs:=hs.tl.tl;refine ⟨_,_,?_,⟨k+1,h4,rfl,rfl,hs.to _ _,oM,(qM hR oM)⟩,ka.to _ kR⟩
    omega
   have phb7:=aU hb7;exact lB 27 hb7 (ar (ab hs [.v 2 qF] (ae hs [] qF (EP (fun h_=>by have h1_:=h_.1;have h2_:=h_.2.1;have h3_:=h_.2.2 k oM;omega)))))
  have phb2:=eq_of_beq hb2;exact lB 13 hb2 (lL hs [.v 14 qT] (ar (ab hs [.v 2 qF] (ae hs [] qF (EP (fun h_=>by have h1_:=h_.1;have h2_:=h_.2.1;omega))))))
 have phb1:=eq_of_beq hb1;refine lB 7 hb1 (lL hs [.m 8 7] (lG 9 ?_));exact lG 10 (lG 11 (lG 12 (lG 13 (lL hs [.v 14 qT] (ar (ab hs [.v 2 qF] (ae hs [] qF (EP (fun h_=>by have h1_:=h_.1;have h2_:=h_.2.1;omega)))))))))
structure LayLen (L:Lay):Prop where
  rl:L.W.length≤1000000
  rls:∀ i,i<L.W.length→(L.W.getD i []).length≤1000000
  bl:L.B.length≤1000000
structure Mat (W:List (List Rat)) (r c:Nat):Prop where
  rows:W.length=r
  rpos:0<r
  cpos:0<c
  row:∀ i,i<r→(W.getD i []).length=c
structure Net3 (ls:List Lay) (d:Nat→Nat):Prop where
  len:1≤ls.length∧ls.length≤4
  first:d 0≤20
  lay:∀ i,i<ls.length→Mat (ls.getD i iR).W (d (i+1)) (d i)∧(ls.getD i iR).B.length=d (i+1)∧d (i+1)≤12∧((ls.getD i iR).k=1∨(ls.getD i iR).k=2∨(ls.getD i iR).k=3)
theorem pV (u:Rat):0<((1:Int):Rat)+bp u:=by
 have h:(0:Rat)≤bp u:=by rw[←Rat.num_nonneg,jp];omega
 have h1:(0:Rat)<((1:Int):Rat):=by decide
 grind
theorem lv (u:Rat):(((1:Int):Rat)+bp u).num≠0:=by
 have:=pV u;intro e;have e2:((1:Int):Rat)+bp u=0:=by rw[←Rat.num_eq_zero];exact e
 rw[e2] at this;exact absurd this kD
def Jm (k:Int)(u:Rat):Rat:=if k=2 then qV u 0 else if k=3 then u/(((1:Int):Rat)+bp u) else u
def IN (L:Lay)(x:List Rat):List Rat:=(List.range L.W.length).map fun i=>Jm L.k (dB (L.W.getD i []) x x.length+L.B.getD i 0)
def Br (ls:List Lay)(xs:List Rat):Nat→List Rat
  | 0=>xs
  | k+1=>IN (ls.getD k iR) (Br ls xs k)
abbrev gD (ls:List Lay)(xs:List Rat)(k r:Nat):Rat:=dB ((ls.getD k iR).W.getD r []) (Br ls xs k) (Br ls xs k).length
abbrev gS (ls:List Lay)(xs:List Rat)(k r:Nat):Rat:=gD ls xs k r+((ls.getD k iR).B).getD r 0
structure NetB (ls:List Lay) (xs:List Rat):Prop where
  w:∀ k i j,LQ 1000000 (((ls.getD k iR).W.getD i []).getD j 0)
  b:∀ k i,LQ 1000000 ((ls.getD k iR).B.getD i 0)
  x:∀ k,k≤ls.length→∀ j,LQ 1000000 ((Br ls xs k).getD j 0)
theorem fg {n:Nat}:∀ j,(List.replicate n (0:Rat)).getD j 0=0:=fun j=>by
 rw[List.getD_eq_getElem?_getD,List.getElem?_replicate];split<;>rfl
structure LaySz (L:Lay):Prop where
  rl:L.W.length≤8
  rls:∀ i,(L.W.getD i []).length≤8
  bl:L.B.length≤8
  w:∀ i j,LQ 1 ((L.W.getD i []).getD j 0)
  b:∀ i,LQ 1 (L.B.getD i 0)
  b4:L.B.length≤4
  w4:(L.W.getD 0 []).length≤4
theorem nh {k:Nat}(h:1≤k):LQ k 0:=(LQ.lit (z:=0) kD).mono h
theorem tH (a:Rat):cW a a=0:=by unfold cW dH;rw[if_neg oM,if_neg oM]
section fut
variable {P:Program} {n:Nat} {N R:Po} {X:Nat→Po} {ops:Array Oper} {k0 K:Nat} {L:Array Bool} {Γ:cO} {w:World} {h:Hp} {w0:World} {h0:Hp} {B:List Bx} {Rs:List Rw} {F:List (Hp→Prop)}
end fut
theorem cJ {α:Type}{l:List α}{n i:Nat}{d x:α}(h:n<l.length):(l.set n x).getD i d=if i=n then x else l.getD i d:=by
 split
 ·rename_i e;subst e;simp[h]
 ·rename_i e;rw[List.getD_eq_getElem?_getD,List.getElem?_set_ne (Ne.symm e),←List.getD_eq_getElem?_getD]
structure LayS4 (L:Lay):Prop where
  rl:L.W.length≤4
  rls:∀ i,(L.W.getD i []).length≤4
  bl:L.B.length≤4
  w:∀ i j,LQ 1 ((L.W.getD i []).getD j 0)
  b:∀ i,LQ 1 (L.B.getD i 0)
section fla
variable {P:Program} {n:Nat} {N R:Po} {X:Nat→Po} {ops:Array Oper} {k:Nat} {Γ:cO} {w:World} {h:Hp} {w0:World} {h0:Hp} {B:List Bx} {Rs:List Rw} {F:List (Hp→Prop)}
end fla
section prt
variable {M:Ms} {P:Program} {n:Nat} {N R:Po} {X:Nat→Po} {ops:Array Oper} {k k0:Nat} {hr:Hp} {AL:List Al} {L:Array Bool} {Γ:cO} {w:World} {h:Hp}
end prt
theorem cj {α:Type}{l:List α}{i:Nat}{d:α}(h:l.length≤i):l.getD i d=d:=by rw[List.getD_eq_getElem?_getD,List.getElem?_eq_none h];rfl
def eP (a:Rat):Nat→Rat
  | 0=>((1:Int):Rat)
  | k+1=>eP a k*a
theorem rt {a:Rat}(h:a≠0):∀ k,eP a k≠0
 | 0=>by show ((1:Int):Rat)≠0;decide
 | k+1=>by show eP a k*a≠0;have:=rt h k;grind
theorem tS {k:Nat}(h:0<k):eP 0 k=0:=by
 obtain ⟨j,rfl⟩:∃ j,k=j+1:=⟨k-1,by omega⟩
 show eP 0 j*0=0;rw[Rat.mul_zero]
def dP (a:Rat)(n:Int):Rat:=if 0≤n then eP a n.natAbs else ((1:Int):Rat)/eP a n.natAbs
def tU (a b:Rat):Rat:=if b<a then b else a
def Iq (op n:Int)(q a b:Rat):Rat :=
  if op=1 then q else if op=3 then a+b else if op=4 then a-b else if op=5 then a*b else if op=6 then a/b else if op=7 then -a
  else if op=8 then dP a n else if op=9 then bp a else if op=10 then qV a 0 else if op=11 then a/(bp a+((1:Int):Rat)) else if op=12 then qV a b else tU a b
def ox (op n:Int)(a b:Rat):Prop:=(op=6→b≠0)∧(op=8→n<0→a≠0)
instance (op n:Int) (a b:Rat):Decidable (ox op n a b):=by unfold ox;infer_instance
def mC (op:Int)(a b:Rat):Prop:=(op=9∨op=10)∧a=0∨(op=12∨op=13)∧a=b
instance (op:Int) (a b:Rat):Decidable (mC op a b):=by unfold mC;infer_instance
def pH (s:Stp)(at_ v:List Rat):Rat:=if s.op=2 then at_.getD s.n.toNat 0 else Iq s.op s.n s.q (v.getD s.a.toNat 0) (v.getD s.b.toNat 0)
def aZ (l:List Stp)(at_:List Rat):Nat→List Rat
  | 0=>[]
  | k+1=>aZ l at_ k++[pH (l.getD k ac) at_ (aZ l at_ k)]
theorem eM (l:List Stp)(at_:List Rat):∀ k,(aZ l at_ k).length=k
 | 0=>rfl
 | k+1=>by show (aZ l at_ k++[_]).length=_;rw[List.length_append,eM l at_ k];rfl
def gn (sm:Bool)(s:Stp)(v:List Rat):Int:=if s.op=2 then 0 else if ox s.op s.n (v.getD s.a.toNat 0) (v.getD s.b.toNat 0) then (if sm=true∧mC s.op (v.getD s.a.toNat 0) (v.getD s.b.toNat 0) then 7 else 0) else 6
def bW (sm:Bool)(l:List Stp)(at_:List Rat):Nat→Int
  | 0=>0
  | k+1=>if bW sm l at_ k=0 then gn sm (l.getD k ac) (aZ l at_ k) else bW sm l at_ k
theorem lm {sm:Bool}{l:List Stp}{at_:List Rat}{k:Nat}(h:bW sm l at_ k≠0):∀ j,bW sm l at_ (k+j)=bW sm l at_ k
  | 0=>rfl
  | j+1=>by
    have e:=lm h j
    show (if bW sm l at_ (k+j)=0 then gn sm (l.getD (k+j) ac) (aZ l at_ (k+j)) else bW sm l at_ (k+j))=_
    rw[e,if_neg h]
theorem uj {sm:Bool}{l:List Stp}{at_:List Rat}{k n:Nat}(h0:bW sm l at_ k=0)(hk:k<n)(h:gn sm (l.getD k ac) (aZ l at_ k)≠0):bW sm l at_ n=gn sm (l.getD k ac) (aZ l at_ k):=by
 have e:bW sm l at_ (k+1)=gn sm (l.getD k ac) (aZ l at_ k):=by show (if _=0 then _ else _)=_;rw[if_pos h0]
 obtain ⟨j,rfl⟩:∃ j,n=k+1+j:=⟨n-(k+1),by omega⟩;rw[lm (by rw[e];exact h),e]
theorem ud {sm:Bool}{l:List Stp}{at_:List Rat}{k:Nat}(h0:bW sm l at_ k=0)(h:gn sm (l.getD k ac) (aZ l at_ k)=0):bW sm l at_ (k+1)=0:=by
 show (if _=0 then _ else _)=_;rw[if_pos h0];exact h
def ei (v:List Rat)(os:List Int):List Rat:=os.map fun o=>v.getD o.toNat 0
def nO (op n:Int)(a b:Rat):Rat :=
  if op=3 then ((1:Int):Rat) else if op=4 then ((1:Int):Rat) else if op=5 then b else if op=6 then ((1:Int):Rat)/b else if op=7 then -((1:Int):Rat)
  else if op=8 then (if n=0 then 0 else dP a (n-1)*((n:Int):Rat)) else if op=9 then ((a.num.sign:Int):Rat) else if op=10 then ((max a.num.sign 0:Int):Rat)
  else if op=11 then (((1:Int):Rat)/(((1:Int):Rat)+bp a))*(((1:Int):Rat)/(((1:Int):Rat)+bp a))
  else if op=12 then (if b<a then ((1:Int):Rat) else 0) else if op=13 then (if b<a then 0 else ((1:Int):Rat)) else 0
def oL (op:Int)(a b:Rat):Rat :=
  if op=3 then ((1:Int):Rat) else if op=4 then -((1:Int):Rat) else if op=5 then a else if op=6 then -(a*(((1:Int):Rat)/b)*(((1:Int):Rat)/b))
  else if op=12 then (if b<a then 0 else ((1:Int):Rat)) else if op=13 then (if b<a then ((1:Int):Rat) else 0) else 0
def n3 (s:Stp)(way v d:List Rat):Rat :=
  if s.op=2 then way.getD s.n.toNat 0
  else (if 0<dD s.op then nO s.op s.n (v.getD s.a.toNat 0) (v.getD s.b.toNat 0)*d.getD s.a.toNat 0 else 0)+(if 1<dD s.op then oL s.op (v.getD s.a.toNat 0) (v.getD s.b.toNat 0)*d.getD s.b.toNat 0 else 0)
def d7 (l:List Stp)(at_ way:List Rat):Nat→List Rat
  | 0=>[]
  | k+1=>d7 l at_ way k++[n3 (l.getD k ac) way (aZ l at_ k) (d7 l at_ way k)]
theorem jV (l:List Stp)(at_ way:List Rat):∀ k,(d7 l at_ way k).length=k
 | 0=>rfl
 | k+1=>by show (d7 l at_ way k++[_]).length=_;rw[List.length_append,jV l at_ way k];rfl
theorem s7 (z:Int) : -1≤z.sign∧z.sign≤1:=by
 rcases Int.lt_trichotomy z 0 with h|h|h
 ·rw[Int.sign_eq_neg_one_of_neg h];decide
 ·rw[h];decide
 ·rw[Int.sign_eq_one_of_pos h];decide
theorem qm {a:Rat}(h:a≠0):a.num≠0:=fun e=>h (by rw[←Rat.num_eq_zero];exact e)
theorem gZ {a:Rat}{K:Nat}(h:LQ K a):∀ k,LQ (k*K+1) (eP a k)
 | 0=>LQ.mono (k:=1) (LQ.lit (z:=1) kD) oM
 | k+1=>((gZ h k).mul h).mono (by rw[Nat.add_mul];omega)
theorem BR {a:Rat}{K:Nat}{n:Int}(hK:1≤K)(h:LQ K a)(hn : -13≤n∧n≤13):LQ (13*K+2) (dP a n):=by
 have h1:=gZ h n.natAbs;have h2:n.natAbs*K≤13*K:=Nat.mul_le_mul_right _ oM
 unfold dP
 split
 ·exact h1.mono oM
 ·exact ((LQ.lit (z:=1) kD).div h1).mono oM
theorem CW (a b:Rat)(hb:b=0)(w:World)(h:Hp)(g:G w h):CV 121 #[qv a,qv b] w h (.tuple #[qv 0,.bool false]):=by
 subst hb;exact Ht a (nh oM) w h g
theorem qu (u:Rat):(bp u+((1:Int):Rat)).num≠0:=by rw[Rat.add_comm];exact lv u
theorem De {op:Int}{a b:Rat}(h:op=9∨op=10):(a.num.sign == (0:Int))=decide (mC op a b):=by
 have e:a.num.sign=0↔a=0:=by rw[Int.sign_eq_zero_iff_zero,Rat.num_eq_zero]
 by_cases h0:a=0
 ·rw[decide_eq_true (show mC op a b from .inl ⟨h,h0⟩)];simpa using e.2 h0
 ·rw[decide_eq_false (show ¬mC op a b from fun x=>by rcases x with x|x;exact h0 x.2;omega)]
  simpa using fun h1=>h0 (e.1 h1)
theorem tg {a b:Rat}:cW a b=0↔a=b:=by
 constructor
 ·intro h
  have h1:¬a<b:=fun x=>by have:=kK.2 x;omega
  have h2:¬b<a:=fun x=>by have:=fx.2 x;omega
  grind
 ·intro h;subst h
  have h1:¬cW a a<0:=fun x=>by have:=kK.1 x;grind
  have h2:¬cW a a>0:=fun x=>by have:=fx.1 x;grind
  omega
theorem Dh {op:Int}{a b:Rat}(h:op=12∨op=13):(cW a b == (0:Int))=decide (mC op a b):=by
 by_cases h0:a=b
 ·rw[decide_eq_true (show mC op a b from .inr ⟨h,h0⟩)];simpa using tg.2 h0
 ·rw[decide_eq_false (show ¬mC op a b from fun x=>by rcases x with x|x;omega;exact h0 x.2)]
  simpa using fun h1=>h0 (tg.1 h1)
theorem GH {op:Int}{a b:Rat}(h:¬(op=9∨op=10∨op=12∨op=13)):false=decide (mC op a b):=by
 rw[decide_eq_false (show ¬mC op a b from fun x=>by rcases x with x|x<;>omega)]
theorem vG {op n:Int}{a b:Rat}(h:op=12∨op=13)(hc:0<cW a b∧op=12∨¬0<cW a b∧op=13):Value.tuple #[qv ((1:Int):Rat),qv 0]=.tuple #[qv (nO op n a b),qv (oL op a b)]:=by
 rcases hc with ⟨h1,rfl⟩|⟨h1,rfl⟩
 ·have h2:b<a:=fx.1 h1
  unfold nO oL;simp[h2]
 ·have h2:¬b<a:=fun x=>h1 (fx.2 x)
  unfold nO oL;simp[h2]
theorem xQ {op n:Int}{a b:Rat}(h:op=12∨op=13)(hc:0<cW a b∧op=13∨¬0<cW a b∧op=12):Value.tuple #[qv 0,qv ((1:Int):Rat)]=.tuple #[qv (nO op n a b),qv (oL op a b)]:=by
 rcases hc with ⟨h1,rfl⟩|⟨h1,rfl⟩
 ·have h2:b<a:=fx.1 h1
  unfold nO oL;simp[h2]
 ·have h2:¬b<a:=fun x=>h1 (fx.2 x)
  unfold nO oL;simp[h2]
theorem IK (a b:Rat)(ha:LQ 100000000 a)(hb:LQ 100000000 b)(w:World)(h:Hp)(g:G w h):CV 163 #[qv a,qv b] w h (qv (tU a b)):=by
 have hs:=sS g;refine go Tryz.func163 [(0,qv a),(1,qv b)] rfl (aD (lA 2 39 (qc a) hs (fun b1 w2 h3 hs=>lA 3 39 (qc b) hs (fun b4 w5 h6 hs=>lA 4 39 ([qF,uV 0,eS,uV 0,eS]) hs (fun b7 w8 h9 hs=>af (ab hs [.o 5 (qv b) 1 0 5,.o 6 (qv a) 2 0 5] (ah 7 hs (lM b a (LQ.mono hb oM) (LQ.mono ha oM) _ _ hs.g) (fun _ _ hs=>?_))))))));cases za:(decide ((cW b a:Int)<(0:Int)))
 ·
  have zb:=oF za;exact lB 8 za (am (cK (ab hs [.o 10 (qv a) 2 0 5] (lP 0 0 (qc a) hs (fun _ hs=>ae hs [(0,0,5)] (qv a) (by unfold tU;rw[if_neg (fun h_=>by have:=kK.2 h_;omega)]))))))
 have zb:=oT za;exact lB 8 za (ar (ab hs [.o 9 (qv b) 1 0 5] (lP 0 0 (qc b) hs (fun _ hs=>ae hs [(0,0,5)] (qv b) (by unfold tU;rw[if_pos (kK.1 oM)])))))
theorem AV (a:Rat)(n:Int)(K:Nat)(hK:14*K+20≤100000000)(ha:LQ K a)(hn : -13≤n∧n≤13)(hs:0≤n)(w:World)(h:Hp)(g:G w h)(tb:Tab h):CV 147 #[qv a,iV n] w h (.tuple #[qv (dP a n),.bool true]):=by
 have hs:=((sS g).aB tb);obtain ⟨m,hm⟩:∃ m:Nat,m=n.natAbs:=⟨_,rfl⟩;have hm13:m≤13:=by omega
 refine go Tryz.func147 [(0,qv a),(1,iV n)] rfl (aD (lA 2 39 (qc a) hs (fun b1 w2 h3 hs=>lA 4 39 ([qF,uV 0,eS,uV 0,eS]) hs (fun b4 w5 h6 hs=>lL hs [.v 5 qF] (ay (ah 7 hs (pZ 1 oM oM _ _ hs.g) (fun w7 h8 hs=>lA 6 39 ([qF,uV 0,eS,uV 0,eS]) hs (fun b9 _ zd hs=>lP 0 0 (qc ((1:Int):Rat)) hs (fun _ hs=>af (ab hs [.m 8 1,.m 9 1] (lI 10 (0-n) ?_)))))))))));refine lV 11 (iV (max (n:Int) (0-n:Int))) ?_ (hr:=aW (n:=(if (0-n:Int)>(n:Int) then (0-n:Int) else (n:Int))) kR (by simp only[mO]));refine lL hs [.v 12 (iV 0)] (bd ?_);refine bD _ (CG.loop (fun μ_ Γ w_=>∃ (k:Nat) (h_:Hp),μ_=m-k∧Γ=[(1,iV n),(2,pB b1),(4,pB b4),(5,qF),(6,pB b9),(11,iV (max (n:Int) (0-n:Int))),(12,nV k)]∧SS w h w_ h_ [⟨b9,39,qc (eP a k)⟩,⟨b4,39,[qF,uV 0,eS,uV 0,eS]⟩,⟨b1,39,qc a⟩] [] [fun h_=>Tab h_]∧k≤m) _ ⟨0,zd,rfl,rfl,hs.to _ _,Nat.zero_le _⟩ ?_);rintro _ _ _ ⟨k,_,hm15,rfl,hs,hk⟩;have hkK:k*K≤13*K:=Nat.mul_le_mul_right _ oM;have hpk:=gZ ha k;refine aD ?_;cases za:(decide ((k:Int)<(max (n:Int) (0-n:Int):Int)))
 ·
  have zb:=oF za;refine lB 13 za (af (dK (CG.exit ?_)))
  show CG _ _ _ _ _ _ _ _
  refine cQ (ab hs [.m 18 1] ?_);have ⟨zc,phb17⟩:=dT (p:=(0:Int)≤(n:Int)) oM;exact lB 19 zc (ar (ab hs [.o 20 (qv (eP a k)) 0 0 5] (lP 1 0 (qc (eP a k)) hs (fun _ hs=>lL hs [.v 5 qT] (ae hs [(1,0,5)] (.tuple #[qv (eP a k),qT]) (by unfold dP;rw[if_pos oM,show n.natAbs=k by omega]))))))
 have zb:=oT za;refine lB 13 za (af (cI (cK (cQ (kZ (kQ (lL hs [.o 14 (qv (eP a k)) 0 0 5,.o 15 (qv a) 2 0 5] ?_)))))));have hq19:=LQ.mul hpk ha;refine ah 16 hs (ji (eP a k) a (LQ.mono hpk oM) (LQ.mono ha oM) _ _ hs.g hs.f.1) (fun _ ze hs=>lP 0 0 (qc ((eP a k)*a)) hs (fun _ hs=>lN (kQ (bw 17 ((k:Nat)+1) (k+1) ?_))));refine lL hs [.m 12 17] (lD ?_);intro a_ ka;refine ⟨_,_,?_,⟨k+1,ze,rfl,rfl,hs.to _ _,oM⟩,ka.to _ kR⟩
 omega
theorem Cw (a:Rat)(n:Int)(K:Nat)(hK:14*K+20≤100000000)(ha:LQ K a)(hn : -13≤n∧n≤13)(hs:n<0)(ha0:a≠0)(w:World)(h:Hp)(g:G w h)(tb:Tab h):CV 147 #[qv a,iV n] w h (.tuple #[qv (dP a n),.bool true]):=by
 have hs:=((sS g).aB tb);obtain ⟨m,hm⟩:∃ m:Nat,m=n.natAbs:=⟨_,rfl⟩;have hm13:m≤13:=by omega
 refine go Tryz.func147 [(0,qv a),(1,iV n)] rfl (aD (lA 2 39 (qc a) hs (fun b1 w2 h3 hs=>lA 4 39 ([qF,uV 0,eS,uV 0,eS]) hs (fun b4 w5 h6 hs=>lL hs [.v 5 qF] (ay (ah 7 hs (pZ 1 oM oM _ _ hs.g) (fun w7 h8 hs=>lA 6 39 ([qF,uV 0,eS,uV 0,eS]) hs (fun b9 _ zd hs=>lP 0 0 (qc ((1:Int):Rat)) hs (fun _ hs=>af (ab hs [.m 8 1,.m 9 1] (lI 10 (0-n) ?_)))))))))));refine lV 11 (iV (max (n:Int) (0-n:Int))) ?_ (hr:=aW (n:=(if (0-n:Int)>(n:Int) then (0-n:Int) else (n:Int))) kR (by simp only[mO]));refine lL hs [.v 12 (iV 0)] (bd ?_);refine bD _ (CG.loop (fun μ_ Γ w_=>∃ (k:Nat) (h_:Hp),μ_=m-k∧Γ=[(1,iV n),(2,pB b1),(4,pB b4),(5,qF),(6,pB b9),(11,iV (max (n:Int) (0-n:Int))),(12,nV k)]∧SS w h w_ h_ [⟨b9,39,qc (eP a k)⟩,⟨b4,39,[qF,uV 0,eS,uV 0,eS]⟩,⟨b1,39,qc a⟩] [] [fun h_=>Tab h_]∧k≤m) _ ⟨0,zd,rfl,rfl,hs.to _ _,Nat.zero_le _⟩ ?_);rintro _ _ _ ⟨k,_,hm15,rfl,hs,hk⟩;have hkK:k*K≤13*K:=Nat.mul_le_mul_right _ oM;have hpk:=gZ ha k;refine aD ?_;cases za:(decide ((k:Int)<(max (n:Int) (0-n:Int):Int)))
 ·
  have zb:=oF za;refine lB 13 za (af (dK (CG.exit ?_)))
  show CG _ _ _ _ _ _ _ _
  refine cQ (ab hs [.m 18 1] ?_);have ⟨zc,phb17⟩:=dF (p:=(0:Int)≤(n:Int)) oM;refine lB 19 zc (am (cK (cQ (cR 5 [] mixed hs aq ?_))));refine eO 1 22 [(0,0,5)] (qv (eP a k)) hs (ak 0 21 hs (fun _ _ hs=>pZ 1 oM oM _ _ hs.g) (fun _ _ hs=>?_));have hq20:=LQ.div (LQ.lit (z:=1) kD) hpk;exact ak 2 23 hs (fun _ _ hs=>k8 ((1:Int):Rat) (eP a k) (LQ.mono (LQ.lit (z:=1) kD) oM) (LQ.mono hpk oM) (qm (rt ha0 k)) _ _ hs.g hs.f.1) (fun _ _ hs=>eV 3 24 (qv (((1:Int):Rat)/(eP a k))) (eV 4 25 qT (bF hs (fun _ _ hs=>tP 5 1 0 (qc (((1:Int):Rat)/(eP a k))) hs (fun _ hs=>tV 6 5 qT (tN (kX (hs.ret [(1,0,5)] (.tuple #[qv (((1:Int):Rat)/(eP a k)),qT]) (by unfold dP;rw[if_neg oM,show n.natAbs=k by omega])))))))))
 have zb:=oT za;refine lB 13 za (af (cI (cK (cQ (kZ (kQ (lL hs [.o 14 (qv (eP a k)) 0 0 5,.o 15 (qv a) 2 0 5] ?_)))))));have hq26:=LQ.mul hpk ha;refine ah 16 hs (ji (eP a k) a (LQ.mono hpk oM) (LQ.mono ha oM) _ _ hs.g hs.f.1) (fun _ ze hs=>lP 0 0 (qc ((eP a k)*a)) hs (fun _ hs=>lN (kQ (bw 17 ((k:Nat)+1) (k+1) ?_))));refine lL hs [.m 12 17] (lD ?_);intro a_ ka;refine ⟨_,_,?_,⟨k+1,ze,rfl,rfl,hs.to _ _,oM⟩,ka.to _ kR⟩
 omega
theorem BI (a:Rat)(n:Int)(K:Nat)(hK:14*K+20≤100000000)(ha:LQ K a)(hn : -13≤n∧n≤13)(hs:n<0)(ha0:a=0)(w:World)(h:Hp)(g:G w h)(tb:Tab h):CV 147 #[qv a,iV n] w h (.tuple #[qv 0,.bool false]):=by
 have hs:=((sS g).aB tb);obtain ⟨m,hm⟩:∃ m:Nat,m=n.natAbs:=⟨_,rfl⟩;have hm13:m≤13:=by omega
 refine go Tryz.func147 [(0,qv a),(1,iV n)] rfl (aD (lA 2 39 (qc a) hs (fun b1 w2 h3 hs=>lA 4 39 ([qF,uV 0,eS,uV 0,eS]) hs (fun b4 w5 h6 hs=>lL hs [.v 5 qF] (ay (ah 7 hs (pZ 1 oM oM _ _ hs.g) (fun w7 h8 hs=>lA 6 39 ([qF,uV 0,eS,uV 0,eS]) hs (fun b9 _ zd hs=>lP 0 0 (qc ((1:Int):Rat)) hs (fun _ hs=>af (ab hs [.m 8 1,.m 9 1] (lI 10 (0-n) ?_)))))))))));refine lV 11 (iV (max (n:Int) (0-n:Int))) ?_ (hr:=aW (n:=(if (0-n:Int)>(n:Int) then (0-n:Int) else (n:Int))) kR (by simp only[mO]));refine lL hs [.v 12 (iV 0)] (bd ?_);refine bD _ (CG.loop (fun μ_ Γ w_=>∃ (k:Nat) (h_:Hp),μ_=m-k∧Γ=[(1,iV n),(2,pB b1),(4,pB b4),(5,qF),(6,pB b9),(11,iV (max (n:Int) (0-n:Int))),(12,nV k)]∧SS w h w_ h_ [⟨b9,39,qc (eP a k)⟩,⟨b4,39,[qF,uV 0,eS,uV 0,eS]⟩,⟨b1,39,qc a⟩] [] [fun h_=>Tab h_]∧k≤m) _ ⟨0,zd,rfl,rfl,hs.to _ _,Nat.zero_le _⟩ ?_);rintro _ _ _ ⟨k,_,hm15,rfl,hs,hk⟩;have hkK:k*K≤13*K:=Nat.mul_le_mul_right _ oM;have hpk:=gZ ha k;refine aD ?_;cases za:(decide ((k:Int)<(max (n:Int) (0-n:Int):Int)))
 ·
  have zb:=oF za;refine lB 13 za (af (dK (CG.exit ?_)))
  show CG _ _ _ _ _ _ _ _
  refine cQ (ab hs [.m 18 1] ?_);have ⟨zc,phb17⟩:=dF (p:=(0:Int)≤(n:Int)) oM;refine lB 19 zc (am (cK (cQ (cR 5 [] mixed hs aq ?_))));exact eO 1 22 [(0,0,5)] (qv (eP a k)) hs (ak 0 21 hs (fun _ _ hs=>pZ 1 oM oM _ _ hs.g) (fun _ _ hs=>ak 2 23 hs (fun _ _ hs=>CW ((1:Int):Rat) (eP a k) (by rw[ha0];exact tS oM) _ _ hs.g) (fun _ _ hs=>eV 3 24 (qv 0) (eV 4 25 qF (bF hs (fun _ _ hs=>tP 5 1 0 (qc 0) hs (fun _ hs=>tV 6 5 qF (tN (kX (hs.ret [(1,0,5)] (.tuple #[qv 0,qF]) rfl))))))))))
 have zb:=oT za;refine lB 13 za (af (cI (cK (cQ (kZ (kQ (lL hs [.o 14 (qv (eP a k)) 0 0 5,.o 15 (qv a) 2 0 5] ?_)))))));have hq25:=LQ.mul hpk ha;refine ah 16 hs (ji (eP a k) a (LQ.mono hpk oM) (LQ.mono ha oM) _ _ hs.g hs.f.1) (fun _ ze hs=>lP 0 0 (qc ((eP a k)*a)) hs (fun _ hs=>lN (kQ (bw 17 ((k:Nat)+1) (k+1) ?_))));refine lL hs [.m 12 17] (lD ?_);intro a_ ka;refine ⟨_,_,?_,⟨k+1,ze,rfl,rfl,hs.to _ _,oM⟩,ka.to _ kR⟩
 omega
theorem vh (a:Rat)(n:Int)(K:Nat)(hK:14*K+20≤100000000)(ha:LQ K a)(hn : -13≤n∧n≤13)(ho:n<0→a≠0)(w:World)(h:Hp)(g:G w h)(tb:Tab h):CV 147 #[qv a,iV n] w h (.tuple #[qv (dP a n),.bool true]):=by
 by_cases hs:0≤n
 ·exact AV a n K hK ha hn hs w h g tb
 ·exact Cw a n K hK ha hn oM (ho oM) w h g tb
theorem Ch (s:Stp)(a b:Rat)(K:Nat)(hK:14*K+20≤100000000)(ha:LQ K a)(hb:LQ K b)(hq:LQ 1 s.q)(hK1:1≤K)(hop:1≤s.op∧s.op≤13∧s.op≠2)(hn:s.op=8 → -12≤s.n∧s.n≤12)(hok:ox s.op s.n a b)(w:World)(h:Hp)(g:G w h)(tb:Tab h):CV 134 #[sX s,qv a,qv b] w h (.tuple #[qv (Iq s.op s.n s.q a b),.bool true]):=by
 have hs:=((sS g).aB tb);refine go Tryz.func134 [(0,sX s),(1,qv a),(2,qv b)] rfl (aD (lA 3 144 (sC s) hs (fun b1 w2 h3 hs=>lA 4 39 (qc a) hs (fun b4 w5 h6 hs=>lA 5 39 (qc b) hs (fun b7 w8 h9 hs=>lA 6 39 ([qF,uV 0,eS,uV 0,eS]) hs (fun b10 _ _ hs=>lL hs [.v 7 qF] (af (ab hs [.v 8 (pB b1),.o 9 (iV s.op) 3 0 1] (bd (aD ?_))))))))));cases za:((s.op:Int) == (1:Int))
 ·
  have zo:=aj za;refine lB 11 za (lL hs [.m 10 11] (am (aD ?_)));cases zb:((s.op:Int) == (3:Int))
  ·
   have zp:=aj zb;refine lB 15 zb (lL hs [.m 14 15] (am (aD ?_)));cases zc:((s.op:Int) == (4:Int))
   ·
    have zq:=aj zc;refine lB 20 zc (lL hs [.m 19 20] (am (aD ?_)));cases zd:((s.op:Int) == (5:Int))
    ·
     have zr:=aj zd;refine lB 25 zd (lL hs [.m 24 25] (am (aD ?_)));cases ze:((s.op:Int) == (6:Int))
     ·
      have zs:=aj ze;refine lB 30 ze (lL hs [.m 29 30] (am (aD ?_)));cases zf:((s.op:Int) == (7:Int))
      ·
       have zt:=aj zf;refine lB 37 zf (lL hs [.m 36 37] (am (aD ?_)));cases zg:((s.op:Int) == (8:Int))
       ·
        have zu:=aj zg;refine lB 41 zg (lL hs [.m 40 41] (am (aD ?_)));cases zi:((s.op:Int) == (9:Int))
        ·
         have zv:=aj zi;refine lB 49 zi (lL hs [.m 48 49] (am (aD ?_)));cases zj:((s.op:Int) == (10:Int))
         ·
          have zw:=aj zj;refine lB 53 zj (lL hs [.m 52 53] (am (aD ?_)));cases zk:((s.op:Int) == (11:Int))
          ·
           have zx:=aj zk;refine lB 58 zk (lL hs [.m 57 58] (am (aD ?_)));cases zl:((s.op:Int) == (12:Int))
           ·
            have zA:=aj zl;exact lB 68 zl (lL hs [.m 67 68] (am (cK (ab hs [.o 72 (qv a) 2 0 5,.o 73 (qv b) 1 0 5] (ah 74 hs (IK a b (LQ.mono ha oM) (LQ.mono hb oM) _ _ hs.g) (fun _ _ hs=>lP 0 0 (qc (tU a b)) hs (fun _ hs=>lL hs [.v 7 qT] (ae hs [(0,0,5)] (.tuple #[qv (tU a b),qT]) (by rw[show s.op=13 by omega];rfl)))))))))
           have zA:=eq_of_beq zl;exact lB 68 zl (lL hs [.m 67 68] (ar (ab hs [.o 69 (qv a) 2 0 5,.o 70 (qv b) 1 0 5] (ah 71 hs (G2 a b (LQ.mono ha oM) (LQ.mono hb oM) _ _ hs.g) (fun _ _ hs=>lP 0 0 (qc (qV a b)) hs (fun _ hs=>lL hs [.v 7 qT] (ae hs [(0,0,5)] (.tuple #[qv (qV a b),qT]) (by rw[show s.op=12 by omega];rfl))))))))
          have zx:=eq_of_beq zk;refine lB 58 zk (lL hs [.m 57 58] (ar (cQ (cR 8 [] mixed hs aq ?_))));refine eO 0 59 [(2,0,5)] (qv a) hs (eO 1 60 [(2,0,5)] (qv a) hs ?_);have zm:LQ (K) (bp a):=LQ.abs ha;refine ak 2 61 hs (fun _ _ hs=>DL a (LQ.mono ha oM) _ _ hs.g) (fun _ _ hs=>ak 3 62 hs (fun _ _ hs=>pZ 1 oM oM _ _ hs.g) (fun _ _ hs=>?_));have zn:=LQ.add zm (LQ.lit (z:=1) kD);refine ak 4 63 hs (fun _ _ hs=>ki (bp a) ((1:Int):Rat) (LQ.mono zm oM) (LQ.mono (LQ.lit (z:=1) kD) oM) _ _ hs.g hs.f.1) (fun _ _ hs=>?_);have hq38:=LQ.div ha zn;exact ak 5 64 hs (fun _ _ hs=>k8 a ((bp a)+((1:Int):Rat)) (LQ.mono ha oM) (LQ.mono zn oM) (qu a) _ _ hs.g hs.f.1) (fun _ _ hs=>eV 6 65 (qv (a/((bp a)+((1:Int):Rat)))) (eV 7 66 qT (bF hs (fun _ _ hs=>tP 8 0 0 (qc (a/((bp a)+((1:Int):Rat)))) hs (fun _ hs=>tV 9 7 qT (tN (kX (hs.ret [(0,0,5)] (.tuple #[qv (a/((bp a)+((1:Int):Rat))),qT]) (by rw[show s.op=11 by omega];rfl)))))))))
         have zw:=eq_of_beq zj;exact lB 53 zj (lL hs [.m 52 53] (ar (ab hs [.o 54 (qv a) 2 0 5,.v 55 (qv 0)] (ah 56 hs (G2 a 0 (LQ.mono ha oM) (LQ.mono (LQ.lit (z:=0) kD) oM) _ _ hs.g) (fun _ _ hs=>lP 0 0 (qc (qV a 0)) hs (fun _ hs=>lL hs [.v 7 qT] (ae hs [(0,0,5)] (.tuple #[qv (qV a 0),qT]) (by rw[show s.op=10 by omega];rfl))))))))
        have zv:=eq_of_beq zi;refine lB 49 zi (lL hs [.m 48 49] (ar (ab hs [.o 50 (qv a) 2 0 5] ?_)));have hq47:LQ (K) (bp a):=LQ.abs ha;exact ah 51 hs (DL a (LQ.mono ha oM) _ _ hs.g) (fun _ _ hs=>lP 0 0 (qc (bp a)) hs (fun _ hs=>lL hs [.v 7 qT] (ae hs [(0,0,5)] (.tuple #[qv (bp a),qT]) (by rw[show s.op=9 by omega];rfl))))
       have zu:=eq_of_beq zg;exact lB 41 zg (lL hs [.m 40 41] (ar (ab hs [.o 42 (qv a) 2 0 5,.v 43 (qP b1 3),.o 44 (iV s.n) 3 3 1] (ah 45 hs (vh a s.n K hK ha (by have:=hn oM;omega) (hok.2 oM) _ _ hs.g hs.f.1) (fun _ _ hs=>lL hs [.v 46 (qv (dP a s.n)),.v 47 qT] (lP 0 0 (qc (dP a s.n)) hs (fun _ hs=>lL hs [.m 7 47] (ae hs [(0,0,5)] (.tuple #[qv (dP a s.n),qT]) (by rw[show s.op=8 by omega];rfl)))))))))
      have zt:=eq_of_beq zf;refine lB 37 zf (lL hs [.m 36 37] (ar (ab hs [.o 38 (qv a) 2 0 5] ?_)));have hq54:LQ (K) (-a):=LQ.neg ha;exact ah 39 hs (wE a (LQ.mono ha oM) _ _ hs.g) (fun _ _ hs=>lP 0 0 (qc (-a)) hs (fun _ hs=>lL hs [.v 7 qT] (ae hs [(0,0,5)] (.tuple #[qv (-a),qT]) (by rw[show s.op=7 by omega];rfl))))
     have zs:=eq_of_beq ze;refine lB 30 ze (lL hs [.m 29 30] (ar (ab hs [.o 31 (qv a) 2 0 5,.o 32 (qv b) 1 0 5] ?_)));have hq58:=LQ.div ha hb;exact ah 33 hs (k8 a b (LQ.mono ha oM) (LQ.mono hb oM) (qm (hok.1 oM)) _ _ hs.g hs.f.1) (fun _ _ hs=>lL hs [.v 34 (qv (a/b)),.v 35 qT] (lP 0 0 (qc (a/b)) hs (fun _ hs=>lL hs [.m 7 35] (ae hs [(0,0,5)] (.tuple #[qv (a/b),qT]) (by rw[show s.op=6 by omega];rfl)))))
    have zr:=eq_of_beq zd;refine lB 25 zd (lL hs [.m 24 25] (ar (ab hs [.o 26 (qv a) 2 0 5,.o 27 (qv b) 1 0 5] ?_)));have hq62:=LQ.mul ha hb;exact ah 28 hs (ji a b (LQ.mono ha oM) (LQ.mono hb oM) _ _ hs.g hs.f.1) (fun _ _ hs=>lP 0 0 (qc (a*b)) hs (fun _ hs=>lL hs [.v 7 qT] (ae hs [(0,0,5)] (.tuple #[qv (a*b),qT]) (by rw[show s.op=5 by omega];rfl))))
   have zq:=eq_of_beq zc;refine lB 20 zc (lL hs [.m 19 20] (ar (ab hs [.o 21 (qv a) 2 0 5,.o 22 (qv b) 1 0 5] ?_)));have hq66:=LQ.sub ha hb;exact ah 23 hs (Hi a b (LQ.mono ha oM) (LQ.mono hb oM) _ _ hs.g hs.f.1) (fun _ _ hs=>lP 0 0 (qc (a-b)) hs (fun _ hs=>lL hs [.v 7 qT] (ae hs [(0,0,5)] (.tuple #[qv (a-b),qT]) (by rw[show s.op=4 by omega];rfl))))
  have zp:=eq_of_beq zb;refine lB 15 zb (lL hs [.m 14 15] (ar (ab hs [.o 16 (qv a) 2 0 5,.o 17 (qv b) 1 0 5] ?_)));have hq70:=LQ.add ha hb;exact ah 18 hs (ki a b (LQ.mono ha oM) (LQ.mono hb oM) _ _ hs.g hs.f.1) (fun _ _ hs=>lP 0 0 (qc (a+b)) hs (fun _ hs=>lL hs [.v 7 qT] (ae hs [(0,0,5)] (.tuple #[qv (a+b),qT]) (by rw[show s.op=3 by omega];rfl))))
 have zo:=eq_of_beq za;exact lB 11 za (lL hs [.m 10 11] (ar (ab hs [.v 12 (qP b1 4),.o 13 (qv s.q) 3 4 5] (lP 0 0 (qc s.q) hs (fun _ hs=>lL hs [.v 7 qT] (ae hs [(0,0,5)] (.tuple #[qv s.q,qT]) (by rw[show s.op=1 by omega];rfl)))))))
theorem An (s:Stp)(a b:Rat)(K:Nat)(hK:14*K+20≤100000000)(ha:LQ K a)(hb:LQ K b)(hq:LQ 1 s.q)(hK1:1≤K)(hop:s.op=6)(hz6:b=0)(w:World)(h:Hp)(g:G w h)(tb:Tab h):CV 134 #[sX s,qv a,qv b] w h (.tuple #[qv 0,.bool false]):=by
 have hs:=((sS g).aB tb);refine go Tryz.func134 [(0,sX s),(1,qv a),(2,qv b)] rfl (aD (lA 3 144 (sC s) hs (fun b1 w2 h3 hs=>lA 4 39 (qc a) hs (fun b4 w5 h6 hs=>lA 5 39 (qc b) hs (fun b7 w8 h9 hs=>lA 6 39 ([qF,uV 0,eS,uV 0,eS]) hs (fun b10 _ _ hs=>lL hs [.v 7 qF] (af (ab hs [.v 8 (pB b1),.o 9 (iV s.op) 3 0 1] (bd (aD ?_))))))))));have za:((s.op:Int) == (1:Int))=false:=fC oM;have phb13:=aj za;refine lB 11 za (lL hs [.m 10 11] (am (aD ?_)));have zb:((s.op:Int) == (3:Int))=false:=fC oM;have phb14:=aj zb;refine lB 15 zb (lL hs [.m 14 15] (am (aD ?_)));have zc:((s.op:Int) == (4:Int))=false:=fC oM;have phb15:=aj zc;refine lB 20 zc (lL hs [.m 19 20] (am (aD ?_)));have zd:((s.op:Int) == (5:Int))=false:=fC oM;have phb16:=aj zd;refine lB 25 zd (lL hs [.m 24 25] (am (aD ?_)));have ze:((s.op:Int) == (6:Int))=true:=tL oM;have phb17:=eq_of_beq ze;exact lB 30 ze (lL hs [.m 29 30] (ar (ab hs [.o 31 (qv a) 2 0 5,.o 32 (qv b) 1 0 5] (ah 33 hs (CW a b hz6 _ _ hs.g) (fun _ _ hs=>lL hs [.v 34 (qv 0),.v 35 qF] (lP 0 0 (qc 0) hs (fun _ hs=>lL hs [.m 7 35] (ae hs [(0,0,5)] (.tuple #[qv 0,qF]) rfl))))))))
theorem AM (s:Stp)(a b:Rat)(K:Nat)(hK:14*K+20≤100000000)(ha:LQ K a)(hb:LQ K b)(hq:LQ 1 s.q)(hK1:1≤K)(hop:s.op=8)(hn : -12≤s.n∧s.n<0)(hz8:a=0)(w:World)(h:Hp)(g:G w h)(tb:Tab h):CV 134 #[sX s,qv a,qv b] w h (.tuple #[qv 0,.bool false]):=by
 have hs:=((sS g).aB tb);refine go Tryz.func134 [(0,sX s),(1,qv a),(2,qv b)] rfl (aD (lA 3 144 (sC s) hs (fun b1 w2 h3 hs=>lA 4 39 (qc a) hs (fun b4 w5 h6 hs=>lA 5 39 (qc b) hs (fun b7 w8 h9 hs=>lA 6 39 ([qF,uV 0,eS,uV 0,eS]) hs (fun b10 _ _ hs=>lL hs [.v 7 qF] (af (ab hs [.v 8 (pB b1),.o 9 (iV s.op) 3 0 1] (bd (aD ?_))))))))));have za:((s.op:Int) == (1:Int))=false:=fC oM;have phb13:=aj za;refine lB 11 za (lL hs [.m 10 11] (am (aD ?_)));have zb:((s.op:Int) == (3:Int))=false:=fC oM;have phb14:=aj zb;refine lB 15 zb (lL hs [.m 14 15] (am (aD ?_)));have zc:((s.op:Int) == (4:Int))=false:=fC oM;have phb15:=aj zc;refine lB 20 zc (lL hs [.m 19 20] (am (aD ?_)));have zd:((s.op:Int) == (5:Int))=false:=fC oM;have phb16:=aj zd;refine lB 25 zd (lL hs [.m 24 25] (am (aD ?_)));have ze:((s.op:Int) == (6:Int))=false:=fC oM;have phb17:=aj ze;refine lB 30 ze (lL hs [.m 29 30] (am (aD ?_)));have zf:((s.op:Int) == (7:Int))=false:=fC oM;have phb18:=aj zf;refine lB 37 zf (lL hs [.m 36 37] (am (aD ?_)));have zg:((s.op:Int) == (8:Int))=true:=tL oM;have phb19:=eq_of_beq zg;exact lB 41 zg (lL hs [.m 40 41] (ar (ab hs [.o 42 (qv a) 2 0 5,.v 43 (qP b1 3),.o 44 (iV s.n) 3 3 1] (ah 45 hs (BI a s.n K hK ha oM oM hz8 _ _ hs.g hs.f.1) (fun _ _ hs=>lL hs [.v 46 (qv 0),.v 47 qF] (lP 0 0 (qc 0) hs (fun _ hs=>lL hs [.m 7 47] (ae hs [(0,0,5)] (.tuple #[qv 0,qF]) rfl))))))))
def oI (op n:Int)(q a b:Rat):Rat:=if ox op n a b then Iq op n q a b else 0
theorem DU (s:Stp)(a b:Rat)(K:Nat)(hK:14*K+20≤100000000)(ha:LQ K a)(hb:LQ K b)(hq:LQ 1 s.q)(hK1:1≤K)(hop:1≤s.op∧s.op≤13∧s.op≠2)(hn:s.op=8 → -12≤s.n∧s.n≤12)(w:World)(h:Hp)(g:G w h)(tb:Tab h):CV 134 #[Ja s,qv a,qv b] w h (.tuple #[qv (oI s.op s.n s.q a b),.bool (decide (ox s.op s.n a b))]):=by
 by_cases hok:ox s.op s.n a b
 ·unfold oI;rw[if_pos hok,decide_eq_true hok];exact Ch s a b K hK ha hb hq hK1 hop hn hok w h g tb
 ·unfold oI;rw[if_neg hok,decide_eq_false hok]
  by_cases h6:s.op=6∧b=0
  ·exact An s a b K hK ha hb hq hK1 h6.1 h6.2 w h g tb
  ·by_cases h8:s.op=8∧s.n<0∧a=0
   ·exact AM s a b K hK ha hb hq hK1 h8.1 ⟨(hn h8.1).1,h8.2.1⟩ h8.2.2 w h g tb
   ·exact absurd ⟨fun x y=>h6 ⟨x,y⟩,fun x y z=>h8 ⟨x,y,z⟩⟩ hok
theorem Bl (s:Stp)(a b:Rat)(K:Nat)(hK:K≤100000000)(ha:LQ K a)(hb:LQ K b)(w:World)(h:Hp)(g:G w h):CV 135 #[sX s,qv a,qv b] w h (.bool (decide (mC s.op a b))):=by
 have hs:=sS g;refine go Tryz.func135 [(0,sX s),(1,qv a),(2,qv b)] rfl (aD (lA 3 144 (sC s) hs (fun b1 w2 h3 hs=>lA 4 39 (qc a) hs (fun b4 w5 h6 hs=>lA 5 39 (qc b) hs (fun b7 w8 h9 hs=>lL hs [.v 6 qF] (af (ab hs [.v 7 (pB b1),.o 8 (iV s.op) 2 0 1] (bd (cQ (ab hs [.v 10 (.bool ((s.op:Int) == (9:Int))),.m 9 10] (lN ?_)))))))))));cases za:((s.op:Int) == (9:Int))
 ·
  try rw[za] at hs
  try rw[za]
  have ze:=aj za;refine dK (kQ (lL hs [.v 11 (.bool ((s.op:Int) == (10:Int))),.m 9 11] (lN ?_)));cases zb:((s.op:Int) == (10:Int))
  ·
   try rw[zb] at hs
   try rw[zb]
   have zf:=aj zb;refine dK (cQ (ab hs [.v 16 (.bool ((s.op:Int) == (12:Int))),.m 15 16] (lN ?_)));cases zc:((s.op:Int) == (12:Int))
   ·
    try rw[zc] at hs
    try rw[zc]
    have zg:=aj zc;refine dK (kQ (lL hs [.v 17 (.bool ((s.op:Int) == (13:Int))),.m 15 17] (lN ?_)));cases zd:((s.op:Int) == (13:Int))
    ·
     try rw[zd] at hs
     try rw[zd]
     have zi:=aj zd;exact dK (cK (ab hs [.v 6 qF] (ae hs [] qF (congrArg Value.bool (GH oM)))))
    try rw[zd] at hs
    try rw[zd]
    have zi:=eq_of_beq zd;exact cI (ab hs [.o 18 (qv a) 1 0 5,.o 19 (qv b) 0 0 5] (ah 20 hs (lM a b (LQ.mono ha oM) (LQ.mono hb oM) _ _ hs.g) (fun _ _ hs=>lL hs [.v 21 (.bool ((cW a b:Int) == (0:Int))),.m 6 21] (ae hs [] (.bool ((cW a b:Int) == (0:Int))) (congrArg Value.bool (Dh oM))))))
   try rw[zc] at hs
   try rw[zc]
   have zg:=eq_of_beq zc;exact cI (cK (cI (ab hs [.o 18 (qv a) 1 0 5,.o 19 (qv b) 0 0 5] (ah 20 hs (lM a b (LQ.mono ha oM) (LQ.mono hb oM) _ _ hs.g) (fun _ _ hs=>lL hs [.v 21 (.bool ((cW a b:Int) == (0:Int))),.m 6 21] (ae hs [] (.bool ((cW a b:Int) == (0:Int))) (congrArg Value.bool (Dh oM))))))))
  try rw[zb] at hs
  try rw[zb]
  have zf:=eq_of_beq zb;exact cI (ab hs [.o 12 (qv a) 1 0 5] (ah 13 hs (eL a (LQ.mono ha oM) _ _ hs.g) (fun _ _ hs=>lL hs [.v 14 (.bool ((a.num.sign:Int) == (0:Int))),.m 6 14] (ae hs [] (.bool ((a.num.sign:Int) == (0:Int))) (congrArg Value.bool (De oM))))))
 try rw[za] at hs
 try rw[za]
 have ze:=eq_of_beq za;exact cI (cK (cI (ab hs [.o 12 (qv a) 1 0 5] (ah 13 hs (eL a (LQ.mono ha oM) _ _ hs.g) (fun _ _ hs=>lL hs [.v 14 (.bool ((a.num.sign:Int) == (0:Int))),.m 6 14] (ae hs [] (.bool ((a.num.sign:Int) == (0:Int))) (congrArg Value.bool (De oM))))))))
theorem AQ (s:Stp)(a b:Rat)(K:Nat)(hK:14*K+20≤100000000)(ha:LQ K a)(hb:LQ K b)(hq:LQ 1 s.q)(hK1:1≤K)(hop:1≤s.op∧s.op≤13∧s.op≠2)(hn:s.op=8 → -12≤s.n∧s.n≤12)(hok6:s.op=6→b≠0)(hok:s.op=8→s.n<0→a≠0)(w:World)(h:Hp)(g:G w h)(tb:Tab h):CV 90 #[sX s,qv a,qv b] w h (.tuple #[qv (nO s.op s.n a b),qv (oL s.op a b)]):=by
 have hs:=((sS g).aB tb);have hsg:=s7 a.num;refine go Tryz.func90 [(0,sX s),(1,qv a),(2,qv b)] rfl (aD (lA 3 144 (sC s) hs (fun b1 w2 h3 hs=>lA 4 39 (qc a) hs (fun b4 w5 h6 hs=>lA 5 39 (qc b) hs (fun b7 w8 h9 hs=>lA 6 39 ([qF,uV 0,eS,uV 0,eS]) hs (fun za _ _ hs=>lA 7 39 ([qF,uV 0,eS,uV 0,eS]) hs (fun zb _ _ hs=>ay (ah 10 hs (pZ 1 oM oM _ _ hs.g) (fun _ _ hs=>lL hs [.v 11 (qv 0)] (lA 8 39 ([qF,uV 0,eS,uV 0,eS]) hs (fun zu _ _ hs=>lA 9 39 ([qF,uV 0,eS,uV 0,eS]) hs (fun ze _ _ hs=>lP 1 0 (qc ((1:Int):Rat)) hs (fun _ hs=>lP 0 0 (qc 0) hs (fun _ hs=>af (ab hs [.v 12 (pB b1),.o 13 (iV s.op) 6 0 1] (bd (aD ?_)))))))))))))))));cases zf:((s.op:Int) == (3:Int))
 ·
  have zG:=aj zf;refine lB 15 zf (lL hs [.m 14 15] (am (aD ?_)));cases zg:((s.op:Int) == (4:Int))
  ·
   have zH:=aj zg;refine lB 19 zg (lL hs [.m 18 19] (am (aD ?_)));cases zi:((s.op:Int) == (5:Int))
   ·
    have zI:=aj zi;refine lB 24 zi (lL hs [.m 23 24] (am (aD ?_)));cases zj:((s.op:Int) == (6:Int))
    ·
     have zJ:=aj zj;refine lB 28 zj (lL hs [.m 27 28] (am (aD ?_)));cases zk:((s.op:Int) == (7:Int))
     ·
      have zK:=aj zk;refine lB 43 zk (lL hs [.m 42 43] (am (aD ?_)));cases zl:((s.op:Int) == (8:Int))
      ·
       have zL:=aj zl;refine lB 48 zl (lL hs [.m 47 48] (am (aD ?_)));cases zm:((s.op:Int) == (9:Int))
       ·
        have zM:=aj zm;refine lB 69 zm (lL hs [.m 68 69] (am (aD ?_)));cases zn:((s.op:Int) == (10:Int))
        ·
         have zN:=aj zn;refine lB 75 zn (lL hs [.m 74 75] (am (aD ?_)));cases zo:((s.op:Int) == (11:Int))
         ·
          have zP:=aj zo;refine lB 82 zo (lL hs [.m 81 82] (am (cQ (aD ?_))));cases zp:((s.op:Int) == (12:Int))
          ·
           have zQ:=aj zp;refine lB 97 zp (lL hs [.m 96 97] (am (kQ ?_)));cases zq:((s.op:Int) == (13:Int))
           ·
            have zR:=aj zq;refine lB 98 zq (lL hs [.m 96 98] (am (cK (cQ ?_))));have hsr:=hs;refine jL 2 [] [za,zb] mixed hs aq (eO 0 111 [(0,0,5)] (qv 0) hs (iK 1 112 [(0,0,5)] (qv 0) hsr hs ?_ (hM:=fun p hp=>by obtain rfl:=List.mem_singleton.1 hp;exact fun hm=>by rcases List.mem_cons.1 hm with e|hm;exact bh hs.st (i:=0) (j:=3) kR kR kR e;rcases List.mem_cons.1 hm with e|hm;exact bh hs.st (i:=0) (j:=2) kR kR kR e;cases hm)));refine bF hs (fun _ _ hs=>tP 2 3 0 (qc 0) hs (fun _ hs=>?_) (hz:=az (List.mem_cons_self)));refine tP 3 2 0 (qc 0) hs (fun _ hs=>?_) (hz:=az (List.mem_cons_of_mem _<|List.mem_cons_self));exact tN (kX (hs.ret [(3,0,5),(2,0,5)] (.tuple #[qv 0,qv 0]) (by rw[show s.op=1 by omega];rfl)))
           have zR:=eq_of_beq zq;refine lB 98 zq (lL hs [.m 96 98] (ar (cQ (cQ (cR 8 [] mixed hs aq ?_)))));refine eO 0 99 [(5,0,5)] (qv a) hs (eO 1 100 [(4,0,5)] (qv b) hs (eV 4 103 (pB b1) (eO 5 104 [(6,0,1)] (iV s.op) hs ?_)));have zA:((s.op:Int) == (12:Int))=false:=fC oM;have phb41:=aj zA;refine eB 6 105 zA (ak 2 101 hs (fun _ _ hs=>lM a b (LQ.mono ha oM) (LQ.mono hb oM) _ _ hs.g) (fun _ _ hs=>?_));cases zr:(decide ((0:Int)<(cW a b:Int)))
           ·
            have zS:=oF zr;refine eB 3 102 zr (eV 7 106 qT (bF hs (fun _ _ hs=>tN (bD [(6,pB za),(7,pB zb),(8,pB zu),(9,pB ze),(106,qT)] ?_))));refine cI (cQ ?_);have hsr:=hs;refine jL 2 [] [za,zb] mixed hs aq (eO 0 107 [(1,0,5)] (qv ((1:Int):Rat)) hs (iK 1 108 [(0,0,5)] (qv 0) hsr hs ?_ (hM:=fun p hp=>by obtain rfl:=List.mem_singleton.1 hp;exact fun hm=>by rcases List.mem_cons.1 hm with e|hm;exact bh hs.st (i:=0) (j:=3) kR kR kR e;rcases List.mem_cons.1 hm with e|hm;exact bh hs.st (i:=0) (j:=2) kR kR kR e;cases hm)));refine bF hs (fun _ _ hs=>tP 2 3 0 (qc ((1:Int):Rat)) hs (fun _ hs=>?_) (hz:=az (List.mem_cons_self)));refine tP 3 2 0 (qc 0) hs (fun _ hs=>?_) (hz:=az (List.mem_cons_of_mem _<|List.mem_cons_self));exact tN (kX (hs.ret [(3,0,5),(2,0,5)] (.tuple #[qv ((1:Int):Rat),qv 0]) (vG oM oM)))
           have zS:=oT zr;refine eB 3 102 zr (eV 7 106 qF (bF hs (fun _ _ hs=>tN (bD [(6,pB za),(7,pB zb),(8,pB zu),(9,pB ze),(106,qF)] ?_))));refine dK (cK (cQ ?_));have hsr:=hs;refine jL 2 [] [za,zb] mixed hs aq (eO 0 109 [(0,0,5)] (qv 0) hs (iK 1 110 [(1,0,5)] (qv ((1:Int):Rat)) hsr hs ?_ (hM:=fun p hp=>by obtain rfl:=List.mem_singleton.1 hp;exact fun hm=>by rcases List.mem_cons.1 hm with e|hm;exact bh hs.st (i:=1) (j:=3) kR kR kR e;rcases List.mem_cons.1 hm with e|hm;exact bh hs.st (i:=1) (j:=2) kR kR kR e;cases hm)));refine bF hs (fun _ _ hs=>tP 2 3 0 (qc 0) hs (fun _ hs=>?_) (hz:=az (List.mem_cons_self)));refine tP 3 2 0 (qc ((1:Int):Rat)) hs (fun _ hs=>?_) (hz:=az (List.mem_cons_of_mem _<|List.mem_cons_self));exact tN (kX (hs.ret [(3,0,5),(2,0,5)] (.tuple #[qv 0,qv ((1:Int):Rat)]) (xQ oM oM)))
          have zQ:=eq_of_beq zp;refine lB 97 zp (lL hs [.m 96 97] (ar (cK (cI (cQ (cQ (cR 8 [] mixed hs aq ?_)))))));refine eO 0 99 [(5,0,5)] (qv a) hs (eO 1 100 [(4,0,5)] (qv b) hs (eV 4 103 (pB b1) (eO 5 104 [(6,0,1)] (iV s.op) hs ?_)));have zB:((s.op:Int) == (12:Int))=true:=tL oM;have phb57:=eq_of_beq zB;refine eB 6 105 zB (ak 2 101 hs (fun _ _ hs=>lM a b (LQ.mono ha oM) (LQ.mono hb oM) _ _ hs.g) (fun _ _ hs=>?_));cases zs:(decide ((0:Int)<(cW a b:Int)))
          ·
           have zT:=oF zs;refine eB 3 102 zs (eV 7 106 qF (bF hs (fun _ _ hs=>tN (bD [(6,pB za),(7,pB zb),(8,pB zu),(9,pB ze),(106,qF)] ?_))));refine dK (cK (cQ ?_));have hsr:=hs;refine jL 2 [] [za,zb] mixed hs aq (eO 0 109 [(0,0,5)] (qv 0) hs (iK 1 110 [(1,0,5)] (qv ((1:Int):Rat)) hsr hs ?_ (hM:=fun p hp=>by obtain rfl:=List.mem_singleton.1 hp;exact fun hm=>by rcases List.mem_cons.1 hm with e|hm;exact bh hs.st (i:=1) (j:=3) kR kR kR e;rcases List.mem_cons.1 hm with e|hm;exact bh hs.st (i:=1) (j:=2) kR kR kR e;cases hm)));refine bF hs (fun _ _ hs=>tP 2 3 0 (qc 0) hs (fun _ hs=>?_) (hz:=az (List.mem_cons_self)));refine tP 3 2 0 (qc ((1:Int):Rat)) hs (fun _ hs=>?_) (hz:=az (List.mem_cons_of_mem _<|List.mem_cons_self));exact tN (kX (hs.ret [(3,0,5),(2,0,5)] (.tuple #[qv 0,qv ((1:Int):Rat)]) (xQ oM oM)))
          have zT:=oT zs;refine eB 3 102 zs (eV 7 106 qT (bF hs (fun _ _ hs=>tN (bD [(6,pB za),(7,pB zb),(8,pB zu),(9,pB ze),(106,qT)] ?_))));refine cI (cQ ?_);have hsr:=hs;refine jL 2 [] [za,zb] mixed hs aq (eO 0 107 [(1,0,5)] (qv ((1:Int):Rat)) hs (iK 1 108 [(0,0,5)] (qv 0) hsr hs ?_ (hM:=fun p hp=>by obtain rfl:=List.mem_singleton.1 hp;exact fun hm=>by rcases List.mem_cons.1 hm with e|hm;exact bh hs.st (i:=0) (j:=3) kR kR kR e;rcases List.mem_cons.1 hm with e|hm;exact bh hs.st (i:=0) (j:=2) kR kR kR e;cases hm)));refine bF hs (fun _ _ hs=>tP 2 3 0 (qc ((1:Int):Rat)) hs (fun _ hs=>?_) (hz:=az (List.mem_cons_self)));refine tP 3 2 0 (qc 0) hs (fun _ hs=>?_) (hz:=az (List.mem_cons_of_mem _<|List.mem_cons_self));exact tN (kX (hs.ret [(3,0,5),(2,0,5)] (.tuple #[qv ((1:Int):Rat),qv 0]) (vG oM oM)))
         have zP:=eq_of_beq zo;refine lB 82 zo (lL hs [.m 81 82] (ar (cQ (cR 9 [] mixed hs aq ?_))));refine eO 0 84 [(1,0,5)] (qv ((1:Int):Rat)) hs (eO 1 85 [(1,0,5)] (qv ((1:Int):Rat)) hs (eO 2 86 [(5,0,5)] (qv a) hs ?_));have zD:LQ (K) (bp a):=LQ.abs ha;refine ak 3 87 hs (fun _ _ hs=>DL a (LQ.mono ha oM) _ _ hs.g) (fun _ _ hs=>?_);have zE:=LQ.add (LQ.lit (z:=1) kD) zD;refine ak 4 88 hs (fun _ _ hs=>ki ((1:Int):Rat) (bp a) (LQ.mono (LQ.lit (z:=1) kD) oM) (LQ.mono zD oM) _ _ hs.g hs.f.1) (fun _ _ hs=>?_);have zt:=LQ.div (LQ.lit (z:=1) kD) zE;refine ak 5 89 hs (fun _ _ hs=>k8 ((1:Int):Rat) (((1:Int):Rat)+(bp a)) (LQ.mono (LQ.lit (z:=1) kD) oM) (LQ.mono zE oM) (lv a) _ _ hs.g hs.f.1) (fun _ _ hs=>eV 6 83 (.tuple #[qv (((1:Int):Rat)/(((1:Int):Rat)+(bp a))),qT]) (eV 7 90 (qv (((1:Int):Rat)/(((1:Int):Rat)+(bp a)))) (eV 8 91 qT (bF hs (fun _ _ hs=>tP 9 3 0 (qc (((1:Int):Rat)/(((1:Int):Rat)+(bp a)))) hs (fun _ hs=>tN (bD [(6,pB za),(7,pB zb),(9,pB ze)] ?_)))))));refine cQ ?_;have hsr:=hs;refine jL 4 [] [za,zb] mixed hs aq (eO 0 92 [(3,0,5)] (qv (((1:Int):Rat)/(((1:Int):Rat)+(bp a)))) hs (eO 1 93 [(3,0,5)] (qv (((1:Int):Rat)/(((1:Int):Rat)+(bp a)))) hs (iK 3 95 [(0,0,5)] (qv 0) hsr hs ?_ (hM:=fun p hp=>by obtain rfl:=List.mem_singleton.1 hp;exact fun hm=>by rcases List.mem_cons.1 hm with e|hm;exact bh hs.st (i:=0) (j:=3) kR kR kR e;rcases List.mem_cons.1 hm with e|hm;exact bh hs.st (i:=0) (j:=2) kR kR kR e;cases hm))));have hq85:=LQ.mul zt zt;refine ak 2 94 hs (fun _ _ hs=>ji (((1:Int):Rat)/(((1:Int):Rat)+(bp a))) (((1:Int):Rat)/(((1:Int):Rat)+(bp a))) (LQ.mono zt oM) (LQ.mono zt oM) _ _ hs.g hs.f.1) (fun _ _ hs=>bF hs (fun _ _ hs=>tP 4 3 0 (qc ((((1:Int):Rat)/(((1:Int):Rat)+(bp a)))*(((1:Int):Rat)/(((1:Int):Rat)+(bp a))))) hs (fun _ hs=>?_) (hz:=az (List.mem_cons_self))));refine tP 5 2 0 (qc 0) hs (fun _ hs=>?_) (hz:=az (List.mem_cons_of_mem _<|List.mem_cons_self));exact tN (kX (hs.ret [(3,0,5),(2,0,5)] (.tuple #[qv ((((1:Int):Rat)/(((1:Int):Rat)+(bp a)))*(((1:Int):Rat)/(((1:Int):Rat)+(bp a)))),qv 0]) (by rw[show s.op=11 by omega];rfl)))
        have zN:=eq_of_beq zn;refine lB 75 zn (lL hs [.m 74 75] (ar (cQ ?_)));have hsr:=hs;refine jL 5 [] [za,zb] mixed hs aq (eO 0 76 [(5,0,5)] (qv a) hs (iK 4 80 [(0,0,5)] (qv 0) hsr hs ?_ (hM:=fun p hp=>by obtain rfl:=List.mem_singleton.1 hp;exact fun hm=>by rcases List.mem_cons.1 hm with e|hm;exact bh hs.st (i:=0) (j:=3) kR kR kR e;rcases List.mem_cons.1 hm with e|hm;exact bh hs.st (i:=0) (j:=2) kR kR kR e;cases hm)));refine ak 1 77 hs (fun _ _ hs=>eL a (LQ.mono ha oM) _ _ hs.g) (fun _ _ hs=>eV 2 78 (iV (max (a.num.sign:Int) (0:Int))) ?_ (hv:=fun _=>aW (n:=(if (0:Int)>(a.num.sign:Int) then (0:Int) else (a.num.sign:Int))) kR (by simp only[mO])));have hq94:LQ (1) (((max (a.num.sign:Int) (0:Int):Int):Rat)):=LQ.int oM oM;refine ak 3 79 hs (fun _ _ hs=>pZ (max (a.num.sign:Int) (0:Int)) oM oM _ _ hs.g) (fun _ _ hs=>bF hs (fun _ _ hs=>tP 5 3 0 (qc ((max (a.num.sign:Int) (0:Int):Int):Rat)) hs (fun _ hs=>?_) (hz:=az (List.mem_cons_self))));refine tP 6 2 0 (qc 0) hs (fun _ hs=>?_) (hz:=az (List.mem_cons_of_mem _<|List.mem_cons_self));exact tN (kX (hs.ret [(3,0,5),(2,0,5)] (.tuple #[qv ((max (a.num.sign:Int) (0:Int):Int):Rat),qv 0]) (by rw[show s.op=10 by omega];rfl)))
       have zM:=eq_of_beq zm;refine lB 69 zm (lL hs [.m 68 69] (ar (cQ ?_)));have hsr:=hs;refine jL 4 [] [za,zb] mixed hs aq (eO 0 70 [(5,0,5)] (qv a) hs (iK 3 73 [(0,0,5)] (qv 0) hsr hs ?_ (hM:=fun p hp=>by obtain rfl:=List.mem_singleton.1 hp;exact fun hm=>by rcases List.mem_cons.1 hm with e|hm;exact bh hs.st (i:=0) (j:=3) kR kR kR e;rcases List.mem_cons.1 hm with e|hm;exact bh hs.st (i:=0) (j:=2) kR kR kR e;cases hm)));refine ak 1 71 hs (fun _ _ hs=>eL a (LQ.mono ha oM) _ _ hs.g) (fun _ _ hs=>?_);have hq103:LQ (1) (((a.num.sign:Int):Rat)):=LQ.int oM oM;refine ak 2 72 hs (fun _ _ hs=>pZ a.num.sign oM oM _ _ hs.g) (fun _ _ hs=>bF hs (fun _ _ hs=>tP 4 3 0 (qc ((a.num.sign:Int):Rat)) hs (fun _ hs=>?_) (hz:=az (List.mem_cons_self))));refine tP 5 2 0 (qc 0) hs (fun _ hs=>?_) (hz:=az (List.mem_cons_of_mem _<|List.mem_cons_self));exact tN (kX (hs.ret [(3,0,5),(2,0,5)] (.tuple #[qv ((a.num.sign:Int):Rat),qv 0]) (by rw[show s.op=9 by omega];rfl)))
      have zL:=eq_of_beq zl;refine lB 48 zl (lL hs [.m 47 48] (ar (cQ (ab hs [.v 49 (qP b1 3),.o 50 (iV s.n) 6 3 1] ?_))));cases zc:((s.n:Int) == (0:Int))
      ·
       have zF:=aj zc;refine lB 51 zc (am (cK (ab hs [.o 55 (qv a) 5 0 5,.v 56 (qP b1 3),.o 57 (iV s.n) 6 3 1] (lI 58 (s.n-1) ?_))));refine ah 59 hs (vh a (s.n-1) K hK ha (by have:=hn oM;omega) (fun h0=>hok oM oM) _ _ hs.g hs.f.1) (fun _ _ hs=>?_);have hpw:=BR (n:=s.n-1) hK1 ha (by have:=hn oM;omega);refine lL hs [.m 54 59,.v 60 (qv (dP a (s.n-1))),.v 61 qT] (lP 3 0 (qc (dP a (s.n-1))) hs (fun _ hs=>af ?_));have hsr:=hs;refine jL 6 [] [za,zb] mixed hs aq (eO 0 62 [(3,0,5)] (qv (dP a (s.n-1))) hs (eV 1 63 (qP b1 3) (eO 2 64 [(6,3,1)] (iV s.n) hs (iK 5 67 [(0,0,5)] (qv 0) hsr hs ?_ (hM:=fun p hp=>by obtain rfl:=List.mem_singleton.1 hp;exact fun hm=>by rcases List.mem_cons.1 hm with e|hm;exact bh hs.st (i:=0) (j:=3) kR kR kR e;rcases List.mem_cons.1 hm with e|hm;exact bh hs.st (i:=0) (j:=2) kR kR kR e;cases hm)))));have zv:LQ (1) (((s.n:Int):Rat)):=LQ.int oM oM;refine ak 3 65 hs (fun _ _ hs=>pZ s.n oM oM _ _ hs.g) (fun _ _ hs=>?_);have hq117:=LQ.mul hpw zv;refine ak 4 66 hs (fun _ _ hs=>ji (dP a (s.n-1)) ((s.n:Int):Rat) (LQ.mono hpw oM) (LQ.mono zv oM) _ _ hs.g hs.f.1) (fun _ _ hs=>bF hs (fun _ _ hs=>tP 6 3 0 (qc ((dP a (s.n-1))*((s.n:Int):Rat))) hs (fun _ hs=>?_) (hz:=az (List.mem_cons_self))));refine tP 7 2 0 (qc 0) hs (fun _ hs=>?_) (hz:=az (List.mem_cons_of_mem _<|List.mem_cons_self));refine tN (bD [(6,pB za),(7,pB zb),(9,pB ze)] ?_);exact kX (hs.ret [(3,0,5),(2,0,5)] (.tuple #[qv ((dP a (s.n-1))*((s.n:Int):Rat)),qv 0]) (by rw[show s.op=8 by omega];unfold nO oL;rw[if_neg kD,if_neg kD,if_neg kD,if_neg kD,if_neg kD,if_pos rfl,if_neg (show ¬s.n=0 by omega)];rfl))
      have zF:=eq_of_beq zc;refine lB 51 zc (ar (cQ ?_));have hsr:=hs;refine jL 2 [] [za,zb] mixed hs aq (eO 0 52 [(0,0,5)] (qv 0) hs (iK 1 53 [(0,0,5)] (qv 0) hsr hs ?_ (hM:=fun p hp=>by obtain rfl:=List.mem_singleton.1 hp;exact fun hm=>by rcases List.mem_cons.1 hm with e|hm;exact bh hs.st (i:=0) (j:=3) kR kR kR e;rcases List.mem_cons.1 hm with e|hm;exact bh hs.st (i:=0) (j:=2) kR kR kR e;cases hm)));refine bF hs (fun _ _ hs=>tP 2 3 0 (qc 0) hs (fun _ hs=>?_) (hz:=az (List.mem_cons_self)));refine tP 3 2 0 (qc 0) hs (fun _ hs=>?_) (hz:=az (List.mem_cons_of_mem _<|List.mem_cons_self));exact tN (kX (hs.ret [(3,0,5),(2,0,5)] (.tuple #[qv 0,qv 0]) (by rw[show s.op=8 by omega,show s.n=0 by omega];rfl)))
     have zK:=eq_of_beq zk;refine lB 43 zk (lL hs [.m 42 43] (ar (cQ ?_)));have hsr:=hs;refine jL 3 [] [za,zb] mixed hs aq (eO 0 44 [(1,0,5)] (qv ((1:Int):Rat)) hs (iK 2 46 [(0,0,5)] (qv 0) hsr hs ?_ (hM:=fun p hp=>by obtain rfl:=List.mem_singleton.1 hp;exact fun hm=>by rcases List.mem_cons.1 hm with e|hm;exact bh hs.st (i:=0) (j:=3) kR kR kR e;rcases List.mem_cons.1 hm with e|hm;exact bh hs.st (i:=0) (j:=2) kR kR kR e;cases hm)));have hq128:LQ (1) (-((1:Int):Rat)):=LQ.neg (LQ.lit (z:=1) kD);refine ak 1 45 hs (fun _ _ hs=>wE ((1:Int):Rat) (LQ.mono (LQ.lit (z:=1) kD) oM) _ _ hs.g) (fun _ _ hs=>bF hs (fun _ _ hs=>tP 3 3 0 (qc (-((1:Int):Rat))) hs (fun _ hs=>?_) (hz:=az (List.mem_cons_self))));refine tP 4 2 0 (qc 0) hs (fun _ hs=>?_) (hz:=az (List.mem_cons_of_mem _<|List.mem_cons_self));exact tN (kX (hs.ret [(3,0,5),(2,0,5)] (.tuple #[qv (-((1:Int):Rat)),qv 0]) (by rw[show s.op=7 by omega];rfl)))
    have zJ:=eq_of_beq zj;refine lB 28 zj (lL hs [.m 27 28] (ar (ab hs [.o 30 (qv ((1:Int):Rat)) 1 0 5,.o 31 (qv b) 4 0 5] ?_)));have zd:=LQ.div (LQ.lit (z:=1) kD) hb;refine ah 32 hs (k8 ((1:Int):Rat) b (LQ.mono (LQ.lit (z:=1) kD) oM) (LQ.mono hb oM) (qm (hok6 oM)) _ _ hs.g hs.f.1) (fun _ _ hs=>lL hs [.m 29 32,.v 33 (qv (((1:Int):Rat)/b)),.v 34 qT] (lP 3 0 (qc (((1:Int):Rat)/b)) hs (fun _ hs=>af ?_)));have hsr:=hs;refine jL 7 [] [za,zb] mixed hs aq (eO 0 35 [(3,0,5)] (qv (((1:Int):Rat)/b)) hs (iK 1 36 [(5,0,5)] (qv a) hsr hs ?_ (hM:=fun p hp=>by obtain rfl:=List.mem_singleton.1 hp;exact fun hm=>by rcases List.mem_cons.1 hm with e|hm;exact bh hs.st (i:=5) (j:=3) kR kR kR e;rcases List.mem_cons.1 hm with e|hm;exact bh hs.st (i:=5) (j:=2) kR kR kR e;cases hm)));refine eO 2 37 [(3,0,5)] (qv (((1:Int):Rat)/b)) hs (eO 4 39 [(3,0,5)] (qv (((1:Int):Rat)/b)) hs ?_);have zw:=LQ.mul ha zd;refine ak 3 38 hs (fun _ _ hs=>ji a (((1:Int):Rat)/b) (LQ.mono ha oM) (LQ.mono zd oM) _ _ hs.g hs.f.1) (fun _ _ hs=>?_);have zx:=LQ.mul zw zd;refine ak 5 40 hs (fun _ _ hs=>ji (a*(((1:Int):Rat)/b)) (((1:Int):Rat)/b) (LQ.mono zw oM) (LQ.mono zd oM) _ _ hs.g hs.f.1) (fun _ _ hs=>?_);have hq145:LQ ((K+(1+K))+(1+K)) (-((a*(((1:Int):Rat)/b))*(((1:Int):Rat)/b))):=LQ.neg zx;refine ak 6 41 hs (fun _ _ hs=>wE ((a*(((1:Int):Rat)/b))*(((1:Int):Rat)/b)) (LQ.mono zx oM) _ _ hs.g) (fun _ _ hs=>bF hs (fun _ _ hs=>tP 7 3 0 (qc (((1:Int):Rat)/b)) hs (fun _ hs=>?_) (hz:=az (List.mem_cons_self))));refine tP 8 2 0 (qc (-((a*(((1:Int):Rat)/b))*(((1:Int):Rat)/b)))) hs (fun _ hs=>?_) (hz:=az (List.mem_cons_of_mem _<|List.mem_cons_self));exact tN (kX (hs.ret [(3,0,5),(2,0,5)] (.tuple #[qv (((1:Int):Rat)/b),qv (-((a*(((1:Int):Rat)/b))*(((1:Int):Rat)/b)))]) (by rw[show s.op=6 by omega];rfl)))
   have zI:=eq_of_beq zi;refine lB 24 zi (lL hs [.m 23 24] (ar (cQ ?_)));have hsr:=hs;refine jL 2 [] [za,zb] mixed hs aq (eO 0 25 [(4,0,5)] (qv b) hs (iK 1 26 [(5,0,5)] (qv a) hsr hs ?_ (hM:=fun p hp=>by obtain rfl:=List.mem_singleton.1 hp;exact fun hm=>by rcases List.mem_cons.1 hm with e|hm;exact bh hs.st (i:=5) (j:=3) kR kR kR e;rcases List.mem_cons.1 hm with e|hm;exact bh hs.st (i:=5) (j:=2) kR kR kR e;cases hm)));refine bF hs (fun _ _ hs=>tP 2 3 0 (qc b) hs (fun _ hs=>?_) (hz:=az (List.mem_cons_self)));refine tP 3 2 0 (qc a) hs (fun _ hs=>?_) (hz:=az (List.mem_cons_of_mem _<|List.mem_cons_self));exact tN (kX (hs.ret [(3,0,5),(2,0,5)] (.tuple #[qv b,qv a]) (by rw[show s.op=5 by omega];rfl)))
  have zH:=eq_of_beq zg;refine lB 19 zg (lL hs [.m 18 19] (ar (cQ ?_)));have hsr:=hs;refine jL 3 [] [za,zb] mixed hs aq (eO 0 20 [(1,0,5)] (qv ((1:Int):Rat)) hs (iK 1 21 [(1,0,5)] (qv ((1:Int):Rat)) hsr hs ?_ (hM:=fun p hp=>by obtain rfl:=List.mem_singleton.1 hp;exact fun hm=>by rcases List.mem_cons.1 hm with e|hm;exact bh hs.st (i:=1) (j:=3) kR kR kR e;rcases List.mem_cons.1 hm with e|hm;exact bh hs.st (i:=1) (j:=2) kR kR kR e;cases hm)));have hq156:LQ (1) (-((1:Int):Rat)):=LQ.neg (LQ.lit (z:=1) kD);refine ak 2 22 hs (fun _ _ hs=>wE ((1:Int):Rat) (LQ.mono (LQ.lit (z:=1) kD) oM) _ _ hs.g) (fun _ _ hs=>bF hs (fun _ _ hs=>tP 3 3 0 (qc ((1:Int):Rat)) hs (fun _ hs=>?_) (hz:=az (List.mem_cons_self))));refine tP 4 2 0 (qc (-((1:Int):Rat))) hs (fun _ hs=>?_) (hz:=az (List.mem_cons_of_mem _<|List.mem_cons_self));exact tN (kX (hs.ret [(3,0,5),(2,0,5)] (.tuple #[qv ((1:Int):Rat),qv (-((1:Int):Rat))]) (by rw[show s.op=4 by omega];rfl)))
 have zG:=eq_of_beq zf;refine lB 15 zf (lL hs [.m 14 15] (ar (cQ ?_)));have hsr:=hs;refine jL 2 [] [za,zb] mixed hs aq (eO 0 16 [(1,0,5)] (qv ((1:Int):Rat)) hs (iK 1 17 [(1,0,5)] (qv ((1:Int):Rat)) hsr hs ?_ (hM:=fun p hp=>by obtain rfl:=List.mem_singleton.1 hp;exact fun hm=>by rcases List.mem_cons.1 hm with e|hm;exact bh hs.st (i:=1) (j:=3) kR kR kR e;rcases List.mem_cons.1 hm with e|hm;exact bh hs.st (i:=1) (j:=2) kR kR kR e;cases hm)));refine bF hs (fun _ _ hs=>tP 2 3 0 (qc ((1:Int):Rat)) hs (fun _ hs=>?_) (hz:=az (List.mem_cons_self)));refine tP 3 2 0 (qc ((1:Int):Rat)) hs (fun _ hs=>?_) (hz:=az (List.mem_cons_of_mem _<|List.mem_cons_self));exact tN (kX (hs.ret [(3,0,5),(2,0,5)] (.tuple #[qv ((1:Int):Rat),qv ((1:Int):Rat)]) (by rw[show s.op=3 by omega];rfl)))
theorem xg (s:Stp)(a b:Rat)(K:Nat)(hK:14*K+20≤100000000)(ha:LQ K a)(hb:LQ K b)(hq:LQ 1 s.q)(hK1:1≤K)(hop:1≤s.op∧s.op≤13∧s.op≠2)(hn:s.op=8 → -12≤s.n∧s.n≤12)(hok6:s.op=6→b≠0)(hok:s.op=8→s.n<0→a≠0)(w:World)(h:Hp)(g:G w h)(tb:Tab h):CR 90 #[Ja s,qv a,qv b] w h (fun v _=>∃ da db,v=.tuple #[qv da,qv db]∧da=nO s.op s.n a b∧db=oL s.op a b):=by
 refine (AQ s a b K hK ha hb hq hK1 hop hn hok6 hok w h g tb).mono ?_;rintro _ w' ⟨_,h',rfl,u,rfl⟩;exact ⟨_,h',rfl,u,_,_,rfl,rfl,rfl⟩
theorem kz (op:Int)(w:World)(h:Hp)(g:G w h):CV 91 #[iV op] w h (iV (dD op)):=by
 have hs:=sS g;refine go Tryz.func91 [(0,iV op)] rfl (ab hs [.v 2 (iV 0)] (af (ab hs [.m 3 0] (bd (cQ (aD ?_))))));cases hb1:((op:Int) == (1:Int))
 ·
  have phb1:=aj hb1;refine lB 5 hb1 (lL hs [.m 4 5] (am (kQ ?_)));cases hb2:((op:Int) == (2:Int))
  ·
   have phb2:=aj hb2;refine lB 6 hb2 (lL hs [.m 4 6] (am (cQ (aD ?_))));cases hb3:((op:Int) == (7:Int))
   ·
    have phb3:=aj hb3;refine lB 8 hb3 (lL hs [.m 7 8] (am (aD ?_)));cases hb4:((op:Int) == (8:Int))
    ·
     have phb4:=aj hb4;refine lB 9 hb4 (lL hs [.m 7 9] (am (aD ?_)));cases hb5:((op:Int) == (9:Int))
     ·
      have phb5:=aj hb5;refine lB 10 hb5 (lL hs [.m 7 10] (am (aD ?_)));cases hb6:((op:Int) == (10:Int))
      ·
       have phb6:=aj hb6;refine lB 11 hb6 (lL hs [.m 7 11] (am (kQ ?_)));cases hb7:((op:Int) == (11:Int))
       ·
        have phb7:=aj hb7;refine lB 12 hb7 (lL hs [.m 7 12] (am (cQ (aD ?_))));cases hb8:((op:Int) == (3:Int))
        ·
         have phb8:=aj hb8;refine lB 14 hb8 (lL hs [.m 13 14] (am (aD ?_)));cases hb9:((op:Int) == (4:Int))
         ·
          have phb9:=aj hb9;refine lB 15 hb9 (lL hs [.m 13 15] (am (aD ?_)));cases za:((op:Int) == (5:Int))
          ·
           have ze:=aj za;refine lB 16 za (lL hs [.m 13 16] (am (aD ?_)));cases zb:((op:Int) == (6:Int))
           ·
            have zf:=aj zb;refine lB 17 zb (lL hs [.m 13 17] (am (aD ?_)));cases zc:((op:Int) == (12:Int))
            ·
             have zg:=aj zc;refine lB 18 zc (lL hs [.m 13 18] (am (kQ ?_)));cases zd:((op:Int) == (13:Int))
             ·
              have zi:=aj zd;exact lB 19 zd (lL hs [.m 13 19] (am (cK (ab hs [.v 2 (iV (-1))] (ae hs [] (iV (-1)) (congrArg (Value.int .i64) (by have:=aG op;omega)))))))
             have zi:=eq_of_beq zd;exact lB 19 zd (lL hs [.m 13 19] (ar (ab hs [.v 2 (iV 2)] (ae hs [] (iV 2) (congrArg (Value.int .i64) (by have:=aG op;omega))))))
            have zg:=eq_of_beq zc;exact lB 18 zc (lL hs [.m 13 18] (ar (cK (cI (ab hs [.v 2 (iV 2)] (ae hs [] (iV 2) (congrArg (Value.int .i64) (by have:=aG op;omega))))))))
           have zf:=eq_of_beq zb;exact lB 17 zb (lL hs [.m 13 17] (ar (cK (cI (ab hs [.v 2 (iV 2)] (ae hs [] (iV 2) (congrArg (Value.int .i64) (by have:=aG op;omega))))))))
          have ze:=eq_of_beq za;exact lB 16 za (lL hs [.m 13 16] (ar (cK (cI (ab hs [.v 2 (iV 2)] (ae hs [] (iV 2) (congrArg (Value.int .i64) (by have:=aG op;omega))))))))
         have phb9:=eq_of_beq hb9;exact lB 15 hb9 (lL hs [.m 13 15] (ar (cK (cI (ab hs [.v 2 (iV 2)] (ae hs [] (iV 2) (congrArg (Value.int .i64) (by have:=aG op;omega))))))))
        have phb8:=eq_of_beq hb8;exact lB 14 hb8 (lL hs [.m 13 14] (ar (cK (cI (ab hs [.v 2 (iV 2)] (ae hs [] (iV 2) (congrArg (Value.int .i64) (by have:=aG op;omega))))))))
       have phb7:=eq_of_beq hb7;exact lB 12 hb7 (lL hs [.m 7 12] (ar (ab hs [.v 2 (iV 1)] (ae hs [] (iV 1) (congrArg (Value.int .i64) (by have:=aG op;omega))))))
      have phb6:=eq_of_beq hb6;exact lB 11 hb6 (lL hs [.m 7 11] (ar (cK (cI (ab hs [.v 2 (iV 1)] (ae hs [] (iV 1) (congrArg (Value.int .i64) (by have:=aG op;omega))))))))
     have phb5:=eq_of_beq hb5;exact lB 10 hb5 (lL hs [.m 7 10] (ar (cK (cI (ab hs [.v 2 (iV 1)] (ae hs [] (iV 1) (congrArg (Value.int .i64) (by have:=aG op;omega))))))))
    have phb4:=eq_of_beq hb4;exact lB 9 hb4 (lL hs [.m 7 9] (ar (cK (cI (ab hs [.v 2 (iV 1)] (ae hs [] (iV 1) (congrArg (Value.int .i64) (by have:=aG op;omega))))))))
   have phb3:=eq_of_beq hb3;exact lB 8 hb3 (lL hs [.m 7 8] (ar (cK (cI (ab hs [.v 2 (iV 1)] (ae hs [] (iV 1) (congrArg (Value.int .i64) (by have:=aG op;omega))))))))
  have phb2:=eq_of_beq hb2;exact lB 6 hb2 (lL hs [.m 4 6] (ar (ab hs [.v 2 (iV 0)] (ae hs [] (iV 0) (congrArg (Value.int .i64) (by have:=aG op;omega))))))
 have phb1:=eq_of_beq hb1;exact lB 5 hb1 (lL hs [.m 4 5] (ar (cK (cI (ab hs [.v 2 (iV 0)] (ae hs [] (iV 0) (congrArg (Value.int .i64) (by have:=aG op;omega))))))))
theorem jK (tt:Int)(i rb:Nat)(w:World)(h:Hp)(g:G w h)(ho:Own w rb 3 [nV i])(hj:h[rb]?=some bI):Calls Tryz.prog 133 #[iV tt,.bool true,pB rb] w (jG rb w h fun v w' _=>v=.bool (decide (0≤(tt:Int)∧(tt:Int)<(i:Nat)))∧Own w' rb 3 [nV i]):=by
 have hmo:UpM [rb] w h w h:=UpM.refl g;obtain ⟨wz,hz,hs⟩:=SS.at_ g ho hj;refine go Tryz.func133 [(0,iV tt),(1,qT),(2,pB rb)] rfl (ab hs [.v 5 qF] (af (ab hs [.m 6 1] (ar (ab hs [.m 7 0] ?_)))));cases hb1:(decide ((0:Int)≤(tt:Int)))
 ·
  have phb1:=oF hb1;refine lB 8 hb1 (lL hs [.m 9 8] (lG 10 ?_));exact lG 11 (lG 12 (lL hs [.v 13 qF,.m 5 13] (lN (kX (hs.retM hmo [] qF ⟨congrArg Value.bool (decide_eq_false oM).symm,hs.own 0⟩)))))
 have phb1:=oT hb1;refine lB 8 hb1 (lL hs [.m 9 8,.m 10 0,.o 11 (nV i) 0 0 1] ?_);cases hb2:(decide ((tt:Int)<(i:Int)))
 ·
  have phb2:=oF hb2;exact lB 12 hb2 (lL hs [.v 13 qF,.m 5 13] (lN (kX (hs.retM hmo [] qF ⟨congrArg Value.bool (decide_eq_false oM).symm,hs.own 0⟩))))
 have phb2:=oT hb2;exact lB 12 hb2 (lL hs [.v 13 qT,.m 5 13] (lN (kX (hs.retM hmo [] qT ⟨congrArg Value.bool (decide_eq_true oM).symm,hs.own 0⟩))))
theorem gp (tt:Int)(i rb:Nat)(w:World)(h:Hp)(g:G w h)(ho:Own w rb 3 [nV i])(hj:h[rb]?=some bI):Calls Tryz.prog 133 #[iV tt,.bool false,pB rb] w (jG rb w h fun v w' _=>v=.bool (decide ((tt:Int)=0))∧Own w' rb 3 [nV i]):=by
 have hmo:UpM [rb] w h w h:=UpM.refl g;obtain ⟨wz,hz,hs⟩:=SS.at_ g ho hj;refine go Tryz.func133 [(0,iV tt),(1,qF),(2,pB rb)] rfl (ab hs [.v 5 qF] (af (ab hs [.m 6 1] (am (cK (ab hs [.m 14 0] ?_))))));cases hb1:((tt:Int) == (0:Int))
 ·
  have phb1:=aj hb1;exact lB 15 hb1 (lL hs [.m 5 15] (lN (kX (hs.retM hmo [] qF ⟨congrArg Value.bool (decide_eq_false oM).symm,hs.own 0⟩))))
 have phb1:=eq_of_beq hb1;exact lB 15 hb1 (lL hs [.m 5 15] (lN (kX (hs.retM hmo [] qT ⟨congrArg Value.bool (decide_eq_true oM).symm,hs.own 0⟩))))
theorem CI (inp:Int)(A:Option Addr)(c:Nat)(l:List Stp)(O:Option Addr)(d:Nat)(os:List Int)(i:Nat)(hik:i<l.length)(hl:l.length≤65536)(hq:LQ 1 (l.getD i ac).q)(w:World)(h:Hp)(g:G w h)(hA:SlO 9 fW ac h A l)(hO:Si O os h):CV 80 #[.agg #[iV inp,.slice A ((l).length) c,.slice O ((os).length) d],nV i] w h (.bool (decide (Formed inp i (l.getD i ac)))):=by
 have hs:=(((sS g).aS hA).aS hO);have hsg:(l.getD i ac).q.num.sign=0↔(l.getD i ac).q.num=0:=Int.sign_eq_zero_iff_zero;refine go Tryz.func80 [(0,.agg #[iV inp,qS A ((l).length) c,qS O ((os).length) d]),(1,nV i)] rfl (aD (lA 2 46 ([iV inp,qS A ((l).length) c,qS O ((os).length) d]) hs (fun b1 w2 h3 hs=>lA 3 3 ([nV i]) hs (fun b4 w5 h6 hs=>lL hs [.v 4 qF] (ay (lL hs [.v 8 (qP b1 1),.o 9 (qS A ((l).length) c) 1 1 1,.o 10 (nV i) 0 0 1] (lX 11 A ((l).length) c 9 (i:Nat) i ((hs.f.2.1).ok oM) ?_)))))));refine lH 12 (sX (l.getD i ac)) hs ((hs.f.2.1).el i oM) (lA 5 144 ([iV 0,iV 0,iV 0,iV 0,qF,uV 0,eS,uV 0,eS]) hs (fun b7 w8 h9 hs=>lP 0 0 (sC (l.getD i ac)) hs (fun _ hs=>ay (lL hs [.v 13 (pB b7),.o 14 (iV ((l.getD i ac).op)) 0 0 1] (ah 15 hs (kz (l.getD i ac).op _ _ hs.g) (fun _ _ hs=>?_))))));have hac:=aG (l.getD i ac).op;refine lL hs [.m 6 15] (af (ab hs [.m 16 6] ?_));cases za:(decide ((dD (l.getD i ac).op:Int)<(0:Int)))
 ·
  have zA:=oF za;refine lB 17 za ?_;refine am (cK (ab hs [.v 18 (.func (.func 133) #[] #[pB b4]),.m 7 18] (af (CG.join (fun Γ w_=>∃ (zs:Bool) (h_:Hp),Γ=[(2,pB b1),(4,qF),(5,pB b7),(45,.bool zs)]∧SS w h w_ h_ [⟨b7,144,sC (l.getD i ac)⟩,⟨b4,3,[nV i]⟩,⟨b1,46,[iV inp,qS A ((l).length) c,qS O ((os).length) d]⟩] [] [Si O os,fun h_=>SlO 9 fW ac h_ A l]∧(zs=true→¬(((0<dD (l.getD i ac).op→0≤(l.getD i ac).a∧(l.getD i ac).a<i)∧(¬0<dD (l.getD i ac).op→(l.getD i ac).a=0))∧((1<dD (l.getD i ac).op→0≤(l.getD i ac).b∧(l.getD i ac).b<i)∧(¬1<dD (l.getD i ac).op→(l.getD i ac).b=0))∧((l.getD i ac).op≠1→(l.getD i ac).q.num=0)))∧(zs=false→(((0<dD (l.getD i ac).op→0≤(l.getD i ac).a∧(l.getD i ac).a<i)∧(¬0<dD (l.getD i ac).op→(l.getD i ac).a=0))∧((1<dD (l.getD i ac).op→0≤(l.getD i ac).b∧(l.getD i ac).b<i)∧(¬1<dD (l.getD i ac).op→(l.getD i ac).b=0))∧((l.getD i ac).op≠1→(l.getD i ac).q.num=0)))) ?_ ?_))))
  ·
   refine kQ (lL hs [.m 19 7,.v 20 (qP b7 1),.o 21 (iV ((l.getD i ac).a)) 0 1 1,.m 22 6] ?_);cases zb:(decide ((0:Int)<(dD (l.getD i ac).op:Int)))
   ·
    have zB:=oF zb;refine lB 23 zb (uN 24 (gp ((l.getD i ac).a) i b4 _ _ hs.g (hs.own 1) (hs.jk 1)) ?_);rintro _ _ yj u18 ⟨rfl,hO15⟩;replace hs:=(hs.stepM 1 u18 hO15).to [⟨b7,144,sC (l.getD i ac)⟩,⟨b4,3,[nV i]⟩,⟨b1,46,[iV inp,qS A ((l).length) c,qS O ((os).length) d]⟩] [];cases zt:(decide (((l.getD i ac).a:Int)=0))
    ·
     have zD:=oF zt;refine lL hs [.v 25 qT,.m 26 25] (lG 27 ?_);refine lG 28 (lG 29 (lG 30 (lG 31 (lG 32 (lG 33 (lL hs [.v 34 qT,.m 35 34] (lG 36 ?_)))))));refine lG 37 (lG 38 (lG 39 (lG 40 (lG 41 (lG 42 (lG 43 (lG 44 (lL hs [.v 45 qT] (lD ?_)))))))));intro a_ ka;exact ⟨_,⟨true,yj,rfl,hs.to _ _,(fun _=>by omega),(fun h_=>absurd h_ kD)⟩,ka.to _ kR⟩
    have zD:=oT zt;refine lL hs [.v 25 qF,.m 26 25,.m 27 7,.v 28 (qP b7 2),.o 29 (iV ((l.getD i ac).b)) 0 2 1,.m 30 6] ?_;have ⟨yg,phb22⟩:=dF (p:=(1:Int)<(dD (l.getD i ac).op:Int)) oM;refine lB 31 yg (uN 32 (gp ((l.getD i ac).b) i b4 _ _ hs.g (hs.own 1) (hs.jk 1)) ?_);rintro _ _ ya u26 ⟨rfl,hO23⟩;replace hs:=(hs.stepM 1 u26 hO23).to [⟨b7,144,sC (l.getD i ac)⟩,⟨b4,3,[nV i]⟩,⟨b1,46,[iV inp,qS A ((l).length) c,qS O ((os).length) d]⟩] [];cases zu:(decide (((l.getD i ac).b:Int)=0))
    ·
     have zE:=oF zu;refine lL hs [.v 33 qT,.v 34 qT,.m 35 34] (lG 36 ?_);refine lG 37 (lG 38 (lG 39 (lG 40 (lG 41 (lG 42 (lG 43 (lG 44 (lL hs [.v 45 qT] (lD ?_)))))))));intro a_ ka;exact ⟨_,⟨true,ya,rfl,hs.to _ _,(fun _=>by omega),(fun h_=>absurd h_ kD)⟩,ka.to _ kR⟩
    have zE:=oT zu;refine lL hs [.v 33 qF,.v 34 qF,.m 35 34,.v 36 (pB b7),.o 37 (iV ((l.getD i ac).op)) 0 0 1] ?_;cases zc:(((l.getD i ac).op:Int) != (1:Int))
    ·
     have zF:=aJ zc;refine lB 38 zc (lL hs [.m 39 38] (lG 40 ?_));refine lG 41 (lG 42 (lG 43 (lL hs [.v 44 qF,.v 45 qF] (lD ?_))));intro a_ ka;exact ⟨_,⟨false,ya,rfl,hs.to _ _,(fun h_=>absurd h_ kD),(fun _=>by omega)⟩,ka.to _ kR⟩
    have zF:=aU zc;refine lB 38 zc (lL hs [.m 39 38,.v 40 (qP b7 4),.o 41 (qv ((l.getD i ac).q)) 0 4 5] (ah 42 hs (eL (l.getD i ac).q (hq.mono oM) _ _ hs.g) (fun _ yb hs=>?_)));cases zd:(((l.getD i ac).q.num.sign:Int) != (0:Int))
    ·
     have zG:=aJ zd;refine lB 43 zd (lL hs [.v 44 qF,.v 45 qF] (lD ?_));intro a_ ka;exact ⟨_,⟨false,yb,rfl,hs.to _ _,(fun h_=>absurd h_ kD),(fun _=>by omega)⟩,ka.to _ kR⟩
    have zG:=aU zd;refine lB 43 zd (lL hs [.v 44 qT,.v 45 qT] (lD ?_));intro a_ ka;exact ⟨_,⟨true,yb,rfl,hs.to _ _,(fun _=>by omega),(fun h_=>absurd h_ kD)⟩,ka.to _ kR⟩
   have zB:=oT zb;refine lB 23 zb (uN 24 (jK ((l.getD i ac).a) i b4 _ _ hs.g (hs.own 1) (hs.jk 1)) ?_);rintro _ _ yk u43 ⟨rfl,hO40⟩;replace hs:=(hs.stepM 1 u43 hO40).to [⟨b7,144,sC (l.getD i ac)⟩,⟨b4,3,[nV i]⟩,⟨b1,46,[iV inp,qS A ((l).length) c,qS O ((os).length) d]⟩] [];cases zv:(decide (0≤((l.getD i ac).a:Int)∧((l.getD i ac).a:Int)<(i:Nat)))
   ·
    have zH:=oF zv;refine lL hs [.v 25 qT,.m 26 25] (lG 27 ?_);refine lG 28 (lG 29 (lG 30 (lG 31 (lG 32 (lG 33 (lL hs [.v 34 qT,.m 35 34] (lG 36 ?_)))))));refine lG 37 (lG 38 (lG 39 (lG 40 (lG 41 (lG 42 (lG 43 (lG 44 (lL hs [.v 45 qT] (lD ?_)))))))));intro a_ ka;exact ⟨_,⟨true,yk,rfl,hs.to _ _,(fun _=>by omega),(fun h_=>absurd h_ kD)⟩,ka.to _ kR⟩
   have zH:=oT zv;refine lL hs [.v 25 qF,.m 26 25,.m 27 7,.v 28 (qP b7 2),.o 29 (iV ((l.getD i ac).b)) 0 2 1,.m 30 6] ?_;cases ze:(decide ((1:Int)<(dD (l.getD i ac).op:Int)))
   ·
    have zI:=oF ze;refine lB 31 ze (uN 32 (gp ((l.getD i ac).b) i b4 _ _ hs.g (hs.own 1) (hs.jk 1)) ?_);rintro _ _ yc u51 ⟨rfl,hO48⟩;replace hs:=(hs.stepM 1 u51 hO48).to [⟨b7,144,sC (l.getD i ac)⟩,⟨b4,3,[nV i]⟩,⟨b1,46,[iV inp,qS A ((l).length) c,qS O ((os).length) d]⟩] [];cases zw:(decide (((l.getD i ac).b:Int)=0))
    ·
     have zJ:=oF zw;refine lL hs [.v 33 qT,.v 34 qT,.m 35 34] (lG 36 ?_);refine lG 37 (lG 38 (lG 39 (lG 40 (lG 41 (lG 42 (lG 43 (lG 44 (lL hs [.v 45 qT] (lD ?_)))))))));intro a_ ka;exact ⟨_,⟨true,yc,rfl,hs.to _ _,(fun _=>by omega),(fun h_=>absurd h_ kD)⟩,ka.to _ kR⟩
    have zJ:=oT zw;refine lL hs [.v 33 qF,.v 34 qF,.m 35 34,.v 36 (pB b7),.o 37 (iV ((l.getD i ac).op)) 0 0 1] ?_;cases zf:(((l.getD i ac).op:Int) != (1:Int))
    ·
     have zK:=aJ zf;refine lB 38 zf (lL hs [.m 39 38] (lG 40 ?_));refine lG 41 (lG 42 (lG 43 (lL hs [.v 44 qF,.v 45 qF] (lD ?_))));intro a_ ka;exact ⟨_,⟨false,yc,rfl,hs.to _ _,(fun h_=>absurd h_ kD),(fun _=>by omega)⟩,ka.to _ kR⟩
    have zK:=aU zf;refine lB 38 zf (lL hs [.m 39 38,.v 40 (qP b7 4),.o 41 (qv ((l.getD i ac).q)) 0 4 5] (ah 42 hs (eL (l.getD i ac).q (hq.mono oM) _ _ hs.g) (fun _ yd hs=>?_)));cases zg:(((l.getD i ac).q.num.sign:Int) != (0:Int))
    ·
     have zL:=aJ zg;refine lB 43 zg (lL hs [.v 44 qF,.v 45 qF] (lD ?_));intro a_ ka;exact ⟨_,⟨false,yd,rfl,hs.to _ _,(fun h_=>absurd h_ kD),(fun _=>by omega)⟩,ka.to _ kR⟩
    have zL:=aU zg;refine lB 43 zg (lL hs [.v 44 qT,.v 45 qT] (lD ?_));intro a_ ka;exact ⟨_,⟨true,yd,rfl,hs.to _ _,(fun _=>by omega),(fun h_=>absurd h_ kD)⟩,ka.to _ kR⟩
   have zI:=oT ze;refine lB 31 ze (uN 32 (jK ((l.getD i ac).b) i b4 _ _ hs.g (hs.own 1) (hs.jk 1)) ?_);rintro _ _ ye u68 ⟨rfl,hO65⟩;replace hs:=(hs.stepM 1 u68 hO65).to [⟨b7,144,sC (l.getD i ac)⟩,⟨b4,3,[nV i]⟩,⟨b1,46,[iV inp,qS A ((l).length) c,qS O ((os).length) d]⟩] [];cases zx:(decide (0≤((l.getD i ac).b:Int)∧((l.getD i ac).b:Int)<(i:Nat)))
   ·
    have zM:=oF zx;refine lL hs [.v 33 qT,.v 34 qT,.m 35 34] (lG 36 ?_);refine lG 37 (lG 38 (lG 39 (lG 40 (lG 41 (lG 42 (lG 43 (lG 44 (lL hs [.v 45 qT] (lD ?_)))))))));intro a_ ka;exact ⟨_,⟨true,ye,rfl,hs.to _ _,(fun _=>by omega),(fun h_=>absurd h_ kD)⟩,ka.to _ kR⟩
   have zM:=oT zx;refine lL hs [.v 33 qF,.v 34 qF,.m 35 34,.v 36 (pB b7),.o 37 (iV ((l.getD i ac).op)) 0 0 1] ?_;cases zi:(((l.getD i ac).op:Int) != (1:Int))
   ·
    have zN:=aJ zi;refine lB 38 zi (lL hs [.m 39 38] (lG 40 ?_));refine lG 41 (lG 42 (lG 43 (lL hs [.v 44 qF,.v 45 qF] (lD ?_))));intro a_ ka;exact ⟨_,⟨false,ye,rfl,hs.to _ _,(fun h_=>absurd h_ kD),(fun _=>by omega)⟩,ka.to _ kR⟩
   have zN:=aU zi;refine lB 38 zi (lL hs [.m 39 38,.v 40 (qP b7 4),.o 41 (qv ((l.getD i ac).q)) 0 4 5] (ah 42 hs (eL (l.getD i ac).q (hq.mono oM) _ _ hs.g) (fun _ yf hs=>?_)));cases zj:(((l.getD i ac).q.num.sign:Int) != (0:Int))
   ·
    have zP:=aJ zj;refine lB 43 zj (lL hs [.v 44 qF,.v 45 qF] (lD ?_));intro a_ ka;exact ⟨_,⟨false,yf,rfl,hs.to _ _,(fun h_=>absurd h_ kD),(fun _=>by omega)⟩,ka.to _ kR⟩
   have zP:=aU zj;refine lB 43 zj (lL hs [.v 44 qT,.v 45 qT] (lD ?_));intro a_ ka;exact ⟨_,⟨true,yf,rfl,hs.to _ _,(fun _=>by omega),(fun h_=>absurd h_ kD)⟩,ka.to _ kR⟩
  rintro _ _ ⟨zs,_,rfl,hs,yi,hF45⟩;cases zk:(zs)
  ·
   try rw[zk] at hs
   try rw[zk]
   refine dK (cK (cQ (aD ?_)));have yl:=hF45 aM;refine lL hs [.v 46 (pB b7),.o 47 (iV ((l.getD i ac).op)) 0 0 1] (bd (aD ?_));cases zl:(((l.getD i ac).op:Int) == (2:Int))
   ·
    have zQ:=aj zl;refine lB 49 zl (lL hs [.m 48 49] (am (aD ?_)));cases zm:(((l.getD i ac).op:Int) == (8:Int))
    ·
     have zR:=aj zm;refine lB 61 zm (lL hs [.m 60 61] (am (cK (ab hs [.v 70 (qP b7 3),.o 71 (iV ((l.getD i ac).n)) 0 3 1] ?_))));cases zn:(((l.getD i ac).n:Int) == (0:Int))
     ·
      have zS:=aj zn;exact lB 72 zn (lL hs [.m 4 72] (ae hs [] qF (congrArg Value.bool (decide_eq_false (by unfold Formed ef;omega)).symm)))
     have zS:=eq_of_beq zn;exact lB 72 zn (lL hs [.m 4 72] (ae hs [] qT (congrArg Value.bool (decide_eq_true (by unfold Formed ef;omega)).symm)))
    have zR:=eq_of_beq zm;refine lB 61 zm (lL hs [.m 60 61] (ar (ab hs [.v 62 (qP b7 3),.o 63 (iV ((l.getD i ac).n)) 0 3 1] ?_)));cases zo:(decide ((-12:Int)≤((l.getD i ac).n:Int)))
    ·
     have zT:=oF zo;refine lB 64 zo (lL hs [.m 65 64] (lG 66 ?_));exact lG 67 (lG 68 (lL hs [.v 69 qF,.m 4 69] (ae hs [] qF (congrArg Value.bool (decide_eq_false (by unfold Formed ef;omega)).symm))))
    have zT:=oT zo;refine lB 64 zo (lL hs [.m 65 64,.v 66 (qP b7 3),.o 67 (iV ((l.getD i ac).n)) 0 3 1] ?_);cases zp:(decide (((l.getD i ac).n:Int)≤(12:Int)))
    ·
     have zU:=oF zp;exact lB 68 zp (lL hs [.v 69 qF,.m 4 69] (ae hs [] qF (congrArg Value.bool (decide_eq_false (by unfold Formed ef;omega)).symm)))
    have zU:=oT zp;exact lB 68 zp (lL hs [.v 69 qT,.m 4 69] (ae hs [] qT (congrArg Value.bool (decide_eq_true (by unfold Formed ef;omega)).symm)))
   have zQ:=eq_of_beq zl;refine lB 49 zl (lL hs [.m 48 49] (ar (ab hs [.v 50 (qP b7 3),.o 51 (iV ((l.getD i ac).n)) 0 3 1] ?_)));cases zq:(decide ((0:Int)≤((l.getD i ac).n:Int)))
   ·
    have zW:=oF zq;refine lB 52 zq (lL hs [.m 53 52] (lG 54 ?_));exact lG 55 (lG 56 (lG 57 (lG 58 (lL hs [.v 59 qF,.m 4 59] (ae hs [] qF (congrArg Value.bool (decide_eq_false (by unfold Formed ef;omega)).symm))))))
   have zW:=oT zq;refine lB 52 zq (lL hs [.m 53 52,.v 54 (qP b7 3),.o 55 (iV ((l.getD i ac).n)) 0 3 1,.v 56 (pB b1),.o 57 (iV inp) 2 0 1] ?_);cases zr:(decide (((l.getD i ac).n:Int)<(inp:Int)))
   ·
    have zX:=oF zr;exact lB 58 zr (lL hs [.v 59 qF,.m 4 59] (ae hs [] qF (congrArg Value.bool (decide_eq_false (by unfold Formed ef;omega)).symm)))
   have zX:=oT zr;exact lB 58 zr (lL hs [.v 59 qT,.m 4 59] (ae hs [] qT (congrArg Value.bool (decide_eq_true (by unfold Formed ef;omega)).symm)))
  try rw[zk] at hs
  try rw[zk]
  refine cI (aD ?_);have yl:=yi aM;exact lL hs [.v 4 qF] (ae hs [] qF (congrArg Value.bool (decide_eq_false (by unfold Formed ef;omega)).symm))
 have zA:=oT za;exact lB 17 za (ar (ab hs [.v 4 qF] (ae hs [] qF (congrArg Value.bool (decide_eq_false (by unfold Formed ef;omega)).symm))))
theorem AD (s:Stp)(V:Option Addr)(n c:Nat)(hv:List Int)(hn:hv.length=n)(k:Nat)(inp:Int)(hF:Formed inp k s)(hW:Wts hv k)(hk:k≤hv.length)(w:World)(h:Hp)(g:G w h)(hV:Si V hv h):CV 81 #[sX s,.slice V n c] w h (iV (bK s hv)):=by
 have hs:=((sS g).aS hV);have hwb:=hW.weight hF;have hpw:=hW.pow hF;obtain ⟨f0,f1,f2,f3,f4,f5,f6⟩:=hF
 unfold ef at f1 f2
 have hac:=aG s.op;have hwa:=fun h0=>hW s.a.toNat h0
 have hwc:=fun h0=>hW s.b.toNat h0
 refine go Tryz.func81 [(0,sX s),(1,qS V n c)] rfl (aD (lA 2 144 (sC s) hs (fun b1 w2 h3 hs=>lL hs [.v 4 (iV 0)] (af (ab hs [.v 5 (pB b1),.o 6 (iV s.op) 0 0 1] (ah 7 hs (kz s.op _ _ hs.g) (fun w4 h5 hs=>bd (aD ?_))))))));cases hb6:((dD s.op:Int) == (0:Int))
 ·
  have phb6:=aj hb6;refine lB 9 hb6 (lL hs [.m 8 9] (am (aD ?_)));cases hb7:((dD s.op:Int) == (2:Int))
  ·
   have phb7:=aj hb7;refine lB 11 hb7 (lL hs [.m 10 11] (am (cK (cQ (ab hs [.v 23 (pB b1),.o 24 (iV s.op) 0 0 1] (bd (aD ?_)))))));cases hb8:((s.op:Int) == (11:Int))
   ·
    have phb8:=aj hb8;refine lB 26 hb8 (lL hs [.m 25 26] (am (aD ?_)));cases hb9:((s.op:Int) == (8:Int))
    ·
     have phb9:=aj hb9;refine lB 34 hb9 (lL hs [.m 33 34] (am (cK (ab hs [.m 47 1,.v 48 (qP b1 1),.o 49 (iV s.a) 0 1 1] (lX 50 V n c 1 s.a s.a.toNat ((hs.f.1).ok oM) ?_)))));exact lH 51 (iV (hv.getD s.a.toNat 0)) hs ((hs.f.1).el s.a.toNat oM) (lL hs [.m 4 51] (ae hs [] (iV (hv.getD s.a.toNat 0)) (congrArg (Value.int .i64) (by unfold bK;first|(rw[if_pos oM])|(rw[if_neg oM,if_pos oM])|(rw[if_neg oM,if_neg oM,if_pos oM])|(rw[if_neg oM,if_neg oM,if_neg oM,if_pos oM])|(rw[if_neg oM,if_neg oM,if_neg oM,if_neg oM])))))
    have phb9:=eq_of_beq hb9;refine lB 34 hb9 (lL hs [.m 33 34] (ar (cQ (cR 12 [] mixed hs aq ?_))));refine eV 0 35 (qP b1 3) (eO 1 36 [(0,3,1)] (iV s.n) hs (eV 2 37 (qP b1 3) (eO 3 38 [(0,3,1)] (iV s.n) hs (eI 4 39 (0-s.n) (eV 5 40 (iV (max (max (s.n:Int) (0-s.n:Int)) (1:Int))) ?_ (hv:=fun _=>aW (n:=(if (1:Int)>(if (0-s.n:Int)>(s.n:Int) then (0-s.n:Int) else (s.n:Int)) then (1:Int) else (if (0-s.n:Int)>(s.n:Int) then (0-s.n:Int) else (s.n:Int)))) kR (by simp only[mO])))))));exact eV 6 41 (qS V n c) (eV 7 42 (qP b1 1) (eO 8 43 [(0,1,1)] (iV s.a) hs (eX 9 44 V n c 1 s.a s.a.toNat ((hs.f.1).ok oM) (eH 10 45 (iV (hv.getD s.a.toNat 0)) hs ((hs.f.1).el s.a.toNat oM) (eI 11 46 ((max (max (s.n:Int) (0-s.n:Int)) (1:Int))*(hv.getD s.a.toNat 0)) (bF hs (fun _ _ hs=>tV 12 4 (iV ((max (max (s.n:Int) (0-s.n:Int)) (1:Int))*(hv.getD s.a.toNat 0))) (tN (kX (hs.ret [] (iV ((max (max (s.n:Int) (0-s.n:Int)) (1:Int))*(hv.getD s.a.toNat 0))) (congrArg (Value.int .i64) (by unfold bK;first|(rw[if_pos oM])|(rw[if_neg oM,if_pos oM])|(rw[if_neg oM,if_neg oM,if_pos oM])|(rw[if_neg oM,if_neg oM,if_neg oM,if_pos oM])|(rw[if_neg oM,if_neg oM,if_neg oM,if_neg oM])))))))))))))
   have phb8:=eq_of_beq hb8;refine lB 26 hb8 (lL hs [.m 25 26] (ar (ab hs [.m 27 1,.v 28 (qP b1 1),.o 29 (iV s.a) 0 1 1] (lX 30 V n c 1 s.a s.a.toNat ((hs.f.1).ok oM) ?_))));exact lH 31 (iV (hv.getD s.a.toNat 0)) hs ((hs.f.1).el s.a.toNat oM) (lI 32 (2*(hv.getD s.a.toNat 0)) (lL hs [.m 4 32] (ae hs [] (iV (2*(hv.getD s.a.toNat 0))) (congrArg (Value.int .i64) (by unfold bK;first|(rw[if_pos oM])|(rw[if_neg oM,if_pos oM])|(rw[if_neg oM,if_neg oM,if_pos oM])|(rw[if_neg oM,if_neg oM,if_neg oM,if_pos oM])|(rw[if_neg oM,if_neg oM,if_neg oM,if_neg oM]))))))
  have phb7:=eq_of_beq hb7;refine lB 11 hb7 (lL hs [.m 10 11] (ar (cQ (cR 11 [] mixed hs aq ?_))));exact eV 0 12 (qS V n c) (eV 1 13 (qP b1 1) (eO 2 14 [(0,1,1)] (iV s.a) hs (eX 3 15 V n c 1 s.a s.a.toNat ((hs.f.1).ok oM) (eH 4 16 (iV (hv.getD s.a.toNat 0)) hs ((hs.f.1).el s.a.toNat oM) (eV 5 17 (qS V n c) (eV 6 18 (qP b1 2) (eO 7 19 [(0,2,1)] (iV s.b) hs (eX 8 20 V n c 1 s.b s.b.toNat ((hs.f.1).ok oM) (eH 9 21 (iV (hv.getD s.b.toNat 0)) hs ((hs.f.1).el s.b.toNat oM) (eI 10 22 ((hv.getD s.a.toNat 0)+(hv.getD s.b.toNat 0)) (bF hs (fun _ _ hs=>tV 11 4 (iV ((hv.getD s.a.toNat 0)+(hv.getD s.b.toNat 0))) (tN (kX (hs.ret [] (iV ((hv.getD s.a.toNat 0)+(hv.getD s.b.toNat 0))) (congrArg (Value.int .i64) (by unfold bK;first|(rw[if_pos oM])|(rw[if_neg oM,if_pos oM])|(rw[if_neg oM,if_neg oM,if_pos oM])|(rw[if_neg oM,if_neg oM,if_neg oM,if_pos oM])|(rw[if_neg oM,if_neg oM,if_neg oM,if_neg oM]))))))))))))))))))
 have phb6:=eq_of_beq hb6;exact lB 9 hb6 (lL hs [.m 8 9] (ar (ab hs [.v 4 (iV 1)] (ae hs [] (iV 1) (congrArg (Value.int .i64) (by unfold bK;first|(rw[if_pos oM])|(rw[if_neg oM,if_pos oM])|(rw[if_neg oM,if_neg oM,if_pos oM])|(rw[if_neg oM,if_neg oM,if_neg oM,if_pos oM])|(rw[if_neg oM,if_neg oM,if_neg oM,if_neg oM])))))))
theorem l6 (inp:Int)(A:Option Addr)(c:Nat)(l:List Stp)(O:Option Addr)(d:Nat)(os:List Int)(hl:l.length≤1000000)(ho:os.length≤1000000)(hq:∀ i,i<l.length→LQ 1 (l.getD i ac).q)(w:World)(h:Hp)(g:G w h)(hA:SlO 9 fW ac h A l)(hO:Si O os h):CV 37 #[.agg #[iV inp,.slice A ((l).length) c,.slice O ((os).length) d]] w h (iV (bv inp l os)):=by
 have hs:=(((sS g).aS hA).aS hO);refine go Tryz.func37 [(0,.agg #[iV inp,qS A ((l).length) c,qS O ((os).length) d])] rfl (aD (lA 1 46 ([iV inp,qS A ((l).length) c,qS O ((os).length) d]) hs (fun b1 w2 h3 hs=>lL hs [.v 2 (iV 0)] (af (ab hs [.v 8 (pB b1),.o 9 (iV inp) 0 0 1] ?_)))));cases hb4:(decide ((inp:Int)<(0:Int)))
 ·
  have phb4:=oF hb4;refine lB 10 hb4 (lL hs [.m 11 10,.v 12 (pB b1),.o 13 (iV inp) 0 0 1] ?_);cases hb5:(decide ((1000:Int)<(inp:Int)))
  ·
   have phb5:=oF hb5;refine lB 14 hb5 (lL hs [.v 15 qF,.m 16 15,.v 17 (qP b1 1),.o 18 (qS A ((l).length) c) 0 1 1,.v 19 (nV ((l).length))] ?_);cases hb6:(decide ((65536:Int)<(((l).length:Nat):Int)))
   ·
    have phb6:=oF hb6;refine lB 20 hb6 (lL hs [.v 21 qF,.m 22 21,.v 23 (qP b1 2),.o 24 (qS O ((os).length) d) 0 2 1,.v 25 (nV ((os).length))] ?_);cases hb7:(decide ((300:Int)<(((os).length:Nat):Int)))
    ·
     have phb7:=oF hb7;refine lB 26 hb7 (lL hs [.v 27 qF] (am (cK (ab hs [.v 28 (qP b1 1),.o 29 (qS A ((l).length) c) 0 1 1,.v 30 (nV ((l).length))] (lK 31 3 ((l).length) 1 8 (iV 0) ff (0:Int) hs (fun b8 w9 zp hs=>?_))))));have zn:(List.replicate ((l).length) (0:Int)).length=((l).length):=by simp
     refine lL hs [.m 3 31] (af (ab hs [.v 32 (qP b1 1),.o 33 (qS A ((l).length) c) 1 1 1,.v 34 (nV ((l).length)),.v 35 (iV 0)] (bd ?_)));have hsh:0≤inp∧inp≤1000∧l.length≤65536∧os.length≤300:=by omega
     refine bD _ (CG.loop (fun μ_ Γ w_=>∃ (k:Nat) (L:List Int) (h_:Hp),μ_=l.length-k∧Γ=[(1,pB b1),(3,qS (sB b8) ((l).length) ((l).length)),(33,qS A ((l).length) c),(34,nV ((l).length)),(35,nV k)]∧SS w h w_ h_ [⟨b8,3,(L).flatMap ff⟩,⟨b1,46,[iV inp,qS A ((l).length) c,qS O ((os).length) d]⟩] [] [Si O os,fun h_=>SlO 9 fW ac h_ A l]∧k≤l.length∧L.length=l.length∧Wts L k∧oN inp l []=oN inp (l.drop k) (L.take k)) _ ⟨0,List.replicate ((l).length) (0:Int),zp,rfl,rfl,hs.to _ _,Nat.zero_le _,zn,fun j hj=>absurd hj (Nat.not_lt_zero j),rfl⟩ ?_);rintro _ _ _ ⟨k,L,zq,hm14,rfl,hs,hk,hlL,hWt,hgo⟩;refine aD ?_;cases za:(decide ((k:Int)<(((l).length:Nat):Int)))
     ·
      have zg:=oF za;refine lB 36 za (af (dK (CG.exit ?_)))
      show CG _ _ _ _ _ _ _ _
      refine cQ (ab hs [.v 56 (qP b1 2),.o 57 (qS O ((os).length) d) 1 2 1,.v 58 (nV ((os).length)),.v 59 (iV 0)] (bd ?_));refine bD _ (CG.loop (fun μ_ Γ w_=>∃ (j:Nat) (h_:Hp),μ_=os.length-j∧Γ=[(1,pB b1),(57,qS O ((os).length) d),(58,nV ((os).length)),(59,nV j)]∧SS w h w_ h_ [⟨b8,3,(L).flatMap ff⟩,⟨b1,46,[iV inp,qS A ((l).length) c,qS O ((os).length) d]⟩] [] [Si O os,fun h_=>SlO 9 fW ac h_ A l]∧j≤os.length∧(∀ i,i<j→0≤os.getD i 0∧os.getD i 0<l.length)) _ ⟨0,zq,rfl,rfl,hs.to _ _,Nat.zero_le _,fun j hj=>absurd hj (Nat.not_lt_zero j)⟩ ?_);rintro _ _ _ ⟨j,zr,hm18,rfl,hs,hj,hou⟩;refine aD ?_;cases zb:(decide ((j:Int)<(((os).length:Nat):Int)))
      ·
       have zi:=oF zb;refine lB 60 zb (af (dK (CG.exit ?_)))
       show CG _ _ _ _ _ _ _ _
       exact ab hs [.v 2 (iV 0)] (ae hs [] (iV 0) (congrArg (Value.int .i64) (vq hsh (by rw[hgo,List.drop_eq_nil_of_le oM];rfl) (fun i hi=>hou i oM)).symm))
      have zi:=oT zb;refine lB 60 zb (af (cI (cK (cQ (kZ (aD (lX 61 O ((os).length) d 1 (j:Nat) j ((hs.f.1).ok oM) ?_)))))));refine lH 62 (iV (os.getD j 0)) hs ((hs.f.1).el j oM) (lL hs [.m 7 62] (ay (lL hs [.m 63 7] ?_)));cases zc:(decide ((os.getD j 0:Int)<(0:Int)))
      ·
       have zj:=oF zc;refine lB 64 zc (lL hs [.m 65 64,.m 66 7,.v 67 (qP b1 1),.o 68 (qS A ((l).length) c) 1 1 1,.v 69 (nV ((l).length))] ?_);cases zd:(decide ((((l).length:Nat):Int)≤(os.getD j 0:Int)))
       ·
        have zk:=oF zd;refine lB 70 zd (lL hs [.v 71 qF] (am (cK (kQ (bw 72 ((j:Nat)+1) (j+1) ?_)))));refine lL hs [.m 59 72] (lD ?_);intro a_ ka;refine ⟨_,_,?_,⟨j+1,zr,rfl,rfl,hs.to _ _,oM,(fun i hi=>by by_cases e:i=j;(subst e;omega);exact hou i oM)⟩,ka.to _ kR⟩
        omega
       have zk:=oT zd;exact lB 70 zd (lL hs [.v 71 qT] (ar (ab hs [.v 2 (iV 1)] (ae hs [] (iV 1) (congrArg (Value.int .i64) (na hsh (by rw[hgo,List.drop_eq_nil_of_le oM];rfl) (fun h_=>by have:=h_ j oM;omega)).symm)))))
      have zj:=oT zc;refine lB 64 zc (lL hs [.m 65 64] (lG 66 ?_));exact lG 67 (lG 68 (lG 69 (lG 70 (lL hs [.v 71 qT] (ar (ab hs [.v 2 (iV 1)] (ae hs [] (iV 1) (congrArg (Value.int .i64) (na hsh (by rw[hgo,List.drop_eq_nil_of_le oM];rfl) (fun h_=>by have:=h_ j oM;omega)).symm))))))))
     have zg:=oT za;refine lB 36 za (af (cI (cK (cQ (kZ (ab hs [.m 37 35] (lX 38 A ((l).length) c 9 (k:Nat) k ((hs.f.2.1).ok oM) ?_)))))));refine lH 39 (sX (l.getD k ac)) hs ((hs.f.2.1).el k oM) (lA 5 144 ([iV 0,iV 0,iV 0,iV 0,qF,uV 0,eS,uV 0,eS]) hs (fun zs _ _ hs=>lL hs [.m 4 37] (lP 0 0 (sC (l.getD k ac)) hs (fun _ hs=>af (ab hs [.o 40 (.agg #[iV inp,qS A ((l).length) c,qS O ((os).length) d]) 2 0 3,.m 41 4] (ah 42 hs (CI inp A c l O d os k oM oM (hq k oM) _ _ hs.g hs.f.2.1 hs.f.1) (fun _ _ hs=>?_)))))));cases zf:(decide (Formed inp k (l.getD k ac)))
     ·
      have zl:=oF zf;exact lL hs [.v 43 qT] (ar (ab hs [.v 2 (iV 2)] (ae hs [] (iV 2) (congrArg (Value.int .i64) ((pO hsh (by rw[hgo,rk oM (by simp;omega) ‹¬Formed inp k (l.getD k ac)›];decide)).trans (hgo.trans (rk oM (by simp;omega) ‹¬Formed inp k (l.getD k ac)›))).symm))))
     have zl:=oT zf;refine lL hs [.v 43 qF] (am (cK (ab hs [.m 44 3,.m 45 4,.o 46 (sX (l.getD k ac)) 0 0 9,.m 47 3] (F9 48 1 hs (fun _ g_ f_ sg_=>AD (l.getD k ac) (sB b8) ((l).length) ((l).length) L hlL k inp ‹Formed inp k (l.getD k ac)› hWt oM _ _ g_ (SlO.of_flat (sz:=1) (f:=ff) (d:=0) (b:=b8) (o:=0) (l:=L) (fun _=>rfl) sg_)) ?_))));rintro _ _ zt hs rfl;have hws:=hWt.weight ‹Formed inp k (l.getD k ac)›;have hgs:(L.set k (bK (l.getD k ac) L)).getD k 0=bK (l.getD k ac) L:=by rw[List.getD_eq_getElem?_getD,List.getElem?_set_self oM];rfl
     refine lX 49 (sB b8) ((l).length) ((l).length) 1 (k:Nat) k rfl (lW 1 L ff 1 k (bK (l.getD k ac) L) hs oM (fun _ hs=>?_));have zo:((L).set k (bK (l.getD k ac) L)).length=((l).length):=by rw[List.length_set];exact hlL
     replace hs:=hs.to [⟨zs,144,sC (l.getD k ac)⟩,⟨b8,3,((L).set k (bK (l.getD k ac) L)).flatMap ff⟩,⟨b1,46,[iV inp,qS A ((l).length) c,qS O ((os).length) d]⟩] [];refine ay (lL hs [.m 50 3,.m 51 4] (lX 52 (sB b8) ((l).length) ((l).length) 1 (k:Nat) k rfl ?_));refine lQ 53 1 ((L).set k (bK (l.getD k ac) L)) ff 1 0 k (iV (((L).set k (bK (l.getD k ac) L)).getD k 0)) hs oM ?_;cases ze:(decide ((65536:Int)<(((L).set k (bK (l.getD k ac) L)).getD k 0:Int)))
     ·
      have zm:=oF ze;refine lB 54 ze (am (cK (kQ (bw 55 ((k:Nat)+1) (k+1) ?_))));refine lL hs [.m 35 55] (lD ?_);intro a_ ka;replace hs:=hs.drop 1 0;refine ⟨_,_,?_,⟨k+1,(L).set k (bK (l.getD k ac) L),zt,rfl,rfl,hs.to _ _,oM,zo,(hWt.snoc oM hws.1 oM),(hgo.trans ((xA oM (by simp;omega) ‹Formed inp k (l.getD k ac)› (by rw[gj ‹Formed inp k (l.getD k ac)›];omega)).trans (by rw[gj ‹Formed inp k (l.getD k ac)›,mH oM])))⟩,ka.to _ kR⟩
      omega
     have zm:=oT ze;exact lB 54 ze (ar (ab hs [.v 2 (iV 18)] (ae hs [] (iV 18) (congrArg (Value.int .i64) ((pO hsh (by rw[hgo,ph oM (by simp;omega) ‹Formed inp k (l.getD k ac)› (by rw[gj ‹Formed inp k (l.getD k ac)›];omega)];decide)).trans (hgo.trans (ph oM (by simp;omega) ‹Formed inp k (l.getD k ac)› (by rw[gj ‹Formed inp k (l.getD k ac)›];omega)))).symm))))
    have phb7:=oT hb7;exact lB 26 hb7 (lL hs [.v 27 qT] (ar (ab hs [.v 2 (iV 5)] (ae hs [] (iV 5) (congrArg (Value.int .i64) (fj oM).symm)))))
   have phb6:=oT hb6;refine lB 20 hb6 (lL hs [.v 21 qT,.m 22 21] (lG 23 ?_));exact lG 24 (lG 25 (lG 26 (lL hs [.v 27 qT] (ar (ab hs [.v 2 (iV 5)] (ae hs [] (iV 5) (congrArg (Value.int .i64) (fj oM).symm)))))))
  have phb5:=oT hb5;refine lB 14 hb5 (lL hs [.v 15 qT,.m 16 15] (lG 17 ?_));refine lG 18 (lG 19 (lG 20 (lL hs [.v 21 qT,.m 22 21] (lG 23 ?_))));exact lG 24 (lG 25 (lG 26 (lL hs [.v 27 qT] (ar (ab hs [.v 2 (iV 5)] (ae hs [] (iV 5) (congrArg (Value.int .i64) (fj oM).symm)))))))
 have phb4:=oT hb4;refine lB 10 hb4 (lL hs [.m 11 10] (lG 12 ?_));refine lG 13 (lG 14 (lL hs [.v 15 qT,.m 16 15] (lG 17 ?_)));refine lG 18 (lG 19 (lG 20 (lL hs [.v 21 qT,.m 22 21] (lG 23 ?_))));exact lG 24 (lG 25 (lG 26 (lL hs [.v 27 qT] (ar (ab hs [.v 2 (iV 5)] (ae hs [] (iV 5) (congrArg (Value.int .i64) (fj oM).symm)))))))
theorem HH:∀ b:Bool,b=false∨b=true
 | false=>.inl rfl
 | true=>.inr rfl
theorem l9 {sm:Bool}{l:List Stp}{at_ L:List Rat}{k n:Nat}{e:Int}(h0:bW sm l at_ k=0)(hk:k<n)(hL:∀ j,L.getD j 0=(aZ l at_ k).getD j 0)(h:gn sm (l.getD k ac) L=e)(he:e≠0):bW sm l at_ n=e:=by
 have e1:gn sm (l.getD k ac) (aZ l at_ k)=e:=by rw[←h];unfold gn;rw[hL,hL]
 rw[uj h0 hk (by rw[e1];exact he),e1]
theorem jY {sm:Bool}{l:List Stp}{at_ L:List Rat}{k:Nat}(h0:bW sm l at_ k=0)(hL:∀ j,L.getD j 0=(aZ l at_ k).getD j 0)(h:gn sm (l.getD k ac) L=0):bW sm l at_ (k+1)=0:=by
 refine ud h0 ?_;rw[←h];unfold gn;rw[hL,hL]
theorem FK {sm:Bool}{s:Stp}{v:List Rat}(h:s.op=2):gn sm s v=0:=if_pos h
theorem xy {sm:Bool}{s:Stp}{v:List Rat}(h:ox s.op s.n (v.getD s.a.toNat 0) (v.getD s.b.toNat 0))(h2:¬(sm=true∧mC s.op (v.getD s.a.toNat 0) (v.getD s.b.toNat 0))):gn sm s v=0:=by
 by_cases e:s.op=2
 ·exact if_pos e
 ·unfold gn;rw[if_neg e,if_pos h,if_neg h2]
theorem xB {sm:Bool}{s:Stp}{v:List Rat}(h2:s.op≠2)(h:¬ox s.op s.n (v.getD s.a.toNat 0) (v.getD s.b.toNat 0)):gn sm s v=6:=by
 unfold gn;rw[if_neg h2,if_neg h]
theorem Ec {s:Stp}{v:List Rat}(h2:s.op≠2)(h:ox s.op s.n (v.getD s.a.toNat 0) (v.getD s.b.toNat 0))(h3:mC s.op (v.getD s.a.toNat 0) (v.getD s.b.toNat 0)):gn true s v=7:=by
 unfold gn;rw[if_neg h2,if_pos h,if_pos ⟨rfl,h3⟩]
theorem B1 {sm:Bool}{s:Stp}{v:List Rat}(h2:s.op≠2)(h:ox s.op s.n (v.getD s.a.toNat 0) (v.getD s.b.toNat 0))(hs:sm=true)(h3:mC s.op (v.getD s.a.toNat 0) (v.getD s.b.toNat 0)):gn sm s v=7:=by subst hs;exact Ec h2 h h3
theorem ml {l:List Stp}{at_ L:List Rat}{k:Nat}{x:Rat}(hk:k<L.length)(hL:∀ j,L.getD j 0=(aZ l at_ k).getD j 0)(hx:x=pH (l.getD k ac) at_ L):∀ j,(L.set k x).getD j 0=(aZ l at_ (k+1)).getD j 0:=fun j=>by
 have e1:pH (l.getD k ac) at_ L=pH (l.getD k ac) at_ (aZ l at_ k):=by unfold pH;rw[hL,hL]
 have hl:=eM l at_ k
 show _=(aZ l at_ k++[_]).getD j 0
 rw[cJ hk,bL,hl,←e1,←hx]
 by_cases e:j=k
 ·rw[if_pos e,if_neg oM,if_pos e]
 ·rw[if_neg e,hL j]
  by_cases h:j<k
  ·rw[if_pos h]
  ·rw[if_neg h,if_neg e,cj oM]
theorem ir {a b:List Rat}(h:a.length=b.length)(hv:∀ j,a.getD j 0=b.getD j 0):a=b:=by
 refine List.ext_getElem h (fun i h1 h2=>?_);have:=hv i
 simpa [h1,h2] using this
def cu (sm:Bool)(l:List Stp)(at_:List Rat):List Rat:=if bW sm l at_ l.length=0 then aZ l at_ l.length else []
theorem Co {vs R:List Rat}{os:List Int}(hl:R.length=os.length)(h:∀ j,j<os.length→R.getD j 0=vs.getD (os.getD j 0).toNat 0):R=ei vs os:=by
 refine ir (by unfold ei;rw[List.length_map];exact hl) (fun j=>?_)
 by_cases hj:j<os.length
 ·rw[h j hj];unfold ei
  have e:(os.map fun o=>vs.getD o.toNat 0).getD j 0=vs.getD (os.getD j 0).toNat 0:=by simp[List.getD_eq_getElem?_getD,hj]
  exact e.symm
 ·rw[cj oM,cj (by unfold ei;rw[List.length_map];omega)]
theorem sx {inp:Int}:∀ {l:List Stp} {hv:List Int},oN inp l hv=0→∀ j,j<l.length→Formed inp (hv.length+j) (l.getD j ac)
  | [],_,_,j,hj=>by simp at hj
  | s :: r,hv,h,j,hj=>by
    unfold oN at h
    split at h
    · rename_i hf
      split at h
      · exact absurd h kD
      · cases j with
        | zero=>exact hf
        | succ j =>
          have:=sx h j (by simpa using hj);rw[List.length_append,List.length_singleton] at this
          rw[show hv.length+(j+1)=hv.length+1+j by omega];exact this
    · exact absurd h kD
theorem eD {inp:Int}{l:List Stp}{os:List Int}(h:bv inp l os=0):(∀ k,k<l.length→Formed inp k (l.getD k ac))∧i9 l.length os∧0≤inp∧inp≤1000∧l.length≤65536∧os.length≤300:=by
  unfold bv at h
  split at h
  · rename_i h1
    split at h
    · rename_i h2
      split at h
      · rename_i h3
        exact ⟨fun k hk=>by have:=sx h2 k hk;simpa using this,h3,h1⟩
      · exact absurd h kD
    · rename_i h2;exact absurd h h2
  · exact absurd h kD
def dW (sm:Bool)(inp:Int)(l:List Stp)(os:List Int)(at_:List Rat):Int:=if bv inp l os=0 then (if (at_.length:Int)=inp then bW sm l at_ l.length else 5) else 1
def gt (sm:Bool)(inp:Int)(l:List Stp)(os:List Int)(at_:List Rat):List Rat:=if dW sm inp l os at_=0 then ei (aZ l at_ l.length) os else []
section
variable {sm:Bool} {inp:Int} {l:List Stp} {os:List Int} {at_:List Rat}
theorem Hb (h:bv inp l os≠0):dW sm inp l os at_=1∧gt sm inp l os at_=[]:=by
 have e:dW sm inp l os at_=1:=if_neg h;exact ⟨e,by unfold gt;rw[if_neg (by rw[e];decide)]⟩
theorem HW (h:bv inp l os=0)(h2:(at_.length:Int)≠inp):dW sm inp l os at_=5∧gt sm inp l os at_=[]:=by
 have e:dW sm inp l os at_=5:=by unfold dW;rw[if_pos h,if_neg h2]
 exact ⟨e,by unfold gt;rw[if_neg (by rw[e];decide)]⟩
theorem GB (h:bv inp l os=0)(h2:(at_.length:Int)=inp)(h3:bW sm l at_ l.length≠0):dW sm inp l os at_=bW sm l at_ l.length∧gt sm inp l os at_=[]:=by
 have e:dW sm inp l os at_=bW sm l at_ l.length:=by unfold dW;rw[if_pos h,if_pos h2]
 exact ⟨e,by unfold gt;rw[if_neg (by rw[e];exact h3)]⟩
theorem GT (h:bv inp l os=0)(h2:(at_.length:Int)=inp)(h3:bW sm l at_ l.length=0):dW sm inp l os at_=0∧gt sm inp l os at_=ei (cu sm l at_) os:=by
 have e:dW sm inp l os at_=0:=by unfold dW;rw[if_pos h,if_pos h2,h3]
 exact ⟨e,by unfold gt cu;rw[if_pos e,if_pos h3]⟩
end
theorem re (sm sb:Bool)(hsb:sb=sm)(inp:Int)(A:Option Addr)(c:Nat)(l:List Stp)(O:Option Addr)(d:Nat)(os:List Int)(at_:List Rat)(X:Option Addr)(cX:Nat)(hF:∀ k,k<l.length→Formed inp k (l.getD k ac))(hl:l.length≤65536)(hat:(at_.length:Int)=inp)(hq:∀ i,LQ 1 (l.getD i ac).q)(hB:∀ k,k≤l.length→bW sm l at_ k=0→∀ j,LQ 1000000 ((aZ l at_ k).getD j 0))(w:World)(h:Hp)(g:G w h)(hA:SlO 9 fW ac h A l)(hO:Si O os h)(hX:Sq X at_ h)(tb:Tab h):CR 82 #[.agg #[iV inp,.slice A ((l).length) c,.slice O ((os).length) d],.slice X at_.length cX,.bool sb] w h (fun v h1=>∃ A c,v=.tuple #[.slice A (cu sm l at_).length c,iV (bW sm l at_ l.length)]∧(cu sm l at_).length≤c∧Sq A (cu sm l at_) h1):=by
 have hs:=(((((sS g).aS hA).aS hO).aS hX).aB tb);refine go Tryz.func82 [(0,.agg #[iV inp,qS A ((l).length) c,qS O ((os).length) d]),(1,qS X at_.length cX),(2,.bool sb)] rfl (aD (lA 3 46 ([iV inp,qS A ((l).length) c,qS O ((os).length) d]) hs (fun b1 w2 h3 hs=>lL hs [.v 6 (sZ),.v 7 (iV 0)] (ay (lL hs [.v 15 (qP b1 1),.o 16 (qS A ((l).length) c) 0 1 1,.v 17 (nV ((l).length))] (lK 18 39 ((l).length) 5 56 (.agg #[qF,uV 0,eS,uV 0,eS]) qc 0 hs (fun b4 w5 h6 hs=>?_)))))));have hl7:(List.replicate ((l).length) 0).length=((l).length):=by simp
 refine lL hs [.m 8 18] (af (ab hs [.v 19 (qP b1 1),.o 20 (qS A ((l).length) c) 1 1 1,.v 21 (nV ((l).length)),.v 22 (iV 0)] (bd ?_)));refine bD _ (CG.loop (fun μ_ Γ w_=>∃ (k:Nat) (L:List Rat) (h_:Hp),μ_=l.length-k∧Γ=[(1,qS X at_.length cX),(2,.bool sb),(8,qS (sB b4) ((l).length) ((l).length)),(20,qS A ((l).length) c),(21,nV ((l).length)),(22,nV k)]∧SS w h w_ h_ [⟨b4,39,(L).flatMap qc⟩,⟨b1,46,[iV inp,qS A ((l).length) c,qS O ((os).length) d]⟩] [] [fun h_=>Tab h_,Sq X at_,Si O os,fun h_=>SlO 9 fW ac h_ A l]∧k≤l.length∧L.length=l.length∧(∀ j,L.getD j 0=(aZ l at_ k).getD j 0)∧bW sm l at_ k=0) _ ⟨0,List.replicate l.length (0:Rat),h6,rfl,rfl,hs.to _ _,Nat.zero_le _,(by simp),(fun j=>by rw[fg];rfl),rfl⟩ ?_);rintro _ _ w8 ⟨k,L,h9,hm10,rfl,hs,hk,hLl,hLv,hter⟩;have hLb:∀ j,LQ 1000000 (L.getD j 0):=fun j=>by rw[hLv j];exact hB k hk hter j
 refine aD ?_;cases zb:(decide ((k:Int)<(((l).length:Nat):Int)))
 ·
  have zi:=oF zb;refine lB 23 zb (af (dK (CG.exit ?_)))
  show CG _ _ _ _ _ _ _ _
  refine ab hs [.m 69 8,.m 6 69,.v 7 (iV 0)] (lN (kX ?_));have hkn:k=l.length:=by omega
  rw[hkn] at hLv hter
  have hvl:cu sm l at_=L:=by unfold cu;rw[if_pos hter];exact (ir (by rw[eM,hLl]) hLv).symm
  obtain ⟨_,hs,sg13,lo14,bc15⟩:=hs.pub 0;replace hs:=(hs.to [⟨b1,46,[iV inp,qS A ((l).length) c,qS O ((os).length) d]⟩] []).aS (SlO.of_flat (sz:=5) (f:=qc) (d:=0) (b:=b4) (o:=0) (l:=L) (fun _=>rfl) sg13);exact hs.ret [] (.tuple #[qS (sB b4) ((l).length) ((l).length),iV 0]) (by rw[hter,hvl,hLl];exact ⟨_,_,rfl,nR _,hs.f.1⟩)
 have zi:=oT zb;refine lB 23 zb (af (cI (cK (cQ (kZ (ab hs [.m 24 22] (lX 25 A ((l).length) c 9 (k:Nat) k ((hs.f.r.2.1).ok oM) ?_)))))));refine lH 26 (sX (l.getD k ac)) hs ((hs.f.r.2.1).el k oM) (lA 10 144 ([iV 0,iV 0,iV 0,iV 0,qF,uV 0,eS,uV 0,eS]) hs (fun za _ zq hs=>lL hs [.m 9 24] (lP 0 0 (sC (l.getD k ac)) hs (fun _ hs=>af (aD ?_)))));have fk:=hF k oM;obtain ⟨f0,f1,f2,f3,f4,f5,f6⟩:=fk
 dsimp only[ef] at f1 f2
 have hac:=aG (l.getD k ac).op;refine lL hs [.v 27 (pB za),.o 28 (iV ((l.getD k ac).op)) 0 0 1] ?_;cases zc:(((l.getD k ac).op:Int) == (2:Int))
 ·
  have zj:=aj zc;refine lB 29 zc (am (cK (cQ ?_)));have hsr:=hs;refine jL 12 [⟨10,11,.cells (List.toArray [qF,uV 0,eS,uV 0,eS]) 39 (0,0)⟩,⟨11,12,.cells (List.toArray [qF,uV 0,eS,uV 0,eS]) 39 (0,0)⟩] [] mixed hs (bC (eW kR (fun _ _=>by kernel_rfl)) (bC (eW kR (fun _ _=>by kernel_rfl)) aq)) (eV 0 38 (qS (sB b4) ((l).length) ((l).length)) (eV 1 39 (qP za 1) (eO 2 40 [(0,1,1)] (iV ((l.getD k ac).a)) hs (eX 3 41 (sB b4) ((l).length) ((l).length) 5 ((l.getD k ac).a) ((l.getD k ac).a.toNat) rfl (I7 4 42 1 L qc 5 0 ((l.getD k ac).a.toNat) (qv ((L).getD ((l.getD k ac).a.toNat) 0)) hsr hs oM (eV 5 43 (qS (sB b4) ((l).length) ((l).length)) (eV 6 44 (qP za 2) (iK 7 45 [(0,2,1)] (iV ((l.getD k ac).b)) hsr hs (eX 8 46 (sB b4) ((l).length) ((l).length) 5 ((l.getD k ac).b) ((l.getD k ac).b.toNat) rfl (I7 9 47 1 L qc 5 0 ((l.getD k ac).b.toNat) (qv ((L).getD ((l.getD k ac).b.toNat) 0)) hsr hs oM (BT hsr hs 39 [qF,uV 0,eS,uV 0,eS] 39 [qF,uV 0,eS,uV 0,eS] (fun _ _ zl zm hz26 hz27 hs=>tP 12 0 0 (qc ((L).getD ((l.getD k ac).a.toNat) 0)) hs (fun _ hs=>?_) (hz:=gd hz26)))))))))))));refine tP 13 1 0 (qc ((L).getD ((l.getD k ac).b.toNat) 0)) hs (fun _ hs=>?_) (hz:=gd hz27);refine sw (lL hs [.o 49 (sX (l.getD k ac)) 2 0 9,.o 50 (qv ((L).getD ((l.getD k ac).a.toNat) 0)) 0 0 5,.o 51 (qv ((L).getD ((l.getD k ac).b.toNat) 0)) 1 0 5] (ah 52 hs (DU (l.getD k ac) (L.getD (l.getD k ac).a.toNat 0) (L.getD (l.getD k ac).b.toNat 0) 1000000 oM (hLb _) (hLb _) (hq k) oM oM oM _ _ hs.g hs.f.1) (fun _ _ hs=>lL hs [.m 48 52,.v 53 (qv (oI (l.getD k ac).op (l.getD k ac).n (l.getD k ac).q (L.getD (l.getD k ac).a.toNat 0) (L.getD (l.getD k ac).b.toNat 0))),.v 54 (.bool (decide (ox (l.getD k ac).op (l.getD k ac).n (L.getD (l.getD k ac).a.toNat 0) (L.getD (l.getD k ac).b.toNat 0))))] (lA 13 39 ([qF,uV 0,eS,uV 0,eS]) hs (fun zd _ zr hs=>lP 0 0 (qc (oI (l.getD k ac).op (l.getD k ac).n (l.getD k ac).q (L.getD (l.getD k ac).a.toNat 0) (L.getD (l.getD k ac).b.toNat 0))) hs (fun _ hs=>lL hs [.m 14 54] (af (ab hs [.m 55 14] ?_))))))));cases zf:(!(decide (ox (l.getD k ac).op (l.getD k ac).n (L.getD (l.getD k ac).a.toNat 0) (L.getD (l.getD k ac).b.toNat 0))))
  ·
   refine lB 56 zf (am (cK (cQ (aD ?_))));have hok_:ox (l.getD k ac).op (l.getD k ac).n (L.getD (l.getD k ac).a.toNat 0) (L.getD (l.getD k ac).b.toNat 0):=by simpa using ‹(!decide (ox (l.getD k ac).op (l.getD k ac).n (L.getD (l.getD k ac).a.toNat 0) (L.getD (l.getD k ac).b.toNat 0)))=false›
   rcases HH (sb) with ze|ze
   ·
    refine lB 57 ze (lL hs [.m 58 57] (lG 59 ?_));refine lG 60 (lG 61 (lG 62 (lL hs [.v 63 qF] (lN (bD [(1,qS X at_.length cX),(2,.bool sb),(8,qS (sB b4) ((l).length) ((l).length)),(20,qS A ((l).length) c),(21,nV ((l).length)),(22,nV k),(9,nV k),(13,pB zd),(63,qF)] ?_)))));refine dK (cK (kQ ?_));have hnk_:¬(sm=true∧mC (l.getD k ac).op (L.getD (l.getD k ac).a.toNat 0) (L.getD (l.getD k ac).b.toNat 0)):=by first|exact fun h_=>absurd h_.2 (oF ‹decide (mC (l.getD k ac).op (L.getD (l.getD k ac).a.toNat 0) (L.getD (l.getD k ac).b.toNat 0))=false›)|exact fun h_=>absurd h_.1 (by rw[←hsb,‹sb=false›];decide)
    refine lL hs [.m 64 8,.m 65 9,.o 66 (qv (oI (l.getD k ac).op (l.getD k ac).n (l.getD k ac).q (L.getD (l.getD k ac).a.toNat 0) (L.getD (l.getD k ac).b.toNat 0))) 0 0 5] (lX 67 (sB b4) ((l).length) ((l).length) 5 (k:Nat) k rfl ?_);refine lW 4 L qc 5 k (oI (l.getD k ac).op (l.getD k ac).n (l.getD k ac).q (L.getD (l.getD k ac).a.toNat 0) (L.getD (l.getD k ac).b.toNat 0)) hs oM (fun _ hs=>?_);have zn:((L).set k (oI (l.getD k ac).op (l.getD k ac).n (l.getD k ac).q (L.getD (l.getD k ac).a.toNat 0) (L.getD (l.getD k ac).b.toNat 0))).length=((l).length):=by rw[List.length_set];exact hLl
    replace hs:=hs.to [⟨zd,39,qc (oI (l.getD k ac).op (l.getD k ac).n (l.getD k ac).q (L.getD (l.getD k ac).a.toNat 0) (L.getD (l.getD k ac).b.toNat 0))⟩,⟨zl,39,qc ((L).getD ((l.getD k ac).a.toNat) 0)⟩,⟨zm,39,qc ((L).getD ((l.getD k ac).b.toNat) 0)⟩,⟨za,144,sC (l.getD k ac)⟩,⟨b4,39,((L).set k (oI (l.getD k ac).op (l.getD k ac).n (l.getD k ac).q (L.getD (l.getD k ac).a.toNat 0) (L.getD (l.getD k ac).b.toNat 0))).flatMap qc⟩,⟨b1,46,[iV inp,qS A ((l).length) c,qS O ((os).length) d]⟩] [];refine lN (kQ (bw 68 ((k:Nat)+1) (k+1) ?_));refine lL hs [.m 22 68] (lD ?_);intro a_ ka;replace hs:=hs.drop 4 0;refine ⟨_,_,?_,⟨k+1,(L).set k (oI (l.getD k ac).op (l.getD k ac).n (l.getD k ac).q (L.getD (l.getD k ac).a.toNat 0) (L.getD (l.getD k ac).b.toNat 0)),zr,rfl,rfl,hs.to _ _,oM,zn,(ml oM hLv (by unfold pH oI;rw[if_neg (show ¬(l.getD k ac).op=2 by omega),if_pos hok_])),(jY hter hLv (xy hok_ hnk_))⟩,ka.to _ kR⟩
    omega
   refine lB 57 ze (lL hs [.m 58 57,.o 59 (sX (l.getD k ac)) 3 0 9,.o 60 (qv ((L).getD ((l.getD k ac).a.toNat) 0)) 1 0 5,.o 61 (qv ((L).getD ((l.getD k ac).b.toNat) 0)) 2 0 5] (ah 62 hs (Bl (l.getD k ac) (L.getD (l.getD k ac).a.toNat 0) (L.getD (l.getD k ac).b.toNat 0) 1000000 oM (hLb _) (hLb _) _ _ hs.g) (fun _ zs hs=>?_)));cases zg:(decide (mC (l.getD k ac).op (L.getD (l.getD k ac).a.toNat 0) (L.getD (l.getD k ac).b.toNat 0)))
   ·
    have zk:=oF zg;refine lL hs [.v 63 qF] (lN (bD [(1,qS X at_.length cX),(2,.bool sb),(8,qS (sB b4) ((l).length) ((l).length)),(20,qS A ((l).length) c),(21,nV ((l).length)),(22,nV k),(9,nV k),(13,pB zd),(63,qF)] ?_));refine dK (cK (kQ ?_));have hnk_:¬(sm=true∧mC (l.getD k ac).op (L.getD (l.getD k ac).a.toNat 0) (L.getD (l.getD k ac).b.toNat 0)):=by first|exact fun h_=>absurd h_.2 (oF ‹decide (mC (l.getD k ac).op (L.getD (l.getD k ac).a.toNat 0) (L.getD (l.getD k ac).b.toNat 0))=false›)|exact fun h_=>absurd h_.1 (by rw[←hsb,‹sb=false›];decide)
    refine lL hs [.m 64 8,.m 65 9,.o 66 (qv (oI (l.getD k ac).op (l.getD k ac).n (l.getD k ac).q (L.getD (l.getD k ac).a.toNat 0) (L.getD (l.getD k ac).b.toNat 0))) 0 0 5] (lX 67 (sB b4) ((l).length) ((l).length) 5 (k:Nat) k rfl ?_);refine lW 4 L qc 5 k (oI (l.getD k ac).op (l.getD k ac).n (l.getD k ac).q (L.getD (l.getD k ac).a.toNat 0) (L.getD (l.getD k ac).b.toNat 0)) hs oM (fun _ hs=>?_);have zo:((L).set k (oI (l.getD k ac).op (l.getD k ac).n (l.getD k ac).q (L.getD (l.getD k ac).a.toNat 0) (L.getD (l.getD k ac).b.toNat 0))).length=((l).length):=by rw[List.length_set];exact hLl
    replace hs:=hs.to [⟨zd,39,qc (oI (l.getD k ac).op (l.getD k ac).n (l.getD k ac).q (L.getD (l.getD k ac).a.toNat 0) (L.getD (l.getD k ac).b.toNat 0))⟩,⟨zl,39,qc ((L).getD ((l.getD k ac).a.toNat) 0)⟩,⟨zm,39,qc ((L).getD ((l.getD k ac).b.toNat) 0)⟩,⟨za,144,sC (l.getD k ac)⟩,⟨b4,39,((L).set k (oI (l.getD k ac).op (l.getD k ac).n (l.getD k ac).q (L.getD (l.getD k ac).a.toNat 0) (L.getD (l.getD k ac).b.toNat 0))).flatMap qc⟩,⟨b1,46,[iV inp,qS A ((l).length) c,qS O ((os).length) d]⟩] [];refine lN (kQ (bw 68 ((k:Nat)+1) (k+1) ?_));refine lL hs [.m 22 68] (lD ?_);intro a_ ka;replace hs:=hs.drop 4 0;refine ⟨_,_,?_,⟨k+1,(L).set k (oI (l.getD k ac).op (l.getD k ac).n (l.getD k ac).q (L.getD (l.getD k ac).a.toNat 0) (L.getD (l.getD k ac).b.toNat 0)),zs,rfl,rfl,hs.to _ _,oM,zo,(ml oM hLv (by unfold pH oI;rw[if_neg (show ¬(l.getD k ac).op=2 by omega),if_pos hok_])),(jY hter hLv (xy hok_ hnk_))⟩,ka.to _ kR⟩
    omega
   have zk:=oT zg;refine lL hs [.v 63 qT] (lN (bD [(1,qS X at_.length cX),(2,.bool sb),(8,qS (sB b4) ((l).length) ((l).length)),(20,qS A ((l).length) c),(21,nV ((l).length)),(22,nV k),(9,nV k),(13,pB zd),(63,qT)] ?_));refine cI (aD ?_);have hsm_:sm=true:=by rw[←hsb];assumption
   have hkn_:mC (l.getD k ac).op (L.getD (l.getD k ac).a.toNat 0) (L.getD (l.getD k ac).b.toNat 0):=oT ‹decide (mC (l.getD k ac).op (L.getD (l.getD k ac).a.toNat 0) (L.getD (l.getD k ac).b.toNat 0))=true›;refine lL hs [.v 6 (sZ),.v 7 (iV 7)] (lN (kX ?_));have hend:bW sm l at_ l.length=7:=l9 hter oM hLv (B1 oM hok_ hsm_ hkn_) kD;have hvl:cu sm l at_=[]:=by unfold cu;rw[if_neg (by rw[hend];decide)]
   exact hs.ret [] (.tuple #[sZ,iV 7]) (by rw[hend,hvl];exact ⟨none,0,rfl,nR _,SlO.nil⟩)
  refine lB 56 zf (ar (aD ?_));have hnok_:¬ox (l.getD k ac).op (l.getD k ac).n (L.getD (l.getD k ac).a.toNat 0) (L.getD (l.getD k ac).b.toNat 0):=by simpa using ‹(!decide (ox (l.getD k ac).op (l.getD k ac).n (L.getD (l.getD k ac).a.toNat 0) (L.getD (l.getD k ac).b.toNat 0)))=true›
  refine lL hs [.v 6 (sZ),.v 7 (iV 6)] (lN (kX ?_));have hend:bW sm l at_ l.length=6:=l9 hter oM hLv (xB oM hnok_) kD;have hvl:cu sm l at_=[]:=by unfold cu;rw[if_neg (by rw[hend];decide)]
  exact hs.ret [] (.tuple #[sZ,iV 6]) (by rw[hend,hvl];exact ⟨none,0,rfl,nR _,SlO.nil⟩)
 have zj:=eq_of_beq zc;refine lB 29 zc (ar (ab hs [.m 30 8,.m 31 9,.m 32 1,.v 33 (qP za 3),.o 34 (iV ((l.getD k ac).n)) 0 3 1] (lX 35 X at_.length cX 5 ((l.getD k ac).n) ((l.getD k ac).n.toNat) ((hs.f.2.1).ok oM) ?_)));refine lH 36 (qv (at_.getD ((l.getD k ac).n.toNat) 0)) hs ((hs.f.2.1).el ((l.getD k ac).n.toNat) oM) (lX 37 (sB b4) ((l).length) ((l).length) 5 (k:Nat) k rfl (lW 1 L qc 5 k (at_.getD ((l.getD k ac).n.toNat) 0) hs oM (fun _ hs=>?_)));have zp:((L).set k (at_.getD ((l.getD k ac).n.toNat) 0)).length=((l).length):=by rw[List.length_set];exact hLl
 replace hs:=hs.to [⟨za,144,sC (l.getD k ac)⟩,⟨b4,39,((L).set k (at_.getD ((l.getD k ac).n.toNat) 0)).flatMap qc⟩,⟨b1,46,[iV inp,qS A ((l).length) c,qS O ((os).length) d]⟩] [];refine lN (CG.exit ?_)
 show CG _ _ _ _ _ _ _ _
 refine kQ (bw 68 ((k:Nat)+1) (k+1) ?_);refine lL hs [.m 22 68] (lD ?_);intro a_ ka;replace hs:=hs.drop 1 0;refine ⟨_,_,?_,⟨k+1,(L).set k (at_.getD ((l.getD k ac).n.toNat) 0),zq,rfl,rfl,hs.to _ _,oM,zp,(ml oM hLv (by unfold pH;rw[if_pos (show (l.getD k ac).op=2 by omega)])),(jY hter hLv (FK oM))⟩,ka.to _ kR⟩
 omega
theorem Ds (inp:Int)(A:Option Addr)(c:Nat)(l:List Stp)(O:Option Addr)(d:Nat)(os:List Int)(vs:List Rat)(V:Option Addr)(cV:Nat)(ho:os.length≤1000)(hO2:i9 vs.length os)(w:World)(h:Hp)(g:G w h)(hA:SlO 9 fW ac h A l)(hO:Si O os h)(hV:Sq V vs h):CR 83 #[.agg #[iV inp,.slice A ((l).length) c,.slice O ((os).length) d],.slice V vs.length cV] w h (fun v h1=>∃ A c,v=.slice A (ei vs os).length c∧(ei vs os).length≤c∧Sq A (ei vs os) h1):=by
 have hs:=((((sS g).aS hA).aS hO).aS hV);refine go Tryz.func83 [(0,.agg #[iV inp,qS A ((l).length) c,qS O ((os).length) d]),(1,qS V vs.length cV)] rfl (aD (lA 2 46 ([iV inp,qS A ((l).length) c,qS O ((os).length) d]) hs (fun b1 w2 h3 hs=>lL hs [.v 4 (sZ)] (ay (lL hs [.v 8 (qP b1 2),.o 9 (qS O ((os).length) d) 0 2 1,.v 10 (nV ((os).length))] (lK 11 39 ((os).length) 5 56 (.agg #[qF,uV 0,eS,uV 0,eS]) qc 0 hs (fun b4 w5 h6 hs=>?_)))))));have hl7:(List.replicate ((os).length) 0).length=((os).length):=by simp
 refine lL hs [.m 5 11] (af (ab hs [.v 12 (qP b1 2),.o 13 (qS O ((os).length) d) 1 2 1,.v 14 (nV ((os).length)),.v 15 (iV 0)] (bd ?_)));refine bD _ (CG.loop (fun μ_ Γ w_=>∃ (k:Nat) (R:List Rat) (h_:Hp),μ_=os.length-k∧Γ=[(1,qS V vs.length cV),(4,sZ),(5,qS (sB b4) ((os).length) ((os).length)),(13,qS O ((os).length) d),(14,nV ((os).length)),(15,nV k)]∧SS w h w_ h_ [⟨b4,39,(R).flatMap qc⟩,⟨b1,46,[iV inp,qS A ((l).length) c,qS O ((os).length) d]⟩] [] [Sq V vs,Si O os,fun h_=>SlO 9 fW ac h_ A l]∧k≤os.length∧R.length=os.length∧(∀ j,j<k→R.getD j 0=vs.getD (os.getD j 0).toNat 0)) _ ⟨0,List.replicate os.length (0:Rat),h6,rfl,rfl,hs.to _ _,Nat.zero_le _,(by simp),fun j hj=>absurd hj (Nat.not_lt_zero j)⟩ ?_);rintro _ _ w8 ⟨k,R,h9,hm10,rfl,hs,hk,hRl,hRv⟩;have hok:=fun h0=>hO2 k h0
 refine aD ?_;cases za:(decide ((k:Int)<(((os).length:Nat):Int)))
 ·
  have zb:=oF za;refine lB 16 za (af (dK (CG.exit ?_)))
  show CG _ _ _ _ _ _ _ _
  refine ab hs [.m 28 5,.m 4 28] (lN (kX ?_));have hkn:k=os.length:=by omega
  have hpl:ei vs os=R:=(Co oM (fun j hj=>hRv j oM)).symm;obtain ⟨_,hs,sg13,lo14,bc15⟩:=hs.pub 0;replace hs:=(hs.to [⟨b1,46,[iV inp,qS A ((l).length) c,qS O ((os).length) d]⟩] []).aS (SlO.of_flat (sz:=5) (f:=qc) (d:=0) (b:=b4) (o:=0) (l:=R) (fun _=>rfl) sg13);exact hs.ret [] (qS (sB b4) ((os).length) ((os).length)) (by rw[hpl,hRl];exact ⟨_,_,rfl,nR _,hs.f.1⟩)
 have zb:=oT za;refine lB 16 za (af (cI (cK (cQ (kZ (ab hs [.m 17 15] (lX 18 O ((os).length) d 1 (k:Nat) k ((hs.f.2.1).ok oM) ?_)))))));refine lH 19 (iV (os.getD k 0)) hs ((hs.f.2.1).el k oM) (lL hs [.m 6 17,.m 7 19] (lN (kQ (lL hs [.m 20 5,.m 21 6,.m 22 1,.m 23 7] (lX 24 V vs.length cV 5 (os.getD k 0) ((os.getD k 0).toNat) ((hs.f.1).ok oM) ?_)))));refine lH 25 (qv (vs.getD ((os.getD k 0).toNat) 0)) hs ((hs.f.1).el ((os.getD k 0).toNat) oM) (lX 26 (sB b4) ((os).length) ((os).length) 5 (k:Nat) k rfl (lW 0 R qc 5 k (vs.getD ((os.getD k 0).toNat) 0) hs oM (fun _ hs=>?_)));have zc:((R).set k (vs.getD ((os.getD k 0).toNat) 0)).length=((os).length):=by rw[List.length_set];exact hRl
 replace hs:=hs.to [⟨b4,39,((R).set k (vs.getD ((os.getD k 0).toNat) 0)).flatMap qc⟩,⟨b1,46,[iV inp,qS A ((l).length) c,qS O ((os).length) d]⟩] [];refine lN (kQ (bw 27 ((k:Nat)+1) (k+1) ?_));refine lL hs [.m 15 27] (lD ?_);intro a_ ka;refine ⟨_,_,?_,⟨k+1,(R).set k (vs.getD ((os.getD k 0).toNat) 0),h9,rfl,rfl,hs.to _ _,oM,zc,(fun j hj=>by rw[cJ oM];split;(rename_i e;rw[e]);exact hRv j oM)⟩,ka.to _ kR⟩
 omega
theorem IR (inp:Int)(A:Option Addr)(c:Nat)(l:List Stp)(O:Option Addr)(d:Nat)(os:List Int)(at_:List Rat)(X:Option Addr)(cX:Nat)(hl:l.length≤65536)(ho:os.length≤300)(hat2:at_.length≤1000000)(hq:∀ i,LQ 1 (l.getD i ac).q)(hB:bv inp l os=0→(at_.length:Int)=inp→∀ k,k≤l.length→bW false l at_ k=0→∀ j,LQ 1000000 ((aZ l at_ k).getD j 0))(w:World)(h:Hp)(g:G w h)(hA:SlO 9 fW ac h A l)(hO:Si O os h)(hX:Sq X at_ h)(tb:Tab h):CR 40 #[.agg #[iV inp,.slice A ((l).length) c,.slice O ((os).length) d],.slice X at_.length cX] w h (fun v h1=>∃ A c,v=.tuple #[.slice A (gt false inp l os at_).length c,iV (dW false inp l os at_)]∧(gt false inp l os at_).length≤c∧Sq A (gt false inp l os at_) h1):=by
 have hs:=(((((sS g).aS hA).aS hO).aS hX).aB tb);refine go Tryz.func40 [(0,.agg #[iV inp,qS A ((l).length) c,qS O ((os).length) d]),(1,qS X at_.length cX)] rfl (aD (lA 2 46 ([iV inp,qS A ((l).length) c,qS O ((os).length) d]) hs (fun b1 w2 h3 hs=>lL hs [.v 4 (sZ),.v 5 (iV 0)] (af (ab hs [.o 8 (.agg #[iV inp,qS A ((l).length) c,qS O ((os).length) d]) 0 0 3] (ah 9 hs (l6 inp A c l O d os oM oM (fun i _=>hq i) _ _ hs.g hs.f.r.2.1 hs.f.r.1) (fun w4 h5 hs=>?_)))))));cases hb6:((bv inp l os:Int) != (0:Int))
 ·
  have phb6:=aJ hb6;refine lB 10 hb6 (am (cK (cQ (ab hs [.m 11 1,.v 12 (nV at_.length),.v 13 (pB b1),.o 14 (iV inp) 0 0 1] ?_))));cases hb7:((at_.length:Int) != (inp:Int))
  ·
   have phb7:=aJ hb7;refine lB 15 hb7 (am (cK (ab hs [.o 17 (.agg #[iV inp,qS A ((l).length) c,qS O ((os).length) d]) 0 0 3,.m 18 1] ?_)));have hck:bv inp l os=0:=by omega
   refine lC 19 hs (re false false rfl inp A c l O d os at_ X cX (eD hck).1 oM oM hq (hB hck oM) _ _ hs.g hs.f.r.2.1 hs.f.r.1 hs.f.2.1 hs.f.1) ?_;rintro _ w8 h9 hs ⟨Av,cv,rfl,hcv,hAv⟩;replace hs:=hs.aS hAv;refine lL hs [.m 16 19,.v 20 (qS Av ((cu false l at_).length) cv),.v 21 (iV (bW false l at_ l.length)),.m 6 20,.m 7 21] (af (ab hs [.m 22 7] ?_));cases za:((bW false l at_ l.length:Int) != (0:Int))
   ·
    have zb:=aJ za;refine lB 23 za (am (cK (ab hs [.o 25 (.agg #[iV inp,qS A ((l).length) c,qS O ((os).length) d]) 0 0 3,.m 26 6] ?_)));have hter:bW false l at_ l.length=0:=by omega
    have hvl:cu false l at_=aZ l at_ l.length:=if_pos hter;refine lC 27 hs (Ds inp A c l O d os (cu false l at_) Av cv oM (by rw[hvl,eM];exact (eD hck).2.1) _ _ hs.g hs.f.q.1 hs.f.r.2.1 hs.f.1) ?_;rintro _ _ _ hs ⟨Ao,co,rfl,hco,hAo⟩;replace hs:=hs.aS hAo;exact lL hs [.m 4 27,.v 5 (iV 0)] (ae hs [] (.tuple #[qS Ao ((ei (cu false l at_) os).length) co,iV 0]) (by obtain ⟨e1,e2⟩:=GT (sm:=false) (inp:=inp) (l:=l) (os:=os) (at_:=at_) hck oM hter;rw[e1,e2];exact ⟨_,_,rfl,hco,hs.f.1⟩))
   have zb:=aU za;exact lB 23 za (ar (ab hs [.m 24 7,.v 4 (sZ),.m 5 24] (ae hs [] (.tuple #[sZ,iV (bW false l at_ l.length)]) (by obtain ⟨e1,e2⟩:=GB (sm:=false) (inp:=inp) (l:=l) (os:=os) (at_:=at_) hck oM oM;rw[e1,e2];exact ⟨none,0,rfl,nR _,SlO.nil⟩))))
  have phb7:=aU hb7;exact lB 15 hb7 (ar (ab hs [.v 4 (sZ),.v 5 (iV 5)] (ae hs [] (.tuple #[sZ,iV 5]) (by obtain ⟨e1,e2⟩:=HW (sm:=false) (inp:=inp) (l:=l) (os:=os) (at_:=at_) oM oM;rw[e1,e2];exact ⟨none,0,rfl,nR _,SlO.nil⟩))))
 have phb6:=aU hb6;exact lB 10 hb6 (ar (ab hs [.v 4 (sZ),.v 5 (iV 1)] (ae hs [] (.tuple #[sZ,iV 1]) (by obtain ⟨e1,e2⟩:=Hb (sm:=false) (inp:=inp) (l:=l) (os:=os) (at_:=at_) oM;rw[e1,e2];exact ⟨none,0,rfl,nR _,SlO.nil⟩))))
theorem dl {c:Prop}[Decidable c]{a b:Rat}{k:Nat}(ha:c→LQ k a)(hb:¬c→LQ k b):LQ k (if c then a else b):=by
 by_cases h:c
 ·rw[if_pos h];exact ha h
 ·rw[if_neg h];exact hb h
theorem iM (l:List Stp)(at_:List Rat)(k:Nat):∀ n,k≤n→∀ j,j<k→(aZ l at_ n).getD j 0=(aZ l at_ k).getD j 0:=fun n hn=>by
  induction hn with
  | refl=>intro j _;rfl
  | @step n hn ih =>
    intro j hj;have hn':k≤n:=hn
    show (aZ l at_ n++[_]).getD j 0=_
    rw[bL,eM,if_pos oM];exact ih j hj
theorem uQ {l:List Stp}{at_ L:List Rat}(h:L=aZ l at_ l.length){k j:Nat}(hj:j<k)(hk:k≤l.length):L.getD j 0=(aZ l at_ k).getD j 0:=by rw[h];exact iM l at_ k _ hk j hj
theorem Cv {sm:Bool}{l:List Stp}{at_:List Rat}{n:Nat}(h:bW sm l at_ n=0):∀ k,k<n→gn sm (l.getD k ac) (aZ l at_ k)=0:=by
  induction n with
  | zero=>intro k hk;omega
  | succ n ih =>
    intro k hk
    have h2:bW sm l at_ n=0:=by
      refine Classical.byContradiction fun hn=>?_
      have:bW sm l at_ (n+1)=bW sm l at_ n:=lm hn 1;exact hn (by rw[←this];exact h)
    by_cases e:k=n
    · subst e
      have:bW sm l at_ (k+1)=gn sm (l.getD k ac) (aZ l at_ k):=by show (if _=0 then _ else _)=_;rw[if_pos h2]
      rw[←this];exact h
    · exact ih h2 k oM
theorem HK {inp:Int}{sm:Bool}{l:List Stp}{at_:List Rat}{k n:Nat}(h:bW sm l at_ n=0)(hk:k<n)(_:∀ k,k<l.length→Formed inp k (l.getD k ac)):(l.getD k ac).op≠2→ox (l.getD k ac).op (l.getD k ac).n ((aZ l at_ k).getD (l.getD k ac).a.toNat 0) ((aZ l at_ k).getD (l.getD k ac).b.toNat 0):=fun h2=>by
 have:=Cv h k hk;refine Classical.byContradiction fun hn=>?_
 rw[xB h2 hn] at this
 exact absurd this kD
theorem DG {l:List Stp}{at_ L:List Rat}{k:Nat}{s:Stp}(hL:L=aZ l at_ l.length)(ho:s.op≠2→ox s.op s.n ((aZ l at_ k).getD s.a.toNat 0) ((aZ l at_ k).getD s.b.toNat 0))(h2:s.op≠2)(hk:k≤l.length)(ha:s.op=6∨s.op=8→s.a.toNat<k)(hb:s.op=6→s.b.toNat<k)(_:True:=trivial) :
  (s.op=6→L.getD s.b.toNat 0≠0)∧(s.op=8→s.n<0→L.getD s.a.toNat 0≠0):=by
 obtain ⟨h6,h8⟩:=ho h2;refine ⟨fun e=>?_,fun e e2=>?_⟩
 ·rw[uQ hL (hb e) hk];exact h6 e
 ·rw[uQ hL (ha (.inr e)) hk];exact h8 e e2
theorem EH {D:List Rat}{k B:Nat}{x:Rat}(h:∀ j,LQ B (D.getD j 0))(hx:LQ B x)(j:Nat):LQ B ((D.set k x).getD j 0):=by
 by_cases hk:k<D.length
 ·rw[cJ hk];split
  ·exact hx
  ·exact h j
 ·rw[List.set_eq_of_length_le oM];exact h j
section
variable {inp:Int} {l:List Stp} {os:List Int} {at_ way:List Rat}
end
theorem pg {b d:List Rat}{a:Nat}{y:Rat}(ha:a<b.length):∀ n,dB (b.set a y) d n=dB b d n+(if a<n then (y-b.getD a 0)*d.getD a 0 else 0)
  | 0=>by show (0:Rat)=0+_;rw[if_neg (Nat.not_lt_zero a)];grind
  | n+1=>by
    show dB (b.set a y) d n+(b.set a y).getD n 0*d.getD n 0=(dB b d n+b.getD n 0*d.getD n 0)+_
    rw[pg ha n,cJ ha]
    rcases Nat.lt_trichotomy a n with h|h|h
    · rw[if_neg (by omega:¬n=a),if_pos h,if_pos oM];grind
    · subst h;rw[if_pos rfl,if_neg (Nat.lt_irrefl _),if_pos oM];grind
    · rw[if_neg oM,if_neg oM,if_neg oM];grind
theorem fJ {b d:List Rat}{a n:Nat}{y x:Rat}(ha:a<b.length)(hn:a<n)(hy:y=b.getD a 0+x):dB (b.set a y) d n=dB b d n+x*d.getD a 0:=by
 rw[pg ha,if_pos hn,hy];grind
theorem jy (l:List Stp)(at_ way:List Rat)(k:Nat):∀ n,k≤n→∀ j,j<k→(d7 l at_ way n).getD j 0=(d7 l at_ way k).getD j 0:=fun n hn=>by
  induction hn with
  | refl=>intro j _;rfl
  | @step n hn ih =>
    intro j hj;have hn':k≤n:=hn
    show (d7 l at_ way n++[_]).getD j 0=_
    rw[bL,jV,if_pos oM];exact ih j hj
section
variable {l:List Stp} {at_ way bar g:List Rat} {k:Nat}
theorem kw (hk:k<l.length)(ho:F5 k (l.getD k ac)):(d7 l at_ way l.length).getD k 0=n3 (l.getD k ac) way (aZ l at_ l.length) (d7 l at_ way l.length):=by
 rw[jy l at_ way (k+1) l.length oM k oM]
 show (d7 l at_ way k++[_]).getD k 0=_
 rw[bL,jV,if_neg (Nat.lt_irrefl k),if_pos rfl]
 unfold n3
 split
 ·rfl
 ·obtain ⟨o1,o2,o3,_⟩:=ho
  by_cases h:0<dD (l.getD k ac).op
  ·rw[if_pos h,if_pos h,←iM l at_ k l.length oM _ (o1 h),←iM l at_ k l.length oM _ (o3 h),←jy l at_ way k l.length oM _ (o1 h)]
   by_cases h2:1<dD (l.getD k ac).op
   ·rw[if_pos h2,if_pos h2,←jy l at_ way k l.length oM _ (o2 h2)]
   ·rw[if_neg h2,if_neg h2]
  ·rw[if_neg h,if_neg h,if_neg oM,if_neg oM]
def Bk (l:List Stp)(at_:List Rat)(inp:Nat)(T:List Rat→Rat)(k:Nat)(bar g:List Rat):Prop :=
  ∀ way,dB bar (d7 l at_ way l.length) k+dB g way inp=T way
section
variable {inp:Nat} {T:List Rat→Rat} (B:Bk l at_ inp T (k+1) bar g) (hk:k<l.length)
include B
theorem Bk.skip (h0:bar.getD k 0=0):Bk l at_ inp T k bar g:=fun way=>by
 have:=B way
 change dB bar _ k+bar.getD k 0*_+_=_ at this
 rw[h0] at this;rw[←this];grind
theorem Bk.step {x:Rat}(d:∀ way,(d7 l at_ way l.length).getD k 0=n3 (l.getD k ac) way (aZ l at_ l.length) (d7 l at_ way l.length))(hx:x=bar.getD k 0):∀ way,dB bar (d7 l at_ way l.length) k+x*n3 (l.getD k ac) way (aZ l at_ l.length) (d7 l at_ way l.length)+dB g way inp=T way:=fun way=>by
 have:=B way
 change dB bar _ k+bar.getD k 0*_+_=_ at this
 rw[d way] at this
 rw[hx];exact this
include hk
theorem Bk.name (ho:F5 k (l.getD k ac))(h2:(l.getD k ac).op=2)(hg:(l.getD k ac).n.toNat<g.length)(hi:(l.getD k ac).n.toNat<inp):Bk l at_ inp T k bar (g.set (l.getD k ac).n.toNat (g.getD (l.getD k ac).n.toNat 0+bar.getD k 0)):=fun way=>by
 have:=B.step (fun way=>kw hk ho) rfl way
 unfold n3 at this
 rw[if_pos h2] at this
 rw[fJ hg hi rfl,←this];grind
theorem Bk.num (ho:F5 k (l.getD k ac))(h2:(l.getD k ac).op≠2)(ha:¬0<dD (l.getD k ac).op):Bk l at_ inp T k bar g:=fun way=>by
 have:=B.step (fun way=>kw hk ho) rfl way
 unfold n3 at this
 rw[if_neg h2,if_neg ha,if_neg oM] at this
 rw[←this];grind
theorem Bk.one {x:Rat}(ho:F5 k (l.getD k ac))(h2:(l.getD k ac).op≠2)(ha:0<dD (l.getD k ac).op)(hb:¬1<dD (l.getD k ac).op)(hl:k≤bar.length)
  (hx:x=nO (l.getD k ac).op (l.getD k ac).n ((aZ l at_ l.length).getD (l.getD k ac).a.toNat 0) ((aZ l at_ l.length).getD (l.getD k ac).b.toNat 0)) :
  Bk l at_ inp T k (bar.set (l.getD k ac).a.toNat (bar.getD (l.getD k ac).a.toNat 0+bar.getD k 0*x)) g:=fun way=>by
 have:=B.step (fun way=>kw hk ho) rfl way;have oa:=ho.1 ha
 unfold n3 at this
 rw[if_neg h2,if_pos ha,if_neg hb,←hx] at this
 rw[fJ oM oa rfl,←this];grind
theorem Bk.two {x y:Rat}(ho:F5 k (l.getD k ac))(h2:(l.getD k ac).op≠2)(hb:1<dD (l.getD k ac).op)(hl:k<bar.length)
  (hx:x=nO (l.getD k ac).op (l.getD k ac).n ((aZ l at_ l.length).getD (l.getD k ac).a.toNat 0) ((aZ l at_ l.length).getD (l.getD k ac).b.toNat 0))
  (hy:y=oL (l.getD k ac).op ((aZ l at_ l.length).getD (l.getD k ac).a.toNat 0) ((aZ l at_ l.length).getD (l.getD k ac).b.toNat 0)){b1:List Rat}
  (h1:b1=bar.set (l.getD k ac).a.toNat (bar.getD (l.getD k ac).a.toNat 0+bar.getD k 0*x)) :
  Bk l at_ inp T k (b1.set (l.getD k ac).b.toNat (b1.getD (l.getD k ac).b.toNat 0+b1.getD k 0*y)) g:=fun way=>by
 have:=B.step (fun way=>kw hk ho) rfl way;have oa:=ho.1 oM;have ob:=ho.2.1 hb
 unfold n3 at this
 rw[if_neg h2,if_pos oM,if_pos hb,←hx,←hy] at this
 have e:b1.getD k 0=bar.getD k 0:=by rw[h1,cJ oM,if_neg oM]
 rw[fJ (by rw[h1,List.length_set];omega) ob rfl,e,h1,fJ oM oa rfl,←this];grind
end
end
def qO (f:Nat→Nat)(a x:Nat):Nat→Nat:=fun j=>if j=a then f a+x else f j
def jo (wt f:Nat→Nat):Nat→Nat
  | 0=>0
  | k+1=>jo wt f k+f k*wt k
theorem iP (wt f:Nat→Nat)(a x:Nat):∀ k,jo wt (qO f a x) k=jo wt f k+(if a<k then x*wt a else 0)
  | 0=>by rw[if_neg (Nat.not_lt_zero a)];rfl
  | k+1=>by
    show jo wt (qO f a x) k+qO f a x k*wt k=jo wt f k+f k*wt k+_
    rw[iP wt f a x k];unfold qO
    rcases Nat.lt_trichotomy a k with h|h|h
    · rw[if_pos h,if_neg (by omega:¬k=a),if_pos oM];omega
    · subst h;rw[if_neg (Nat.lt_irrefl _),if_pos rfl,if_pos oM,Nat.add_mul];omega
    · rw[if_neg oM,if_neg oM,if_neg oM];omega
theorem nL (wt f:Nat→Nat):∀ k,(∀ j,j<k→1≤wt j)→∀ j,j<k→f j≤jo wt f k
  | k+1,hw,j,hj=>by
    show f j≤jo wt f k+f k*wt k
    by_cases e:j=k
    · subst e;have:=Nat.mul_le_mul_left (f j) (hw j hj);omega
    · have:=nL wt f k (fun i hi=>hw i oM) j oM;omega
def Wt (l:List Stp)(wt:Nat→Nat):Prop:=∀ k,k<l.length→1≤wt k∧(0<dD (l.getD k ac).op→wt (l.getD k ac).a.toNat≤wt k)∧(1<dD (l.getD k ac).op→wt (l.getD k ac).a.toNat+wt (l.getD k ac).b.toNat≤wt k)
def k7 (wt sg:Nat→Nat):Nat→Nat:=jo wt (fun k=>sg k+2)
def Bz (wt sg:Nat→Nat)(C:Nat)(k:Nat)(bar g:List Rat):Prop :=
  ∃ f:Nat→Nat,∃ E,(∀ j,LQ (f j) (bar.getD j 0))∧(∀ j,LQ E (g.getD j 0))∧E+jo wt f k+k7 wt sg k≤C
section
variable {l:List Stp} {bar g:List Rat} {wt sg:Nat→Nat} {C k:Nat}
theorem oc {f:Nat→Nat}{a x:Nat}{y:Rat}(h:∀ j,LQ (f j) (bar.getD j 0))(hy:LQ (f a+x) y)(j:Nat):LQ (qO f a x j) ((bar.set a y).getD j 0):=by
 unfold qO
 by_cases ha:a<bar.length
 ·rw[cJ ha]
  by_cases e:j=a
  ·rw[if_pos e,if_pos e];exact hy
  ·rw[if_neg e,if_neg e];exact h j
 ·rw[List.set_eq_of_length_le oM]
  by_cases e:j=a
  ·rw[if_pos e,e];exact (h a).mono oM
  ·rw[if_neg e];exact h j
theorem Bz.lb (Z:Bz wt sg C k bar g)(hw:∀ j,j<k→1≤wt j):∀ j,j<k→LQ C (bar.getD j 0):=fun j hj=>by
 obtain ⟨f,E,hf,hE,hC⟩:=Z;have:=nL wt f k hw j hj;exact (hf j).mono oM
theorem Bz.lg (Z:Bz wt sg C k bar g):∀ j,LQ C (g.getD j 0):=fun j=>by
 obtain ⟨f,E,hf,hE,hC⟩:=Z;exact (hE j).mono oM
theorem mQ (wt sg:Nat→Nat)(k:Nat):k7 wt sg (k+1)=k7 wt sg k+(sg k+2)*wt k:=rfl
theorem Bz.skip (Z:Bz wt sg C (k+1) bar g):Bz wt sg C k bar g:=by
 obtain ⟨f,E,hf,hE,hC⟩:=Z;rw[mQ] at hC
 change E+(jo wt f k+_)+_≤_ at hC
 exact ⟨f,E,hf,hE,by omega⟩
theorem Bz.mul (Z:Bz wt sg C (k+1) bar g)(hw:1≤wt k){x:Rat}(hx:LQ (sg k) x):LQ C (bar.getD k 0*x):=by
 obtain ⟨f,E,hf,hE,hC⟩:=Z;rw[mQ] at hC
 change E+(jo wt f k+f k*wt k)+_≤_ at hC
 have h1:=Nat.mul_le_mul_left (f k) hw;have h2:=Nat.mul_le_mul_left (sg k+2) hw;exact ((hf k).mul hx).mono oM
theorem Bz.name (Z:Bz wt sg C (k+1) bar g)(hw:1≤wt k)(n:Nat):Bz wt sg C k bar (g.set n (g.getD n 0+bar.getD k 0)):=by
 obtain ⟨f,E,hf,hE,hC⟩:=Z;rw[mQ] at hC
 change E+(jo wt f k+f k*wt k)+_≤_ at hC
 have h1:=Nat.mul_le_mul_left (f k) hw;have h2:=Nat.mul_le_mul_left (sg k+2) hw;exact ⟨f,E+f k+1,hf,EH (fun j=>(hE j).mono oM) ((hE n).add (hf k)),by omega⟩
theorem Bz.one (Z:Bz wt sg C (k+1) bar g){a:Nat}(ha:wt a≤wt k)(hak:a<k){x:Rat}(hx:LQ (sg k) x):Bz wt sg C k (bar.set a (bar.getD a 0+bar.getD k 0*x)) g:=by
 obtain ⟨f,E,hf,hE,hC⟩:=Z;rw[mQ] at hC
 change E+(jo wt f k+f k*wt k)+_≤_ at hC
 refine ⟨qO f a (f k+sg k+1),E,oc hf (((hf a).add ((hf k).mul hx)).mono oM),hE,?_⟩;rw[iP,if_pos hak];have h1:=Nat.mul_le_mul_left (f k+sg k+1) ha;rw[show (f k+sg k+1)*wt k=f k*wt k+(sg k+1)*wt k by rw[show f k+sg k+1=f k+(sg k+1) by omega,Nat.add_mul]] at h1
 rw[Nat.add_mul (sg k) 2] at hC
 rw[Nat.add_mul (sg k) 1] at h1
 omega
theorem Bz.two (Z:Bz wt sg C (k+1) bar g){a b:Nat}(hw:1≤wt k)(hws:∀ j,j<k→1≤wt j)(ha:wt a+wt b≤wt k)(hak:a<k)(hbk:b<k)(hl:k<bar.length){x y:Rat}(hx:LQ (sg k) x)(hy:LQ (sg k) y){b1:List Rat}(h1:b1=bar.set a (bar.getD a 0+bar.getD k 0*x)) :
  LQ C (b1.getD k 0)∧LQ C (b1.getD b 0)∧LQ C (b1.getD k 0*y)∧Bz wt sg C k (b1.set b (b1.getD b 0+b1.getD k 0*y)) g:=by
 have e:b1.getD k 0=bar.getD k 0:=by rw[h1,cJ oM,if_neg oM]
 have z1:=Z.mul hw hy
 have z0:LQ C (bar.getD k 0):=by
  obtain ⟨f,E,hf,hE,hC⟩:=Z
  change E+(jo wt f k+f k*wt k)+_≤_ at hC
  have h1:=Nat.mul_le_mul_left (f k) hw;exact (hf k).mono oM
 rw[e];obtain ⟨f,E,hf,hE,hC⟩:=Z;rw[mQ] at hC
 change E+(jo wt f k+f k*wt k)+_≤_ at hC
 have hf1:∀ j,LQ (qO f a (f k+sg k+1) j) (b1.getD j 0):=by
  rw[h1];exact oc hf (((hf a).add ((hf k).mul hx)).mono oM)
 have hp:jo wt (qO (qO f a (f k+sg k+1)) b (f k+sg k+1)) k≤jo wt f k+(f k*wt k+(sg k+1)*wt k):=by
  rw[iP,iP,if_pos hak,if_pos hbk];have h2:=Nat.mul_le_mul_left (f k+sg k+1) ha;rw[Nat.mul_add,show (f k+sg k+1)*wt k=f k*wt k+(sg k+1)*wt k by rw[show f k+sg k+1=f k+(sg k+1) by omega,Nat.add_mul]] at h2
  omega
 have hp1:qO f a (f k+sg k+1) b≤jo wt f k+(f k*wt k+(sg k+1)*wt k):=by
  have h3:=nL wt (qO f a (f k+sg k+1)) k hws b hbk;rw[iP,if_pos hak] at h3
  have h2:=Nat.mul_le_mul_left (f k+sg k+1) (show wt a≤wt k by omega);rw[show (f k+sg k+1)*wt k=f k*wt k+(sg k+1)*wt k by rw[show f k+sg k+1=f k+(sg k+1) by omega,Nat.add_mul]] at h2
  omega
 refine ⟨z0,(hf1 b).mono ?_,z1,qO (qO f a (f k+sg k+1)) b (f k+sg k+1),E,oc hf1 (((hf1 b).add ((hf k).mul hy)).mono oM),hE,?_⟩
 ·rw[Nat.add_mul (sg k) 2] at hC;rw[Nat.add_mul (sg k) 1] at hp1;omega
 ·rw[Nat.add_mul (sg k) 2] at hC;rw[Nat.add_mul (sg k) 1] at hp;omega
end
theorem Fn {c:Prop}[Decidable c]{a b:Rat}{k:Nat}(ha:c→LQ k a)(hb:¬c→LQ k b):LQ k (if c then a else b):=by
 by_cases h:c
 ·rw[if_pos h];exact ha h
 ·rw[if_neg h];exact hb h
section
variable {a b q:Rat} {op n:Int} {K M:Nat}
theorem Bn (ha:LQ K a)(hn:n.natAbs≤M):LQ (M*K+2) (dP a n):=by
 have h1:LQ 1 (((1:Int):Rat)):=LQ.lit (z:=1) kD;have e:=Nat.mul_le_mul_right K hn
 unfold dP
 exact Fn (fun _=>(gZ ha _).mono oM) fun _=>(h1.div (gZ ha _)).mono oM
theorem BX (hK:1≤K)(hM:2≤M)(hM2:M≤12)(ha:LQ K a)(hb:LQ K b)(hn:op=8→n.natAbs≤M):LQ ((M+1)*K+5) (nO op n a b):=by
 have h1:LQ 1 (((1:Int):Rat)):=LQ.lit (z:=1) kD;have h0:LQ ((M+1)*K+5) (0:Rat):=nh oM;have hs:=s7 a.num;have h2:=h1.div (h1.add ha.abs);have e:=Nat.mul_le_mul_right K (show 3≤M+1 by omega)
 unfold nO
 exact dl (fun _=>h1.mono oM) fun _=>dl (fun _=>h1.mono oM) fun _=>dl (fun _=>hb.mono oM) fun _=>dl (fun _=>(h1.div hb).mono oM) fun _=>dl (fun _=>h1.neg.mono oM) fun _ =>
  dl (fun e=>dl (fun _=>h0) fun _=>((Bn (n:=n-1) (M:=M+1) ha (by have:=hn e;omega)).mul (LQ.int (z:=n) (by have:=hn e;omega) (by have:=hn e;omega))).mono oM) fun _ =>
  dl (fun _=>(LQ.int oM oM).mono oM) fun _=>dl (fun _=>(LQ.int oM oM).mono oM) fun _=>dl (fun _=>(h2.mul h2).mono oM) fun _ =>
  dl (fun _=>dl (fun _=>h1.mono oM) fun _=>h0) fun _=>dl (fun _=>dl (fun _=>h0) fun _=>h1.mono oM) fun _=>h0
theorem Bm (hK:1≤K)(hM:2≤M)(ha:LQ K a)(hb:LQ K b):LQ ((M+1)*K+5) (oL op a b):=by
 have h1:LQ 1 (((1:Int):Rat)):=LQ.lit (z:=1) kD;have h0:LQ ((M+1)*K+5) (0:Rat):=nh oM;have h2:=h1.div hb;have e:=Nat.mul_le_mul_right K (show 3≤M+1 by omega)
 unfold oL
 exact dl (fun _=>h1.mono oM) fun _=>dl (fun _=>h1.neg.mono oM) fun _=>dl (fun _=>ha.mono oM) fun _=>dl (fun _=>((ha.mul h2).mul h2).neg.mono oM) fun _ =>
  dl (fun _=>dl (fun _=>h0) fun _=>h1.mono oM) fun _=>dl (fun _=>dl (fun _=>h1.mono oM) fun _=>h0) fun _=>h0
end
def Iy (z:Nat)(l:List Stp):Prop:=∀ k,k<l.length→(l.getD k ac).op=8→(k=z → -12≤(l.getD k ac).n∧(l.getD k ac).n≤12)∧(k≠z → -1≤(l.getD k ac).n∧(l.getD k ac).n≤2)
section
variable {z:Nat} {l:List Stp} {at_ way:List Rat} (ht:Iy z l) (hq:∀ i,LQ 1 (l.getD i ac).q) (ha:∀ j,LQ 1 (at_.getD j 0))
include ht hq ha
end
theorem nk (a b:List Rat):∀ n,dB a b n=dB b a n
 | 0=>rfl
 | n+1=>by show dB a b n+_=dB b a n+_;rw[nk a b n,Rat.mul_comm]
theorem iH (m:Nat)(b:List Rat):∀ n,dB (List.replicate m 0) b n=0
 | 0=>rfl
 | n+1=>by show dB _ b n+_=_;rw[iH m b n,fg];grind
def wn (n j:Nat):List Rat:=(List.replicate n (0:Rat)).set j ((1:Int):Rat)
theorem tY {g:List Rat}{n j:Nat}(h:j<n):dB g (wn n j) n=g.getD j 0:=by
 rw[nk];unfold wn;rw[fJ (x:=((1:Int):Rat)) (by simpa using h) h (by rw[fg];grind),iH,show ((1:Int):Rat)=1 from rfl];grind
def Aa (l:List Stp)(os:List Int)(at_ by_ way:List Rat):Rat:=dB by_ (ei (d7 l at_ way l.length) os) os.length
def gE (inp:Nat)(l:List Stp)(os:List Int)(at_ by_:List Rat):List Rat:=(List.range inp).map fun j=>Aa l os at_ by_ (wn inp j)
def bM (inp:Int)(l:List Stp)(os:List Int)(at_ by_:List Rat):Int:=if bv inp l os=0 then (if (at_.length:Int)=inp∧by_.length=os.length then bW true l at_ l.length else 5) else 1
def fT (inp:Int)(l:List Stp)(os:List Int)(at_ by_:List Rat):List Rat:=if bM inp l os at_ by_=0 then ei (aZ l at_ l.length) os else []
def cB (inp:Int)(l:List Stp)(os:List Int)(at_ by_:List Rat):List Rat:=if bM inp l os at_ by_=0 then gE inp.toNat l os at_ by_ else []
section
variable {inp:Int} {l:List Stp} {os:List Int} {at_ by_:List Rat}
theorem qk {e:Int}(h:bM inp l os at_ by_=e)(he:e≠0):bM inp l os at_ by_=e∧fT inp l os at_ by_=[]∧cB inp l os at_ by_=[] :=
 ⟨h,if_neg (by rw[h];exact he),if_neg (by rw[h];exact he)⟩
theorem uM (h:bv inp l os≠0):bM inp l os at_ by_=1∧fT inp l os at_ by_=[]∧cB inp l os at_ by_=[]:=qk (if_neg h) kD
theorem vP (h:bv inp l os=0)(h2:¬((at_.length:Int)=inp∧by_.length=os.length)):bM inp l os at_ by_=5∧fT inp l os at_ by_=[]∧cB inp l os at_ by_=[]:=qk (by unfold bM;rw[if_pos h,if_neg h2]) kD
theorem FS (h:bv inp l os=0)(h2:(at_.length:Int)=inp)(h3:by_.length=os.length)(h4:bW true l at_ l.length≠0):bM inp l os at_ by_=bW true l at_ l.length∧fT inp l os at_ by_=[]∧cB inp l os at_ by_=[]:=qk (by unfold bM;rw[if_pos h,if_pos ⟨h2,h3⟩]) h4
theorem EM (h:bv inp l os=0)(h2:(at_.length:Int)=inp)(h3:by_.length=os.length)(h4:bW true l at_ l.length=0):bM inp l os at_ by_=0∧fT inp l os at_ by_=ei (aZ l at_ l.length) os∧cB inp l os at_ by_=gE inp.toNat l os at_ by_:=by
 have e:bM inp l os at_ by_=0:=by unfold bM;rw[if_pos h,if_pos ⟨h2,h3⟩,h4]
 exact ⟨e,if_pos e,if_pos e⟩
end
theorem oV {vs:List Rat}{os:List Int}{i:Nat}(h:i<os.length):(ei vs os).getD i 0=vs.getD (os.getD i 0).toNat 0:=by
 unfold ei;simp[List.getD_eq_getElem?_getD,h]
def Bo (l:List Stp)(os:List Int)(at_ by_:List Rat)(i:Nat)(bar:List Rat):Prop :=
  ∀ way,dB bar (d7 l at_ way l.length) l.length=dB by_ (ei (d7 l at_ way l.length) os) i
def Bos (wt:Nat→Nat)(n W i:Nat)(bar:List Rat):Prop:=∃ f:Nat→Nat,(∀ j,LQ (f j) (bar.getD j 0))∧jo wt f n≤jo wt (fun _=>1) n+i*(2*W)
section
variable {l:List Stp} {os:List Int} {at_ by_ bar:List Rat} {i:Nat}
theorem Bo.init:Bo l os at_ by_ 0 (List.replicate l.length 0):=fun way=>by rw[iH];rfl
theorem Bo.step (B:Bo l os at_ by_ i bar)(hi:i<os.length)(ho:(os.getD i 0).toNat<l.length)(hl:bar.length=l.length):Bo l os at_ by_ (i+1) (bar.set (os.getD i 0).toNat (bar.getD (os.getD i 0).toNat 0+by_.getD i 0)):=fun way=>by
 show _=dB by_ _ i+_
 rw[fJ oM ho rfl,B way,oV hi]
theorem Bos.init (wt:Nat→Nat)(n W:Nat):Bos wt n W 0 (List.replicate n 0):=⟨fun _=>1,fun j=>by rw[fg];exact nh (k:=1) (Nat.le_refl 1),Nat.le_add_right _ _⟩
theorem Bos.step {wt:Nat→Nat}{n W o:Nat}{y:Rat}(Z:Bos wt n W i bar)(ho:o<n)(hW:wt o≤W)(hy:LQ 1 y):Bos wt n W (i+1) (bar.set o (bar.getD o 0+y)):=by
 obtain ⟨f,hf,hp⟩:=Z;refine ⟨qO f o 2,oc hf ((hf o).add hy),?_⟩;rw[iP,if_pos ho,Nat.add_mul];omega
theorem Bos.lb {wt:Nat→Nat}{n W C:Nat}(Z:Bos wt n W i bar)(hw:∀ j,j<n→1≤wt j)(hC:jo wt (fun _=>1) n+i*(2*W)≤C):∀ j,j<n→LQ C (bar.getD j 0):=fun j hj=>by
 obtain ⟨f,hf,hp⟩:=Z;have:=nL wt f n hw j hj;exact (hf j).mono oM
theorem Bos.bz {wt sg:Nat→Nat}{n W C inp:Nat}(Z:Bos wt n W i bar)(hC:1+jo wt (fun _=>1) n+i*(2*W)+k7 wt sg n≤C):Bz wt sg C n bar (List.replicate inp 0):=by
 obtain ⟨f,hf,hp⟩:=Z;exact ⟨f,1,hf,fun j=>by rw[fg];exact nh oM,by omega⟩
theorem Bo.bk (B:Bo l os at_ by_ os.length bar)(inp:Nat):Bk l at_ inp (Aa l os at_ by_) l.length bar (List.replicate inp 0):=fun way=>by
 rw[B way,iH,Rat.add_zero];rfl
theorem Bk.fin {inp:Nat}{g:List Rat}(B:Bk l at_ inp (Aa l os at_ by_) 0 bar g)(hg:g.length=inp):g=gE inp l os at_ by_∧∀ way,dB g way inp=Aa l os at_ by_ way:=by
 have h1:∀ way,dB g way inp=Aa l os at_ by_ way:=fun way=>by
  have:=B way
  change (0:Rat)+_=_ at this
  rw[←this];grind
 refine ⟨ir (by unfold gE;rw[List.length_map,List.length_range,hg]) fun j=>?_,h1⟩
 by_cases hj:j<inp
 ·unfold gE
  rw[←tY hj,h1];simp[hj]
 ·rw[cj oM,cj (by unfold gE;rw[List.length_map,List.length_range];omega)]
end
section
variable {inp:Int} {l:List Stp} {os:List Int} {at_ way by_:List Rat}
end
theorem Aj {v:List Rat}{os:List Int}{K:Nat}(hK:1≤K)(h:∀ j,LQ K (v.getD j 0))(j:Nat):LQ K ((ei v os).getD j 0):=by
 by_cases e:j<os.length
 ·rw[oV e];exact h _
 ·rw[cj (by unfold ei;rw[List.length_map];omega)];exact nh hK
def Bw (m:Nat):Nat:=18446744073709551616^m
theorem FW (m:Nat):1≤Bw m:=Nat.pow_pos kD
theorem GI {m n:Nat}(h:m≤n):Bw m≤Bw n:=Nat.pow_le_pow_right kD h
theorem EQ (m:Nat):Bw m+Bw m≤Bw (m+1):=by
 unfold Bw;rw[Nat.pow_succ];omega
def Mg (m:Nat)(x:Rat):Prop:=-((Bw m:Nat):Rat)≤x∧x≤((Bw m:Nat):Rat)
theorem Mg.mono {m n:Nat}{x:Rat}(h:Mg m x)(k:m≤n):Mg n x:=by
 have e:((Bw m:Nat):Rat)≤((Bw n:Nat):Rat):=Rat.natCast_le_natCast.2 (GI k);exact ⟨Rat.le_trans (Rat.neg_le_neg e) h.1,Rat.le_trans h.2 e⟩
theorem od {m:Nat}{x:Rat}:Mg m x↔aa x.num≤Bw m*x.den:=by
 unfold Mg
 rw[Rat.le_iff,Rat.le_iff,Rat.neg_num,Rat.neg_den,Rat.num_natCast,Rat.den_natCast,Int.neg_mul,←Int.natCast_mul]
 unfold aa
 generalize Bw m*x.den=z
 constructor
 ·intro h;omega
 ·intro h;omega
theorem LQ.mg {k:Nat}{q:Rat}(h:LQ k q):Mg k q:=by
 rw[od];have h1:=dE (aa q.num);have h2:18446744073709551616^(wds (aa q.num)).length≤Bw k:=Nat.pow_le_pow_right kD h.1;have h3:=Nat.mul_le_mul_left (Bw k) q.den_pos
 omega
theorem Mg.zero (m:Nat):Mg m 0:=od.2 (Nat.zero_le _)
theorem Mg.add {m:Nat}{a b:Rat}(ha:Mg m a)(hb:Mg m b):Mg (m+1) (a+b):=by
 have e:((Bw m:Nat):Rat)+((Bw m:Nat):Rat)≤((Bw (m+1):Nat):Rat):=by
  rw[←Rat.natCast_add];exact Rat.natCast_le_natCast.2 (EQ m)
 obtain ⟨a1,a2⟩:=ha;obtain ⟨b1,b2⟩:=hb
 unfold Mg
 generalize ((Bw m:Nat):Rat)=p at *
 generalize ((Bw (m+1):Nat):Rat)=q at *
 constructor<;>grind
theorem Mg.neg {m:Nat}{a:Rat}(ha:Mg m a):Mg m (-a):=by
 obtain ⟨a1,a2⟩:=ha
 unfold Mg
 generalize ((Bw m:Nat):Rat)=p at *
 constructor<;>grind
theorem Mg.sub {m:Nat}{a b:Rat}(ha:Mg m a)(hb:Mg m b):Mg (m+1) (a-b):=by
 rw[Rat.sub_eq_add_neg];exact ha.add hb.neg
theorem Mg.mul {m n:Nat}{a b:Rat}(ha:Mg m a)(hb:Mg n b):Mg (m+n) (a*b):=by
 have e:((Bw (m+n):Nat):Rat)=((Bw m:Nat):Rat)*((Bw n:Nat):Rat):=by
  rw[←Rat.natCast_mul];unfold Bw;rw[Nat.pow_add]
 obtain ⟨a1,a2⟩:=ha;obtain ⟨b1,b2⟩:=hb
 unfold Mg
 rw[e]
 generalize ((Bw m:Nat):Rat)=p at *
 generalize ((Bw n:Nat):Rat)=q at *
 have h1:0≤(p-a)*(q+b):=Rat.mul_nonneg (by grind) (by grind);have h2:0≤(p+a)*(q-b):=Rat.mul_nonneg (by grind) (by grind);have h3:0≤(p-a)*(q-b):=Rat.mul_nonneg (by grind) (by grind);have h4:0≤(p+a)*(q+b):=Rat.mul_nonneg (by grind) (by grind)
 constructor<;>grind
def fO (n:Int)(d u:Nat):Int :=
  n*u/d+(if (d:Int)<n*u%d+n*u%d∨(n*u%d+n*u%d=d∧n*u/d%2=1) then 1 else 0)
def bR (x:Rat)(b:Nat):Rat:=mkRat (fO x.num x.den (2^b)) (2^b)
theorem vy {n:Int}{d u B:Nat}(hd:0<d)(h:aa n≤B*d):aa (fO n d u)≤B*u+1:=by
 unfold aa at *
 have e1:n*u≤((B*u:Nat):Int)*d:=by
  have:n*u≤((B*d:Nat):Int)*u:=Int.mul_le_mul_of_nonneg_right oM oM;refine Int.le_trans this (Int.le_of_eq ?_)
  push_cast;grind
 have e2 : -((B*u:Nat):Int)*d≤n*u:=by
  have : -((B*d:Nat):Int)*u≤n*u:=Int.mul_le_mul_of_nonneg_right oM oM;refine Int.le_trans (Int.le_of_eq ?_) this
  push_cast;grind
 have d0:(0:Int)<d:=by omega
 have q1:n*u/d≤((B*u:Nat):Int):=by
  have:=Int.ediv_le_ediv d0 e1
  rwa [Int.mul_ediv_cancel _ oM] at this
 have q2 : -((B*u:Nat):Int)≤n*u/d:=by
  have:=Int.ediv_le_ediv d0 e2
  rwa [Int.mul_ediv_cancel _ oM] at this
 unfold fO
 split<;>omega
structure Fst2 (l:List Stp):Prop where
  nm:∀ k,k<l.length→k<2→(l.getD k ac).op=2
  pw:∀ k,k<l.length→(l.getD k ac).op=8→(l.getD k ac).n.natAbs≤2
  q:∀ i,LQ 1 (l.getD i ac).q
section
variable {l:List Stp} {at_ way:List Rat} {A:Nat} (F:Fst2 l) (hA:1≤A) (ha:∀ j,LQ A (at_.getD j 0))
include F hA ha
end
def AA (l:List Rat):Nat→Rat
  | 0=>0
  | k+1=>AA l k+l.getD k 0
def bQ (m:Nat)(bt:List Int):Nat→List Rat
  | 0=>List.replicate m 0
  | j+1=>(bQ m bt j).set (bt.getD j 0).toNat ((1:Int):Rat)
theorem j4 (m:Nat)(bt:List Int):∀ j,(bQ m bt j).length=m
 | 0=>List.length_replicate
 | j+1=>by unfold bQ;rw[List.length_set];exact j4 m bt j
theorem px (m:Nat)(bt:List Int):∀ j i,(bQ m bt j).getD i 0=0∨(bQ m bt j).getD i 0=((1:Int):Rat)
  | 0,i=>.inl (fg i)
  | j + 1,i=>by
    unfold bQ
    rw[List.getD_eq_getElem?_getD,List.getElem?_set]
    split
    · split
      · exact .inr rfl
      · exact .inl rfl
    · rw[←List.getD_eq_getElem?_getD];exact px m bt j i
theorem Be (m:Nat)(bt:List Int)(j i:Nat):LQ 1 ((bQ m bt j).getD i 0):=by
 rcases px m bt j i with h|h<;>rw[h]
 ·exact nh kD
 ·exact LQ.lit (z:=1) kD
def AK (ra ke:Rat)(b:Nat)(way g:List Rat)(n:Nat):List Rat:=(List.range n).map fun i=>bR (ke*way.getD i 0-ra*g.getD i 0) b
def H9 (b:Nat)(at_ way:List Rat)(n:Nat):List Rat:=(List.range n).map fun i=>bR (at_.getD i 0+way.getD i 0) b
structure DSt where
  e:Int
  at_:List Rat
  way:List Rat
  ls:List Rat
section
variable (inp:Int) (l:List Stp) (os:List Int) (ra ke:Rat) (b:Nat) (bt:Nat→List Int)
def CP (k:Nat):List Rat:=bQ os.length (bt k) (bt k).length
def dh (at_:List Rat):Rat:=AA (gt false inp l os at_) (gt false inp l os at_).length
def ui (k:Nat)(s:DSt):List Rat:=AK ra ke b s.way (cB inp l os s.at_ (CP os bt k)) s.at_.length
def Af (k:Nat)(s:DSt):List Rat:=H9 b s.at_ (ui inp l os ra ke b bt k s) s.at_.length
def uF (k:Nat)(s:DSt):DSt :=
  if s.e≠0 then s
  else if bM inp l os s.at_ (CP os bt k)≠0 then { s with e:=bM inp l os s.at_ (CP os bt k) }
  else ⟨dW false inp l os (Af inp l os ra ke b bt k s),Af inp l os ra ke b bt k s,ui inp l os ra ke b bt k s,s.ls++[dh inp l os (Af inp l os ra ke b bt k s)]⟩
def dst (at0:List Rat):Nat→DSt
  | 0=>⟨dW false inp l os at0,at0,List.replicate at0.length 0,[dh inp l os at0]⟩
  | k+1=>uF inp l os ra ke b bt k (dst at0 k)
end
section
variable {inp:Int} {l:List Stp} {os:List Int} {ra ke:Rat} {b:Nat} {bt bt2:Nat→List Int} {at0:List Rat}
theorem AZ {k:Nat}{s:DSt}(h:s.e≠0):uF inp l os ra ke b bt k s=s:=if_pos h
theorem pc {k:Nat}{s:DSt}(h:s.e=0)(h2:bM inp l os s.at_ (CP os bt k)≠0):uF inp l os ra ke b bt k s={ s with e:=bM inp l os s.at_ (CP os bt k) }:=by
 unfold uF;rw[if_neg oM,if_pos h2]
theorem qR {k:Nat}{s:DSt}(h:s.e=0)(h2:bM inp l os s.at_ (CP os bt k)=0):uF inp l os ra ke b bt k s=⟨dW false inp l os (Af inp l os ra ke b bt k s),Af inp l os ra ke b bt k s,ui inp l os ra ke b bt k s,s.ls++[dh inp l os (Af inp l os ra ke b bt k s)]⟩:=by
 unfold uF;rw[if_neg oM,if_neg oM]
theorem wF {k n:Nat}(hkn:k≤n)(h:(dst inp l os ra ke b bt at0 k).e≠0):dst inp l os ra ke b bt at0 n=dst inp l os ra ke b bt at0 k:=by
  induction hkn with
  | refl=>rfl
  | @step n hkn ih =>
    show uF inp l os ra ke b bt n (dst inp l os ra ke b bt at0 n)=_
    rw[ih,AZ h]
theorem DX {k n:Nat}(hkn:k≤n)(h:(dst inp l os ra ke b bt at0 n).e=0):(dst inp l os ra ke b bt at0 k).e=0 :=
 Classical.byContradiction fun hk=>hk (by rw[←wF hkn hk];exact h)
theorem xa:∀ k,(dst inp l os ra ke b bt at0 k).e=0→(dst inp l os ra ke b bt at0 k).ls.length=k+1
  | 0,_=>rfl
  | k + 1,h=>by
    have h0:=DX (Nat.le_succ k) h;have ih:=xa k h0
    have h2:bM inp l os (dst inp l os ra ke b bt at0 k).at_ (CP os bt k)=0:=Classical.byContradiction fun hb=>by
      change (uF inp l os ra ke b bt k (dst inp l os ra ke b bt at0 k)).e=0 at h
      rw[pc h0 hb] at h;exact hb h
    show (uF inp l os ra ke b bt k (dst inp l os ra ke b bt at0 k)).ls.length=_
    rw[qR h0 h2,List.length_append,ih];rfl
end
structure DOk (l:List Stp) (os:List Int) (ra ke:Rat) (b:Nat) (at0:List Rat):Prop where
  f2:Fst2 l
  hl:l.length≤6
  ho:os.length≤2
  ra1:LQ 1 ra
  ra0:Mg 0 ra
  ke1:LQ 1 ke
  ke0:Mg 0 ke
  hb:b≤32
  at1:∀ j,LQ 1 (at0.getD j 0)
section
variable {inp:Int} {l:List Stp} {os:List Int} {ra ke:Rat} {b:Nat} {bt:Nat→List Int} {at0:List Rat} (D:DOk l os ra ke b at0)
include D
end
theorem DD {K:Nat}(hK:1≤K)(j:Nat):LQ K (([]:List Rat).getD j 0):=by rw[cj (by simp)];exact nh hK
theorem Cc {sm:Bool}{inp:Int}{l:List Stp}{os:List Int}{at_:List Rat}{K:Nat}(hK:1≤K)(h:bv inp l os=0→∀ j,LQ K ((aZ l at_ l.length).getD j 0))(j:Nat):LQ K ((gt sm inp l os at_).getD j 0):=by
 unfold gt
 split
 ·rename_i e
  by_cases hc:bv inp l os=0
  ·exact Aj hK (h hc) j
  ·unfold dW at e;rw[if_neg hc] at e;exact absurd e kD
 ·exact DD hK j
theorem Cu {sm:Bool}{inp:Int}{l:List Stp}{os:List Int}{at_:List Rat}:(gt sm inp l os at_).length≤os.length:=by
 unfold gt;split
 ·unfold ei;rw[List.length_map];exact Nat.le_refl _
 ·exact Nat.zero_le _
section
variable {L M G:List Rat} {ra ke x:Rat} {b n j:Nat}
theorem ru (hj:j<M.length)(h2:∀ i,i<j→M.getD i 0=bR (ke*L.getD i 0-ra*G.getD i 0) b)(h3:∀ i,j≤i→M.getD i 0=L.getD i 0)(hx:x=bR (ke*M.getD j 0-ra*G.getD j 0) b) :
  (∀ i,i<j+1→(M.set j x).getD i 0=bR (ke*L.getD i 0-ra*G.getD i 0) b)∧∀ i,j+1≤i→(M.set j x).getD i 0=L.getD i 0:=by
 refine ⟨fun i hi=>?_,fun i hi=>?_⟩
 ·rw[cJ hj]
  by_cases e:i=j
  ·subst e;rw[if_pos rfl,hx,h3 i (Nat.le_refl _)]
  ·rw[if_neg e];exact h2 i oM
 ·rw[cJ hj,if_neg oM];exact h3 i oM
theorem rx {W:List Rat}{y:Rat}(hj:j<M.length)(hw:j<W.length)(h2:∀ i,i<j→M.getD i 0=bR (L.getD i 0+W.getD i 0) b)(h3:∀ i,j≤i→M.getD i 0=L.getD i 0)(hy:y=bR (M.getD j 0+(W.set j x).getD j 0) b) :
  (∀ i,i<j+1→(M.set j y).getD i 0=bR (L.getD i 0+(W.set j x).getD i 0) b)∧∀ i,j+1≤i→(M.set j y).getD i 0=L.getD i 0:=by
 refine ⟨fun i hi=>?_,fun i hi=>?_⟩
 ·rw[cJ hj]
  by_cases e:i=j
  ·subst e;rw[if_pos rfl,hy,h3 i (Nat.le_refl _)]
  ·rw[if_neg e,cJ hw,if_neg e];exact h2 i oM
 ·rw[cJ hj,if_neg oM];exact h3 i oM
theorem Ez (hl:M.length=n)(h:∀ i,i<n→M.getD i 0=bR (ke*L.getD i 0-ra*G.getD i 0) b):M=AK ra ke b L G n:=by
 refine ir (by unfold AK;rw[List.length_map,List.length_range,hl]) fun i=>?_
 unfold AK
 by_cases hi:i<n
 ·rw[h i hi];simp[hi]
 ·rw[cj oM,cj (by rw[List.length_map,List.length_range];omega)]
theorem Hd {W:List Rat}(hl:M.length=n)(h:∀ i,i<n→M.getD i 0=bR (L.getD i 0+W.getD i 0) b):M=H9 b L W n:=by
 refine ir (by unfold H9;rw[List.length_map,List.length_range,hl]) fun i=>?_
 unfold H9
 by_cases hi:i<n
 ·rw[h i hi];simp[hi]
 ·rw[cj oM,cj (by rw[List.length_map,List.length_range];omega)]
end
def DSt.rat (s:DSt):List Rat:=if s.e=0 then s.at_ else []
def DSt.rls (s:DSt):List Rat:=if s.e=0 then s.ls else []
theorem DSt.bad {s:DSt}(h:s.e≠0):s.rat=[]∧s.rls=[]:=⟨if_neg h,if_neg h⟩
theorem DSt.ok {s:DSt}(h:s.e=0):s.rat=s.at_∧s.rls=s.ls:=⟨if_pos h,if_pos h⟩
section
variable {inp:Int} {l:List Stp} {os:List Int} {ra ke:Rat} {b k n:Nat} {bf:Nat→List Int} {p0 La Lw al:List Rat} {ds:Nat→DSt} (hds:ds=dst inp l os ra ke b bf p0)
include hds
theorem Gq (hE:(ds k).e=0)(hLa:La=(ds k).at_)(hLw:Lw=(ds k).way)(hal:al=(ds k).ls)(hn:La.length=n)(hb:bM inp l os La (bQ os.length (bf k) (bf k).length)=0){Mw Ma:List Rat}(hw:Mw.length=n)(ha:Ma.length=n)
  (h1:∀ i,i<n→Mw.getD i 0=bR (ke*Lw.getD i 0-ra*(cB inp l os La (bQ os.length (bf k) (bf k).length)).getD i 0) b)(h2:∀ i,i<n→Ma.getD i 0=bR (La.getD i 0+Mw.getD i 0) b) :
  ds (k+1)=⟨dW false inp l os Ma,Ma,Mw,al++[dh inp l os Ma]⟩:=by
 subst hds hLa hLw hal hn;have e1:=Ez hw h1;have e2:=Hd ha h2
 show uF inp l os ra ke b bf k _=_
 rw[qR hE hb];have e3:ui inp l os ra ke b bf k (dst inp l os ra ke b bf p0 k)=Mw:=e1.symm;have e4:Af inp l os ra ke b bf k (dst inp l os ra ke b bf p0 k)=Ma:=by unfold Af;rw[e3];exact e2.symm
 rw[e3,e4]
theorem By (hE:(ds k).e=0)(hLa:La=(ds k).at_)(hb:bM inp l os La (bQ os.length (bf k) (bf k).length)≠0)(hk:k+1≤n):(ds n).e=bM inp l os La (bQ os.length (bf k) (bf k).length):=by
 subst hds hLa
 have e:(dst inp l os ra ke b bf p0 (k+1)).e=bM inp l os (dst inp l os ra ke b bf p0 k).at_ (bQ os.length (bf k) (bf k).length):=by
  show (uF inp l os ra ke b bf k _).e=_
  rw[pc hE hb];rfl
 rw[wF hk (by rw[e];exact hb),e]
theorem r5 (hS:ds k=⟨dW false inp l os La,La,Lw,al⟩)(hb:dW false inp l os La≠0)(hk:k≤n):(ds n).e=dW false inp l os La:=by
 subst hds;rw[wF hk (by rw[hS];exact hb),hS]
theorem tj:ds 0=⟨dW false inp l os p0,p0,List.replicate p0.length 0,[dh inp l os p0]⟩:=by subst hds;rfl
end
theorem tK {inp:Int}{l:List Stp}{os:List Int}{at_ by_:List Rat}(h:bM inp l os at_ by_=0):(cB inp l os at_ by_).length=inp.toNat:=by
 unfold cB;rw[if_pos h];unfold gE;rw[List.length_map,List.length_range]
section
variable {inp:Int} {l:List Stp} {os:List Int} {ra ke:Rat} {b st:Nat} {bf:Nat→List Int} {p0:List Rat}
end
theorem tQ {n:Int}{d u:Nat}(hd:0<d) : -(d:Int)≤2*(fO n d u*d-n*u)∧2*(fO n d u*d-n*u)≤(d:Int):=by
 have h1:=Int.mul_ediv_add_emod (n*u) d;have h2:=Int.emod_nonneg (n*u) (b:=(d:Int)) oM;have h3:=Int.emod_lt_of_pos (n*u) (b:=(d:Int)) oM
 unfold fO
 generalize n*u/(d:Int)=q at *
 generalize n*u%(d:Int)=r at *
 have e1:(q+1)*(d:Int)=d*q+d:=by grind
 have e2:(q+0)*(d:Int)=d*q:=by grind
 split
 ·rw[e1];omega
 ·rw[e2];omega
def ep (b:Nat):Rat:=1/(2*((2^b:Nat):Rat))
theorem qN (b:Nat):(0:Rat)<((2^b:Nat):Rat):=Rat.natCast_pos.2 (Nat.pow_pos kD)
theorem np (x:Rat)(b:Nat) : -ep b≤bR x b-x∧bR x b-x≤ep b:=by
 have hd:=x.den_pos;obtain ⟨h1,h2⟩:=tQ (n:=x.num) (u:=2^b) hd;have hU:=qN b
 unfold bR ep
 generalize 2^b=u at *
 have hD:(0:Rat)<(x.den:Rat):=Rat.natCast_pos.2 hd
 have ex:x*(x.den:Rat)=(x.num:Rat):=by
  have e1:(x.num:Rat)/(x.den:Rat)=x:=by rw[←Rat.mkRat_eq_div,Rat.mkRat_self]
  have e2:=Rat.div_mul_cancel (a:=(x.num:Rat)) (b:=(x.den:Rat)) (by grind);rw[e1] at e2;exact e2
 have en:mkRat (fO x.num x.den u) u*((u:Nat):Rat)=((fO x.num x.den u:Int):Rat):=by
  rw[Rat.mkRat_eq_div];exact Rat.div_mul_cancel (by grind)
 have c1 : -((x.den:Nat):Rat)≤2*(((fO x.num x.den u:Int):Rat)*(x.den:Rat)-(x.num:Rat)*((u:Nat):Rat)):=by
  have:=Rat.intCast_le_intCast.2 h1
  push_cast at this
  exact this
 have c2:2*(((fO x.num x.den u:Int):Rat)*(x.den:Rat)-(x.num:Rat)*((u:Nat):Rat))≤((x.den:Nat):Rat):=by
  have:=Rat.intCast_le_intCast.2 h2
  push_cast at this
  exact this
 have ee:1/(2*((u:Nat):Rat))*(2*((u:Nat):Rat))=1:=Rat.div_mul_cancel (by grind)
 generalize mkRat (fO x.num x.den u) u=y at *
 generalize ((fO x.num x.den u:Int):Rat)=z at *
 generalize 1/(2*((u:Nat):Rat))=e at *
 clear h1 h2 hd
 generalize ((u:Nat):Rat)=U at *
 generalize (x.den:Rat)=D at *
 generalize (x.num:Rat)=n at *
 have hUD:0<U*D:=Rat.mul_pos hU hD;subst en;have k1:2*(y*U*D-n*U)=2*((y-x)*(U*D)):=by rw[←ex];grind
 rw[k1] at c1 c2
 have k2:D=e*(2*(U*D)):=by grind
 constructor
 ·refine Rat.not_lt.1 fun h=>?_
  have:=Rat.mul_pos (a:=-e-(y-x)) (by grind) hUD
  grind
 ·refine Rat.not_lt.1 fun h=>?_
  have:=Rat.mul_pos (a:=(y-x)-e) (by grind) hUD
  grind
theorem Dl (b:Nat):0≤ep b:=by
 have ee:ep b*(2*((2^b:Nat):Rat))=1:=by unfold ep;have:=qN b;exact Rat.div_mul_cancel (by grind)
 have hU:=qN b;refine Rat.not_lt.1 fun h=>?_
 have:=Rat.mul_pos (a:=-ep b) (by grind) hU
 grind
theorem x6:ep 200≤1/1000000000:=by unfold ep;decide +kernel
theorem oe {x c k r w:Rat}{b:Nat}(hr:r=1-k):∃ e:Rat,bR (x+bR (0*w-k*(x-c)) b) b-c=r*(x-c)+e ∧ -(2*ep b)≤e∧e≤2*ep b:=by
 obtain ⟨a1,a2⟩:=np (0*w-k*(x-c)) b;obtain ⟨b1,b2⟩:=np (x+bR (0*w-k*(x-c)) b) b;refine ⟨bR (x+bR (0*w-k*(x-c)) b) b-c-r*(x-c),by grind,?_,?_⟩<;>subst hr<;>grind
theorem DA {r z B:Rat}(h0:0≤r)(h1:r≤1)(hz : -B≤z∧z≤B)(hB:0≤B) : -B≤r*z∧r*z≤B:=by
 have a1:=Rat.mul_nonneg (a:=r) (b:=B-z) h0 (by grind);have a2:=Rat.mul_nonneg (a:=r) (b:=B+z) h0 (by grind);have a3:=Rat.mul_nonneg (a:=1-r) (b:=B) (by grind) hB
 constructor<;>grind
def iE (r:Rat):Nat→Rat
  | 0=>1
  | n+1=>iE r n*r
theorem wk {r e:Rat}(h0:0≤r)(h1:r≤1)(he:0≤e){y:Nat→Rat}(hy:∀ j,-(2*e)≤y (j+1)-r*y j∧y (j+1)-r*y j≤2*e):∀ n:Nat,-(2*e*(n:Nat))≤y n-iE r n*y 0∧y n-iE r n*y 0≤2*e*(n:Nat)
  | 0=>by
    have:((0:Nat):Rat)=0:=rfl;rw[this];unfold iE
    constructor<;>grind
  | n+1=>by
    have ih:=wk h0 h1 he hy n;have hn:(0:Rat)≤((n:Nat):Rat):=Rat.natCast_nonneg;have hB:=Rat.mul_nonneg (a:=2*e) (b:=((n:Nat):Rat)) (by grind) hn;have hm:=DA h0 h1 ih hB;have hs:=hy n;have e1:(((n+1:Nat)):Rat)=((n:Nat):Rat)+1:=by push_cast;rfl
    rw[e1]
    unfold iE
    have e2:y (n+1)-iE r n*r*y 0=r*(y n-iE r n*y 0)+(y (n+1)-r*y n):=by grind
    rw[e2]
    constructor<;>grind
theorem kf (a:Rat):0≤a*a:=by
 rcases (Rat.le_total (a:=0) (b:=a)) with h|h
 ·exact Rat.mul_nonneg h h
 ·have:=Rat.mul_nonneg (a:=-a) (b:=-a) (by grind) (by grind)
  grind
theorem Hz {a b:Rat}(h : -b≤a∧a≤b):a*a≤b*b:=by
 have:=Rat.mul_nonneg (a:=b-a) (b:=b+a) (by grind) (by grind)
 grind
theorem th {r u e t:Rat}(h0:0≤r)(h1:r≤7/8)(he : -t≤e∧e≤t):(r*u+e)*(r*u+e)≤u*u+5*(t*t)∧64*((r*u+e)*(r*u+e))≤50*(u*u)+3200*(t*t):=by
 have hw:64*((r*u)*(r*u))≤49*(u*u):=by
  have a1:=Rat.mul_nonneg (a:=7/8-r) (b:=7/8+r) (by grind) (by grind);have a2:=Rat.mul_nonneg a1 (kf u)
  grind
 have ht:=Hz he
 generalize hwd:r*u=w at *
 have b0:=kf e;have b1:=kf (15*w-49*e);have b2:=kf (w-49*e)
 constructor<;>grind
theorem ur {r u v e f t:Rat}(h0:0≤r)(h1:r≤7/8)(he : -t≤e∧e≤t)(hf : -t≤f∧f≤t)(ht:t*t≤1/1000000000000) :
  ((r*u+e)*(r*u+e)+(r*v+f)*(r*v+f)≤u*u+v*v)∨((r*u+e)*(r*u+e)+(r*v+f)*(r*v+f))/2≤1/1000000:=by
 obtain ⟨a1,a2⟩:=th (u:=u) h0 h1 he;obtain ⟨b1,b2⟩:=th (u:=v) h0 h1 hf;have hu:=kf u;have hv:=kf v;have htt:=kf t
 generalize (r*u+e)*(r*u+e)=p at *
 generalize (r*v+f)*(r*v+f)=q at *
 generalize u*u=uu at *
 generalize v*v=vv at *
 generalize t*t=tt at *
 rcases (Rat.le_total (a:=9/10000000) (b:=uu)) with h|h
 ·left;grind
 ·rcases (Rat.le_total (a:=9/10000000) (b:=vv)) with h'|h'
  ·left;grind
  ·right;grind
def ej (c0 c1:Rat):List Stp:=[⟨2,0,0,0,0⟩,⟨1,0,0,0,c0⟩,⟨4,0,1,0,0⟩,⟨8,2,0,2,0⟩,⟨2,0,0,1,0⟩,⟨1,0,0,0,c1⟩,⟨4,4,5,0,0⟩,⟨8,6,0,2,0⟩,⟨3,3,7,0,0⟩,⟨1,0,0,0,((2:Int):Rat)⟩,⟨6,8,9,0,0⟩]
section
variable (c0 c1 x0 x1:Rat)
theorem kL:bv 2 (ej c0 c1) [10]=0:=by kernel_rfl
def ET:List Rat:=[x0,c0,x0-c0,dP (x0-c0) 2,x1,c1,x1-c1,dP (x1-c1) 2,dP (x0-c0) 2+dP (x1-c1) 2,((2:Int):Rat),(dP (x0-c0) 2+dP (x1-c1) 2)/((2:Int):Rat)]
theorem oO:aZ (ej c0 c1) [x0,x1] 11=ET c0 c1 x0 x1:=by kernel_rfl
theorem pj (sm:Bool):bW sm (ej c0 c1) [x0,x1] 11=0:=by cases sm<;>kernel_rfl
theorem mj:dW false 2 (ej c0 c1) [10] [x0,x1]=0:=by
 unfold dW;rw[if_pos (kL c0 c1),if_pos (show (([x0,x1].length:Nat):Int)=2 from rfl)];exact pj c0 c1 x0 x1 false
theorem ot (a:Rat):dP a 2=a*a:=by
 show ((1:Int):Rat)*a*a=a*a
 rw[show ((1:Int):Rat)=1 from rfl,Rat.one_mul]
def oD (a b:Rat):Rat:=(a*a+b*b)/2
theorem o9:dh 2 (ej c0 c1) [10] [x0,x1]=oD (x0-c0) (x1-c1):=by
 have e:gt false 2 (ej c0 c1) [10] [x0,x1]=[(dP (x0-c0) 2+dP (x1-c1) 2)/((2:Int):Rat)]:=by
  unfold gt
  rw[if_pos (mj c0 c1 x0 x1),show (ej c0 c1).length=11 from rfl,oO];rfl
 unfold dh
 rw[e]
 show 0+(dP (x0-c0) 2+dP (x1-c1) 2)/((2:Int):Rat)=_
 rw[ot,ot,Rat.zero_add];rfl
theorem mX:bM 2 (ej c0 c1) [10] [x0,x1] [((1:Int):Rat)]=0:=by
 unfold bM;rw[if_pos (kL c0 c1),if_pos ⟨rfl,rfl⟩];exact pj c0 c1 x0 x1 true
theorem sU (u v:Rat):(d7 (ej c0 c1) [x0,x1] [u,v] 11).getD 10 0=(x0-c0)*u+(x1-c1)*v:=by
 have e:(d7 (ej c0 c1) [x0,x1] [u,v] 11).getD 10 0 =
  (((1:Int):Rat)/((2:Int):Rat))*((((1:Int):Rat)*((dP (x0-c0) 1*((2:Int):Rat))*(((1:Int):Rat)*u + -((1:Int):Rat)*(0+0))+0))+(((1:Int):Rat)*((dP (x1-c1) 1*((2:Int):Rat))*(((1:Int):Rat)*v + -((1:Int):Rat)*(0+0))+0)))
   + -((dP (x0-c0) 2+dP (x1-c1) 2)*(((1:Int):Rat)/((2:Int):Rat))*(((1:Int):Rat)/((2:Int):Rat)))*(0+0):=by kernel_rfl
 rw[e];have p1:∀ a:Rat,dP a 1=a:=fun a=>by show ((1:Int):Rat)*a=a;rw[show ((1:Int):Rat)=1 from rfl,Rat.one_mul]
 rw[p1,p1,show ((1:Int):Rat)=1 from rfl,show ((2:Int):Rat)=2 from rfl]
 grind
theorem pK:cB 2 (ej c0 c1) [10] [x0,x1] [((1:Int):Rat)]=[x0-c0,x1-c1]:=by
 unfold cB
 rw[if_pos (mX c0 c1 x0 x1)];have e:gE (2:Int).toNat (ej c0 c1) [10] [x0,x1] [((1:Int):Rat)]=[0+((1:Int):Rat)*(d7 (ej c0 c1) [x0,x1] [((1:Int):Rat),0] 11).getD 10 0,0+((1:Int):Rat)*(d7 (ej c0 c1) [x0,x1] [0,((1:Int):Rat)] 11).getD 10 0]:=by rfl
 rw[e,sU,sU,show ((1:Int):Rat)=1 from rfl]
 congr 1
 ·grind
 ·congr 1;grind
end
def gx (b:Nat)(k c x0:Rat):Nat→Rat × Rat
  | 0=>(x0,0)
  | n+1=>(bR ((gx b k c x0 n).1+bR (0*(gx b k c x0 n).2-k*((gx b k c x0 n).1-c)) b) b,bR (0*(gx b k c x0 n).2-k*((gx b k c x0 n).1-c)) b)
def oK (b:Nat)(k c0 c1 p0 p1:Rat)(n:Nat):List Rat:=(List.range (n+1)).map fun j=>oD ((gx b k c0 p0 j).1-c0) ((gx b k c1 p1 j).1-c1)
theorem Jb {b:Nat}{k c0 c1 p0 p1:Rat}{bf:Nat→List Int}(hbf:∀ k,bf k=[0]):∀ n,dst 2 (ej c0 c1) [10] k 0 b bf [p0,p1] n=⟨0,[(gx b k c0 p0 n).1,(gx b k c1 p1 n).1],[(gx b k c0 p0 n).2,(gx b k c1 p1 n).2],oK b k c0 c1 p0 p1 n⟩
  | 0=>by
    show (⟨dW false 2 (ej c0 c1) [10] [p0,p1],[p0,p1],List.replicate 2 0,[dh 2 (ej c0 c1) [10] [p0,p1]]⟩:DSt)=_
    rw[mj,o9];rfl
  | n + 1=>by
    have ih:=Jb (b:=b) (k:=k) (c0:=c0) (c1:=c1) (p0:=p0) (p1:=p1) hbf n;have hby:CP [10] bf n=[((1:Int):Rat)]:=by unfold CP;rw[hbf];rfl
    show uF 2 (ej c0 c1) [10] k 0 b bf n (dst 2 (ej c0 c1) [10] k 0 b bf [p0,p1] n)=_
    rw[ih,qR rfl (by rw[hby];exact mX _ _ _ _)]
    have hw:ui 2 (ej c0 c1) [10] k 0 b bf n ⟨0,[(gx b k c0 p0 n).1,(gx b k c1 p1 n).1],[(gx b k c0 p0 n).2,(gx b k c1 p1 n).2],oK b k c0 c1 p0 p1 n⟩=[(gx b k c0 p0 (n+1)).2,(gx b k c1 p1 (n+1)).2]:=by
      unfold ui;rw[hby,pK];rfl
    have ha:Af 2 (ej c0 c1) [10] k 0 b bf n ⟨0,[(gx b k c0 p0 n).1,(gx b k c1 p1 n).1],[(gx b k c0 p0 n).2,(gx b k c1 p1 n).2],oK b k c0 c1 p0 p1 n⟩=[(gx b k c0 p0 (n+1)).1,(gx b k c1 p1 (n+1)).1]:=by
      unfold Af;rw[hw];rfl
    rw[hw,ha,mj,o9]
    congr 1
    unfold oK
    rw[List.range_succ (n:=n+1),List.map_append];rfl
theorem k6 {m b:Nat}{x:Rat}(h:Mg m x)(hb:b≤256):LQ (m+5) (bR x b):=by
 have h0:0<2^b:=Nat.pow_pos kD;have h1:2^b≤18446744073709551616^4:=Nat.le_trans (Nat.pow_le_pow_right (n:=2) kD hb) (by decide +kernel);have h2:=vy (u:=2^b) x.den_pos (od.1 h)
 unfold bR
 constructor
 ·refine au (b:=aa (fO x.num x.den (2^b))) ?_ (dw kD ?_)
  ·rw[Rat.num_mkRat,if_neg oM]
   refine bY _ _ ?_;exact Int.ofNat_dvd_left.2 (Nat.gcd_dvd_right _ _)
  ·refine Nat.lt_of_le_of_lt h2 ?_
   have:=Nat.mul_le_mul_left (Bw m) h1;have hp:=FW m;have e:18446744073709551616^(m+5)=Bw m*18446744073709551616^4*18446744073709551616:=by unfold Bw;rw[Nat.pow_succ,Nat.pow_add]
   rw[e];have hq:1*1≤Bw m*18446744073709551616^4:=Nat.mul_le_mul hp (show 1≤18446744073709551616^4 by decide +kernel)
   omega
 ·refine au (b:=2^b) ?_ (Nat.le_trans (m:=5) (dw (b:=18446744073709551616) (k:=5) kD (Nat.lt_of_le_of_lt h1 (by decide +kernel))) oM)
  rw[Rat.den_mkRat,if_neg oM];exact Nat.div_le_self _ _
theorem xm {b:Nat}{k c x0:Rat}(hb:b≤256)(hk:Mg 0 k)(hc:LQ 1 c)(hx:LQ 1 x0):∀ n,LQ (1+14*n) (gx b k c x0 n).1∧LQ (1+14*n) (gx b k c x0 n).2
  | 0=>⟨hx,nh kD⟩
  | n+1=>by
    obtain ⟨h1,h2⟩:=xm hb hk hc hx n;have hg:Mg (2+14*n) ((gx b k c x0 n).1-c):=(Mg.sub (m:=1+14*n) h1.mg (hc.mg.mono (show 1≤1+14*n by omega))).mono oM;have hz:Mg (3+14*n) (0*(gx b k c x0 n).2-k*((gx b k c x0 n).1-c)):=(Mg.sub (m:=2+14*n) (((Mg.zero 0).mul h2.mg).mono oM) ((hk.mul hg).mono oM)).mono oM;have hw:=k6 hz hb;have ha:Mg (9+14*n) ((gx b k c x0 n).1+bR (0*(gx b k c x0 n).2-k*((gx b k c x0 n).1-c)) b):=(Mg.add (m:=8+14*n) (h1.mg.mono oM) (hw.mg.mono oM)).mono oM;have hx2:=k6 ha hb;exact ⟨hx2.mono oM,hw.mono oM⟩
def C9 (k:Nat):Nat:=[1,1,2,2,1,1,2,2,4,1,5].getD k 1
def F0 (_:Nat):Nat:=3005
theorem vB {k:Nat}(h:k<11):k=0∨k=1∨k=2∨k=3∨k=4∨k=5∨k=6∨k=7∨k=8∨k=9∨k=10:=by omega
section
variable {c0 c1 x0 x1:Rat}
theorem EE:Wt (ej c0 c1) C9:=fun k hk=>by
 rcases vB hk with rfl|rfl|rfl|rfl|rfl|rfl|rfl|rfl|rfl|rfl|rfl<;>exact oT kR
theorem E2 (j:Nat)(hj:j<11):C9 j≤5:=by
 rcases vB hj with rfl|rfl|rfl|rfl|rfl|rfl|rfl|rfl|rfl|rfl|rfl<;>decide
theorem vj:1+jo C9 (fun _=>1) (ej c0 c1).length+1*(2*5)+k7 C9 F0 (ej c0 c1).length≤100000000:=by
 show 1+jo C9 (fun _=>1) 11+1*(2*5)+k7 C9 F0 11≤100000000
 decide
theorem Gg (h0:LQ 1 c0)(h1:LQ 1 c1)(i:Nat):LQ 1 ((ej c0 c1).getD i ac).q:=by
 have z:LQ 1 (0:Rat):=nh kD
 by_cases h:i<11
 ·rcases vB h with rfl|rfl|rfl|rfl|rfl|rfl|rfl|rfl|rfl|rfl|rfl
  ·exact z
  ·exact h0
  ·exact z
  ·exact z
  ·exact z
  ·exact h1
  ·exact z
  ·exact z
  ·exact z
  ·exact LQ.lit (z:=2) kD
  ·exact z
 ·rw[cj (show (ej c0 c1).length≤i by show 11≤i;omega)];exact z
theorem CE (h0:LQ 1 c0)(h1:LQ 1 c1)(a0:LQ 71 x0)(a1:LQ 71 x1)(i:Nat):LQ 1000 ((ET c0 c1 x0 x1).getD i 0):=by
 have s0:LQ 73 (x0-c0):=a0.sub h0;have s1:LQ 73 (x1-c1):=a1.sub h1;have p0:LQ 146 (dP (x0-c0) 2):=by rw[ot];exact s0.mul s0
 have p1:LQ 146 (dP (x1-c1) 2):=by rw[ot];exact s1.mul s1
 have t2:LQ 1 ((2:Int):Rat):=LQ.lit (z:=2) kD
 by_cases h:i<11
 ·rcases vB h with rfl|rfl|rfl|rfl|rfl|rfl|rfl|rfl|rfl|rfl|rfl
  ·exact a0.mono kD
  ·exact h0.mono kD
  ·exact s0.mono kD
  ·exact p0.mono kD
  ·exact a1.mono kD
  ·exact h1.mono kD
  ·exact s1.mono kD
  ·exact p1.mono kD
  ·exact (p0.add p1).mono kD
  ·exact t2.mono kD
  ·exact ((p0.add p1).div t2).mono kD
 ·rw[cj (show (ET c0 c1 x0 x1).length≤i by show 11≤i;omega)];exact nh kD
theorem C5 (h0:LQ 1 c0)(h1:LQ 1 c1)(a0:LQ 71 x0)(a1:LQ 71 x1)(k:Nat)(hk:k≤11)(j:Nat):LQ 1000 ((aZ (ej c0 c1) [x0,x1] k).getD j 0):=by
 by_cases hj:j<k
 ·rw[←iM (ej c0 c1) [x0,x1] k 11 hk j hj,oO];exact CE h0 h1 a0 a1 j
 ·rw[cj (by rw[eM];omega)];exact nh kD
theorem Ev (k:Nat)(hk:k<11)(h:((ej c0 c1).getD k ac).op=8):((ej c0 c1).getD k ac).n.natAbs≤2:=by
 rcases vB hk with rfl|rfl|rfl|rfl|rfl|rfl|rfl|rfl|rfl|rfl|rfl<;>exact oT kR
theorem HM (h0:LQ 1 c0)(h1:LQ 1 c1)(a0:LQ 71 x0)(a1:LQ 71 x1)(k:Nat)(hk:k<(ej c0 c1).length):LQ (F0 k) (nO ((ej c0 c1).getD k ac).op ((ej c0 c1).getD k ac).n ((aZ (ej c0 c1) [x0,x1] (ej c0 c1).length).getD ((ej c0 c1).getD k ac).a.toNat 0) ((aZ (ej c0 c1) [x0,x1] (ej c0 c1).length).getD ((ej c0 c1).getD k ac).b.toNat 0)) ∧
  LQ (F0 k) (oL ((ej c0 c1).getD k ac).op ((aZ (ej c0 c1) [x0,x1] (ej c0 c1).length).getD ((ej c0 c1).getD k ac).a.toNat 0) ((aZ (ej c0 c1) [x0,x1] (ej c0 c1).length).getD ((ej c0 c1).getD k ac).b.toNat 0)):=by
 have v:=C5 h0 h1 a0 a1 11 (Nat.le_refl _);exact ⟨BX (M:=2) (K:=1000) kD kD kD (v _) (v _) (fun e=>Ev k hk e),Bm (M:=2) (K:=1000) kD kD (v _) (v _)⟩
theorem n9 {K:Nat}{a b:Rat}(hK:1≤K)(ha:LQ K a)(hb:LQ K b)(j:Nat):LQ K ([a,b].getD j 0):=by
 match j with
 | 0=>exact ha
 | 1=>exact hb
 | j+2=>exact nh hK
end
def jw (a:Rat):Rat:=if a<0 then -a else a
theorem xt {y d e:Rat}(hd:0≤d)(s:Bool)(h:if s then (-e≤y-d∧y-d≤e) else (-e≤y+d∧y+d≤e))(he:0≤e) : -e≤jw y-d∧jw y-d≤e:=by
 unfold jw
 cases s
 ·simp only[Bool.false_eq_true,if_false] at h
  split<;>constructor<;>grind
 ·simp only[if_true] at h
  split<;>constructor<;>grind
theorem rv {r:Rat}(h:0≤r):∀ n,0≤iE r n
 | 0=>by show (0:Rat)≤1;decide
 | n+1=>Rat.mul_nonneg (rv h n) h
section
variable {k c x0 r:Rat} (hr:r=1-k) (h0:0≤r) (h1:r≤7/8)
include hr h0 h1
theorem FT (n:Nat)(hn:n≤5) : -(1/1000000)≤jw ((gx 200 k c x0 n).1-c)-jw (x0-c)*iE r n∧jw ((gx 200 k c x0 n).1-c)-jw (x0-c)*iE r n≤1/1000000:=by
 have hp:=rv h0 n;have he:=x6;have he0:=Dl 200
 have hy:=wk (r:=r) (e:=ep 200) h0 (by grind) he0 (y:=fun j=>(gx 200 k c x0 j).1-c) (fun j=>by
  obtain ⟨e,a1,a2,a3⟩:=oe (x:=(gx 200 k c x0 j).1) (c:=c) (k:=k) (w:=(gx 200 k c x0 j).2) (b:=200) hr;have g1:(gx 200 k c x0 (j+1)).1-c=r*((gx 200 k c x0 j).1-c)+e:=a1
  show -(2*ep 200)≤((gx 200 k c x0 (j+1)).1-c)-r*((gx 200 k c x0 j).1-c)∧((gx 200 k c x0 (j+1)).1-c)-r*((gx 200 k c x0 j).1-c)≤2*ep 200
  rw[g1]
  generalize r*((gx 200 k c x0 j).1-c)=z
  constructor<;>grind) n
 have hn2:((n:Nat):Rat)≤5:=by
  have:((n:Nat):Rat)≤((5:Nat):Rat):=Rat.natCast_le_natCast.2 hn;exact this
 have hn0:(0:Rat)≤((n:Nat):Rat):=Rat.natCast_nonneg;have hm:=Rat.mul_nonneg (a:=ep 200) (b:=5-((n:Nat):Rat)) he0 (by grind)
 generalize ((n:Nat):Rat)=N at *
 obtain ⟨y1,y2⟩:=hy
 change -(2*ep 200*N)≤((gx 200 k c x0 n).1-c)-iE r n*(x0-c) at y1
 change ((gx 200 k c x0 n).1-c)-iE r n*(x0-c)≤2*ep 200*N at y2
 generalize (gx 200 k c x0 n).1-c=y at *
 generalize iE r n=p at *
 generalize x0-c=z at *
 generalize ep 200=E at *
 by_cases hz:z<0
 ·have ez:jw z = -z:=if_pos hz
  rw[ez];have hd:=Rat.mul_nonneg (a:=-z) (b:=p) (by grind) hp;exact xt (d:=-z*p) (e:=1/1000000) hd false (by simp only[Bool.false_eq_true,if_false];constructor<;>grind) (by grind)
 ·have ez:jw z=z:=if_neg hz
  rw[ez];have hd:=Rat.mul_nonneg (a:=z) (b:=p) (by grind) hp;exact xt (d:=z*p) (e:=1/1000000) hd true (by simp only[if_true];constructor<;>grind) (by grind)
theorem B8 {c' x0':Rat}(n:Nat):oD ((gx 200 k c x0 (n+1)).1-c) ((gx 200 k c' x0' (n+1)).1-c')≤oD ((gx 200 k c x0 n).1-c) ((gx 200 k c' x0' n).1-c')∨oD ((gx 200 k c x0 (n+1)).1-c) ((gx 200 k c' x0' (n+1)).1-c')≤1/1000000:=by
 obtain ⟨e,a1,a2,a3⟩:=oe (x:=(gx 200 k c x0 n).1) (c:=c) (k:=k) (w:=(gx 200 k c x0 n).2) (b:=200) hr;obtain ⟨f,b1,b2,b3⟩:=oe (x:=(gx 200 k c' x0' n).1) (c:=c') (k:=k) (w:=(gx 200 k c' x0' n).2) (b:=200) hr;have g1:(gx 200 k c x0 (n+1)).1-c=r*((gx 200 k c x0 n).1-c)+e:=a1;have g2:(gx 200 k c' x0' (n+1)).1-c'=r*((gx 200 k c' x0' n).1-c')+f:=b1;rw[g1,g2];have he:=x6;have he0:=Dl 200
 have ht:(2*ep 200)*(2*ep 200)≤1/1000000000000:=by
  have hm:=Rat.mul_nonneg (a:=1/1000000000-ep 200) (b:=ep 200) (by grind) he0
  grind
 unfold oD
 rcases ur (u:=(gx 200 k c x0 n).1-c) (v:=(gx 200 k c' x0' n).1-c') h0 h1 ⟨a2,a3⟩ ⟨b2,b3⟩ ht with h|h
 ·left;grind
 ·right;exact h
end
theorem Gc {x y:Int}(hx:0≤x)(hy:0<y):((aa x/aa y:Nat):Int)=x/y∧((aa x%aa y:Nat):Int)=x%y:=by
 obtain ⟨a,rfl⟩:=Int.eq_ofNat_of_zero_le hx;obtain ⟨b,rfl⟩:=Int.eq_ofNat_of_zero_le (a:=y) oM;exact ⟨rfl,rfl⟩
theorem G8 {x y:Int}(hx:x<0)(hy:0<y)(hr:0<aa x%aa y):bn true (aa x/aa y+1)=x/y∧((aa y-aa x%aa y:Nat):Int)=x%y:=by
 obtain ⟨a,ha⟩:=Int.eq_ofNat_of_zero_le (a:=-x) oM;obtain ⟨b,rfl⟩:=Int.eq_ofNat_of_zero_le (a:=y) oM;obtain rfl:x = -(a:Int):=by omega
 have e1:aa (-(a:Int))=a:=by unfold aa;omega
 have e2:aa (b:Int)=b:=rfl;rw[e1,e2] at hr ⊢
 have hd:=Nat.div_add_mod a b;have hm:=Nat.mod_lt a (show 0<b by omega);have hd2:(b:Int)*((a/b:Nat):Int)+((a%b:Nat):Int)=a:=by exact_mod_cast hd
 have e3:bn true (a/b+1) = -(((a/b:Nat):Int)+1):=by unfold bn;rfl
 rw[e3]
 have h:=(Int.ediv_emod_unique (a:=-(a:Int)) (b:=(b:Int)) (r:=((b-a%b:Nat):Int)) (q:=-(((a/b:Nat):Int)+1)) oM).2 ⟨by
  have e4:((b-a%b:Nat):Int)=(b:Int)-((a%b:Nat):Int):=by omega
  rw[e4,Int.mul_neg,Int.mul_add];omega,by omega,by omega⟩
 exact ⟨h.1.symm,h.2.symm⟩
theorem G3 {x y:Int}(hx:x<0)(hy:0<y)(hr:aa x%aa y=0):bn true (aa x/aa y)=x/y∧((aa x%aa y:Nat):Int)=x%y:=by
 obtain ⟨a,ha⟩:=Int.eq_ofNat_of_zero_le (a:=-x) oM;obtain ⟨b,rfl⟩:=Int.eq_ofNat_of_zero_le (a:=y) oM;obtain rfl:x = -(a:Int):=by omega
 have e1:aa (-(a:Int))=a:=by unfold aa;omega
 have e2:aa (b:Int)=b:=rfl;rw[e1,e2] at hr ⊢
 have hd:=Nat.div_add_mod a b;have hd2:(b:Int)*((a/b:Nat):Int)+((a%b:Nat):Int)=a:=by exact_mod_cast hd
 rw[hr] at hd2 ⊢
 have h:=(Int.ediv_emod_unique (a:=-(a:Int)) (b:=(b:Int)) (r:=((0:Nat):Int)) (q:=-((a/b:Nat):Int)) oM).2 ⟨by rw[Int.mul_neg];omega,by omega,by omega⟩;exact ⟨h.1.symm,h.2.symm⟩
theorem vW {x y:Int}{k:Nat}(h:(wds (aa x)).length≤k):(wds (aa (x/y))).length≤k:=au (Int.natAbs_ediv_le_natAbs x y) h
theorem xH {x y:Int}{k:Nat}(hy:0<y)(h:(wds (aa y)).length≤k):(wds (aa (x%y))).length≤k:=au (by
 have h1:=Int.emod_nonneg x (b:=y) oM;have h2:=Int.emod_lt_of_pos x hy
 unfold aa;omega) h
theorem o7 {x y:Int}{k:Nat}(hx:(wds (aa x)).length≤k)(hy:(wds (aa y)).length≤k):(wds (aa (x+y))).length≤k+1:=Nat.le_trans (dg (show aa (x+y)≤aa x+aa y from by unfold aa;omega)) (kh hx hy)
theorem qG (x y:Int):(x<y∧dH x y = -1)∨(x=y∧dH x y=0)∨(y<x∧dH x y=1):=by
 rcases Int.lt_trichotomy x y with h|h|h
 ·exact .inl ⟨h,rR h⟩
 ·exact .inr (.inl ⟨h,by subst h;unfold dH;rw[if_neg oM,if_neg oM]⟩)
 ·exact .inr (.inr ⟨h,sD h⟩)
theorem x2 {a:Rat}{b:Nat}{q r:Int}(hq:q=a.num*((2^b:Nat):Int)/((a.den:Nat):Int))(hr:r=a.num*((2^b:Nat):Int)%((a.den:Nat):Int))(h:((a.den:Nat):Int)<r+r∨(r+r=((a.den:Nat):Int)∧q%2=1)):mkRat (q+1) (2^b)=bR a b:=by
 subst hq hr;unfold bR fO;rw[if_pos h]
theorem wU {a:Rat}{b:Nat}{q r:Int}(hq:q=a.num*((2^b:Nat):Int)/((a.den:Nat):Int))(hr:r=a.num*((2^b:Nat):Int)%((a.den:Nat):Int))(h:¬(((a.den:Nat):Int)<r+r∨(r+r=((a.den:Nat):Int)∧q%2=1))):mkRat q (2^b)=bR a b:=by
 subst hq hr;unfold bR fO;rw[if_neg h,Int.add_zero]
theorem CM (b:Nat)(hb:b≤65536)(w:World)(h:Hp)(g:G w h):CV 149 #[nv 1,nV b] w h (nv (2^b)):=by
 have x:=xN 1 b (Nat.le_trans (cH.2 kD:(wds 1).length≤1) kD) hb w h g;rw[Nat.one_mul] at x
 exact x
theorem Gf (x y:Int)(hy:0<y)(hlx:(wds (aa x)).length≤999999990)(hly:(wds (aa y)).length≤999999990)(hx:ai x=false)(hyn:ai y=false)(w:World)(h:Hp)(g:G w h):CR 150 #[wX (.bool false) (aa x),wX (.bool false) (aa y)] w h (fun v _=>∃ q r:Int,v=.tuple #[iv q,iv r,.bool true]∧q=x/y∧r=x%y):=by
 have hs:=sS g;have hy0:0<aa y:=by unfold aa;omega
 have hrb:=Nat.mod_lt (aa x) hy0;have hql:(wds (aa x/aa y)).length≤999999990:=au (Nat.div_le_self _ _) hlx;have hrl:(wds (aa x%aa y)).length≤999999990:=au (Nat.le_of_lt hrb) hly;have h1l:(wds 1).length≤1:=cH.2 kD;have hq1:(wds (aa x/aa y+1)).length≤1000000000:=Nat.le_trans fy oM;have hrs:(wds (aa y-aa x%aa y)).length≤1000000000:=Nat.le_trans (au (Nat.sub_le _ _) hly) kD;have hnz:=@iC (aa x%aa y);refine go Tryz.func150 [(0,wX qF (aa x)),(1,wX qF (aa y))] rfl (aD (lA 2 37 (wC qF (aa x)) hs (fun b1 w2 h3 hs=>lA 3 37 (wC qF (aa y)) hs (fun b4 w5 h6 hs=>lA 4 37 ([qF,uV 0,eS]) hs (fun b7 w8 h9 hs=>lA 5 37 ([qF,uV 0,eS]) hs (fun za _ _ hs=>lL hs [.v 6 qF] (ay (lL hs [.v 10 (qP b1 1),.o 11 (nv (aa x)) 3 1 2,.v 12 (qP b4 1),.o 13 (nv (aa y)) 2 1 2] (ah 14 hs (vL (aa x) (aa y) oM oM oM _ _ hs.g) (fun _ _ hs=>lL hs [.m 9 14,.v 15 (nv ((aa x)/(aa y))),.v 16 (nv ((aa x)%(aa y))),.v 17 qT] (lA 7 35 ([uV 0,eS]) hs (fun b15 _ _ hs=>lA 8 35 ([uV 0,eS]) hs (fun b18 _ _ hs=>lP 1 0 (nc ((aa x)/(aa y))) hs (fun _ hs=>lP 0 0 (nc ((aa x)%(aa y))) hs (fun _ hs=>lL hs [.m 6 17] (af (ab hs [.m 18 6,.v 19 qF] (am (cK (cQ (ab hs [.v 22 (pB b1),.o 23 qF 5 0 1,.v 24 (pB b4),.o 25 qF 4 0 1,.v 26 qF,.m 27 26] (lG 28 ?_))))))))))))))))))))));refine lG 29 (lG 30 (lL hs [.v 31 qF] (am (cK (cQ ?_)))));have hsr:=hs;refine jL 11 [] [b7,za] mixed hs aq (eV 0 42 (pB b1) (eO 1 43 [(5,0,1)] qF hs (eV 2 44 (pB b4) (eO 3 45 [(4,0,1)] qF hs (eV 4 46 qF (eO 5 47 [(1,0,2)] (nv ((aa x)/(aa y))) hs (eV 7 49 (pB b4) (iK 8 50 [(4,0,1)] qF hsr hs ?_ (hM:=fun p hp=>by obtain rfl:=List.mem_singleton.1 hp;exact fun hm=>by rcases List.mem_cons.1 hm with e|hm;exact bh hs.st (i:=4) (j:=3) kR kR kR e;rcases List.mem_cons.1 hm with e|hm;exact bh hs.st (i:=4) (j:=2) kR kR kR e;cases hm)))))))));refine iK 9 51 [(0,0,2)] (nv ((aa x)%(aa y))) hsr hs ?_ (hM:=fun p hp=>by obtain rfl:=List.mem_singleton.1 hp;exact fun hm=>by rcases List.mem_cons.1 hm with e|hm;exact bh hs.st (i:=0) (j:=3) kR kR kR e;rcases List.mem_cons.1 hm with e|hm;exact bh hs.st (i:=0) (j:=2) kR kR kR e;cases hm);refine ak 6 48 hs (fun _ _ hs=>dM ((aa x)/(aa y)) _ _ hs.g) (fun _ _ hs=>ak 10 52 hs (fun _ _ hs=>dM ((aa x)%(aa y)) _ _ hs.g) (fun _ _ hs=>bF hs (fun _ _ hs=>tP 11 3 0 (ic ((((aa x)/(aa y)):Nat):Int)) hs (fun _ hs=>?_) (hz:=az (List.mem_cons_self)))));refine tP 12 2 0 (ic ((((aa x)%(aa y)):Nat):Int)) hs (fun _ hs=>?_) (hz:=az (List.mem_cons_of_mem _<|List.mem_cons_self));refine tV 13 6 qT (tN (bD [(4,pB b7),(5,pB za),(6,qT)] ?_));exact kX (hs.ret [(3,0,3),(2,0,3)] (.tuple #[iv ((((aa x)/(aa y)):Nat):Int),iv ((((aa x)%(aa y)):Nat):Int),qT]) (⟨_,_,rfl,(Gc (a6 hx) hy).1,(Gc (a6 hx) hy).2⟩))
theorem HJ (x y:Int)(hy:0<y)(hlx:(wds (aa x)).length≤999999990)(hly:(wds (aa y)).length≤999999990)(hx:ai x=true)(hyn:ai y=false)(w:World)(h:Hp)(g:G w h):CR 150 #[wX (.bool true) (aa x),wX (.bool false) (aa y)] w h (fun v _=>∃ q r:Int,v=.tuple #[iv q,iv r,.bool true]∧q=x/y∧r=x%y):=by
 have hs:=sS g;have hy0:0<aa y:=by unfold aa;omega
 have hrb:=Nat.mod_lt (aa x) hy0;have hql:(wds (aa x/aa y)).length≤999999990:=au (Nat.div_le_self _ _) hlx;have hrl:(wds (aa x%aa y)).length≤999999990:=au (Nat.le_of_lt hrb) hly;have h1l:(wds 1).length≤1:=cH.2 kD;have hq1:(wds (aa x/aa y+1)).length≤1000000000:=Nat.le_trans fy oM;have hrs:(wds (aa y-aa x%aa y)).length≤1000000000:=Nat.le_trans (au (Nat.sub_le _ _) hly) kD;have hnz:=@iC (aa x%aa y);refine go Tryz.func150 [(0,wX qT (aa x)),(1,wX qF (aa y))] rfl (aD (lA 2 37 (wC qT (aa x)) hs (fun b1 w2 h3 hs=>lA 3 37 (wC qF (aa y)) hs (fun b4 w5 h6 hs=>lA 4 37 ([qF,uV 0,eS]) hs (fun b7 w8 h9 hs=>lA 5 37 ([qF,uV 0,eS]) hs (fun zb _ _ hs=>lL hs [.v 6 qF] (ay (lL hs [.v 10 (qP b1 1),.o 11 (nv (aa x)) 3 1 2,.v 12 (qP b4 1),.o 13 (nv (aa y)) 2 1 2] (ah 14 hs (vL (aa x) (aa y) oM oM oM _ _ hs.g) (fun _ _ hs=>lL hs [.m 9 14,.v 15 (nv ((aa x)/(aa y))),.v 16 (nv ((aa x)%(aa y))),.v 17 qT] (lA 7 35 ([uV 0,eS]) hs (fun b15 _ _ hs=>lA 8 35 ([uV 0,eS]) hs (fun b18 _ _ hs=>lP 1 0 (nc ((aa x)/(aa y))) hs (fun _ hs=>lP 0 0 (nc ((aa x)%(aa y))) hs (fun _ hs=>lL hs [.m 6 17] (af (ab hs [.m 18 6,.v 19 qF] (am (cK (cQ (ab hs [.v 22 (pB b1),.o 23 qT 5 0 1,.v 24 (pB b4),.o 25 qF 4 0 1,.v 26 qT,.m 27 26,.o 28 (nv ((aa x)%(aa y))) 0 0 2] (ah 29 hs (fd ((aa x)%(aa y)) bV _ _ hs.g) (fun _ _ hs=>?_)))))))))))))))))))))));cases za:(decide ((0:Int)<((nb ((aa x)%(aa y)):Nat):Int)))
 ·
  have zc:=oF za;refine lB 30 za (lL hs [.v 31 qF] (am (cK (cQ ?_))));have hsr:=hs;refine jL 11 [] [b7,zb] mixed hs aq (eV 0 42 (pB b1) (eO 1 43 [(5,0,1)] qT hs (eV 2 44 (pB b4) (eO 3 45 [(4,0,1)] qF hs (eV 4 46 qT (eO 5 47 [(1,0,2)] (nv ((aa x)/(aa y))) hs (eV 7 49 (pB b4) (iK 8 50 [(4,0,1)] qF hsr hs ?_ (hM:=fun p hp=>by obtain rfl:=List.mem_singleton.1 hp;exact fun hm=>by rcases List.mem_cons.1 hm with e|hm;exact bh hs.st (i:=4) (j:=3) kR kR kR e;rcases List.mem_cons.1 hm with e|hm;exact bh hs.st (i:=4) (j:=2) kR kR kR e;cases hm)))))))));refine iK 9 51 [(0,0,2)] (nv ((aa x)%(aa y))) hsr hs ?_ (hM:=fun p hp=>by obtain rfl:=List.mem_singleton.1 hp;exact fun hm=>by rcases List.mem_cons.1 hm with e|hm;exact bh hs.st (i:=0) (j:=3) kR kR kR e;rcases List.mem_cons.1 hm with e|hm;exact bh hs.st (i:=0) (j:=2) kR kR kR e;cases hm);refine ak 6 48 hs (fun _ _ hs=>fp true ((aa x)/(aa y)) bV _ _ hs.g) (fun _ _ hs=>ak 10 52 hs (fun _ _ hs=>dM ((aa x)%(aa y)) _ _ hs.g) (fun _ _ hs=>bF hs (fun _ _ hs=>tP 11 3 0 (ic (bn true ((aa x)/(aa y)))) hs (fun _ hs=>?_) (hz:=az (List.mem_cons_self)))));refine tP 12 2 0 (ic ((((aa x)%(aa y)):Nat):Int)) hs (fun _ hs=>?_) (hz:=az (List.mem_cons_of_mem _<|List.mem_cons_self));refine tV 13 6 qT (tN (bD [(4,pB b7),(5,pB zb),(6,qT)] ?_));exact kX (hs.ret [(3,0,3),(2,0,3)] (.tuple #[iv (bn true ((aa x)/(aa y))),iv ((((aa x)%(aa y)):Nat):Int),qT]) (⟨_,_,rfl,(G3 (a8 hx) hy oM).1,(G3 (a8 hx) hy oM).2⟩))
 have zc:=oT za;refine lB 30 za (lL hs [.v 31 qT] (ar (cQ (cR 3 [] mixed hs aq ?_))));refine eO 0 32 [(1,0,2)] (nv ((aa x)/(aa y))) hs (ak 1 33 hs (fun _ _ hs=>FB 1 oM _ _ hs.g) (fun _ _ hs=>ak 2 34 hs (fun _ _ hs=>Fw ((aa x)/(aa y)) 1 bV bV _ _ hs.g) (fun _ _ hs=>bF hs (fun _ _ hs=>tP 3 1 0 (nc (((aa x)/(aa y))+1)) hs (fun _ hs=>tN (kQ (lL hs [.v 36 (qP b4 1),.o 37 (nv (aa y)) 4 1 2,.o 38 (nv ((aa x)%(aa y))) 0 0 2] (ah 39 hs (xJ (aa y) ((aa x)%(aa y)) oM bV bV _ _ hs.g) (fun _ _ hs=>lL hs [.m 35 39,.v 40 (nv ((aa y)-((aa x)%(aa y)))),.v 41 qT] (lP 0 0 (nc ((aa y)-((aa x)%(aa y)))) hs (fun _ hs=>af ?_)))))))))));have hsr:=hs;refine jL 11 [] [b7,zb] mixed hs aq (eV 0 42 (pB b1) (eO 1 43 [(5,0,1)] qT hs (eV 2 44 (pB b4) (eO 3 45 [(4,0,1)] qF hs (eV 4 46 qT (eO 5 47 [(1,0,2)] (nv (((aa x)/(aa y))+1)) hs (eV 7 49 (pB b4) (iK 8 50 [(4,0,1)] qF hsr hs ?_ (hM:=fun p hp=>by obtain rfl:=List.mem_singleton.1 hp;exact fun hm=>by rcases List.mem_cons.1 hm with e|hm;exact bh hs.st (i:=4) (j:=3) kR kR kR e;rcases List.mem_cons.1 hm with e|hm;exact bh hs.st (i:=4) (j:=2) kR kR kR e;cases hm)))))))));refine iK 9 51 [(0,0,2)] (nv ((aa y)-((aa x)%(aa y)))) hsr hs ?_ (hM:=fun p hp=>by obtain rfl:=List.mem_singleton.1 hp;exact fun hm=>by rcases List.mem_cons.1 hm with e|hm;exact bh hs.st (i:=0) (j:=3) kR kR kR e;rcases List.mem_cons.1 hm with e|hm;exact bh hs.st (i:=0) (j:=2) kR kR kR e;cases hm);refine ak 6 48 hs (fun _ _ hs=>fp true (((aa x)/(aa y))+1) bV _ _ hs.g) (fun _ _ hs=>ak 10 52 hs (fun _ _ hs=>dM ((aa y)-((aa x)%(aa y))) _ _ hs.g) (fun _ _ hs=>bF hs (fun _ _ hs=>tP 11 3 0 (ic (bn true (((aa x)/(aa y))+1))) hs (fun _ hs=>?_) (hz:=az (List.mem_cons_self)))));refine tP 12 2 0 (ic ((((aa y)-((aa x)%(aa y))):Nat):Int)) hs (fun _ hs=>?_) (hz:=az (List.mem_cons_of_mem _<|List.mem_cons_self));refine tV 13 6 qT (tN (bD [(4,pB b7),(5,pB zb),(6,qT)] ?_));exact kX (hs.ret [(3,0,3),(2,0,3)] (.tuple #[iv (bn true (((aa x)/(aa y))+1)),iv ((((aa y)-((aa x)%(aa y))):Nat):Int),qT]) (⟨_,_,rfl,(G8 (a8 hx) hy oM).1,(G8 (a8 hx) hy oM).2⟩))
theorem Dv (x y:Int)(hy:0<y)(hlx:(wds (aa x)).length≤999999990)(hly:(wds (aa y)).length≤999999990)(w:World)(h:Hp)(g:G w h):CR 150 #[iv x,iv y] w h (fun v _=>∃ q r:Int,v=.tuple #[iv q,iv r,.bool true]∧q=x/y∧r=x%y):=by
 have hyn:ai y=false:=by unfold ai;exact decide_eq_false oM
 rcases hx:ai x with _|_<;>rw[ij hx,ij hyn]
 ·exact Gf x y hy hlx hly hx hyn w h g
 ·exact HJ x y hy hlx hly hx hyn w h g
theorem Hr (a:Rat)(ha:LQ 100000000 a)(b:Nat)(hb:b≤256)(w:World)(h:Hp)(g:G w h)(tb:Tab h):CV 95 #[qv a,nV b] w h (qv (bR a b)):=by
 have hs:=((sS g).aB tb);have ha1:=ha.1;have ha2:=ha.2;have hp0:0<2^b:=Nat.pow_pos kD;have hp1:(wds (2^b)).length≤5:=dw (b:=18446744073709551616) (k:=5) kD (Nat.lt_of_le_of_lt (Nat.pow_le_pow_right (n:=2) kD hb) (by decide +kernel));have hdp:(0:Int)<(a.den:Int):=by have:=a.den_pos;omega
 have hzl:(wds (aa (a.num*((2^b:Nat):Int)))).length≤100000006:=by rw[show aa (a.num*((2^b:Nat):Int))=aa a.num*2^b from by unfold aa;rw[Int.natAbs_mul,Int.natAbs_natCast]];exact Nat.le_trans dr oM
 have hdl:(wds (aa (a.den:Int))).length≤100000000:=ha2;refine go Tryz.func95 [(0,qv a),(1,nV b)] rfl (aD (lA 2 39 (qc a) hs (fun b1 w2 h3 hs=>lA 4 39 ([qF,uV 0,eS,uV 0,eS]) hs (fun b4 w5 h6 hs=>ay (lL hs [.m 14 1] (lV 15 (nV b) ?_ (hr:=aW (n:=if (256:Int)<(b:Int) then (256:Int) else (b:Int)) kR (if_neg oM))))))));refine lV 16 (nV b) ?_ (hr:=aW (n:=if (b:Int)>(0:Int) then (b:Int) else (0:Int)) kR (by split<;>omega));refine lL hs [.m 1 16] (ay (ah 17 hs (FB 1 oM _ _ hs.g) (fun w7 h8 hs=>lL hs [.m 18 1] (ah 19 hs (CM b oM _ _ hs.g) (fun w9 _ hs=>lA 5 35 ([uV 0,eS]) hs (fun zg _ _ hs=>lP 0 0 (nc (2^b)) hs (fun _ hs=>ay (lL hs [.o 20 (qv a) 2 0 5] (ah 21 hs (fu a aM _ _ hs.g) (fun _ _ hs=>ah 22 hs (dM a.den _ _ hs.g) (fun _ _ hs=>lA 6 37 ([qF,uV 0,eS]) hs (fun b19 _ _ hs=>lP 0 0 (ic (a.den:Int)) hs (fun _ hs=>af ?_)))))))))))));have hsr:=hs;refine cR 12 [⟨10,7,.cells (List.toArray [qF,uV 0,eS]) 37 (0,0)⟩,⟨11,8,.cells (List.toArray [qF,uV 0,eS]) 37 (0,0)⟩] mixed hs (bC (eW kR (fun _ _=>by kernel_rfl)) (bC (eW kR (fun _ _=>by kernel_rfl)) aq)) (eV 0 24 (pB b1) (eO 1 25 [(3,0,3)] (iv a.num) hs (eO 2 26 [(1,0,2)] (nv (2^b)) hs (eO 4 28 [(0,0,3)] (iv (a.den:Int)) hs (ak 3 27 hs (fun _ _ hs=>g6 a.num (2^b) bV _ _ hs.g) (fun _ _ hs=>eC 5 29 hs (fun _ _ hs=>Dv (a.num*(((2^b):Nat):Int)) (a.den:Int) hdp oM oM _ _ hs.g) ?_))))));rintro _ _ _ _ _ hs ⟨q,r,rfl,hq,hr⟩;have hql:(wds (aa q)).length≤100000006:=by rw[hq];exact vW oM
 have hrl:(wds (aa r)).length≤100000000:=by rw[hr];exact xH hdp oM
 have hcc:=qG (r+r) (a.den:Int);have hq1:=o7 (x:=q) (y:=1) (by omega:(wds (aa q)).length≤100000006) (by rw[show aa 1=1 from rfl];exact Nat.le_trans (cH.2 kD) (show 1≤100000006 by decide));have hi1:(wds (aa 1)).length≤1:=cH.2 kD;have hr2:=o7 (x:=r) (y:=r) hrl hrl;refine eV 6 23 (.tuple #[iv q,iv r,qT]) (eV 7 30 (iv q) (eV 8 31 (iv r) (eV 9 32 qT (Ir hsr hs 37 [qF,uV 0,eS] 37 [qF,uV 0,eS] (fun _ _ zi b30 hs=>tP 12 0 0 (ic q) hs (fun _ hs=>tP 13 1 0 (ic r) hs (fun _ hs=>tV 14 9 qT (tN (cQ (cR 5 [] mixed hs aq ?_))))))))));refine eO 0 33 [(1,0,3)] (iv r) hs (eO 1 34 [(1,0,3)] (iv r) hs (eO 3 36 [(2,0,3)] (iv (a.den:Int)) hs (ak 2 35 hs (fun _ _ hs=>vz r r bV _ _ hs.g) (fun _ _ hs=>ak 4 37 hs (fun _ _ hs=>uB (r+r) (a.den:Int) bV bV _ _ hs.g) (fun _ _ hs=>bF hs (fun _ _ hs=>tV 5 10 (iV (dH (r+r) (a.den:Int))) (tN (cQ (ab hs [.m 38 10] ?_)))))))));cases za:((dH (r+r) (a.den:Int):Int) == (0:Int))
 ·
  have zd:=aj za;refine lB 39 za (am (cK (cQ (ab hs [.m 49 10] ?_))));cases zb:(decide ((0:Int)<(dH (r+r) (a.den:Int):Int)))
  ·
   have ze:=oF zb;refine lB 50 zb (am (cK (ab hs [.o 54 (iv q) 0 0 3,.o 55 (nv (2^b)) 3 0 2] (ah 56 hs (iO q (2^b) bV bV bV _ _ hs.g hs.f.1) (fun _ _ hs=>lP 4 0 (qc (mkRat q (2^b))) hs (fun _ hs=>lN (bD [(4,pB b4)] ?_)))))));exact kX (hs.ret [(4,0,5)] (qv (mkRat q (2^b))) (congrArg qv (wU hq hr oM)))
  have ze:=oT zb;refine lB 50 zb (ar (cR 3 [] mixed hs aq ?_));refine eO 0 51 [(0,0,3)] (iv q) hs (ak 1 52 hs (fun _ _ hs=>Id 1 oM oM _ _ hs.g) (fun _ _ hs=>ak 2 53 hs (fun _ _ hs=>vz q 1 bV _ _ hs.g) (fun _ _ hs=>bF hs (fun _ _ hs=>tP 3 0 0 (ic (q+1)) hs (fun _ hs=>tN (bD [(4,pB b4),(5,pB zg),(7,pB zi)] ?_))))));exact ab hs [.o 54 (iv (q+1)) 0 0 3,.o 55 (nv (2^b)) 3 0 2] (ah 56 hs (iO (q+1) (2^b) bV bV bV _ _ hs.g hs.f.1) (fun _ _ hs=>lP 4 0 (qc (mkRat (q+1) (2^b))) hs (fun _ hs=>ae hs [(4,0,5)] (qv (mkRat (q+1) (2^b))) (congrArg qv (x2 hq hr oM)))))
 have zd:=eq_of_beq za;refine lB 39 za (ar (cQ ?_));have hsr:=hs;refine cR 9 [⟨7,11,.cells (List.toArray [qF,uV 0,eS]) 37 (0,0)⟩,⟨8,12,.cells (List.toArray [qF,uV 0,eS]) 37 (0,0)⟩] mixed hs (bC (eW kR (fun _ _=>by kernel_rfl)) (bC (eW kR (fun _ _=>by kernel_rfl)) aq)) (eO 0 41 [(0,0,3)] (iv q) hs (ak 1 42 hs (fun _ _ hs=>Id 2 oM oM _ _ hs.g) (fun _ _ hs=>?_)));have hi2:(wds (aa 2)).length≤1:=cH.2 kD;refine eC 2 43 hs (fun _ _ hs=>Dv q 2 kD oM oM _ _ hs.g) ?_;rintro _ _ _ _ _ hs ⟨p,o,rfl,hp,ho⟩;have hop:o=0∨o=1:=by omega
 have hos:o.sign=o:=by rcases hop with h_|h_<;>rw[h_]<;>rfl
 have hol:(wds (aa o)).length≤1:=by rcases hop with h_|h_<;>rw[h_]<;>exact cH.2 kD
 refine eV 3 40 (.tuple #[iv p,iv o,qT]) (eV 4 44 (iv p) (eV 5 45 (iv o) (eV 6 46 qT (Ir hsr hs 37 [qF,uV 0,eS] 37 [qF,uV 0,eS] (fun _ _ b60 zj hs=>tP 9 0 0 (ic p) hs (fun _ hs=>tP 10 1 0 (ic o) hs (fun _ hs=>tV 11 13 qT (tN (bD [(4,pB b4),(5,pB zg),(7,pB zi),(10,iV (dH (r+r) (a.den:Int))),(12,pB zj)] ?_)))))))));refine kQ (lL hs [.o 47 (iv o) 1 0 3] (ah 48 hs (j9 o bV _ _ hs.g) (fun _ _ hs=>lL hs [.m 10 48] (af (ab hs [.m 49 10] ?_)))));cases zc:(decide ((0:Int)<((o).sign:Int)))
 ·
  have zf:=oF zc;exact lB 50 zc (am (cK (ab hs [.o 54 (iv q) 2 0 3,.o 55 (nv (2^b)) 5 0 2] (ah 56 hs (iO q (2^b) bV bV bV _ _ hs.g hs.f.1) (fun _ _ hs=>lP 6 0 (qc (mkRat q (2^b))) hs (fun _ hs=>ae hs [(6,0,5)] (qv (mkRat q (2^b))) (congrArg qv (wU hq hr oM))))))))
 have zf:=oT zc;refine lB 50 zc (ar (cR 3 [] mixed hs aq ?_));exact eO 0 51 [(2,0,3)] (iv q) hs (ak 1 52 hs (fun _ _ hs=>Id 1 oM oM _ _ hs.g) (fun _ _ hs=>ak 2 53 hs (fun _ _ hs=>vz q 1 bV _ _ hs.g) (fun _ _ hs=>bF hs (fun _ _ hs=>tP 3 2 0 (ic (q+1)) hs (fun _ hs=>sw (lL hs [.o 54 (iv (q+1)) 2 0 3,.o 55 (nv (2^b)) 5 0 2] (ah 56 hs (iO (q+1) (2^b) bV bV bV _ _ hs.g hs.f.1) (fun _ _ hs=>lP 6 0 (qc (mkRat (q+1) (2^b))) hs (fun _ hs=>ae hs [(6,0,5)] (qv (mkRat (q+1) (2^b))) (congrArg qv (x2 hq hr oM)))))))))))
theorem I0 (A:Option Addr)(c:Nat)(qs:List Rat)(K:Nat)(hn:qs.length≤10)(hK:∀ i,LQ K (qs.getD i 0))(hb:K≤5000000)(w:World)(h:Hp)(g:G w h)(hA:Sq A qs h)(tb:Tab h):CV 41 #[.slice A qs.length c] w h (qv (AA qs qs.length)):=by
 have hs:=(((sS g).aS hA).aB tb);refine go Tryz.func41 [(0,qS A qs.length c)] rfl (aD (lA 2 39 ([qF,uV 0,eS,uV 0,eS]) hs (fun b1 w2 h3 hs=>ay (lA 3 39 ([qF,uV 0,eS,uV 0,eS]) hs (fun b4 w5 h6 hs=>af (ab hs [.m 6 0,.v 7 (nV qs.length),.v 8 (iV 0)] (bd ?_)))))));refine bD _ (CG.loop (fun μ_ Γ w_=>∃ (k:Nat) (s:Rat) (h_:Hp),μ_=qs.length-k∧Γ=[(2,pB b1),(3,pB b4),(6,qS A qs.length c),(7,nV qs.length),(8,nV k)]∧SS w h w_ h_ [⟨b4,39,qc s⟩,⟨b1,39,[qF,uV 0,eS,uV 0,eS]⟩] [] [fun h_=>Tab h_,Sq A qs]∧k≤qs.length∧s=AA qs k∧LQ (k*(K+1)+1) s) _ ⟨0,0,h6,rfl,rfl,hs.to _ _,Nat.zero_le _,rfl,(nh oM)⟩ ?_);rintro _ _ w7 ⟨k,s,h8,hm9,rfl,hs,hk,hse,hsb⟩;have hkK:k*(K+1)≤10*(K+1):=Nat.mul_le_mul_right _ oM;refine aD ?_;cases za:(decide ((k:Int)<(qs.length:Int)))
 ·
  have zb:=oF za;refine lB 9 za (af (dK (CG.exit ?_)))
  show CG _ _ _ _ _ _ _ _
  exact ab hs [.o 16 (qv s) 0 0 5] (lP 1 0 (qc s) hs (fun _ hs=>ae hs [(1,0,5)] (qv s) (by rw[show qs.length=k by omega,←hse])))
 have zb:=oT za;refine lB 9 za (af (cI (cK (cQ (kZ (aD (lX 10 A qs.length c 5 (k:Nat) k ((hs.f.2.1).ok oM) ?_)))))));refine lH 11 (qv (qs.getD k 0)) hs ((hs.f.2.1).el k oM) (lA 5 39 ([qF,uV 0,eS,uV 0,eS]) hs (fun b12 _ _ hs=>lP 0 0 (qc (qs.getD k 0)) hs (fun _ hs=>lN (kQ (lL hs [.o 12 (qv s) 1 0 5,.o 13 (qv (qs.getD k 0)) 0 0 5] ?_)))));have hq16:=LQ.add hsb (hK k);refine ah 14 hs (ki s (qs.getD k 0) (LQ.mono hsb oM) (LQ.mono (hK k) oM) _ _ hs.g hs.f.1) (fun _ zc hs=>lP 1 0 (qc (s+(qs.getD k 0))) hs (fun _ hs=>lN (kQ (bw 15 ((k:Nat)+1) (k+1) ?_))));refine lL hs [.m 8 15] (lD ?_);intro a_ ka;replace hs:=hs.drop 1 0;refine ⟨_,_,?_,⟨k+1,(s+(qs.getD k 0)),zc,rfl,rfl,hs.to _ _,oM,(by rw[hse];rfl),((hsb.add (hK k)).mono (by rw[Nat.succ_mul];omega))⟩,ka.to _ kR⟩
 omega
theorem HN {a:Rat}(h:a.num.sign=0):a=0:=by
 rw[←Rat.num_eq_zero];exact Int.sign_eq_zero_iff_zero.1 h
theorem Bz.sgb {wt sg:Nat→Nat}{C k:Nat}{bar g:List Rat}(Z:Bz wt sg C (k+1) bar g)(hw:1≤wt k):sg k≤C:=by
 obtain ⟨f,E,hf,hE,hC⟩:=Z;rw[mQ] at hC
 have h2:=Nat.mul_le_mul_left (sg k+2) hw
 omega
theorem Fk (n_:Nat)(A:Option Addr)(c:Nat)(l:List Stp)(O:Option Addr)(d:Nat)(os:List Int)(at_:List Rat)(X:Option Addr)(cX:Nat)(by_:List Rat)(Y:Option Addr)(cY:Nat)(wt sg:Nat→Nat)(W_:Nat)(hl:l.length≤65536)(ho:os.length≤300)(hat2:at_.length≤1000000)(hbt2:by_.length≤1000000)(hq:∀ i,LQ 1 (l.getD i ac).q)(hby:∀ i,LQ 1 (by_.getD i 0))(hB:bv (n_:Int) l os=0→(at_.length:Int)=(n_:Int)→∀ k,k≤l.length→bW true l at_ k=0→∀ j,LQ 1000000 ((aZ l at_ k).getD j 0))(hwt:bv (n_:Int) l os=0→Wt l wt)(hW:∀ j,j<l.length→wt j≤W_)(hSg:bv (n_:Int) l os=0→(at_.length:Int)=(n_:Int)→bW true l at_ l.length=0→∀ k,k<l.length→(l.getD k ac).op≠2→LQ (sg k) (nO (l.getD k ac).op (l.getD k ac).n ((aZ l at_ l.length).getD (l.getD k ac).a.toNat 0) ((aZ l at_ l.length).getD (l.getD k ac).b.toNat 0))∧LQ (sg k) (oL (l.getD k ac).op ((aZ l at_ l.length).getD (l.getD k ac).a.toNat 0) ((aZ l at_ l.length).getD (l.getD k ac).b.toNat 0)))(hC:bv (n_:Int) l os=0→1+jo wt (fun _=>1) l.length+os.length*(2*W_)+k7 wt sg l.length≤100000000)(w:World)(h:Hp)(g:G w h)(hA:SlO 9 fW ac h A l)(hO:Si O os h)(hX:Sq X at_ h)(hY:Sq Y by_ h)(tb:Tab h):CR 45 #[.agg #[nV n_,.slice A ((l).length) c,.slice O ((os).length) d],.slice X at_.length cX,.slice Y by_.length cY] w h (fun v h1=>∃ A c B d,v=.tuple #[.slice A (fT (n_:Int) l os at_ by_).length c,.slice B (cB (n_:Int) l os at_ by_).length d,iV (bM (n_:Int) l os at_ by_)]∧(fT (n_:Int) l os at_ by_).length≤c∧(cB (n_:Int) l os at_ by_).length≤d∧Sq A (fT (n_:Int) l os at_ by_) h1∧Sq B (cB (n_:Int) l os at_ by_) h1∧(bM (n_:Int) l os at_ by_=0→∀ way,dB (cB (n_:Int) l os at_ by_) way ((n_:Int)).toNat=Aa l os at_ by_ way)∧(bM (n_:Int) l os at_ by_=0→h.size≤aB B)):=by
 have hs:=((((((sS g).aS hA).aS hO).aS hX).aS hY).aB tb);refine go Tryz.func45 [(0,.agg #[nV n_,qS A ((l).length) c,qS O ((os).length) d]),(1,qS X at_.length cX),(2,qS Y by_.length cY)] rfl (aD (lA 3 46 ([nV n_,qS A ((l).length) c,qS O ((os).length) d]) hs (fun b1 w2 h3 hs=>lL hs [.v 6 (sZ),.v 7 (sZ),.v 8 (iV 0)] (af (ab hs [.o 17 (.agg #[nV n_,qS A ((l).length) c,qS O ((os).length) d]) 0 0 3] (ah 18 hs (l6 (n_:Int) A c l O d os oM oM (fun i _=>hq i) _ _ hs.g hs.f.q.1 hs.f.r.2.1) (fun w4 h5 hs=>?_)))))));cases hb6:((bv (n_:Int) l os:Int) != (0:Int))
 ·
  have phb6:=aJ hb6;refine lB 19 hb6 (am (cK (cQ (ab hs [.m 20 1,.v 21 (nV at_.length),.v 22 (pB b1),.o 23 (nV n_) 0 0 1] ?_))));cases hb7:((at_.length:Int) != (n_:Int))
  ·
   have phb7:=aJ hb7;refine lB 24 hb7 (lL hs [.m 25 24,.m 26 2,.v 27 (nV by_.length),.v 28 (qP b1 2),.o 29 (qS O ((os).length) d) 0 2 1,.v 30 (nV ((os).length))] ?_);cases hb8:((by_.length:Int) != (((os).length:Nat):Int))
   ·
    have phb8:=aJ hb8;refine lB 31 hb8 (lL hs [.v 32 qF] (am (cK (ab hs [.o 34 (.agg #[nV n_,qS A ((l).length) c,qS O ((os).length) d]) 0 0 3,.m 35 1] ?_))));have hck:bv (n_:Int) l os=0:=by omega
    refine lC 36 hs (re true true rfl (n_:Int) A c l O d os at_ X cX (eD hck).1 oM oM hq (hB hck oM) _ _ hs.g hs.f.q.1 hs.f.r.2.1 hs.f.r.1 hs.f.1) ?_;rintro _ w9 _ hs ⟨Av,cv,rfl,hcv,hAv⟩;replace hs:=hs.aS hAv;refine lL hs [.m 33 36,.v 37 (qS Av ((cu true l at_).length) cv),.v 38 (iV (bW true l at_ l.length)),.m 9 37,.m 8 38] (af (ab hs [.m 39 8] ?_));cases zd:((bW true l at_ l.length:Int) != (0:Int))
    ·
     have zo:=aJ zd;refine lB 40 zd (am (cK (ab hs [.v 42 (pB b1),.o 43 (nV n_) 0 0 1] (lK 44 39 n_ 5 56 (.agg #[qF,uV 0,eS,uV 0,eS]) qc 0 hs (fun zb _ _ hs=>?_)))));have hl15:(List.replicate n_ 0).length=n_:=by simp
     refine lL hs [.m 7 44] (ay (lL hs [.v 45 (qP b1 1),.o 46 (qS A ((l).length) c) 1 1 1,.v 47 (nV ((l).length))] (lK 48 39 ((l).length) 5 56 (.agg #[qF,uV 0,eS,uV 0,eS]) qc 0 hs (fun za _ zD hs=>?_))));have hl19:(List.replicate ((l).length) 0).length=((l).length):=by simp
     refine lL hs [.m 10 48] (af (ab hs [.v 49 (qP b1 2),.o 50 (qS O ((os).length) d) 2 2 1,.v 51 (nV ((os).length)),.v 52 (iV 0)] (lN (bD [(2,qS Y by_.length cY),(3,pB b1),(6,sZ),(7,qS (sB zb) n_ n_),(8,iV (bW true l at_ l.length)),(9,qS Av ((cu true l at_).length) cv),(10,qS (sB za) ((l).length) ((l).length)),(50,qS O ((os).length) d),(51,nV ((os).length)),(52,iV 0)] ?_))));refine kZ ?_;have hter:bW true l at_ l.length=0:=by omega
     have hvl:cu true l at_=aZ l at_ l.length:=if_pos hter;have hLb:∀ j,LQ 1000000 ((cu true l at_).getD j 0):=fun j=>by rw[hvl];exact hB hck oM l.length (nR _) hter j
     have hvn:(cu true l at_).length=l.length:=by rw[hvl,eM]
     have hWt:=hwt hck;have hw1:=fun j (hj:j<l.length)=>(hWt j hj).1
     have hSgk:=hSg hck oM hter;have hCC:=hC hck;have hOok:=(eD hck).2.1;refine bD _ (CG.loop (fun μ_ Γ w_=>∃ (i:Nat) (bar:List Rat) (h_:Hp),μ_=os.length-i∧Γ=[(2,qS Y by_.length cY),(3,pB b1),(6,sZ),(7,qS (sB zb) n_ n_),(8,iV (bW true l at_ l.length)),(9,qS Av ((cu true l at_).length) cv),(10,qS (sB za) ((l).length) ((l).length)),(50,qS O ((os).length) d),(51,nV ((os).length)),(52,nV i)]∧SS w h w_ h_ [⟨za,39,(bar).flatMap qc⟩,⟨zb,39,(List.replicate n_ 0).flatMap qc⟩,⟨b1,46,[nV n_,qS A ((l).length) c,qS O ((os).length) d]⟩] [] [Sq Av (cu true l at_),fun h_=>Tab h_,Sq Y by_,Sq X at_,Si O os,fun h_=>SlO 9 fW ac h_ A l]∧i≤os.length∧bar.length=l.length∧Bo l os at_ by_ i bar∧Bos wt l.length W_ i bar) _ ⟨0,List.replicate l.length (0:Rat),zD,rfl,rfl,hs.to _ _,Nat.zero_le _,(by simp),Bo.init,Bos.init _ _ _⟩ ?_);rintro _ _ _ ⟨i,bar,zE,hm22,rfl,hs,hik,hbl,hBo,hBs⟩;have hiW:=Nat.mul_le_mul_right (2*W_) hik;have hiC:jo wt (fun _=>1) l.length+i*(2*W_)≤100000000:=by omega
     have hok:=fun h0=>hOok i h0
     refine aD ?_;cases ze:(decide ((i:Int)<(((os).length:Nat):Int)))
     ·
      have zp:=oF ze;refine lB 53 ze (af (dK (CG.exit ?_)))
      show CG _ _ _ _ _ _ _ _
      refine cQ (ab hs [.v 70 (qP b1 1),.o 71 (qS A ((l).length) c) 2 1 1,.v 72 (nV ((l).length))] (lI 73 (((l).length:Nat)-1) ?_));refine lL hs [.m 13 73] (bd ?_);have hie:i=os.length:=by omega
      rw[hie] at hBo hBs
      refine bD _ (CG.loop (fun μ_ Γ w_=>∃ (k:Nat) (g:List Rat) (bar:List Rat) (h_:Hp),μ_=k∧Γ=[(3,pB b1),(6,sZ),(7,qS (sB zb) n_ n_),(8,iV (bW true l at_ l.length)),(9,qS Av ((cu true l at_).length) cv),(10,qS (sB za) ((l).length) ((l).length)),(13,iV ((k:Nat)-1))]∧SS w h w_ h_ [⟨za,39,(bar).flatMap qc⟩,⟨zb,39,(g).flatMap qc⟩,⟨b1,46,[nV n_,qS A ((l).length) c,qS O ((os).length) d]⟩] [] [Sq Av (cu true l at_),fun h_=>Tab h_,Sq Y by_,Sq X at_,Si O os,fun h_=>SlO 9 fW ac h_ A l]∧k≤l.length∧g.length=n_∧bar.length=l.length∧Bk l at_ n_ (Aa l os at_ by_) k bar g∧Bz wt sg 100000000 k bar g) _ ⟨l.length,List.replicate n_ (0:Rat),bar,zE,rfl,rfl,hs.to _ _,nR _,(by simp),hbl,(hBo.bk n_),(hBs.bz oM)⟩ ?_);rintro _ _ _ ⟨k,g,bar,_,hm26,rfl,hs,hk,hgl,hbl,hBk,hZ⟩;have hw1k:=fun j (hj:j<k)=>hw1 j oM
      refine cQ (ab hs [.m 74 13] ?_);cases zf:(decide ((0:Int)≤((k:Nat)-1:Int)))
      ·
       have zq:=oF zf;refine lB 75 zf (am (CG.exit ?_))
       show CG _ _ _ _ _ _ _ _
       refine aD ?_;have hkn:k=0:=by omega
       rw[hkn] at hBk
       have hfin:=hBk.fin hgl;have hgd:g=gE n_ l os at_ by_:=hfin.1;rw[hgd] at hfin
       obtain ⟨_,hs,sg29,lo30,bc31⟩:=hs.pub 1;replace hs:=(hs.to [⟨za,39,(bar).flatMap qc⟩,⟨b1,46,[nV n_,qS A ((l).length) c,qS O ((os).length) d]⟩] []).aS (SlO.of_flat (sz:=5) (f:=qc) (d:=0) (b:=zb) (o:=0) (l:=g) (fun _=>rfl) sg29);replace hs:=hs.aS (show Sq (sB zb) (gE n_ l os at_ by_) _ from by rw[←hgd];exact hs.f.1);have hgn:(gE n_ l os at_ by_).length=n_:=by rw[←hgd];exact hgl
       have hcd:(gE n_ l os at_ by_).length≤n_:=by omega
       refine lL hs [.o 161 (.agg #[nV n_,qS A ((l).length) c,qS O ((os).length) d]) 1 0 3,.m 162 9] (lC 163 hs (Ds (n_:Int) A c l O d os (cu true l at_) Av cv oM (by rw[hvl,eM];exact (eD hck).2.1) _ _ hs.g hs.f.q.r.2.1 hs.f.q.r.1 hs.f.r.1) ?_);rintro _ _ _ hs ⟨Ao,co,rfl,hco,hAo⟩;replace hs:=hs.aS hAo;exact lL hs [.m 164 7,.m 6 163,.m 7 164,.v 8 (iV 0)] (ae hs [] (.tuple #[qS Ao ((ei (cu true l at_) os).length) co,qS (sB zb) n_ n_,iV 0]) (by obtain ⟨e1,e2,e3⟩:=EM (inp:=(n_:Int)) (l:=l) (os:=os) (at_:=at_) (by_:=by_) hck oM oM hter;rw[e1,e2,e3,←hvl];exact ⟨_,_,_,_,(by rw[show (gE (n_:Int).toNat l os at_ by_).length=n_ from hgn]),hco,hcd,hs.f.1,hs.f.2.1,fun _=>hfin.2,fun _=>lo30⟩))
      have zq:=oT zf;refine lB 75 zf (ar (cK (cQ (kZ (aD ?_)))));have hk1:k-1+1=k:=by omega
      have hB1:Bk l at_ n_ (Aa l os at_ by_) (k-1+1) bar g:=by rw[hk1];exact hBk
      have hZ1:Bz wt sg 100000000 (k-1+1) bar g:=by rw[hk1];exact hZ
      have hwk:=hw1 (k-1) oM;have fk:=(eD hck).1 (k-1) oM;have hopr:=fk.opr;have hok_:=HK hter (by omega:k-1<l.length) (eD hck).1;obtain ⟨hx1,hx2,hx3,hx4⟩:=fk.ix;refine lL hs [.v 78 (qP b1 1),.o 79 (qS A ((l).length) c) 2 1 1,.m 80 13] (lX 81 A ((l).length) c 9 ((k:Nat)-1) (k-1) ((hs.f.q.2.1).ok oM) ?_);refine lH 82 (sX (l.getD (k-1) ac)) hs ((hs.f.q.2.1).el (k-1) oM) (lA 14 144 ([iV 0,iV 0,iV 0,iV 0,qF,uV 0,eS,uV 0,eS]) hs (fun zc _ _ hs=>lP 0 0 (sC (l.getD (k-1) ac)) hs (fun _ hs=>af (ab hs [.m 83 10,.m 84 13] (lX 85 (sB za) ((l).length) ((l).length) 5 ((k:Nat)-1) (k-1) rfl ?_)))));refine lQ 86 1 bar qc 5 0 (k-1) (qv ((bar).getD (k-1) 0)) hs oM (ah 87 hs (eL ((bar).getD (k-1) 0) (LQ.mono (hZ.lb hw1k (k-1) oM) oM) _ _ hs.g) (fun _ zF hs=>?_));cases zg:((((bar).getD (k-1) 0).num.sign:Int) == (0:Int))
      ·
       have zr:=aj zg;refine lB 88 zg (am (cK (cQ (ab hs [.v 89 (pB zc),.o 90 (iV ((l.getD (k-1) ac).op)) 0 0 1] ?_))));cases zi:(((l.getD (k-1) ac).op:Int) == (2:Int))
       ·
        have zs:=aj zi;refine lB 91 zi (am (cK (cQ ?_)));have hsr:=hs;refine cR 17 [⟨15,15,.cells (List.toArray [qF,uV 0,eS,uV 0,eS]) 39 (0,0)⟩,⟨16,16,.cells (List.toArray [qF,uV 0,eS,uV 0,eS]) 39 (0,0)⟩] mixed hs (bC (eW kR (fun _ _=>by kernel_rfl)) (bC (eW kR (fun _ _=>by kernel_rfl)) aq)) ?_;have ho2:(l.getD (k-1) ac).op≠2:=by omega
        obtain ⟨hok6,hok8⟩:=DG hvl hok_ ho2 oM fk.o68.1 fk.o68.2;have hsg8:sg (k-1)≤100000000:=hZ1.sgb hwk;refine eO 0 107 [(0,0,9)] (sX (l.getD (k-1) ac)) hs (eV 1 108 (qS Av ((cu true l at_).length) cv) (eV 2 109 (qP zc 1) (eO 3 110 [(0,1,1)] (iV ((l.getD (k-1) ac).a)) hs (eX 4 111 Av ((cu true l at_).length) cv 5 ((l.getD (k-1) ac).a) ((l.getD (k-1) ac).a.toNat) ((hs.f.1).ok oM) (eH 5 112 (qv ((cu true l at_).getD ((l.getD (k-1) ac).a.toNat) 0)) hs ((hs.f.1).el ((l.getD (k-1) ac).a.toNat) oM) (eV 6 113 (qS Av ((cu true l at_).length) cv) (eV 7 114 (qP zc 2) (eO 8 115 [(0,2,1)] (iV ((l.getD (k-1) ac).b)) hs (eX 9 116 Av ((cu true l at_).length) cv 5 ((l.getD (k-1) ac).b) ((l.getD (k-1) ac).b.toNat) ((hs.f.1).ok oM) (eH 10 117 (qv ((cu true l at_).getD ((l.getD (k-1) ac).b.toNat) 0)) hs ((hs.f.1).el ((l.getD (k-1) ac).b.toNat) oM) (eC 11 118 hs (fun _ _ hs=>xg (l.getD (k-1) ac) ((cu true l at_).getD (l.getD (k-1) ac).a.toNat 0) ((cu true l at_).getD (l.getD (k-1) ac).b.toNat 0) 1000000 oM (hLb _) (hLb _) (hq (k-1)) kD (fk.op_ ho2) fk.2.2.2.2.2.1 hok6 hok8 _ _ hs.g hs.f.2.1) ?_)))))))))));rintro _ _ _ _ _ hs ⟨da,db,rfl,hda,hdb⟩;obtain ⟨hsa,hsb⟩:=hSgk (k-1) oM oM;rw[←hvl,←hda] at hsa
        rw[←hvl,←hdb] at hsb
        refine eV 12 106 (.tuple #[qv da,qv db]) (eV 13 119 (qv da) (eV 14 120 (qv db) (Ir hsr hs 39 [qF,uV 0,eS,uV 0,eS] 39 [qF,uV 0,eS,uV 0,eS] (fun _ _ zl zm hs=>tP 17 0 0 (qc da) hs (fun _ hs=>tP 18 1 0 (qc db) hs (fun _ hs=>tN (bD [(3,pB b1),(6,sZ),(7,qS (sB zb) n_ n_),(8,iV (bW true l at_ l.length)),(9,qS Av ((cu true l at_).length) cv),(10,qS (sB za) ((l).length) ((l).length)),(13,iV ((k:Nat)-1)),(14,pB zc),(16,pB zm),(15,pB zl)] ?_)))))));refine cQ (ab hs [.v 121 (pB zc),.o 122 (iV ((l.getD (k-1) ac).op)) 2 0 1] (ah 123 hs (kz (l.getD (k-1) ac).op _ _ hs.g) (fun _ _ hs=>?_)));cases zj:(decide ((0:Int)<(dD (l.getD (k-1) ac).op:Int)))
        ·
         have zt:=oF zj;refine lB 124 zj (am (cK (ab hs [.v 141 (pB zc),.o 142 (iV ((l.getD (k-1) ac).op)) 2 0 1] (ah 143 hs (kz (l.getD (k-1) ac).op _ _ hs.g) (fun _ zG hs=>?_)))));have ⟨zx,phb56⟩:=dF (p:=(1:Int)<(dD (l.getD (k-1) ac).op:Int)) oM;refine lB 144 zx (am (cK (kQ (lL hs [.m 76 13] (lI 77 (((k:Nat)-1)-1) ?_)))));refine lE (ik:=.i64) 13 (show (k:Int)-1-1=((k-1:Nat):Int)-1 by omega) (lD ?_);intro a_ ka;replace hs:=hs.drop 3 0;refine ⟨_,_,?_,⟨k-1,g,bar,zG,rfl,rfl,hs.to _ _,oM,hgl,hbl,(by first|exact hB1.skip (HN oM)|exact hB1.num oM hopr oM oM),hZ1.skip⟩,ka.to _ kR⟩
         omega
        have zt:=oT zj;refine lB 124 zj (ar (cR 15 [] mixed hs aq ?_));refine eV 0 125 (qS (sB za) ((l).length) ((l).length)) (eV 1 126 (qP zc 1) (eO 2 127 [(2,1,1)] (iV ((l.getD (k-1) ac).a)) hs (eV 3 128 (qS (sB za) ((l).length) ((l).length)) (eV 4 129 (qP zc 1) (eO 5 130 [(2,1,1)] (iV ((l.getD (k-1) ac).a)) hs (eX 6 131 (sB za) ((l).length) ((l).length) 5 ((l.getD (k-1) ac).a) ((l.getD (k-1) ac).a.toNat) rfl (eQ 7 132 3 bar qc 5 0 ((l.getD (k-1) ac).a.toNat) (qv ((bar).getD ((l.getD (k-1) ac).a.toNat) 0)) hs oM (eV 8 133 (qS (sB za) ((l).length) ((l).length)) (eV 9 134 (iV ((k:Nat)-1)) (eX 10 135 (sB za) ((l).length) ((l).length) 5 ((k:Nat)-1) (k-1) rfl (eQ 11 136 3 bar qc 5 0 (k-1) (qv ((bar).getD (k-1) 0)) hs oM (eO 12 137 [(0,0,5)] (qv da) hs ?_))))))))))));have hq62:=LQ.mul (hZ.lb hw1k (k-1) oM) hsa;refine ak 13 138 hs (fun _ _ hs=>ji ((bar).getD (k-1) 0) da (LQ.mono (hZ.lb hw1k (k-1) oM) oM) (LQ.mono hsa oM) _ _ hs.g hs.f.2.1) (fun _ _ hs=>?_);have hq65:=LQ.add (hZ.lb hw1k ((l.getD (k-1) ac).a.toNat) oM) (hZ1.mul hwk hsa);refine ak 14 139 hs (fun _ _ hs=>ki ((bar).getD ((l.getD (k-1) ac).a.toNat) 0) (((bar).getD (k-1) 0)*da) (LQ.mono (hZ.lb hw1k ((l.getD (k-1) ac).a.toNat) oM) oM) (LQ.mono (hZ1.mul hwk hsa) oM) _ _ hs.g hs.f.2.1) (fun _ _ hs=>bF hs (fun _ _ hs=>tX 15 140 (sB za) ((l).length) ((l).length) 5 ((l.getD (k-1) ac).a) ((l.getD (k-1) ac).a.toNat) rfl (tW 16 3 bar qc 5 ((l.getD (k-1) ac).a.toNat) (((bar).getD ((l.getD (k-1) ac).a.toNat) 0)+(((bar).getD (k-1) 0)*da)) hs oM (fun _ hs=>?_))));have zn:((bar).set ((l.getD (k-1) ac).a.toNat) (((bar).getD ((l.getD (k-1) ac).a.toNat) 0)+(((bar).getD (k-1) 0)*da))).length=((l).length):=by rw[List.length_set];exact hbl
        replace hs:=hs.to [⟨zl,39,qc da⟩,⟨zm,39,qc db⟩,⟨zc,144,sC (l.getD (k-1) ac)⟩,⟨za,39,((bar).set ((l.getD (k-1) ac).a.toNat) (((bar).getD ((l.getD (k-1) ac).a.toNat) 0)+(((bar).getD (k-1) 0)*da))).flatMap qc⟩,⟨zb,39,(g).flatMap qc⟩,⟨b1,46,[nV n_,qS A ((l).length) c,qS O ((os).length) d]⟩] [];refine sw (lL hs [.v 141 (pB zc),.o 142 (iV ((l.getD (k-1) ac).op)) 2 0 1] (ah 143 hs (kz (l.getD (k-1) ac).op _ _ hs.g) (fun _ zH hs=>?_)));cases zk:(decide ((1:Int)<(dD (l.getD (k-1) ac).op:Int)))
        ·
         have zu:=oF zk;refine lB 144 zk (am (cK (kQ (lL hs [.m 76 13] (lI 77 (((k:Nat)-1)-1) ?_)))));refine lE (ik:=.i64) 13 (show (k:Int)-1-1=((k-1:Nat):Int)-1 by omega) (lD ?_);intro a_ ka;replace hs:=hs.drop 3 0;refine ⟨_,_,?_,⟨k-1,g,(bar).set ((l.getD (k-1) ac).a.toNat) (((bar).getD ((l.getD (k-1) ac).a.toNat) 0)+(((bar).getD (k-1) 0)*da)),zH,rfl,rfl,hs.to _ _,oM,hgl,zn,(hB1.one oM hopr oM oM oM oM (by rw[hda,hvl])),(hZ1.one ((hWt _ oM).2.1 oM) (hopr.1 oM) hsa)⟩,ka.to _ kR⟩
         omega
        have zu:=oT zk;refine lB 144 zk (ar (cR 15 [] mixed hs aq ?_));have hT2:=hZ1.two (a:=(l.getD (k-1) ac).a.toNat) (b:=(l.getD (k-1) ac).b.toNat) hwk (fun j hj=>hw1 j oM) ((hWt _ oM).2.2 oM) (hopr.1 oM) (hopr.2.1 oM) oM hsa hsb rfl;refine eV 0 145 (qS (sB za) ((l).length) ((l).length)) (eV 1 146 (qP zc 2) (eO 2 147 [(2,2,1)] (iV ((l.getD (k-1) ac).b)) hs (eV 3 148 (qS (sB za) ((l).length) ((l).length)) (eV 4 149 (qP zc 2) (eO 5 150 [(2,2,1)] (iV ((l.getD (k-1) ac).b)) hs (eX 6 151 (sB za) ((l).length) ((l).length) 5 ((l.getD (k-1) ac).b) ((l.getD (k-1) ac).b.toNat) rfl (eQ 7 152 3 ((bar).set ((l.getD (k-1) ac).a.toNat) (((bar).getD ((l.getD (k-1) ac).a.toNat) 0)+(((bar).getD (k-1) 0)*da))) qc 5 0 ((l.getD (k-1) ac).b.toNat) (qv (((bar).set ((l.getD (k-1) ac).a.toNat) (((bar).getD ((l.getD (k-1) ac).a.toNat) 0)+(((bar).getD (k-1) 0)*da))).getD ((l.getD (k-1) ac).b.toNat) 0)) hs oM (eV 8 153 (qS (sB za) ((l).length) ((l).length)) (eV 9 154 (iV ((k:Nat)-1)) (eX 10 155 (sB za) ((l).length) ((l).length) 5 ((k:Nat)-1) (k-1) rfl (eQ 11 156 3 ((bar).set ((l.getD (k-1) ac).a.toNat) (((bar).getD ((l.getD (k-1) ac).a.toNat) 0)+(((bar).getD (k-1) 0)*da))) qc 5 0 (k-1) (qv (((bar).set ((l.getD (k-1) ac).a.toNat) (((bar).getD ((l.getD (k-1) ac).a.toNat) 0)+(((bar).getD (k-1) 0)*da))).getD (k-1) 0)) hs oM (eO 12 157 [(1,0,5)] (qv db) hs ?_))))))))))));have hq80:=LQ.mul hT2.1 hsb;refine ak 13 158 hs (fun _ _ hs=>ji (((bar).set ((l.getD (k-1) ac).a.toNat) (((bar).getD ((l.getD (k-1) ac).a.toNat) 0)+(((bar).getD (k-1) 0)*da))).getD (k-1) 0) db (LQ.mono hT2.1 oM) (LQ.mono hsb oM) _ _ hs.g hs.f.2.1) (fun _ _ hs=>?_);have hq83:=LQ.add hT2.2.1 hT2.2.2.1;refine ak 14 159 hs (fun _ _ hs=>ki (((bar).set ((l.getD (k-1) ac).a.toNat) (((bar).getD ((l.getD (k-1) ac).a.toNat) 0)+(((bar).getD (k-1) 0)*da))).getD ((l.getD (k-1) ac).b.toNat) 0) ((((bar).set ((l.getD (k-1) ac).a.toNat) (((bar).getD ((l.getD (k-1) ac).a.toNat) 0)+(((bar).getD (k-1) 0)*da))).getD (k-1) 0)*db) (LQ.mono hT2.2.1 oM) (LQ.mono hT2.2.2.1 oM) _ _ hs.g hs.f.2.1) (fun _ _ hs=>bF hs (fun _ zI hs=>tX 15 160 (sB za) ((l).length) ((l).length) 5 ((l.getD (k-1) ac).b) ((l.getD (k-1) ac).b.toNat) rfl (tW 16 3 ((bar).set ((l.getD (k-1) ac).a.toNat) (((bar).getD ((l.getD (k-1) ac).a.toNat) 0)+(((bar).getD (k-1) 0)*da))) qc 5 ((l.getD (k-1) ac).b.toNat) ((((bar).set ((l.getD (k-1) ac).a.toNat) (((bar).getD ((l.getD (k-1) ac).a.toNat) 0)+(((bar).getD (k-1) 0)*da))).getD ((l.getD (k-1) ac).b.toNat) 0)+((((bar).set ((l.getD (k-1) ac).a.toNat) (((bar).getD ((l.getD (k-1) ac).a.toNat) 0)+(((bar).getD (k-1) 0)*da))).getD (k-1) 0)*db)) hs oM (fun _ hs=>?_))));have zA:(((bar).set ((l.getD (k-1) ac).a.toNat) (((bar).getD ((l.getD (k-1) ac).a.toNat) 0)+(((bar).getD (k-1) 0)*da))).set ((l.getD (k-1) ac).b.toNat) ((((bar).set ((l.getD (k-1) ac).a.toNat) (((bar).getD ((l.getD (k-1) ac).a.toNat) 0)+(((bar).getD (k-1) 0)*da))).getD ((l.getD (k-1) ac).b.toNat) 0)+((((bar).set ((l.getD (k-1) ac).a.toNat) (((bar).getD ((l.getD (k-1) ac).a.toNat) 0)+(((bar).getD (k-1) 0)*da))).getD (k-1) 0)*db))).length=((l).length):=by rw[List.length_set];exact zn
        replace hs:=hs.to [⟨zl,39,qc da⟩,⟨zm,39,qc db⟩,⟨zc,144,sC (l.getD (k-1) ac)⟩,⟨za,39,(((bar).set ((l.getD (k-1) ac).a.toNat) (((bar).getD ((l.getD (k-1) ac).a.toNat) 0)+(((bar).getD (k-1) 0)*da))).set ((l.getD (k-1) ac).b.toNat) ((((bar).set ((l.getD (k-1) ac).a.toNat) (((bar).getD ((l.getD (k-1) ac).a.toNat) 0)+(((bar).getD (k-1) 0)*da))).getD ((l.getD (k-1) ac).b.toNat) 0)+((((bar).set ((l.getD (k-1) ac).a.toNat) (((bar).getD ((l.getD (k-1) ac).a.toNat) 0)+(((bar).getD (k-1) 0)*da))).getD (k-1) 0)*db))).flatMap qc⟩,⟨zb,39,(g).flatMap qc⟩,⟨b1,46,[nV n_,qS A ((l).length) c,qS O ((os).length) d]⟩] [];refine tN (bD [(3,pB b1),(6,sZ),(7,qS (sB zb) n_ n_),(8,iV (bW true l at_ l.length)),(9,qS Av ((cu true l at_).length) cv),(10,qS (sB za) ((l).length) ((l).length)),(13,iV ((k:Nat)-1))] ?_);refine kQ (lL hs [.m 76 13] (lI 77 (((k:Nat)-1)-1) ?_));refine lE (ik:=.i64) 13 (show (k:Int)-1-1=((k-1:Nat):Int)-1 by omega) (lD ?_);intro a_ ka;replace hs:=hs.drop 3 0;refine ⟨_,_,?_,⟨k-1,g,((bar).set ((l.getD (k-1) ac).a.toNat) (((bar).getD ((l.getD (k-1) ac).a.toNat) 0)+(((bar).getD (k-1) 0)*da))).set ((l.getD (k-1) ac).b.toNat) ((((bar).set ((l.getD (k-1) ac).a.toNat) (((bar).getD ((l.getD (k-1) ac).a.toNat) 0)+(((bar).getD (k-1) 0)*da))).getD ((l.getD (k-1) ac).b.toNat) 0)+((((bar).set ((l.getD (k-1) ac).a.toNat) (((bar).getD ((l.getD (k-1) ac).a.toNat) 0)+(((bar).getD (k-1) 0)*da))).getD (k-1) 0)*db)),zI,rfl,rfl,hs.to _ _,oM,hgl,zA,(hB1.two oM hopr oM oM oM (by rw[hda,hvl]) (by rw[hdb,hvl]) rfl),hT2.2.2.2⟩,ka.to _ kR⟩
        omega
       have zs:=eq_of_beq zi;refine lB 91 zi (ar (cQ (cR 13 [] mixed hs aq ?_)));obtain ⟨hx5,hx6⟩:=fk.nm oM;refine eV 0 92 (qS (sB zb) n_ n_) (eV 1 93 (qP zc 3) (eO 2 94 [(0,3,1)] (iV ((l.getD (k-1) ac).n)) hs (eV 3 95 (qS (sB zb) n_ n_) (eV 4 96 (qP zc 3) (eO 5 97 [(0,3,1)] (iV ((l.getD (k-1) ac).n)) hs (eX 6 98 (sB zb) n_ n_ 5 ((l.getD (k-1) ac).n) ((l.getD (k-1) ac).n.toNat) rfl (eQ 7 99 2 g qc 5 0 ((l.getD (k-1) ac).n.toNat) (qv ((g).getD ((l.getD (k-1) ac).n.toNat) 0)) hs oM (eV 8 100 (qS (sB za) ((l).length) ((l).length)) (eV 9 101 (iV ((k:Nat)-1)) (eX 10 102 (sB za) ((l).length) ((l).length) 5 ((k:Nat)-1) (k-1) rfl (eQ 11 103 1 bar qc 5 0 (k-1) (qv ((bar).getD (k-1) 0)) hs oM ?_)))))))))));have hq95:=LQ.add (hZ.lg ((l.getD (k-1) ac).n.toNat)) (hZ.lb hw1k (k-1) oM);refine ak 12 104 hs (fun _ _ hs=>ki ((g).getD ((l.getD (k-1) ac).n.toNat) 0) ((bar).getD (k-1) 0) (LQ.mono (hZ.lg ((l.getD (k-1) ac).n.toNat)) oM) (LQ.mono (hZ.lb hw1k (k-1) oM) oM) _ _ hs.g hs.f.2.1) (fun _ _ hs=>bF hs (fun _ zJ hs=>tX 13 105 (sB zb) n_ n_ 5 ((l.getD (k-1) ac).n) ((l.getD (k-1) ac).n.toNat) rfl (tW 14 2 g qc 5 ((l.getD (k-1) ac).n.toNat) (((g).getD ((l.getD (k-1) ac).n.toNat) 0)+((bar).getD (k-1) 0)) hs oM (fun _ hs=>?_))));have zv:((g).set ((l.getD (k-1) ac).n.toNat) (((g).getD ((l.getD (k-1) ac).n.toNat) 0)+((bar).getD (k-1) 0))).length=n_:=by rw[List.length_set];exact hgl
       replace hs:=hs.to [⟨zc,144,sC (l.getD (k-1) ac)⟩,⟨za,39,(bar).flatMap qc⟩,⟨zb,39,((g).set ((l.getD (k-1) ac).n.toNat) (((g).getD ((l.getD (k-1) ac).n.toNat) 0)+((bar).getD (k-1) 0))).flatMap qc⟩,⟨b1,46,[nV n_,qS A ((l).length) c,qS O ((os).length) d]⟩] [];refine tN (CG.exit ?_)
       show CG _ _ _ _ _ _ _ _
       refine kQ (lL hs [.m 76 13] (lI 77 (((k:Nat)-1)-1) ?_));refine lE (ik:=.i64) 13 (show (k:Int)-1-1=((k-1:Nat):Int)-1 by omega) (lD ?_);intro a_ ka;replace hs:=hs.drop 1 0;refine ⟨_,_,?_,⟨k-1,(g).set ((l.getD (k-1) ac).n.toNat) (((g).getD ((l.getD (k-1) ac).n.toNat) 0)+((bar).getD (k-1) 0)),bar,zJ,rfl,rfl,hs.to _ _,oM,zv,hbl,(hB1.name oM hopr oM oM oM),(hZ1.name hwk _)⟩,ka.to _ kR⟩
       omega
      have zr:=eq_of_beq zg;refine lB 88 zg (ar (CG.exit ?_))
      show CG _ _ _ _ _ _ _ _
      refine kQ (lL hs [.m 76 13] (lI 77 (((k:Nat)-1)-1) ?_));refine lE (ik:=.i64) 13 (show (k:Int)-1-1=((k-1:Nat):Int)-1 by omega) (lD ?_);intro a_ ka;replace hs:=hs.drop 1 0;refine ⟨_,_,?_,⟨k-1,g,bar,zF,rfl,rfl,hs.to _ _,oM,hgl,hbl,(by first|exact hB1.skip (HN oM)|exact hB1.num oM hopr oM oM),hZ1.skip⟩,ka.to _ kR⟩
      omega
     have zp:=oT ze;refine lB 53 ze (af (cI (cK (cQ (kZ (ab hs [.m 54 52] (lX 55 O ((os).length) d 1 (i:Nat) i ((hs.f.q.1).ok oM) ?_)))))));refine lH 56 (iV (os.getD i 0)) hs ((hs.f.q.1).el i oM) (lL hs [.m 11 54,.m 12 56] (lN (cR 11 [] mixed hs aq ?_)));refine eV 0 57 (qS (sB za) ((l).length) ((l).length)) (eV 1 58 (iV (os.getD i 0)) (eV 2 59 (qS (sB za) ((l).length) ((l).length)) (eV 3 60 (iV (os.getD i 0)) (eX 4 61 (sB za) ((l).length) ((l).length) 5 (os.getD i 0) ((os.getD i 0).toNat) rfl (eQ 5 62 0 bar qc 5 0 ((os.getD i 0).toNat) (qv ((bar).getD ((os.getD i 0).toNat) 0)) hs oM (eV 6 63 (qS Y by_.length cY) (eV 7 64 (nV i) (eX 8 65 Y by_.length cY 5 (i:Nat) i ((hs.f.r.1).ok oM) (eH 9 66 (qv (by_.getD i 0)) hs ((hs.f.r.1).el i oM) ?_)))))))));have hq112:=LQ.add (hBs.lb hw1 hiC ((os.getD i 0).toNat) oM) (hby i);refine ak 10 67 hs (fun _ _ hs=>ki ((bar).getD ((os.getD i 0).toNat) 0) (by_.getD i 0) (LQ.mono (hBs.lb hw1 hiC ((os.getD i 0).toNat) oM) oM) (LQ.mono (hby i) oM) _ _ hs.g hs.f.2.1) (fun _ _ hs=>bF hs (fun _ zB hs=>tX 11 68 (sB za) ((l).length) ((l).length) 5 (os.getD i 0) ((os.getD i 0).toNat) rfl (tW 12 0 bar qc 5 ((os.getD i 0).toNat) (((bar).getD ((os.getD i 0).toNat) 0)+(by_.getD i 0)) hs oM (fun _ hs=>?_))));have zw:((bar).set ((os.getD i 0).toNat) (((bar).getD ((os.getD i 0).toNat) 0)+(by_.getD i 0))).length=((l).length):=by rw[List.length_set];exact hbl
     replace hs:=hs.to [⟨za,39,((bar).set ((os.getD i 0).toNat) (((bar).getD ((os.getD i 0).toNat) 0)+(by_.getD i 0))).flatMap qc⟩,⟨zb,39,(List.replicate n_ 0).flatMap qc⟩,⟨b1,46,[nV n_,qS A ((l).length) c,qS O ((os).length) d]⟩] [];refine tN (kQ (bw 69 ((i:Nat)+1) (i+1) ?_));refine lL hs [.m 52 69] (lD ?_);intro a_ ka;refine ⟨_,_,?_,⟨i+1,(bar).set ((os.getD i 0).toNat) (((bar).getD ((os.getD i 0).toNat) 0)+(by_.getD i 0)),zB,rfl,rfl,hs.to _ _,oM,zw,(hBo.step oM oM hbl),(hBs.step oM (hW _ oM) (hby _))⟩,ka.to _ kR⟩
     omega
    have zo:=aU zd;exact lB 40 zd (ar (ab hs [.m 41 8,.v 6 (sZ),.v 7 (sZ),.m 8 41] (ae hs [] (.tuple #[sZ,sZ,iV (bW true l at_ l.length)]) (by obtain ⟨e1,e2,e3⟩:=FS (inp:=(n_:Int)) (l:=l) (os:=os) (at_:=at_) (by_:=by_) hck oM oM oM;rw[e1,e2,e3];exact ⟨none,0,none,0,rfl,nR _,nR _,SlO.nil,SlO.nil,fun h_=>absurd h_ oM,fun h_=>absurd h_ oM⟩))))
   have phb8:=aU hb8;exact lB 31 hb8 (lL hs [.v 32 qT] (ar (ab hs [.v 6 (sZ),.v 7 (sZ),.v 8 (iV 5)] (ae hs [] (.tuple #[sZ,sZ,iV 5]) (by obtain ⟨e1,e2,e3⟩:=vP (inp:=(n_:Int)) (l:=l) (os:=os) (at_:=at_) (by_:=by_) oM oM;rw[e1,e2,e3];exact ⟨none,0,none,0,rfl,nR _,nR _,SlO.nil,SlO.nil,fun h_=>absurd h_ oM,fun h_=>absurd h_ oM⟩)))))
  have phb7:=aU hb7;refine lB 24 hb7 (lL hs [.m 25 24] (lG 26 ?_));exact lG 27 (lG 28 (lG 29 (lG 30 (lG 31 (lL hs [.v 32 qT] (ar (ab hs [.v 6 (sZ),.v 7 (sZ),.v 8 (iV 5)] (ae hs [] (.tuple #[sZ,sZ,iV 5]) (by obtain ⟨e1,e2,e3⟩:=vP (inp:=(n_:Int)) (l:=l) (os:=os) (at_:=at_) (by_:=by_) oM oM;rw[e1,e2,e3];exact ⟨none,0,none,0,rfl,nR _,nR _,SlO.nil,SlO.nil,fun h_=>absurd h_ oM,fun h_=>absurd h_ oM⟩)))))))))
 have phb6:=aU hb6;exact lB 19 hb6 (ar (ab hs [.v 6 (sZ),.v 7 (sZ),.v 8 (iV 1)] (ae hs [] (.tuple #[sZ,sZ,iV 1]) (by obtain ⟨e1,e2,e3⟩:=uM (inp:=(n_:Int)) (l:=l) (os:=os) (at_:=at_) (by_:=by_) oM;rw[e1,e2,e3];exact ⟨none,0,none,0,rfl,nR _,nR _,SlO.nil,SlO.nil,fun h_=>absurd h_ oM,fun h_=>absurd h_ oM⟩))))
theorem EV (inp:Int)(A:Option Addr)(c:Nat)(l:List Stp)(O:Option Addr)(d:Nat)(os:List Int)(at_:List Rat)(X:Option Addr)(cX:Nat)(by_:List Rat)(Y:Option Addr)(cY:Nat)(hl:l.length≤65536)(ho:os.length≤300)(hq:∀ i,LQ 1 (l.getD i ac).q)(hneg:inp<0)(w:World)(h:Hp)(g:G w h)(hA:SlO 9 fW ac h A l)(hO:Si O os h)(hX:Sq X at_ h)(hY:Sq Y by_ h)(tb:Tab h):CR 45 #[.agg #[iV inp,.slice A ((l).length) c,.slice O ((os).length) d],.slice X at_.length cX,.slice Y by_.length cY] w h (fun v h1=>∃ A c B d,v=.tuple #[.slice A (fT inp l os at_ by_).length c,.slice B (cB inp l os at_ by_).length d,iV (bM inp l os at_ by_)]∧(fT inp l os at_ by_).length≤c∧(cB inp l os at_ by_).length≤d∧Sq A (fT inp l os at_ by_) h1∧Sq B (cB inp l os at_ by_) h1∧(bM inp l os at_ by_=0→∀ way,dB (cB inp l os at_ by_) way (inp).toNat=Aa l os at_ by_ way)∧(bM inp l os at_ by_=0→h.size≤aB B)):=by
 have hs:=((((((sS g).aS hA).aS hO).aS hX).aS hY).aB tb);have hck:bv inp l os≠0:=by rw[fj oM];decide
 refine go Tryz.func45 [(0,.agg #[iV inp,qS A ((l).length) c,qS O ((os).length) d]),(1,qS X at_.length cX),(2,qS Y by_.length cY)] rfl (aD (lA 3 46 ([iV inp,qS A ((l).length) c,qS O ((os).length) d]) hs (fun b1 w2 h3 hs=>lL hs [.v 6 (sZ),.v 7 (sZ),.v 8 (iV 0)] (af (ab hs [.o 17 (.agg #[iV inp,qS A ((l).length) c,qS O ((os).length) d]) 0 0 3] (ah 18 hs (l6 inp A c l O d os oM oM (fun i _=>hq i) _ _ hs.g hs.f.q.1 hs.f.r.2.1) (fun w4 h5 hs=>?_)))))));have hb6:((bv inp l os:Int) != (0:Int))=true:=Gz oM;have phb6:=aU hb6;exact lB 19 hb6 (ar (ab hs [.v 6 (sZ),.v 7 (sZ),.v 8 (iV 1)] (ae hs [] (.tuple #[sZ,sZ,iV 1]) (by obtain ⟨e1,e2,e3⟩:=uM (inp:=inp) (l:=l) (os:=os) (at_:=at_) (by_:=by_) hck;rw[e1,e2,e3];exact ⟨none,0,none,0,rfl,nR _,nR _,SlO.nil,SlO.nil,fun h_=>absurd h_ kD,fun h_=>absurd h_ kD⟩))))
theorem G1 (inp:Int)(A:Option Addr)(c:Nat)(l:List Stp)(O:Option Addr)(d:Nat)(os:List Int)(at_:List Rat)(X:Option Addr)(cX:Nat)(by_:List Rat)(Y:Option Addr)(cY:Nat)(wt sg:Nat→Nat)(W_:Nat)(hl:l.length≤65536)(ho:os.length≤300)(hat2:at_.length≤1000000)(hbt2:by_.length≤1000000)(hq:∀ i,LQ 1 (l.getD i ac).q)(hby:∀ i,LQ 1 (by_.getD i 0))(hB:bv inp l os=0→(at_.length:Int)=inp→∀ k,k≤l.length→bW true l at_ k=0→∀ j,LQ 1000000 ((aZ l at_ k).getD j 0))(hwt:bv inp l os=0→Wt l wt)(hW:∀ j,j<l.length→wt j≤W_)(hSg:bv inp l os=0→(at_.length:Int)=inp→bW true l at_ l.length=0→∀ k,k<l.length→(l.getD k ac).op≠2→LQ (sg k) (nO (l.getD k ac).op (l.getD k ac).n ((aZ l at_ l.length).getD (l.getD k ac).a.toNat 0) ((aZ l at_ l.length).getD (l.getD k ac).b.toNat 0))∧LQ (sg k) (oL (l.getD k ac).op ((aZ l at_ l.length).getD (l.getD k ac).a.toNat 0) ((aZ l at_ l.length).getD (l.getD k ac).b.toNat 0)))(hC:bv inp l os=0→1+jo wt (fun _=>1) l.length+os.length*(2*W_)+k7 wt sg l.length≤100000000)(w:World)(h:Hp)(g:G w h)(hA:SlO 9 fW ac h A l)(hO:Si O os h)(hX:Sq X at_ h)(hY:Sq Y by_ h)(tb:Tab h):CR 45 #[.agg #[iV inp,.slice A l.length c,.slice O os.length d],.slice X at_.length cX,.slice Y by_.length cY] w h (fun v h1=>∃ A c B d,v=.tuple #[.slice A (fT inp l os at_ by_).length c,.slice B (cB inp l os at_ by_).length d,iV (bM inp l os at_ by_)]∧(fT inp l os at_ by_).length≤c∧(cB inp l os at_ by_).length≤d∧Sq A (fT inp l os at_ by_) h1∧Sq B (cB inp l os at_ by_) h1∧(bM inp l os at_ by_=0→∀ way,dB (cB inp l os at_ by_) way (inp).toNat=Aa l os at_ by_ way)∧(bM inp l os at_ by_=0→h.size≤aB B)):=by
 by_cases hs:0≤inp
 ·obtain ⟨n,rfl⟩:=Int.eq_ofNat_of_zero_le hs
  exact Fk n A c l O d os at_ X cX by_ Y cY wt sg W_ hl ho hat2 hbt2 hq hby hB hwt hW hSg hC w h g hA hO hX hY tb
 ·exact EV inp A c l O d os at_ X cX by_ Y cY hl ho hq oM w h g hA hO hX hY tb
theorem Seg.front {h:Hp}{b o:Nat}{cs ds:List Value}(s:Seg h b o (cs++ds)):Seg h b o cs:=fun i v hv=>by
 have hi:i<cs.length:=by
  rcases Nat.lt_or_ge i cs.length with hl|hl
  ·exact hl
  ·rw[List.getElem?_eq_none hl] at hv;cases hv
 exact s i v (by rw[List.getElem?_append_left hi];exact hv)
theorem SlO.of_flatS {α:Type}{sz:Nat}{f:α→List Value}{d:α}{h:Hp}{b o:Nat}{l:List α}{sp:List Value}(hf:∀ x,(f x).length=sz)(s:Seg h b o (l.flatMap f++sp)):SlO sz f d h (some ⟨b,o,none⟩) l:=SlO.of_flat hf s.front
theorem SlO.newer {α:Type}{sz:Nat}{f:α→List Value}{d:α}{h1 h2:Hp}{A:Option Addr}{l:List α}{K:Nat}(s:SlO sz f d h1 A l)(hA:K≤aB A)(e:∀ c,K≤c→h2[c]?=h1[c]?):SlO sz f d h2 A l :=
 ⟨s.ok,fun k hk i v hv=>by
  have h:=s.el k hk i v hv
  unfold d8 at h ⊢
  rw[e _ hA];exact h⟩
section lent
variable {P:Program} {n:Nat} {N R:Po} {X:Nat→Po} {ops:Array Oper} {k:Nat} {Γ:cO} {w:World} {h:Hp} {w0:World} {h0:Hp} {B:List Bx} {Rs:List Rw} {F:List (Hp→Prop)}
theorem SS.lendsI (s:SS w0 h0 w h B Rs F){j:Nat}(hj:j<B.length){f:FuncId}{args:Array Value}{Φ:Hp→Value→Hp→Prop}{Ψ:Value→Hp→Prop}(c:∀ hp,G w hp→AllF F hp→Seg hp (aA B j).b 0 (aA B j).vs→Calls P f args w (Ret w hp (Φ hp)))
  (tr:∀ hp v h1 h2,Φ hp v h1→h0.size≤hp.size→(∀ c,hp.size≤c→h2[c]?=h1[c]?)→Ψ v h2):Calls P f args w (Ret w h Ψ):=by
 have hm:=bj hj;have hjk:=s.st.jk _ hm;obtain ⟨hp,g,gw,sg,ho⟩:=vw s.g hjk (s.st.own _ hm);have hsz:=s.g.sz g;refine (c hp g (s.f.gw s.mo gw) sg).mono ?_;rintro e w' ⟨v,h',he,u,hΦ⟩;have hlt:=aN hjk;have hlt':(aA B j).b<h'.size:=Nat.lt_of_lt_of_le oM u.gr.size;refine ⟨v,h'.setIfInBounds (aA B j).b bI,he,⟨u.ext,⟨by simp;rw[←hsz];exact u.gr.size,fun c hc=>?_⟩,⟨by simp;exact u.g.size,fun c=>?_⟩⟩,tr hp v h' _ hΦ (by rw[hsz];exact s.st.up.gr.size) (fun c hc=>Array.getElem?_setIfInBounds_ne oM)⟩
 ·by_cases e:(aA B j).b=c
  ·subst e;rw[Array.getElem?_setIfInBounds_self_of_lt hlt',hjk]
  ·rw[Array.getElem?_setIfInBounds_ne e,u.gr.blk c oM,ho c (Ne.symm e)]
 ·by_cases e:(aA B j).b=c
  ·subst e;right;rw[Array.getElem?_setIfInBounds_self_of_lt hlt']
  ·rw[Array.getElem?_setIfInBounds_ne e];exact u.g.blk c
theorem IP (t j:Nat){f:FuncId}{args:Array Value}{Φ:Hp→Value→Hp→Prop}{Ψ:Value→Hp→Prop}(s:SS w0 h0 w h B Rs F)(c:∀ hp,G w hp→AllF F hp→Seg hp (aA B j).b 0 (aA B j).vs→Calls P f args w (Ret w hp (Φ hp)))
  (tr:∀ hp v h1 h2,Φ hp v h1→h0.size≤hp.size→(∀ c,hp.size≤c→h2[c]?=h1[c]?)→Ψ v h2)
  (H:∀ v w' h',SS w0 h0 w' h' B Rs F→Ψ v h'→LG P n N R X ops (k+1) ((t,v)::Γ) w')(hj:decide (j<B.length)=true:=by kernel_rfl)(hc:cL ops Γ k t n=true:=by kernel_rfl)(hr:(execOp (ev Γ) (av ops k)).run P w=.ok (.enter f args) w:=by kernel_rfl):LG P n N R X ops k Γ w :=
 lC t s (s.lendsI (oT hj) c tr) H hc hr
end lent
end Go.Proofs.YtahgaogfpimkpaaGreatDoor
