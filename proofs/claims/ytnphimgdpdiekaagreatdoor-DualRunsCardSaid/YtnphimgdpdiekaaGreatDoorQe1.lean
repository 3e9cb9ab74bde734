/- Laws of this claim, part 2. -/
import Derived.Test.YtnphimgdpdiekaaGreatDoorQe0
set_option maxRecDepth 100000
set_option maxHeartbeats 4000000
namespace Go.Proofs.YtnphimgdpdiekaaGreatDoor
open _root_.Array renaming getElem?_append_left -> tw, getElem?_append_right -> Bs, getElem?_eq_none -> eb, getElem?_replicate -> Dw, getElem?_setIfInBounds_ne -> la, getElem?_setIfInBounds_self_of_lt -> FA, replicate -> tj
open Bool renaming and_eq_true -> na, true_and -> MV
open Int renaming fdiv -> MU, toNat_natCast -> A6
open List renaming all_eq_true -> o0, any_eq_true -> s9, cons_append -> Mf, drop_eq_getElem_cons -> Mk, drop_eq_nil_of_le -> z2, eq_nil_of_length_eq_zero -> z6, flatMap_cons -> y4, getD_cons_succ -> y9, getD_eq_getElem?_getD -> LH, getElem?_append_left -> wj, getElem?_append_right -> yz, getElem?_drop -> yy, getElem?_eq_none -> tv, getElem?_map -> MB, getElem?_range -> MC, getElem_mem -> gq, length_append -> zY, length_cons -> ub, length_drop -> Mq, length_set -> LB, length_take -> LF, lookup_cons -> i3, map_cons -> D1, mem_cons -> g4, mem_cons_of_mem -> MJ, mem_cons_self -> MI, mem_filter -> MF, mem_map -> g1, mem_of_mem_eraseIdx -> G1, mem_of_mem_take -> L0, mem_range -> po, mem_singleton -> te, range -> pa, replicate -> As, take_add_one -> Mi, take_append_drop -> LZ, take_length -> y8, take_of_length_le -> Mu
open Nat renaming add_assoc -> y3, add_mul -> LI, add_mul_div_left -> L1, add_mul_mod_self_left -> Mp, add_sub_cancel -> My, add_zero -> y5, div_add_mod -> Mx, div_div_eq_div_mul -> L5, div_eq_of_lt -> LP, div_eq_of_lt_le -> MM, div_lt_iff_lt_mul -> Mt, div_lt_self -> Mm, div_mul_le_self -> MK, div_one -> Ma, eq_zero_or_pos -> Ga, le_refl -> ep, le_trans -> e4, lt_div_mul_add -> ML, lt_of_le_of_lt -> LM, lt_of_lt_of_le -> e5, lt_of_mul_lt_mul_left -> MT, lt_or_ge -> ea, min_eq_left -> LS, min_eq_right -> MA, mod_add_div -> Mn, mod_eq_of_lt -> A0, mod_lt -> LX, mul_add -> Mg, mul_add_div -> MS, mul_assoc -> L6, mul_comm -> LC, mul_div_cancel -> L8, mul_div_mul_right -> MO, mul_le_mul -> MP, mul_le_mul_left -> LW, mul_le_mul_right -> Af, mul_left_comm -> Mv, mul_lt_mul_of_pos_left -> Mb, mul_lt_mul_of_pos_right -> MN, mul_mod_left -> L7, mul_mod_mul_right -> MQ, mul_one -> Mh, mul_pos -> Mr, mul_succ -> MD, mul_zero -> Mj, one_mul -> Mw, pos_of_ne_zero -> ME, pow_add -> L4, pow_le_pow_right -> L3, pow_mul -> LY, pow_pos -> L2, pow_succ -> LR, pow_succ' -> Me, pow_zero -> L9, strongRecOn -> hP, succ_pos -> MW, two_pow_add_eq_or_of_lt -> Md, two_pow_pos -> Mc, zero_add -> Ab, zero_le -> MG, zero_mod -> MR, zero_mul -> zZ
open Option renaming isNone_iff_eq_none -> MH
open Go.RowKit
theorem kM (n m k:Nat):(gf n m).getD k 0<256:=by
 rcases ea k m with h|h
 ·rw[i7 n m k h];exact LX _ oM
 ·simp[tv (show (gf n m).length<=k by rw[jL];exact h)]
theorem B4 (n i:Nat):n%256^(i+1)=n%256^i+256^i*(n/256^i%256):=by
 rw[LR,Nat.mod_mul]
theorem sd (a:Nat):nb a<=32*(lim a).length:=by
 apply kH
 have:=lh (km a);rw[fX] at this
 rw[LY];exact this
theorem BA (a k:Nat):(lim a).getD (k/4) 0/2^(8*(k%4))%256=a/256^k%256:=by
  have d:(lim a).getD (k/4) 0=a/4294967296^(k/4)%4294967296:=by
    rcases ea (k/4) (lim a).length with h|h
    . have e:=kN ((lim a).take (k/4)) ((lim a).drop (k/4))
      rw[LZ,fX,LF,LS oM] at e
      have b:=lh (l:=(lim a).take (k/4)) (fun x c=>km a x (L0 c));rw[LF,LS oM] at b
      have f:=ve h
      have c:(lim a).getD (k/4) 0<4294967296:=by
        have:=km a ((lim a)[k/4]) (gq h);simpa [h] using this
      have h1:(dP ((lim a).take (k/4))+4294967296^(k/4)*dP ((lim a).drop (k/4)))/4294967296^(k/4)=dP ((lim a).drop (k/4)):=by
        rw[L1 _ _ (L2 oM),LP b,Ab]
      rw[<-e] at h1
      rw[h1,f]
      omega
    . have:a<4294967296^(k/4):=by
        have h1:=lh (km a);rw[fX] at h1
        exact e5 h1 (L3 oM h)
      rw[LP this]
      simp[tv h]
  rw[d]
  have e1:(256:Nat)^k=4294967296^(k/4)*2^(8*(k%4)):=by
    have:k=4*(k/4)+k%4:=by omega
    conv=>lhs;rw[this,L4,LY]
    rw[LY 2 8]
  rw[e1,<-L5]
  generalize a/4294967296^(k/4)=y
  have:k%4=0\/k%4=1\/k%4=2\/k%4=3:=by omega
  rcases this with h|h|h|h<;>rw[h]<;>omega
theorem ik {l:List Nat}{m k x:Nat}{f:Nat->Nat}(c:l.length=m)(hk:k<m)(hv:∀ j,j<k->l.getD (m-1-j) 0=f j)(b:x=f k:=by rfl):∀ j,j<k+1->(l.set (m-1-k) x).getD (m-1-j) 0=f j:=by
 intro j d
 by_cases e:j=k
 ·subst e
  have:m-1-j<l.length:=by omega
  simp[this,b]
 ·have a:m-1-k≠m-1-j:=by omega
  have:=hv j oM
  simp only[LH] at this ⊢
  rw[List.getElem?_set_ne a];exact this
theorem sq {l:List Nat}{n m:Nat}(b:l.length=m)(hv:∀ j,j<m->l.getD (m-1-j) 0=n/256^j%256):l=gf n m:=by
 apply List.ext_getElem
 ·rw[jL,b]
 ·intro i h1 c
  have a:=i7 n m i oM;have:=hv (m-1-i) oM;rw[show m-1-(m-1-i)=i by omega,<-a] at this
  simpa [h1,c] using this
def fN (n k j:Nat):Nat:=n/256^k*256^k/4294967296^j%4294967296
theorem vX (n j:Nat):fN n 0 j=n/4294967296^j%4294967296:=by unfold fN;simp
theorem B3 {n k:Nat}(h:n<256^k)(j:Nat):fN n k j=0:=by unfold fN;rw[LP h];simp
theorem pi (n k j:Nat):fN n k j<4294967296:=LX _ oM
theorem vg (k:Nat):(256:Nat)^k=4294967296^(k/4)*2^(8*(k%4)):=by
 have:k=4*(k/4)+k%4:=by omega
 conv=>lhs;rw[this,L4,LY]
 rw[LY 2 8]
theorem ur (y q j:Nat):y*4294967296^q/4294967296^j%4294967296=if j<q then 0 else y/4294967296^(j-q)%4294967296:=by
 split
 ·rename_i h
  have e:(4294967296:Nat)^q=4294967296^j*(4294967296^(q-j-1)*4294967296):=by
   rw[<-LR,<-L4];congr 1;omega
  rw[e,<-L6,LC y,L6,Nat.mul_div_cancel_left _ (L2 oM),<-L6];exact L7 _ _
 ·rename_i h
  have e:(4294967296:Nat)^j=4294967296^q*4294967296^(j-q):=by rw[<-L4];congr 1;omega
  rw[e,<-L5,L8 _ (L2 oM)]
theorem DR (x b:Nat)(a:b<256):∀ r,r<4->(256*x+b)*2^(8*r)%4294967296=256*x*2^(8*r)%4294967296+b*2^(8*r)/\(256*x+b)*2^(8*r)/4294967296=256*x*2^(8*r)/4294967296/\256*x*2^(8*r)%4294967296%2^(8*r+8)=0/\b*2^(8*r)<4294967296:=by
 intro r hr;have:r=0\/r=1\/r=2\/r=3:=by omega
 rcases this with rfl|rfl|rfl|rfl<;>omega
theorem nw (n k j:Nat):fN n k j=if j=k/4 then fN n (k+1) j ||| (n/256^k%256)*2^(8*(k%4)) else fN n (k+1) j:=by
  have o:n/256^k=256*(n/256^(k+1))+n/256^k%256:=by
    rw[LR,<-L5];omega
  have f:n/256^k%256<256:=LX _ oM;have h:=vg k;have a:(256:Nat)^(k+1)=4294967296^(k/4)*2^(8*(k%4))*256:=by rw[LR,h]
  obtain ⟨l,l2,l3,p⟩:=DR (n/256^(k+1)) _ f (k%4) oM
  unfold fN
  generalize n/256^(k+1)=x at *
  generalize hb2:n/256^k%256=b at *
  rw[o,h,a];have e1:(256*x+b)*(4294967296^(k/4)*2^(8*(k%4)))=(256*x+b)*2^(8*(k%4))*4294967296^(k/4):=by ac_rfl
  have e2:x*(4294967296^(k/4)*2^(8*(k%4))*256)=256*x*2^(8*(k%4))*4294967296^(k/4):=by ac_rfl
  rw[e1,e2,ur,ur]
  by_cases h1:j<k/4
  . rw[if_pos h1,if_pos h1,if_neg oM]
  . rw[if_neg h1,if_neg h1]
    by_cases h2:j=k/4
    . rw[if_pos h2,h2,Nat.sub_self,L9,Ma,Ma,l]
      obtain ⟨c,hc⟩:∃ c,256*x*2^(8*(k%4))%4294967296=2^(8*(k%4)+8)*c:=⟨_,(Nat.mul_div_cancel' (Nat.dvd_of_mod_eq_zero l3)).symm⟩;rw[hc]
      have e:b*2^(8*(k%4))<2^(8*(k%4)+8):=by
        rw[L4,LC];exact Mb f (Mc _)
      exact Md e c
    . rw[if_neg h2]
      obtain ⟨d,hd⟩:∃ d,j-k/4=d+1:=⟨j-k/4-1,by omega⟩;have i:∀ y:Nat,y/4294967296^(d+1)=y/4294967296/4294967296^d:=fun y=>by rw[Me,L5]
      rw[hd,i,i,l2]
theorem iH:∀ (l:List Nat) (n:Nat),(∀ j,j<l.length->l.getD j 0=n/4294967296^j%4294967296)->n<4294967296^l.length->dP l=n
  | [],n,_,h=>by simp at h;simp[dP,h]
  | x :: l,n,hd,h=>by
    have h0:=hd 0 (by simp)
    simp at h0
    have a:=iH l (n/4294967296) (fun j b=>by
      have:=hd (j+1) (by simpa using b);rw[y9,Me,<-L5] at this
      exact this) (Nat.div_lt_of_lt_mul (by rw[ub,Me] at h;exact h))
    rw[dP,a,h0]
    omega
def ai (b:Nat):List Nat->Nat
  | []=>0
  | x::l=>x+b*ai b l
def Dg (b:Nat)(l:List Nat):Prop:=∀ x∈l,x<b
theorem kC (l:List Nat):dP l=ai 4294967296 l:=by
 induction l with
 | nil=>rfl
 | cons x l ih=>simp only[dP,ai,ih]
theorem Dg.nil {b:Nat}:Dg b []:=fun _ h=>by cases h
theorem Dg.getD {b:Nat}{l:List Nat}(h:Dg b l)(a:0<b)(k:Nat):l.getD k 0<b:=by
 rcases ea k l.length with hk|hk
 ·have:=h (l[k]) (gq hk);simpa [hk] using this
 ·simpa [tv hk] using a
theorem Dg.set {b:Nat}{l:List Nat}(h:Dg b l)(k:Nat){x:Nat}(c:x<b):Dg b (l.set k x):=fun y a=>by
 rcases List.mem_or_eq_of_mem_set a with h1|h1
 ·exact h y h1
 ·rw[h1];exact c
theorem Dg.take {b:Nat}{l:List Nat}(h:Dg b l)(k:Nat):Dg b (l.take k):=fun x a=>h x (L0 a)
theorem Dg.drop {b:Nat}{l:List Nat}(h:Dg b l)(k:Nat):Dg b (l.drop k):=fun x a=>h x (List.mem_of_mem_drop a)
theorem Dg.append {b:Nat}{l m:List Nat}(h:Dg b l)(k:Dg b m):Dg b (l++m):=fun x a=>by
 rcases List.mem_append.1 a with h1|h1
 ·exact h x h1
 ·exact k x h1
theorem Dg.one {b x:Nat}(h:x<b):Dg b [x]:=fun y a=>by rw[te.1 a];exact h
theorem Dg.cons {b x:Nat}{l:List Nat}(h:x<b)(k:Dg b l):Dg b (x::l):=fun y a=>by
 rcases g4.1 a with rfl|h1
 ·exact h
 ·exact k y h1
theorem Dg.rep {b n:Nat}(a:0<b):Dg b (As n 0):=fun y c=>by rw[(List.mem_replicate.1 c).2];exact a
theorem cP (b:Nat)(x y:List Nat):ai b (x++y)=ai b x+b^x.length*ai b y:=by
  induction x with
  | nil=>simp[ai]
  | cons a x ih =>
    simp only[Mf,ai,ih,ub,LR,Mg]
    rw[<-L6,LC (b^x.length) b]
    omega
theorem bL {b:Nat}{l:List Nat}(h:Dg b l):ai b l<b^l.length:=by
  induction l with
  | nil=>simp[ai]
  | cons x l ih =>
    have h1:=h x (by simp);have c:=ih (fun y a=>h y (by simp[a]))
    simp only[ai,ub,LR]
    have d:b*(ai b l+1)<=b*b^l.length:=LW _ c;rw[Mg,Mh,LC b (b^l.length)] at d
    omega
theorem bM (b:Nat){l:List Nat}{k:Nat}(h:k<=l.length):ai b l=ai b (l.take k)+b^k*ai b (l.drop k):=by
 have e:=cP b (l.take k) (l.drop k);rw[LZ,LF,LS h] at e
 exact e
theorem iK {l:List Nat}{k:Nat}(h:k<l.length):l.take (k+1)=l.take k++[l.getD k 0]:=by
 rw[Mi];simp[h]
theorem aK (b:Nat){l:List Nat}{k:Nat}(h:k<l.length):ai b (l.take (k+1))=ai b (l.take k)+b^k*l.getD k 0:=by
 rw[iK h,cP,LF,LS oM]
 show ai b (l.take k)+b^k*(l.getD k 0+b*0)=_
 rw[Mj,y5]
theorem fW (b:Nat){l:List Nat}{k:Nat}(h:k<l.length):ai b (l.drop k)=l.getD k 0+b*ai b (l.drop (k+1)):=by
 rw[Mk h]
 simp[ai,h]
theorem cG (b:Nat){l:List Nat}{k:Nat}(x:Nat)(h:k<l.length):ai b (l.set k x)+b^k*l.getD k 0=ai b l+b^k*x:=by
  induction l generalizing k with
  | nil=>simp at h
  | cons y l ih =>
    cases k with
    | zero=>simp[ai];omega
    | succ k =>
      have:=ih (k:=k) (by simpa using h);rw[List.set_cons_succ,y9,ai,ai,LR,LC (b^k) b,L6,L6];have e:b*(ai b (l.set k x)+b^k*l.getD k 0)=b*(ai b l+b^k*x):=by rw[this]
      rw[Mg,Mg] at e
      omega
theorem dM (b n:Nat):ai b (As n 0)=0:=by
 induction n with
 | zero=>rfl
 | succ n ih=>simp[List.replicate_succ,ai,ih]
theorem nS {b:Nat}(c:0<b){l:List Nat}(h:ai b l=0)(k:Nat):l.getD k 0=0:=by
  induction l generalizing k with
  | nil=>simp
  | cons x l ih =>
    simp only[ai] at h
    have h1:b*ai b l=0:=by omega
    have a:ai b l=0:=by
      rcases Nat.mul_eq_zero.1 h1 with a|a
      . omega
      . exact a
    cases k with
    | zero=>simp;omega
    | succ k=>simpa using ih a k
theorem hC (b:Nat){l:List Nat}(h:∀ k,l.getD k 0=0):ai b l=0:=by
  induction l with
  | nil=>rfl
  | cons x l ih =>
    have h0:=h 0
    simp at h0
    rw[ai,ih (fun k=>by have:=h (k+1);simpa using this),h0];simp
theorem jG {l:List Nat}{k n:Nat}(h:k<n):(l.take n).getD k 0=l.getD k 0:=by
 simp only[LH,List.getElem?_take,if_pos h]
theorem bC {l:List Nat}{k n:Nat}:(l.drop n).getD k 0=l.getD (n+k) 0:=by
 simp only[LH,yy]
theorem bw {l:List Nat}{k j x:Nat}(h:k<l.length):(l.set k x).getD j 0=if k=j then x else l.getD j 0:=by
 simp only[LH,List.getElem?_set,h,if_true]
 split<;>simp
theorem ee {n k:Nat}:(As n 0).getD k 0=0:=by
 simp only[LH,List.getElem?_replicate]
 split<;>rfl
theorem cn {l:List Nat}{k:Nat}(h:l.length<=k):l.getD k 0=0:=by simp[tv h]
theorem j8 (b:Nat)(l:List Nat):∀ n,n<=l.length->ai b (l.take (tl l n))=ai b (l.take n)
  | 0,_=>rfl
  | n + 1,h=>by
    unfold tl
    split
    . rename_i h0
      rw[aK b oM,h0,j8 b l n oM];simp
    . rfl
theorem tm {l:List Nat}:∀ n,tl l n=0\/l.getD (tl l n-1) 0≠0
  | 0=>.inl rfl
  | n+1=>by
    unfold tl
    split
    . exact tm n
    . rename_i h;exact .inr h
def q9 (b:Nat):Nat->Nat->List Nat
  | 0,_=>[]
  | f+1,n=>if n=0 then [] else n%b::q9 b f (n/b)
def gZ (b n:Nat):List Nat:=q9 b n n
theorem uT {b:Nat}(a:2<=b):∀ (f g n:Nat),n<=f->n<=g->q9 b f n=q9 b g n
  | 0,g,n,hf,hg=>by
    have:n=0:=by omega
    subst this;cases g<;>rfl
  | f+1,0,n,hf,hg=>by
    have:n=0:=by omega
    subst this
    rfl
  | f + 1,g+1,n,hf,hg=>by
    unfold q9
    split
    . rfl
    . rename_i h0
      have:=Mm (n:=n) (k:=b) oM oM;rw[uT a f g (n/b) oM oM]
theorem jT (b:Nat):gZ b 0=[]:=rfl
theorem e7 {b n:Nat}(a:2<=b)(h:0<n):gZ b n=n%b::gZ b (n/b):=by
 unfold gZ
 obtain ⟨m,rfl⟩:∃ m,n=m+1:=⟨n-1,by omega⟩;have:=Mm (n:=m+1) (k:=b) oM oM;rw[q9,if_neg oM];rw[uT a m _ _ oM (ep _)]
theorem j7 {b:Nat}(a:2<=b)(n:Nat):ai b (gZ b n)=n:=by
  induction n using hP with
  | _ n ih =>
    rcases Ga n with h|h
    . subst h;rfl
    . rw[e7 a h,ai,ih (n/b) (Mm h oM)]
      exact Mn n b
theorem x4 {b:Nat}(a:2<=b)(n:Nat):Dg b (gZ b n):=by
  induction n using hP with
  | _ n ih =>
    rcases Ga n with h|h
    . subst h;exact Dg.nil
    . rw[e7 a h]
      exact Dg.cons (LX _ oM) (ih _ (Mm h oM))
theorem ot {b n:Nat}(a:2<=b):0<(gZ b n).length↔0<n:=by
 rcases Ga n with h|h
 ·subst h;simp[jT]
 ·rw[e7 a h];simp[h]
theorem sx {b:Nat}(f:2<=b){l:List Nat}(d:Dg b l)(a:l=[]\/l.getD (l.length-1) 0≠0):gZ b (ai b l)=l:=by
  induction l with
  | nil=>rfl
  | cons x l ih =>
    have e:=d x (by simp);have e1:(x+b*ai b l)%b=x:=by rw[Mp,A0 e]
    have e2:(x+b*ai b l)/b=ai b l:=by rw[L1 _ _ oM,LP e,Ab]
    have c:l=[]\/l.getD (l.length-1) 0≠0:=by
      rcases List.eq_nil_or_concat l with h0|⟨m,y,rfl⟩
      . exact .inl h0
      . right
        rcases a with a|a
        . cases a
        . rw[show (x::m.concat y).length-1=((m.concat y).length-1)+1 by simp,y9] at a
          exact a
    have h:0<ai b (x::l):=by
      rcases Ga (ai b (x::l)) with h0|h0
      . rcases a with a|a
        . cases a
        . exact absurd (nS oM h0 _) a
      . exact h0
    rw[e7 f h]
    simp only[ai]
    rw[e1,e2,ih (fun y i=>d y (by simp[i])) c]
theorem Ht {b:Nat}(c:2<=b){l:List Nat}(d:Dg b l):gZ b (ai b l)=l.take (tl l l.length):=by
 have e:=j8 b l l.length (ep _);rw[y8] at e
 have a:=it l l.length
 have:=sx c (d.take (tl l l.length)) (by
  by_cases h0:tl l l.length=0
  ·left;rw[h0];rfl
  ·right
   rw[LF,LS a,jG oM]
   rcases tm (l:=l) l.length with h|h
   ·exact absurd h h0
   ·exact h)
 rw[e] at this
 exact this
theorem mY {b:Nat}(a:2<=b)(n:Nat)(h:0<n):(gZ b n).getD ((gZ b n).length-1) 0≠0:=by
  induction n using hP with
  | _ n ih =>
    rw[e7 a h]
    rcases Ga (n/b) with h0|h0
    . rw[h0,jT]
      have:n<b:=by
        rcases ea n b with h1|h1
        . exact h1
        . have:=Nat.div_pos h1 oM;omega
      simp[A0 this];omega
    . have:=ih (n/b) (Mm h oM) h0
      have c:=(ot a).2 h0;rw[ub,show (gZ b (n/b)).length+1-1=((gZ b (n/b)).length-1)+1 by omega,y9];exact this
theorem ge {b n k:Nat}(a:2<=b)(h:n<b^k):(gZ b n).length<=k:=by
 rcases Ga n with h0|h0
 ·subst h0;simp[jT]
 ·rcases ea k (gZ b n).length with hk|hk
  ·exfalso
   have h1:=aK b (l:=gZ b n) (k:=(gZ b n).length-1) oM;rw[show (gZ b n).length-1+1=(gZ b n).length by omega,y8,j7 a] at h1
   have d:=mY a n h0;have e:b^((gZ b n).length-1)*1<=b^((gZ b n).length-1)*(gZ b n).getD ((gZ b n).length-1) 0:=LW _ oM;have c:b^k<=b^((gZ b n).length-1):=L3 oM oM
   omega
  ·exact hk
theorem jt {b:Nat}(a:2<=b)(n:Nat):n<b^(gZ b n).length:=by
 have:=bL (x4 a n)
 rwa [j7 a] at this
theorem sV {b n:Nat}(a:2<=b)(h:0<n):b^((gZ b n).length-1)<=n:=by
 have c:=(ot a).2 h;have h1:=aK b (l:=gZ b n) (k:=(gZ b n).length-1) oM;rw[show (gZ b n).length-1+1=(gZ b n).length by omega,y8,j7 a] at h1
 have d:=mY a n h;have e:b^((gZ b n).length-1)*1<=b^((gZ b n).length-1)*(gZ b n).getD ((gZ b n).length-1) 0:=LW _ oM
 omega
theorem iT (b:Nat){l:List Nat}{k m:Nat}(hk:k+m<=l.length)(a:0<b)(d:Dg b l)(h:ai b l<b^(k+m)):ai b l/b^k=ai b ((l.drop k).take m)/\∀ i,k+m<=i->l.getD i 0=0:=by
 have e1:=bM b (l:=l) (k:=k) oM;have e2:=bM b (l:=l.drop k) (k:=m) (by rw[Mq];omega);have h1:=bL (d.take k);rw[LF,LS oM] at h1
 have c:0<b^k:=L2 a
 have hz:ai b ((l.drop k).drop m)=0:=by
  rcases Ga (ai b ((l.drop k).drop m)) with h0|h0
  ·exact h0
  ·exfalso
   have f:b^m*1<=b^m*ai b ((l.drop k).drop m):=LW _ h0;have e:b^k*b^m<=b^k*ai b (l.drop k):=LW _ oM;rw[<-L4] at e
   omega
 rw[hz,Mj,y5] at e2
 refine ⟨?_,fun i hi=>?_⟩
 ·rw[e1,L1 _ _ c,LP h1,Ab,e2]
 ·have:=nS a hz (i-k-m)
  rw[bC,bC,show k+(m+(i-k-m))=i by omega] at this
  exact this
theorem wl {b P u v U V G:Nat}(y:0<P)(j:U*P<=u)(p:u<(U+1)*P)(c:V*P<=v)(l:v<(V+1)*P)(a:b*P<=v)(d:u<b*v)(i:G*V<=U)(e:G+1=b\/U<(G+1)*V)(x:G<b) :
    u/v<=G/\G<=u/v+1:=by
  have hv:0<v:=e5 (Mr oM y) a
  constructor
  . have o:u/v<G+1:=by
      rw[Mt hv]
      rcases e with h|h
      . rw[h];exact d
      . have h1:(U+1)*P<=(G+1)*V*P:=Af _ h
        have f:(G+1)*(V*P)<=(G+1)*v:=LW _ c;rw[L6] at h1
        omega
    omega
  . have h1:G*v<=u+v:=by
      have z:G*v<=G*((V+1)*P):=LW _ oM;have B:G*((V+1)*P)=G*V*P+G*P:=by rw[<-L6,Mg,Mh,LI]
      have D:G*V*P<=U*P:=Af _ i;have C:G*P<=b*P:=Af _ oM
      omega
    have f:G<=(u+v)/v:=(Nat.le_div_iff_mul_le hv).2 h1;rw[Nat.add_div_right _ hv] at f
    omega
theorem aF (b:Nat)(l:List Nat)(k:Nat):ai b (l.take (k+1))=ai b (l.take k)+b^k*l.getD k 0:=by
 rcases ea k l.length with h|h
 ·exact aK b h
 ·rw[Mu oM,Mu h]
  simp[tv h]
theorem gy {b:Nat}{l y:List Nat}{i c c' s X:Nat}(hi:i<l.length)(inv:ai b l+b^i*c=X+ai b (y.take i))(e:s+b*c'=l.getD i 0+y.getD i 0+c) :
  ai b (l.set i s)+b^(i+1)*c'=X+ai b (y.take (i+1)):=by
 have h1:=cG b s hi;rw[aF,LR]
 generalize b^i=P at *
 generalize ai b (l.set i s)=S at *
 have e2:P*(s+b*c')=P*(l.getD i 0+y.getD i 0+c):=by rw[e]
 simp only[Mg,<-L6] at e2 ⊢
 omega
theorem iM {b:Nat}{l y:List Nat}{i c c' s X:Nat}(hi:i<l.length)(inv:ai b l+ai b (y.take i)=X+b^i*c)(e:s+y.getD i 0+c=l.getD i 0+b*c') :
  ai b (l.set i s)+ai b (y.take (i+1))=X+b^(i+1)*c':=by
 have h1:=cG b s hi;rw[aF,LR]
 generalize b^i=P at *
 generalize ai b (l.set i s)=S at *
 have e2:P*(s+y.getD i 0+c)=P*(l.getD i 0+b*c'):=by rw[e]
 simp only[Mg,<-L6] at e2 ⊢
 omega
theorem mi {b:Nat}{l y:List Nat}{k j m c c' s X:Nat}(hi:k+j<l.length)(inv:ai b l+b^(k+j)*c=X+b^k*(m*ai b (y.take j)))(e:s+b*c'=l.getD (k+j) 0+m*y.getD j 0+c) :
  ai b (l.set (k+j) s)+b^(k+(j+1))*c'=X+b^k*(m*ai b (y.take (j+1))):=by
 have h1:=cG b s hi;rw[aF,<-y3,LR];have a:b^(k+j)=b^k*b^j:=L4 _ _ _;have e2:b^(k+j)*(s+b*c')=b^(k+j)*(l.getD (k+j) 0+m*y.getD j 0+c):=by rw[e]
 have d:b^k*(m*(ai b (y.take j)+b^j*y.getD j 0))=b^k*(m*ai b (y.take j))+b^(k+j)*(m*y.getD j 0):=by
  rw[a,Mg,Mg,<-L6 m,LC m (b^j),L6 (b^j),<-L6 (b^k) (b^j)]
 rw[d]
 generalize b^(k+j)=P at *
 generalize ai b (l.set (k+j) s)=S at *
 generalize b^k*(m*ai b (y.take j))=Y at *
 simp only[Mg,<-L6] at e2 ⊢
 omega
theorem ut {b:Nat}{l y:List Nat}{k m c X:Nat}(hi:k+y.length<l.length)(inv:ai b l+b^(k+y.length)*c=X+b^k*(m*ai b (y.take y.length)))(h0:l.getD (k+y.length) 0=0) :
  ai b (l.set (k+y.length) c)=X+b^k*(m*ai b y):=by
 have h1:=cG b c hi;rw[y8] at inv
 rw[h0] at h1
 omega
theorem ux {b:Nat}{x:List Nat}{i X Y:Nat}(h:X=ai b (x.take i)*Y):X+b^i*(x.getD i 0*Y)=ai b (x.take (i+1))*Y:=by
 rw[aF,LI,h,L6]
theorem Cy {b:Nat}{l:List Nat}{i d r a q X:Nat}(hi:i<l.length)(inv:X=d*(b^(i+1)*ai b (l.drop (i+1)))+(b^(i+1)*r+ai b (l.take (i+1))))(e:r*b+l.getD i 0=d*q+a) :
  X=d*(b^i*ai b ((l.set i q).drop i))+(b^i*a+ai b ((l.set i q).take i)):=by
 have e1:(l.set i q).take i=l.take i:=by rw[List.take_set_of_le (ep _)]
 have e2:ai b ((l.set i q).drop i)=q+b*ai b (l.drop (i+1)):=by
  rw[fW b (by simpa using hi),bw hi,if_pos rfl,List.drop_set_of_lt oM]
 rw[e1,e2,inv,aK b hi,LR];have h:b^i*(r*b+l.getD i 0)=b^i*(d*q+a):=by rw[e]
 have c:d*(b^i*(q+b*ai b (l.drop (i+1))))=b^i*(d*q)+d*(b^i*b*ai b (l.drop (i+1))):=by
  rw[Mg,Mg,<-L6 (b^i) b,Mv d (b^i) q]
 have f:b^i*b*r=b^i*(r*b):=by rw[L6,LC b r]
 rw[c,f]
 simp only[Mg] at h
 omega
theorem ue {b:Nat}{u v:List Nat}{j i G c c' a bo' t s X:Nat}(hi:j+i<u.length)(inv:ai b u+b^j*(G*ai b (v.take i))=X+b^(j+i)*(c+a))(e1:t+b*c'=G*v.getD i 0+c)(e2:s+t+a=u.getD (j+i) 0+b*bo') :
  ai b (u.set (j+i) s)+b^j*(G*ai b (v.take (i+1)))=X+b^(j+(i+1))*(c'+bo'):=by
 have h1:=cG b s hi;rw[aF,<-y3,LR];have h:b^(j+i)=b^j*b^i:=L4 _ _ _
 have f:b^j*(G*(ai b (v.take i)+b^i*v.getD i 0))=b^j*(G*ai b (v.take i))+b^(j+i)*(G*v.getD i 0):=by
  rw[h,Mg,Mg,<-L6 G,LC G (b^i),L6 (b^i),<-L6 (b^j) (b^i)]
 rw[f];have d:b^(j+i)*(t+b*c')=b^(j+i)*(G*v.getD i 0+c):=by rw[e1]
 have e:b^(j+i)*(s+t+a)=b^(j+i)*(u.getD (j+i) 0+b*bo'):=by rw[e2]
 generalize b^(j+i)=P at *
 generalize ai b (u.set (j+i) s)=S at *
 generalize b^j*(G*ai b (v.take i))=Y at *
 simp only[Mg,<-L6] at d e inv ⊢
 omega
theorem wQ {b:Nat}{u v:List Nat}{j G c a bo' s X:Nat}(hi:j+v.length<u.length)(inv:ai b u+b^j*(G*ai b (v.take v.length))=X+b^(j+v.length)*(c+a))(e2:s+c+a=u.getD (j+v.length) 0+b*bo') :
  ai b (u.set (j+v.length) s)+b^j*(G*ai b v)=X+b^(j+v.length+1)*bo':=by
 have h1:=cG b s hi;rw[y8] at inv
 rw[LR];have d:b^(j+v.length)*(s+c+a)=b^(j+v.length)*(u.getD (j+v.length) 0+b*bo'):=by rw[e2]
 generalize b^(j+v.length)=P at *
 generalize ai b (u.set (j+v.length) s)=S at *
 generalize b^j*(G*ai b v)=Y at *
 simp only[Mg,<-L6] at d inv ⊢
 omega
theorem t6 {b:Nat}{u v:List Nat}{j i c c' s X:Nat}(hi:j+i<u.length)(inv:ai b u+b^(j+i)*c=X+b^j*ai b (v.take i))(e:s+b*c'=u.getD (j+i) 0+v.getD i 0+c) :
  ai b (u.set (j+i) s)+b^(j+(i+1))*c'=X+b^j*ai b (v.take (i+1)):=by
 have:=mi (b:=b) (l:=u) (y:=v) (k:=j) (j:=i) (m:=1) (c:=c) (c':=c') (s:=s) (X:=X) hi (by rw[Mw];exact inv) (by rw[Mw];exact e);rw[Mw] at this
 exact this
theorem AM {b:Nat}{u v:List Nat}{j c c' s X:Nat}(hi:j+v.length<u.length)(inv:ai b u+b^(j+v.length)*c=X+b^j*ai b (v.take v.length))(e:s+b*c'=u.getD (j+v.length) 0+c) :
  ai b (u.set (j+v.length) s)+b^(j+v.length+1)*c'=X+b^j*ai b v:=by
 have h1:=cG b s hi;rw[y8] at inv
 rw[LR];have a:b^(j+v.length)*(s+b*c')=b^(j+v.length)*(u.getD (j+v.length) 0+c):=by rw[e]
 generalize b^(j+v.length)=P at *
 generalize ai b (u.set (j+v.length) s)=S at *
 generalize b^j*ai b v=Y at *
 simp only[Mg,<-L6] at a inv ⊢
 omega
def Above (u u0:List Nat)(k:Nat):Prop:=u.length=u0.length/\∀ i,k<=i->u.getD i 0=u0.getD i 0
theorem Above.refl (u:List Nat)(k:Nat):Above u u k:=⟨rfl,fun _ _=>rfl⟩
theorem Above.set {u a:List Nat}{k i x:Nat}(h:Above u a k)(hi:i<k)(b:i<u.length):Above (u.set i x) a k:=⟨by rw[LB];exact h.1,fun j c=>by rw[bw b,if_neg oM];exact h.2 j c⟩
theorem fj {b:Nat}(d:0<b){u a:List Nat}{k:Nat}(h:Above u a k)(f:Dg b u)(c:Dg b a)(hk:k<=u.length)(h0:ai b a<b^k):ai b u<b^k:=by
 have e:=bM b hk;have h1:=bL (f.take k);rw[LF,LS hk] at h1
 have hz:ai b (u.drop k)=0:=hC b (fun i=>by
  rw[bC,h.2 _ oM];exact (iT b (l:=a) (k:=k) (m:=0) (by rw[<-h.1];exact hk) d c h0).2 _ oM)
 rw[hz] at e
 omega
theorem fS {b n j R v c G f:Nat}(H:2<=b)(hn:2<=n)(i:b^(n-1)<=v)(d:v<b^n)(hR:R<b^(j+1)*v)(z:c<b^(j+n+1))(e:c+b^j*(G*v)=R+b^(j+n+1)*f)(C:f<=1)
    (F:R/(b^j*v)<=G/\G<=R/(b^j*v)+1) :
    (f=0->G=R/(b^j*v)/\c=R-b^j*(G*v)/\c<b^j*v/\b^j*(G*v)<=R)/\(f=1->G=R/(b^j*v)+1/\c+b^j*v=(R-b^j*((G-1)*v))+b^(j+n+1)/\R-b^j*((G-1)*v)<b^j*v/\b^j*((G-1)*v)<=R):=by
  have p:0<b^j:=L2 oM;have o:0<v:=e5 (L2 oM) i;have B:0<b^j*v:=Mr p o;have eq:∀ g,b^j*(g*v)=g*(b^j*v):=fun g=>by rw[<-L6,LC (b^j) g,L6]
  have l:=Mx R (b^j*v);have x:=LX R B;rw[LC] at l
  rw[eq] at e
  have u:b^j*v<b^(j+n+1):=by
    have h1:b^j*v<b^j*b^n:=Mb d p;rw[<-L4] at h1
    have D:b^(j+n)<=b^(j+n+1):=L3 oM oM
    omega
  have y:R<b^(j+n+1):=by
    have h1:b^(j+1)*v<b^(j+1)*b^n:=Mb d (L2 oM);rw[<-L4,show j+1+n=j+n+1 by omega] at h1
    omega
  generalize b^(j+n+1)=T at *
  generalize hWe:b^j*v=W at *
  generalize hQ:R/W=Q at *
  refine ⟨fun h=>?_,fun h=>?_⟩
  . subst h
    rw[eq]
    have a:G=Q:=by
      rcases ea Q G with h1|h1
      . exfalso
        have:G=Q+1:=by omega
        subst this;rw[LI] at e
        omega
      . omega
    subst a
    omega
  . subst h
    have a:G=Q+1:=by
      rcases ea Q G with h1|h1
      . omega
      . exfalso
        have:G=Q:=by omega
        subst this
        omega
    subst a;rw[eq,My];rw[LI] at e
    omega
theorem nx {b n j G:Nat}{u v:List Nat}(O:2<=b)(hn:2<=n)(K:v.length=n)(h:Dg b v)(p:Dg b u)(L:j+n<u.length)(D:v.getD (n-1) 0≠0)(hR:ai b u<b^(j+1)*ai b v)
  (J:G*(v.getD (n-1) 0*b+v.getD (n-2) 0)<=u.getD (j+n) 0*b*b+u.getD (j+n-1) 0*b+u.getD (j+n-2) 0)
  (x:G+1=b\/u.getD (j+n) 0*b*b+u.getD (j+n-1) 0*b+u.getD (j+n-2) 0<(G+1)*(v.getD (n-1) 0*b+v.getD (n-2) 0))(z:G<b) :
  ai b u/(b^j*ai b v)<=G/\G<=ai b u/(b^j*ai b v)+1:=by
 have d:=bL h;rw[K] at d
 have B:0<b^(j+n-2):=L2 oM
 have o:ai b u<b^(j+n-2+3):=by
  have h1:b^(j+1)*ai b v<b^(j+1)*b^n:=Mb d (L2 oM);rw[<-L4,show j+1+n=j+n-2+3 by omega] at h1
  omega
 have c:∀ {l:List Nat} {k:Nat},k+3<=l.length->ai b ((l.drop k).take 3)=l.getD (k+2) 0*b*b+l.getD (k+1) 0*b+l.getD k 0:=fun {l k} hk=>by
  rw[aF,aF,aF,bC,bC,bC]
  simp[ai,LR]
  rw[LC b (l[k+1]?.getD 0),LC (b*b) (l[k+2]?.getD 0),L6]
  omega
 have two:∀ {l:List Nat} {k:Nat},k+2<=l.length->ai b ((l.drop k).take 2)=l.getD (k+1) 0*b+l.getD k 0:=fun {l k} hk=>by
  rw[aF,aF,bC,bC]
  simp[ai]
  rw[LC b (l[k+1]?.getD 0)]
  omega
 have C:=(iT b (l:=u) (k:=j+n-2) (m:=3) oM oM p o).1;have I:=(iT b (l:=v) (k:=n-2) (m:=2) oM oM h (by rw[show n-2+2=n by omega];exact d)).1;rw[c oM,show j+n-2+2=j+n by omega,show j+n-2+1=j+n-1 by omega] at C
 rw[two oM,show n-2+1=n-1 by omega] at I
 have a:b^(j+n-2)=b^j*b^(n-2):=by rw[<-L4];congr 1;omega
 have y:0<b^(n-2):=L2 oM;have f:=Mx (ai b u) (b^(j+n-2));have H:=LX (ai b u) B;have i:=Mx (ai b v) (b^(n-2));have F:=LX (ai b v) y;rw[C] at f
 rw[I] at i
 have e:b^(n-1)<=ai b v:=by
  have:=aK b (l:=v) (k:=n-1) oM;rw[show n-1+1=v.length by omega,y8] at this
  have M:b^(n-1)*1<=b^(n-1)*v.getD (n-1) 0:=LW _ oM
  omega
 generalize hU:u.getD (j+n) 0*b*b+u.getD (j+n-1) 0*b+u.getD (j+n-2) 0=U at *
 generalize hV:v.getD (n-1) 0*b+v.getD (n-2) 0=V at *
 generalize ai b u%b^(j+n-2)=mu at *
 generalize ai b v%b^(n-2)=mv at *
 refine wl (b:=b) (P:=b^(j+n-2)) (U:=U) (V:=V) B ?_ ?_ ?_ ?_ ?_ ?_ J x z
 ·rw[LC];omega
 ·rw[LI,Mw,LC U];omega
 ·rw[a,LC V,L6]
  exact LW _ oM
 ·rw[a,LC (V+1),L6,Mg,Mh]
  exact Mb oM (L2 oM)
 ·rw[a,LC b (b^j*b^(n-2)),L6]
  refine LW _ ?_;rw[<-LR,show (n-2).succ=n-1 by omega];exact e
 ·rw[LR] at hR
  rw[<-L6,LC b (b^j)];exact hR
def aR (s:ByteArray)(i:Nat):Nat:=(s.data.toList.getD i 0).toNat
theorem cJ (s:ByteArray)(i:Nat):aR s i<256:=UInt8.toNat_lt _
def wv (s:ByteArray):Nat:=aR s 0+aR s 1*256+aR s 2*65536+aR s 3*16777216+aR s 4*4294967296+aR s 5*1099511627776+aR s 6*281474976710656+aR s 7*72057594037927936
theorem Ey (s:ByteArray):wv s<18446744073709551616:=by
 have h0:=cJ s 0;have h1:=cJ s 1;have b:=cJ s 2;have f:=cJ s 3;have a:=cJ s 4;have c:=cJ s 5;have d:=cJ s 6;have e:=cJ s 7
 unfold wv;omega
section ops
variable {P:Program} {Γ:bU} {o:Oper}
theorem dR {tx:TypeId}{x i:Operand}{k:IntKind}{s:ByteArray}{n:Nat}{j:Int}(c:o.op=.index tx x i)(b:ev Γ x=.string s)(hi:ev Γ i=.int k j)(d:P.underlying tx=some .string)(e:j=(n:Int))(hn:n<s.size)(w:World) :
  (execOp (ev Γ) o).run P w=.ok (.value (.int .u8 (aR s n:Nat))) w:=by
 unfold execOp;simp only[c];rw[b,hi,e]
 have h0:(0:Int)<=(n:Int):=Int.natCast_nonneg n;have a:n<s.data.size:=hn
 have h1:s[n]?=some (s.data.toList.getD n 0):=by
  simp[hn,a,ByteArray.getElem_eq_getElem_data]
 simp[Instr.index,asIntOf,run_underlying d,h1,aR,Result.andThen]
theorem pL {tx:TypeId}{x i:Operand}{k:IntKind}{s:ByteArray}{n:Nat}{j:Int}(b:o.op=.slice tx x (some i) none none)(a:ev Γ x=.string s)(hi:ev Γ i=.int k j)(c:P.underlying tx=some .string)(d:j=(n:Int))(hn:n<=s.size)(w:World) :
  (execOp (ev Γ) o).run P w=.ok (.value (.string (s.extract n s.size))) w:=by
 unfold execOp;simp only[b]
 subst d;have h0:(n:Int)<=(s.size:Int):=by omega
 simp[Instr.sliceAt,a,hi,Instr.slice,run_underlying c,Instr.sliceBounds,Instr.sliceBound,asIntOf,Result.andThen,h0,hn]
theorem g9 {t u:TypeId}{x y:Operand}{ky:IntKind}{a n:Nat}(d:o.op=.binOp .shl t x y u)(c:ev Γ x=.int .u64 (a:Int))(b:ev Γ y=.int ky (n:Int))(w:World) :
    (execOp (ev Γ) o).run P w=.ok (.value (.int .u64 ((a*2^n%18446744073709551616:Nat):Int))) w:=by
  unfold execOp;simp only[d];rw[c,b]
  have hz:¬((n:Int)<0):=by omega
  have e:IntKind.wrap .u64 ((a:Int)*2^(min n IntKind.u64.bits))=((a*2^n%18446744073709551616:Nat):Int):=by
    have e1:(a:Int)*2^(min n IntKind.u64.bits)=((a*2^(min n 64):Nat):Int):=by
      rw[show IntKind.u64.bits=64 from rfl];push_cast;rfl
    rw[e1,AU]
    rcases ea n 64 with h|h
    . rw[LS oM]
    . rw[MA h]
      have e2:(2:Nat)^n=18446744073709551616*2^(n-64):=by
        rw[show (18446744073709551616:Nat)=2^64 from rfl,<-L4];congr 1;omega
      have f:a*2^n%18446744073709551616=0:=by rw[e2,<-L6,LC a,L6,Nat.mul_mod_right]
      rw[f,show (2:Nat)^64=18446744073709551616 from rfl,L7]
  simp[binOp,eqGuard,Op.shift,Result.andThen,hz,e]
theorem gI {t u:TypeId}{x y:Operand}{ky:IntKind}{a n:Nat}(f:o.op=.binOp .shr t x y u)(d:ev Γ x=.int .u64 (a:Int))(c:ev Γ y=.int ky (n:Int))(ha:a<18446744073709551616)(w:World) :
  (execOp (ev Γ) o).run P w=.ok (.value (.int .u64 ((a/2^n:Nat):Int))) w:=by
 unfold execOp;simp only[f];rw[d,c]
 have hz:¬((n:Int)<0):=by omega
 have b:(0:Int)<=2^(min n IntKind.u64.bits):=Int.pow_nonneg kD
 have e:(a:Int)/2^(min n IntKind.u64.bits)=((a/2^n:Nat):Int):=by
  have e1:(a:Int)/2^(min n IntKind.u64.bits)=((a/2^(min n 64):Nat):Int):=by
   rw[show IntKind.u64.bits=64 from rfl];push_cast;rfl
  rw[e1]
  rcases ea n 64 with h|h
  ·rw[LS oM]
  ·have h1:(2:Nat)^64<=2^n:=L3 oM h
   rw[MA h,LP oM,LP oM]
 simp[binOp,eqGuard,Op.shift,Result.andThen,hz,Int.fdiv_eq_ediv_of_nonneg _ b,e]
theorem sH {t u:TypeId}{x y:Operand}{a:Nat}{m:Int}(p:Nat)(h:o.op=.binOp .and t x y u)(f:ev Γ x=.int .u64 (a:Int))(d:ev Γ y=.int .u64 m)(ha:a<18446744073709551616)(b:p<=64/\m=((2^p-1:Nat):Int))(w:World) :
  (execOp (ev Γ) o).run P w=.ok (.value (.int .u64 ((a%2^p:Nat):Int))) w:=by
 unfold execOp;simp only[h];rw[f,d,b.2]
 have c:(2^p-1:Nat)<2^64:=by
  have:(2:Nat)^p<=2^64:=L3 oM b.1;have:=Mc p
  omega
 have e:bits .and .u64 (a:Int) ((2^p-1:Nat):Int)=((a%2^p:Nat):Int):=by
  unfold bits
  have h1:(BitVec.ofInt 64 (a:Int) &&& BitVec.ofInt 64 ((2^p-1:Nat):Int)).toNat=a%2^p:=by
   rw[BitVec.toNat_and,<-Nat.and_two_pow_sub_one_eq_mod]
   congr 1
   ·simp[BitVec.toNat_ofInt];omega
   ·rw[BitVec.toNat_ofInt,<-Int.natCast_emod,A6,A0 c]
  show IntKind.wrap .u64 (((BitVec.ofInt 64 (a:Int) &&& BitVec.ofInt 64 ((2^p-1:Nat):Int)).toNat:Nat):Int)=_
  rw[h1,AU];have:a%2^p<=a:=Nat.mod_le _ _;rw[A0 oM]
 simp[binOp,eqGuard,Result.andThen,intBits_and,e]
end ops
theorem AI (a b:Nat):IntKind.wrap .u64 ((a:Int)+(b:Int))=(((a+b)%18446744073709551616:Nat):Int):=by rw[IntKind.wrap_u64];omega
theorem kI (a b:Nat)(h:b<=18446744073709551616):IntKind.wrap .u64 ((a:Int)-(b:Int))=(((a+(18446744073709551616-b))%18446744073709551616:Nat):Int):=by rw[IntKind.wrap_u64];omega
theorem j4 (a b:Nat):IntKind.wrap .u64 ((a:Int)*(b:Int))=((a*b%18446744073709551616:Nat):Int):=by
 rw[<-Int.natCast_mul,AU]
theorem jm (a b:Nat)(h:a*b<18446744073709551616):IntKind.wrap .u64 ((a:Int)*(b:Int))=((a*b:Nat):Int):=by rw[j4,A0 h]
theorem fE (a b:Nat)(h:b<=a)(ha:a<18446744073709551616):IntKind.wrap .u64 ((a:Int)-(b:Int))=((a-b:Nat):Int):=by rw[IntKind.wrap_u64];omega
theorem eE (a b:Nat)(h:a+b<18446744073709551616):IntKind.wrap .u64 ((a:Int)+(b:Int))=((a+b:Nat):Int):=by rw[IntKind.wrap_u64];omega
theorem jz {s:ByteArray}(h:s=⟨#[]⟩):(s.toList == (⟨#[]⟩:ByteArray).toList)=true:=by rw[h,Lib.toList_data];rfl
theorem nr {s:ByteArray}(h:s.size≠0):s.data.toList≠[]:=fun e=>h (by
 have:s.data.size=s.data.toList.length:=by simp
 show s.data.size=0
 rw[this,e];rfl)
theorem je {s:ByteArray}(h:s.size≠0):(s.toList == (⟨#[]⟩:ByteArray).toList)=false:=by
 rw[Lib.toList_data,Lib.toList_data];have:=nr h;cases e:s.data.toList with
 | nil=>exact absurd e this
 | cons a l=>rfl
theorem IA {s:ByteArray}(h:s=⟨#[]⟩):(!(s.toList == (⟨#[]⟩:ByteArray).toList))=false:=by rw[jz h];rfl
theorem Iv {s:ByteArray}(h:s.size≠0):(!(s.toList == (⟨#[]⟩:ByteArray).toList))=true:=by rw[je h];rfl
theorem qp (s:ByteArray)(k i:Nat):aR (s.extract k s.size) i=aR s (k+i):=by
 unfold aR
 rw[Lib.extract_to_end]
 simp only[LH,yy]
def kj (s t:ByteArray):Bool:=s.toList == t.toList
def mh (s t:ByteArray):Bool:=!(s.toList == t.toList)
theorem g5 {s t:ByteArray}(h:kj s t=true):s=t:=by
 have e:=eq_of_beq (show (s.toList == t.toList)=true from h);rw[Lib.toList_data,Lib.toList_data] at e
 cases s;cases t;congr 1;exact Array.toList_inj.1 e
theorem g6 {s t:ByteArray}(h:kj s t=false):¬s=t:=fun e=>by
 subst e;have:kj s s=true:=beq_self_eq_true _;rw[this] at h;cases h
theorem oG {s t:ByteArray}(h:mh s t=true):¬s=t:=g6 (by unfold mh at h;unfold kj;cases e:(s.toList == t.toList)<;>rw[e] at h<;>first|rfl|cases h)
theorem oH {s t:ByteArray}(h:mh s t=false):s=t:=g5 (by unfold mh at h;unfold kj;cases e:(s.toList == t.toList)<;>rw[e] at h<;>first|rfl|cases h)
def wds (n:Nat):List Nat:=gZ 18446744073709551616 n
def aA (l:List Nat):Nat:=ai 18446744073709551616 l
def Wd (l:List Nat):Prop:=Dg 18446744073709551616 l
theorem ay (n:Nat):aA (wds n)=n:=j7 kD n
theorem Wd.wds (n:Nat):Wd (wds n):=x4 kD n
theorem Wd.get {l:List Nat}(h:Wd l)(k:Nat):l.getD k 0<18446744073709551616:=Dg.getD h kD k
theorem wM {p : Prop} (h : p := by first | omega | exact Wd.get (by assumption) _ | exact Ey _) : p := h
theorem oA (n k:Nat):(wds n).getD k 0<18446744073709551616:=(Wd.wds n).get k
def b8 (x:Nat):List UInt8:=(pa 8).map (fun k=>UInt8.ofNat (x/256^k))
theorem kw (x:Nat):(b8 x).length=8:=rfl
theorem G5 (m:Nat):b8 (m%18446744073709551616)=b8 m:=by
 unfold b8
 apply List.map_congr_left
 intro k hk;have a:k<8:=po.1 hk
 apply UInt8.toNat_inj.1
 show (m%18446744073709551616/256^k)%256=(m/256^k)%256
 have:k=0\/k=1\/k=2\/k=3\/k=4\/k=5\/k=6\/k=7:=by omega
 rcases this with rfl|rfl|rfl|rfl|rfl|rfl|rfl|rfl<;>omega
theorem AF:∀ (f m:Nat),m<=f->wb f m=(gZ 18446744073709551616 m).flatMap b8
  | 0,m,h=>by
    have:m=0:=by omega
    subst this;rfl
  | f+1,m,h=>by
    unfold wb
    split
    . rename_i h0;subst h0;rfl
    . rw[e7 kD oM,y4,G5,AF f _ oM];rfl
theorem Ev (n:Nat):gZ 18446744073709551616 (n/18446744073709551616)=(gZ 18446744073709551616 n).drop 1:=by
 rcases Ga n with h|h
 ·subst h;rfl
 ·conv=>rhs;rw[e7 kD h]
  rfl
theorem oh (n:Nat):(hi n).data.toList=((wds n).drop 1).flatMap b8:=by
 unfold hi wds
 rw[AF _ _ oM,Ev]
theorem nO (l:List Nat):(l.flatMap b8).length=8*l.length:=by
 induction l with
 | nil=>rfl
 | cons x l ih=>rw[y4,zY,ih,kw,ub];omega
theorem iZ (n:Nat):(hi n).size=8*((wds n).length-1):=by
 have:(hi n).size=(hi n).data.toList.length:=by rw[Array.length_toList];rfl
 rw[this,oh,nO,Mq]
theorem oc:∀ (l:List Nat) (j k:Nat),j<l.length->k<8->(l.flatMap b8).getD (8*j+k) 0=(b8 (l.getD j 0)).getD k 0
  | [],j,k,hj,_=>by simp at hj
  | x::l,0,k,hj,hk=>by
    rw[y4]
    simp only[LH]
    rw[wj (by rw[kw];omega)]
    simp
  | x::l,j+1,k,hj,hk=>by
    rw[y4,y9,<-oc l j k (by simpa using hj) hk]
    simp only[LH]
    rw[yz (by rw[kw];omega),kw]
    congr 2
    omega
theorem GU (x k:Nat)(hk:k<8):((b8 x).getD k 0).toNat=x/256^k%256:=by
 unfold b8
 simp only[LH,MB,MC hk]
 rfl
theorem FZ (n j k:Nat)(a:j+1<(wds n).length)(hk:k<8):aR (hi n) (8*j+k)=(wds n).getD (j+1) 0/256^k%256:=by
 unfold aR
 rw[oh,oc _ _ _ (by rw[Mq];omega) hk,GU _ _ hk,bC,Nat.add_comm 1 j]
theorem I6 {s:ByteArray}{x:Nat}(a:x<18446744073709551616)(h:∀ k,k<8->aR s k=x/256^k%256):wv s=x:=by
 unfold wv
 rw[h 0 oM,h 1 oM,h 2 oM,h 3 oM,h 4 oM,h 5 oM,h 6 oM,h 7 oM]
 simp only[Nat.reducePow,Ma]
 omega
theorem ju (n j:Nat)(a:j+1<(wds n).length):wv ((hi n).extract (8*j) (hi n).size)=(wds n).getD (j+1) 0 :=
 I6 (oA n _) (fun k hk=>by rw[qp,FZ n j k a hk])
theorem ff {n:Nat}(h:n<18446744073709551616):hi n=⟨#[]⟩:=mN h
theorem de {n:Nat}(h:18446744073709551616<=n):2<=(wds n).length:=by
 rcases ea (wds n).length 2 with h1|h1
 ·have a:=jt (b:=18446744073709551616) kD n
  have:(18446744073709551616:Nat)^(gZ 18446744073709551616 n).length<=18446744073709551616^1:=L3 kD (by show (wds n).length<=1;omega)
  omega
 ·exact h1
theorem fF {n:Nat}(h:18446744073709551616<=n):(hi n).size≠0:=by rw[iZ];have:=de h;omega
theorem kc {n:Nat}(h0:0<n)(h:n<18446744073709551616):wds n=[n]:=by
 unfold wds
 rw[e7 kD h0,A0 h,LP h,jT]
theorem ni:wds 0=[]:=rfl
theorem k6 {n:Nat}:0<(wds n).length↔0<n:=ot kD
theorem rH (n:Nat):lo n=(((wds n).getD 0 0:Nat):Int):=by
 unfold lo wds
 rcases Ga n with h|h
 ·subst h;rfl
 ·rw[e7 kD h];rfl
theorem ph {l:List Nat}(h:Wd l):wds (aA l)=l.take (tl l l.length):=Ht kD h
theorem lU {n:Nat}(h:0<n):(wds n).getD ((wds n).length-1) 0≠0:=mY kD n h
theorem JK {n:Nat}{l:List UInt8}(h:l=((wds n).drop 1).flatMap b8):(⟨l.toArray⟩:ByteArray)=hi n:=by
 have:(hi n).data.toList=l:=by rw[oh,h]
 cases e:hi n with
 | mk d=>rw[e] at this;rw[<-this]
theorem dD (n:Nat):n<18446744073709551616^(wds n).length:=jt kD n
theorem db {a b:Nat}(h:a<=b):(wds a).length<=(wds b).length:=ge kD (LM h (dD b))
theorem gU {a b:Nat}(k:Nat)(h:a<2^k):a ||| b*2^k=a+b*2^k:=by
 have:=Md h b;rw[Nat.or_comm,LC b,<-this];omega
def bX (a b:Nat):Int:=if a<b then -1 else if b<a then 1 else 0
theorem dY {a b:Nat}(h:a<b):bX a b = -1:=by simp[bX,h]
theorem fM {a b:Nat}(h:b<a):bX a b=1:=by unfold bX;rw[if_neg oM,if_pos h]
theorem i5 {a b:Nat}(h:a=b):bX a b=0:=by unfold bX;rw[if_neg oM,if_neg oM]
theorem fH {a b:Nat}(h:b<=a):bX a b=0\/bX a b=1:=by
 unfold bX
 rw[if_neg oM]
 split<;>simp
theorem gG {a b:Nat}(h:(wds a).length<(wds b).length):a<b:=by
 rcases ea a b with hl|hl
 ·exact hl
 ·have:=db hl;omega
theorem mQ {a b k:Nat}(d:(wds a).length=(wds b).length)(hk:k<(wds a).length)(f:(wds a).drop (k+1)=(wds b).drop (k+1))(c:(wds a).getD k 0<(wds b).getD k 0):a<b:=by
 have e:=bM 18446744073709551616 (l:=wds a) (k:=k+1) oM;have j:=bM 18446744073709551616 (l:=wds b) (k:=k+1) oM;have e1:ai 18446744073709551616 (wds a)=a:=ay a;have e2:ai 18446744073709551616 (wds b)=b:=ay b;have i:=aK 18446744073709551616 (l:=wds a) (k:=k) hk;have p:=aK 18446744073709551616 (l:=wds b) (k:=k) oM;have h:=bL (Dg.take (Wd.wds a) k);rw[LF,LS oM] at h
 have o:18446744073709551616^k*(wds a).getD k 0+18446744073709551616^k<=18446744073709551616^k*(wds b).getD k 0:=by
  rw[<-MD];exact LW _ c
 rw[f] at e
 omega
theorem lf {a b k:Nat}(c:(wds a).length=(wds b).length)(hk:k<(wds a).length)(d:(wds a).drop (k+1)=(wds b).drop (k+1))(e:(wds a).getD k 0≠(wds b).getD k 0):bX ((wds a).getD k 0) ((wds b).getD k 0)=bX a b:=by
 rcases ea ((wds a).getD k 0) ((wds b).getD k 0) with h|h
 ·rw[dY h,dY (mQ c hk d h)]
 ·rw[fM oM,fM (mQ c.symm oM d.symm oM)]
theorem fK {l m:List Nat}{k:Nat}(c:l.length=m.length)(hk:k<l.length)(b:l.drop (k+1)=m.drop (k+1))(a:l.getD k 0=m.getD k 0):l.drop k=m.drop k:=by
 rw[Mk hk,Mk (l:=m) (i:=k) oM,b]
 simp[hk,show k<m.length by omega] at a
 rw[a]
theorem tL (n:Nat):n%18446744073709551616=(wds n).getD 0 0:=Int.ofNat.inj (rH n)
theorem oS {a b:Nat}(c:(wds a).length=(wds b).length)(d:(wds a).drop 1=(wds b).drop 1):bX (a%18446744073709551616) (b%18446744073709551616)=bX a b:=by
  rw[tL,tL]
  by_cases h:(wds a).getD 0 0=(wds b).getD 0 0
  . have:a=b:=by
      rcases Ga (wds a).length with h0|h0
      . have e1:=ay a
        have e2:=ay b;have f:wds a=[]:=z6 h0;have e:wds b=[]:=z6 oM;rw[f] at e1
        rw[e] at e2
        exact e1.symm.trans e2
      . have:=fK c h0 d h
        simp only[List.drop_zero] at this
        rw[<-ay a,<-ay b,this]
    rw[h,i5 rfl,i5 this]
  . refine lf c ?_ d h
    rcases Ga (wds a).length with h0|h0
    . exfalso;apply h
      have e1:wds a=[]:=z6 h0;have e2:wds b=[]:=z6 oM;rw[e1,e2]
    . exact h0
theorem ui {n:Nat}(h:(wds n).length<=1):n<18446744073709551616:=by
 rcases ea n 18446744073709551616 with h1|h1
 ·exact h1
 ·have:=de h1;omega
theorem p7 {a b:Nat}(c:(wds a).length-1=(wds b).length-1)(d:(wds a).drop 1=(wds b).drop 1):bX (a%18446744073709551616) (b%18446744073709551616)=bX a b:=by
 rcases ea 1 (wds a).length with h|h
 ·exact oS oM d
 ·rw[A0 (ui h),A0 (ui oM)]
theorem BE {n:Nat}(h:0<n):nb n=64*((wds n).length-1)+nb ((wds n).getD ((wds n).length-1) 0):=by
 have b:=k6.2 h;have e:=aK 18446744073709551616 (l:=wds n) (k:=(wds n).length-1) oM;rw[show (wds n).length-1+1=(wds n).length by omega,y8] at e
 have e1:ai 18446744073709551616 (wds n)=n:=ay n;have a:=bL (Dg.take (Wd.wds n) ((wds n).length-1));rw[LF,LS oM] at a
 have e2:(18446744073709551616:Nat)^((wds n).length-1)=2^(64*((wds n).length-1)):=by rw[LY]
 rw[e1,e2] at e
 rw[e2] at a
 have:=BF a (ME (lU h));rw[<-e] at this
 exact this
theorem jw {n:Nat}(h:n<18446744073709551616):Value.agg #[.int .u64 (n:Int),.string ⟨#[]⟩]=nv n:=by unfold nv;rw[mm h,mN h]
theorem eD {n:Nat}:(wds n).length<=1↔n<18446744073709551616:=by
 constructor
 ·intro h
  rcases ea n 18446744073709551616 with h1|h1
  ·exact h1
  ·have:=de h1;omega
 ·intro h
  rcases Ga n with h0|h0
  ·subst h0;simp[ni]
  ·rw[kc h0 h];simp
section bld
variable {P:Program} {n:Nat} {N R:Po} {X:Nat->Po} {ops:Array Oper} {k:Nat} {Γ:bU} {w0:World} {h0:Hp} {B:List Bx} {Rs:List Rw} {F:List (Hp->Prop)} {wB:World} {hB:Hp}
theorem SS.liftJ (s:SS w0 h0 wB hB B Rs F){w:World}(x:Ext wB w):∃ h',SS w0 h0 w h' B Rs F/\∀ b,wB.heap.size<=b->b<w.heap.size->h'[b]?=some bc:=by
 have c:=x.size;have e0:=s.g.size;refine ⟨hB++tj (w.heap.size-wB.heap.size) bc,s.step ⟨x,⟨by simp,fun b a=>tw a⟩,⟨by simp;omega,fun b=>?_⟩⟩,fun b h1 d=>?_⟩
 ·rcases ea b hB.size with a|a
  ·rw[tw a]
   have e:=Below.block x b oM
   rcases s.g.blk b with h1|h1
   ·exact .inl (h1.trans e.symm)
   ·exact .inr h1
  ·rw[Bs a,Dw]
   by_cases hl:b<w.heap.size
   ·right;rw[if_pos oM]
   ·left;rw[if_neg oM,eb oM]
 ·rw[Bs oM,Dw,if_pos oM]
theorem La (t:Nat)(ty:TypeId)(vs:List Value){w:World}{h:Hp}(s:SS w0 h0 w h B Rs F)(H:∀ w',Ext w w'->w.heap.size<=w'.heap.size->w'.heap[w.heap.size]?=some (.cells vs.toArray ty (0,0))->LG P n N R X ops (k+1) ((t,.pointer (some ⟨w.heap.size,0,none⟩))::Γ) w')(a:cL ops Γ k t n=true:=by kernel_rfl)
  (hr:(execOp (ev Γ) (am ops k)).run P w=.ok (.value (.pointer (some ⟨w.heap.size,0,none⟩))) (w.alloc (.cells vs.toArray ty (0,0))):=by kernel_rfl):LG P n N R X ops k Γ w :=
 LG.val t _ (w.alloc (.cells vs.toArray ty (0,0))) (bQ a).1 (bQ a).2 hr (H _ ((Ext.refl _).alloc _) (by rw[heap_alloc];simp) (by rw[heap_alloc];simp))
theorem K3 (t:Nat){f:FuncId}{args:Array Value}{V:Value}{Q:World->Prop}{w:World}(s:SS w0 h0 wB hB B Rs F)(x:Ext wB w)(c:Calls P f args w fun e w'=>e=.returned V/\(Q w'/\Below wB.heap.size w w'))(H:∀ w' h',SS w0 h0 w' h' B Rs F->Ext wB w'->Q w'->LG P n N R X ops (k+1) ((t,V)::Γ) w')(d:cL ops Γ k t n=true:=by kernel_rfl)
  (hr:(execOp (ev Γ) (am ops k)).run P w=.ok (.enter f args) w:=by kernel_rfl):LG P n N R X ops k Γ w :=
 LG.call t f args (bQ d).1 (bQ d).2 hr (c.mono fun e w' ⟨i,q,b⟩=>by
  have a:Ext wB w':=Below.trans x b;obtain ⟨h',h,_⟩:=s.liftJ a;exact ⟨V,i,H w' h' h a q⟩)
def Dm (a b:Nat):List Nat:=(pa b).filter (fun c=>decide (a<=c))
theorem mH {a b c:Nat}:c∈Dm a b↔a<=c/\c<b:=by
 unfold Dm;rw[MF,po];simp;omega
theorem A.takeK {M:Ms}{Q:Exit->Act->World->Prop}{k0:Nat}{L:Array Bool}{a:Act}{w:World}{i:Nat}{o:Oper}{v:Value}{S:World->Prop}
  (hi:ops[i]?=some o)(hk:i<k0)(d:Region.noSelect ops=true)(hf:Region.free .any ops L i=true)(hr:i∈Region.ready .any ops L)(y:∀ c a w,¬Q (.panic c) a w)
  (u:∀ w w',S w->Mo M.l w w'->S w')(B:S w)(x:YieldsIf P ops S o v a)
  (b:(∀ w,S w)\/(∀ w w',S w->Tl M w w'->S w')\/∀ j f,ops[j]?=some f->k0<=j->j≠i->∃ e∈f.after,Region.binds .any e=true/\e.on=i)
  (H:A M P ops Q k0 (L.setIfInBounds i true) (a.put o.dst v) w):A M P ops Q k0 L a w:=by
 unfold A at *
 rw[fR hr]
 exact mg hi (Region.noSelect_spec d) (fun c a w hq=>absurd hq (y _ _ _)) u _ _ _ _
  (fun j f z h p=>Region.free_spec hi hf j f z h p) b hr x B H hk
variable {M:Ms} {k0:Nat} {L:Array Bool} {w:World}
theorem aV (i t:Nat)(v:Value)(H:AG M P n N R X ops k0 (L.setIfInBounds i true) ((t,v)::Γ) w)(f:cE n ops k0 [] L Γ i t=true:=by kernel_rfl)(hv:∀ w,(execOp (ev Γ) (am ops i)).run P w=.ok (.value v) w:=by intro _;kernel_rfl):AG M P n N R X ops k0 L Γ w:=by
 obtain ⟨b,e⟩:=jB f;rw[na] at b
 have c:=dV b.1;intro a d;have e1:=d.exec (Region.noSelect_spec c.sel i _ · · c.get) b.2;refine A.takeK (v:=v) (S:=fun _=>True) c.get c.lt c.sel c.free c.ready (fun _ _ _ hq=>hq) (fun _ _ _ _=>trivial) trivial (.inl ⟨d.want e,fun w _=>by rw[e1];exact hv w⟩) (.inl fun _=>trivial) ?_;rw[c.dst];exact H _ (d.put c.tn v)
theorem aL (i t:Nat)(v:Value)(hr:∀ w',Mo M.l w w'->(execOp (ev Γ) (am ops i)).run P w'=.ok (.value v) w')(H:AG M P n N R X ops k0 (L.setIfInBounds i true) ((t,v)::Γ) w)(u:B5 n ops k0 [] L Γ i t=true:=by kernel_rfl):AG M P n N R X ops k0 L Γ w:=by
 obtain ⟨b,o⟩:=iE u;rw[na,na] at b
 obtain ⟨⟨d,f⟩,h⟩:=b;have c:=dV d;intro a e;have e1:=e.exec (Region.noSelect_spec c.sel i _ · · c.get) f;refine A.takeK (v:=v) (S:=fun w'=>Mo M.l w w') c.get c.lt c.sel c.free c.ready (fun _ _ _ hq=>hq) (fun _ _ h1 j=>h1.trans j) (Mo.refl _ _) (.inl ⟨e.want o,fun w' p=>by rw[e1];exact hr w' p⟩) (.inr (.inr (jI h))) ?_;rw[c.dst];exact H _ (e.put c.tn v)
theorem aH (i t:Nat)(v:Value){h:Hp}{b o:Nat}{cs:List Value}(s:SS w0 h0 w h B Rs F)(sg:Seg h b o cs)(H:AG M P n N R X ops k0 (L.setIfInBounds i true) ((t,v)::Γ) w)(hM:∀ b∈M.l,h[b]?=some bc)(d:B5 n ops k0 [] L Γ i t=true:=by kernel_rfl)(a:cl P (execOp (ev Γ) (am ops i)) cs=some (.value v,k8 b o cs.length):=by kernel_rfl):AG M P n N R X ops k0 L Γ w :=
 aL i t v (fun _ c=>Seg.runM sg s.g hM c a) H d
def Ic (ops:Array Oper)(k0:Nat)(L:Array Bool)(i:Nat):Bool:=decide (i<ops.size) && decide (i<k0) && Region.noSelect ops && (Region.ready .any ops L == [i])
theorem aC (i t:Nat){f:FuncId}{args:Array Value}(c:Calls P f args w fun e w'=>∃ v,e=.returned v/\Mo M.l w w'/\AG M P n N R X ops k0 (L.setIfInBounds i true) ((t,v)::Γ) w')(o:(Ic ops k0 L i && aZ Γ (am ops i) && ((am ops i).dst == some t) && decide (t<n))=true:=by kernel_rfl)(y:be ops Γ (am ops i)=some true:=by kernel_rfl)
  (hr:(execOp (ev Γ) (am ops i)).run P w=.ok (.enter f args) w:=by kernel_rfl):AG M P n N R X ops k0 L Γ w:=by
 simp only[na,decide_eq_true_eq,beq_iff_eq] at o
 obtain ⟨⟨⟨h1,u⟩,x⟩,p⟩:=o
 unfold Ic at h1
 simp only[na,decide_eq_true_eq,beq_iff_eq] at h1
 have h:=bG (ops:=ops) h1.1.1.1;intro a b;refine A.intro (fun h0=>by rw[h1.2] at h0;cases h0) (fun j d=>?_);rw[h1.2,te] at d
 subst d;refine OpR.wpOp (R:=fun v w'=>Mo M.l w w'/\AG M P n N R X ops k0 (L.setIfInBounds j true) ((t,v)::Γ) w') h ⟨b.want y,.inr (.inr ⟨f,args,?_,c⟩)⟩ (fun v w' hq=>⟨Rl.mo h1.1.1.2 hq.1,?_⟩)
 ·rw[b.exec (Region.noSelect_spec h1.1.2 j _ · · h) u];exact hr
 ·rw[x];exact hq.2 _ (b.put p v)
theorem wg {id:Nat}(M:Ms)(k0:Nat)(c:P.follows .mixedOrders=true)(H:AG M P n N R X ops k0 (tj ops.size false) Γ w.drew):CG P n N R X (.region id ops true) Γ w:=by
 intro a b;refine wp_region_any c ?_;have h1:=H a b
 unfold A at h1
 rw[jo] at h1
 exact mR _ _ _ _ _ _ _ _ _ h1
theorem SS.drew {h:Hp}(s:SS w0 h0 w h B Rs F):SS w0 h0 w.drew h B Rs F:=s.step (Up.drew (Up.refl s.g))
theorem wu {K:Nat}{w w':World}(x:Below K w w'):Mo (Dm K w.heap.size) w w':=⟨x.os,x.tape,x.output,x.size,fun c a hn=>by
 rcases ea c K with h|h
 ·exact Below.block x c h
 ·exact absurd (mH.2 ⟨h,a⟩) hn⟩
theorem sf {K:Nat}{T e:TypeId}{b:Nat}{bs:List Value}{w w1:World}(h:Lib.IsBuilder T e K b bs w)(x:Ext w w1):Lib.IsBuilder T e K b bs w1:=by
 have key:∀ p,Lib.BuilderAt T e K b p bs w->Lib.BuilderAt T e K b p bs w1:=by
  rintro p ⟨h1,v,a,f,i⟩
  have d:b<w.heap.size:=by
   rcases ea b w.heap.size with h'|h'
   ·exact h'
   ·rw[eb h'] at a;cases a
  exact ⟨h1,v,(Below.block x b d).trans a,em f (fun c j=>Below.block x c (jF f j)),i⟩
 rcases h with h|h
 ·exact .inl (key _ h)
 ·exact .inr (key _ h)
theorem aX (i t:Nat)(A:Option Addr)(len b sz:Nat)(x:Int)(j:Nat)(c:A=some ⟨aB A,aO A,none⟩)(H:AG M P n N R X ops k0 (L.setIfInBounds i true) ((t,.pointer (some ⟨aB A,aO A+j*sz,none⟩))::Γ) w)(e:cE n ops k0 [] L Γ i t=true:=by kernel_rfl)(d:EC P (ev Γ) (am ops i)=some (.slice A len b,.int .i64 x,sz):=by kernel_rfl)(hk:x=j:=by omega)(a:j<len:=by omega):AG M P n N R X ops k0 L Γ w :=
 aV i t _ H e (fun w=>im d c hk a w)
theorem sY {P:List UInt8}{x m:Nat}(a:m<8):Lib.byteCells (P++(b8 x).take m)++[.int .u8 ((x/2^(8*m)%256:Nat):Int)]=Lib.byteCells (P++(b8 x).take (m+1)):=by
 have e:(b8 x).take (m+1)=(b8 x).take m++[UInt8.ofNat (x/256^m)]:=by
  rw[Mi]
  congr 1
  unfold b8
  rw[MB,MC a];rfl
 rw[e,<-List.append_assoc]
 unfold Lib.byteCells
 rw[List.map_append (l₁:=P++_)]
 congr 1
 show _=[Value.int .u8 ((x/256^m%256:Nat):Int)]
 rw[LY]
theorem vW {l:List Nat}{k:Nat}(hk:k<l.length):((l.take k).flatMap b8)++(b8 (l.getD k 0)).take 8=(l.take (k+1)).flatMap b8:=by
 have e:(b8 (l.getD k 0)).take 8=b8 (l.getD k 0):=Mu (by rw[kw];omega);rw[iK hk,List.flatMap_append,e];simp
theorem vt {l:List Nat}{k m x:Nat}(hk:k<=l.length)(b:m<=8)(a:l.length<=1099511627776):(Lib.byteCells ((l.take k).flatMap b8++(b8 x).take m)).length+1<=140737488355328:=by
 rw[Lib.byteCells_length,zY,nO,LF,LF,kw];omega
theorem C1 {l:List Nat}(h:tl l l.length=0):Value.agg #[.int .u64 0,.string ⟨#[]⟩]=nv (aA l):=by
 have e:=j8 18446744073709551616 l l.length (ep _);rw[h,y8] at e
 have:aA l=0:=e.symm;rw[this];rfl
theorem F4 {l:List Nat}(b:Wd l)(h:tl l l.length=1):Value.agg #[.int .u64 (l.getD 0 0:Nat),.string ⟨#[]⟩]=nv (aA l):=by
 have e:=j8 18446744073709551616 l l.length (ep _);have a:=it l l.length;rw[h,y8,aF] at e
 have e2:aA l=l.getD 0 0:=by show ai _ l=_;rw[<-e];simp[ai]
 rw[e2];have:=b.get 0
 unfold nv
 rw[mm this,mN this]
theorem Dc {l:List Nat}(a:Wd l)(h:0<tl l l.length):Value.agg #[.int .u64 (l.getD 0 0:Nat),.string ⟨(((l.drop 1).take (tl l l.length-1)).flatMap b8).toArray⟩]=nv (aA l):=by
 have e:=ph a;have e1:((l.drop 1).take (tl l l.length-1))=(wds (aA l)).drop 1:=by rw[e,List.drop_take]
 unfold nv
 rw[JK (n:=aA l) (by rw[e1]),rH,e,jG h]
end bld
theorem rM {B:List Bx}:∀ (ps:List (Nat × Nat × Nat)) (q:Nat) (a:Addr),(cM B ps)[q]?=some a->∃ p∈ps,a.block=(av B p.1).b:=by
  intro ps
  induction ps with
  | nil=>intro q a h;simp[cM] at h
  | cons p ps ih =>
    intro q a h
    unfold cM at h
    rcases ea q (k8 (av B p.1).b p.2.1 p.2.2).length with hl|hl
    . rw[wj hl] at h
      exact ⟨p,by simp,by rw[fh _ _ _ _ _ h]⟩
    . rw[yz hl] at h
      obtain ⟨d,c,e⟩:=ih _ _ h;exact ⟨d,by simp[c],e⟩
section
variable {M:Ms} {P:Program} {n:Nat} {N R:Po} {X:Nat->Po} {ops:Array Oper} {k k0:Nat} {L:Array Bool} {Γ:bU} {w:World} {h:Hp} {w0:World} {h0:Hp} {B:List Bx} {Rs:List Rw} {F:List (Hp->Prop)}
theorem JV {α:Type}(j:Nat)(l:List α)(f:α->List Value)(sz e:Nat)(x:α)(s:SS w0 h0 w h B Rs F)(hk:e<l.length)(H:∀ w',Put (av B j).b w w'->SS w0 h0 w' h (gK B j ((l.set e x).flatMap f)) Rs F->LG P n N R X ops (k+1) Γ w')(c:cS ops Γ k=true:=by kernel_rfl)
  (a:decide (j<B.length)=true:=by kernel_rfl)(hB:(av B j).vs=l.flatMap f:=by kernel_rfl)(hf:∀ x,(f x).length=sz:=by intro _;rfl)
  (d:dK P (execOp (ev Γ) (am ops k))=some (.skip,lm (av B j).b (0+e*sz) (f x)):=by kernel_rfl):LG P n N R X ops k Γ w :=
 LG.putA j l f sz e x s.st s.g0 (iu c).1 (iu c).2 a hB hf hk d (fun w' p i=>H w' p (s.put0 (oT a) p i (kB (oT a))))
theorem Lk {α:Type}(i j:Nat)(l:List α)(f:α->List Value)(sz e:Nat)(x:α)(s:SS w0 h0 w h B Rs F)(hk:e<l.length)(H:∀ w',Put (av B j).b w w'->SS w0 h0 w' h (gK B j ((l.set e x).flatMap f)) Rs F->AG M P n N R X ops k0 (L.setIfInBounds i true) Γ w')(c:HT ops k0 L Γ i=true:=by kernel_rfl)
  (a:decide (j<B.length)=true:=by kernel_rfl)(hB:(av B j).vs=l.flatMap f:=by kernel_rfl)(hf:∀ x,(f x).length=sz:=by intro _;rfl)
  (o:dK P (execOp (ev Γ) (am ops i))=some (.skip,lm (av B j).b (0+e*sz) (f x)):=by kernel_rfl)(hz:∀ K bs,M.z=some (K,bs)->K<=(av B j).b\/(av B j).b∈bs:=by intro _ _ e;cases e):AG M P n N R X ops k0 L Γ w :=
 T.putA i j l f sz e x s.st s.g0 (kO c).1 (kO c).2 a hB hf hk o (fun w' p d=>H w' p (s.put0 (oT a) p d (kB (oT a)))) hz
theorem aQ {α:Type}(i t j:Nat)(l:List α)(f:α->List Value)(sz:Nat)(d:α)(e:Nat)(v:Value)(s:SS w0 h0 w h B Rs F)(hk:e<l.length)(H:AG M P n N R X ops k0 (L.setIfInBounds i true) ((t,v)::Γ) w)(hM:(av B j).b ∉ M.l:=by exact List.not_mem_nil)(z:B5 n ops k0 [] L Γ i t=true:=by kernel_rfl)
  (o:decide (j<B.length)=true:=by kernel_rfl)(hB:(av B j).vs=l.flatMap f:=by kernel_rfl)(hf:∀ x,(f x).length=sz:=by intro _;rfl)
  (p:cl P (execOp (ev Γ) (am ops i)) (f (l.getD e d))=some (.value v,k8 (av B j).b (0+e*sz) (f (l.getD e d)).length):=by kernel_rfl):AG M P n N R X ops k0 L Γ w :=
 aL i t v (fun w' y=>cZ _ _ _ _ p (fun q a u ha c=>by
  rw[fh _ _ _ _ _ ha,((s.st.own _ (bp (oT o))).mo y hM).cell,hB];rw[<-fP hf d l e hk] at c
  have hq:q<sz:=by
   rcases ea q sz with hl|hl
   ·exact hl
   ·rw[tv (by simp;omega)] at c;cases c
  rw[List.getElem?_take_of_lt hq,yy] at c
  rw[Ab];exact c)) H z
theorem CJ (t j:Nat){f:FuncId}{args:Array Value}{Φ:Value->Prop}(s:SS w0 h0 w h B Rs F)(c:∀ hp,G w hp->AllF F hp->Seg hp (av B j).b 0 (av B j).vs->Calls P f args w (Ret w hp (fun v _=>Φ v)))(H:∀ v w' h',Up w h w' h'->SS w0 h0 w' h' B Rs F->Φ v->LG P n N R X ops (k+1) ((t,v)::Γ) w')(e:decide (j<B.length)=true:=by kernel_rfl)(d:cL ops Γ k t n=true:=by kernel_rfl)(hr:(execOp (ev Γ) (am ops k)).run P w=.ok (.enter f args) w:=by kernel_rfl):LG P n N R X ops k Γ w :=
 kd t (s.lends (oT e) c) (fun v w' h' u a=>H v w' h' u (s.step u) a) d hr
theorem SS.lends2 (s:SS w0 h0 w h B Rs F){i j:Nat}(hi:i<B.length)(H:j<B.length)(z:i≠j){f:FuncId}{args:Array Value}{Φ:Value->Prop}(c:∀ a,G w a->AllF F a->Seg a (av B i).b 0 (av B i).vs->Seg a (av B j).b 0 (av B j).vs->Calls P f args w (Ret w a (fun v _=>Φ v))):Calls P f args w (Ret w h (fun v _=>Φ v)):=by
 have D:=bp hi;have o:=bp H;have L:(av B j).b≠(av B i).b:=gt s.st (decide_eq_true H) (decide_eq_true hi) (by simpa using z.symm);obtain ⟨a,g,gw,sg,I⟩:=DM s.g (s.st.jk _ D) (s.st.own _ D);have l:a[(av B j).b]?=some bc:=by rw[I _ L];exact s.st.jk _ o
 obtain ⟨x,J,d,p,y⟩:=DM g l (s.st.own _ o);refine (c x J ((s.f.gw s.mo gw).gw s.mo d) (sg.gw d) p).mono ?_;rintro e w' ⟨v,h',M,u,C⟩;obtain ⟨h1,u1⟩:=rL l y (g.sz J) u;obtain ⟨K,O⟩:=rL (s.st.jk _ D) I (s.g.sz g) u1;exact ⟨v,K,M,O,C⟩
theorem Kx (t i j:Nat){f:FuncId}{args:Array Value}{Φ:Value->Prop}(s:SS w0 h0 w h B Rs F)(c:∀ hp,G w hp->AllF F hp->Seg hp (av B i).b 0 (av B i).vs->Seg hp (av B j).b 0 (av B j).vs->Calls P f args w (Ret w hp (fun v _=>Φ v)))(H:∀ v w' h',SS w0 h0 w' h' B Rs F->Φ v->LG P n N R X ops (k+1) ((t,v)::Γ) w')(a:(decide (i<B.length) && decide (j<B.length) && (i != j))=true:=by kernel_rfl)(d:cL ops Γ k t n=true:=by kernel_rfl)(hr:(execOp (ev Γ) (am ops k)).run P w=.ok (.enter f args) w:=by kernel_rfl):LG P n N R X ops k Γ w:=by
 simp only[na,decide_eq_true_eq,bne_iff_ne,ne_eq] at a
 exact lC t s (s.lends2 a.1.1 a.1.2 a.2 c) H d hr
theorem EB {w w':World}{h f h':Hp}{b:Nat}{M:List Nat}(l:h[b]?=some bc)(p:∀ c,c≠b->f[c]?=h[c]?)(i:f.size=h.size)(u:UpM M w f w' h'):∃ d,UpM M w h w' d/\(∀ c,c≠b->d[c]?=h'[c]?):=by
 have o:=aJ l;have a:b<h'.size:=e5 oM u.gr.size;refine ⟨h'.setIfInBounds b bc,⟨u.mo,⟨by simp;rw[<-i];exact u.gr.size,fun c j=>?_⟩,⟨by simp;exact u.g.size,fun c=>?_⟩⟩,fun c j=>la (Ne.symm j)⟩
 ·by_cases e:b=c
  ·subst e;rw[FA a,l]
  ·rw[la e,u.gr.blk c oM,p c (Ne.symm e)]
 ·by_cases e:b=c
  ·subst e;right;rw[FA a]
  ·rw[la e];exact u.g.blk c
theorem Io (t i j:Nat){f:FuncId}{args:Array Value}{Φ:Value->World->Prop}(s:SS w0 h0 w h B Rs F)(c:∀ d,G w d->AllF F d->d[(av B i).b]?=some bc->Seg d (av B j).b 0 (av B j).vs->Calls P f args w (eP (av B i).b w d (fun v w' _=>Φ v w')))(H:∀ v w' h',UpM [(av B i).b] w h w' h'->Φ v w'->LG P n N R X ops (k+1) ((t,v)::Γ) w')(a:(decide (i<B.length) && decide (j<B.length) && (i != j))=true:=by kernel_rfl)(D:cL ops Γ k t n=true:=by kernel_rfl)(hr:(execOp (ev Γ) (am ops k)).run P w=.ok (.enter f args) w:=by kernel_rfl):LG P n N R X ops k Γ w:=by
 simp only[na,decide_eq_true_eq,bne_iff_ne,ne_eq] at a
 have p:=bp a.1.2;have z:(av B i).b≠(av B j).b:=gt s.st (decide_eq_true a.1.1) (decide_eq_true a.1.2) (by simpa using a.2);obtain ⟨d,g,gw,sg,x⟩:=DM s.g (s.st.jk _ p) (s.st.own _ p);refine gi (rb:=(av B i).b) (Φ:=fun v w' _=>Φ v w') (h:=h) t ((c d g (s.f.gw s.mo gw) (by rw[x _ z];exact s.st.jk _ (bp a.1.1)) sg).mono ?_) (fun v w' h' u l=>H v w' h' u l) D hr;rintro e w' ⟨v,h',C,u,l⟩;obtain ⟨o,y,_⟩:=EB (s.st.jk _ p) x (s.g.sz g) u;exact ⟨v,o,C,y,l⟩
theorem K6 {α:Type}(t j:Nat)(x y:Operand)(D e:TypeId)(f:α->List Value)(d:α)(A:Option Addr)(l2:List α)(m m2 c V:Nat)(s:SS w0 h0 w h B Rs F)(so:SlO 1 f d h A l2)(M:l2.length=m2)(J:m2=m)(U:0<m)(i:(av B j).vs.length=m)
  (H:∀ w',SS w0 h0 w' h (gK B j (l2.flatMap f)) Rs F->LG P n N R X ops (k+1) ((t,.int .i64 (m:Nat))::Γ) w')(S:m<=1099511627776:=by omega)(I:cL ops Γ k t n=true:=by kernel_rfl)(W:decide (j<B.length)=true:=by kernel_rfl)
  (hf:∀ x,(f x).length=1:=by intro _;rfl)(h1:∀ x,(f x).all (·.oneCell')=true:=by intro _;kernel_rfl)(ho:(am ops k).op=.call { callee:=.builtin .copy,args:=#[x,y],argTypes:=#[D,D] }:=by kernel_rfl)(Z:ev Γ x=.slice (some ⟨(av B j).b,0,none⟩) m V:=by kernel_rfl)(Q:ev Γ y=.slice A m2 c:=by kernel_rfl)
  (L:P.underlying D=some (.slice e):=by kernel_rfl)(hi:(P.info? e).map (·.size)=some 1:=by kernel_rfl):LG P n N R X ops k Γ w:=by
 subst J;have hm:=M;have o:=oT W;have z:=s.st.own _ (bp o);have C:(l2.flatMap f).length=m2:=by rw[bV hf,hm];omega
 rw[so.ok oM] at Q
 have l:=run_copy_row (P:=P) w D D (am ops k).type e (av B j).b 0 m2 V ⟨aB A,aO A,none⟩ m2 c (av B j).vs.toArray (av B j).t (l2.flatMap f) L hi z (by rw[C];exact (Nat.min_self m2).symm) (gW s.g (so.flat hf)) (by rw[C];simp[i]) (fun u L=>by
  obtain ⟨a,_,ha⟩:=List.mem_flatMap.1 L;exact (o0.1 (h1 a)) u ha)
 have e1:((av B j).vs.toArray.toList.take 0++l2.flatMap f++(av B j).vs.toArray.toList.drop (0+(l2.flatMap f).length)).toArray=(l2.flatMap f).toArray:=by
  rw[C];simp[z2,i]
 rw[e1,C] at l
 have p:Put (av B j).b w (w.setRow (av B j).b (l2.flatMap f).toArray):=⟨rfl,rfl,rfl,by simp,fun c I=>setRow_other _ _ _ _ I⟩
 have O:Own (w.setRow (av B j).b (l2.flatMap f).toArray) (av B j).b (av B j).t (bW (av B j).vs 0 (l2.flatMap f)):=by
  have e2:bW (av B j).vs 0 (l2.flatMap f)=l2.flatMap f:=by
   have:=jb (l2.flatMap f) (av B j).vs [] (by rw[i,C])
   simpa using this
  rw[e2];exact setRow_heap _ _ _ _ _ _ z
 have K:=s.st.put s.g0 o p O
 have e2:bW (av B j).vs 0 (l2.flatMap f)=l2.flatMap f:=by
  have:=jb (l2.flatMap f) (av B j).vs [] (by rw[i,C])
  simpa using this
 unfold gJ at K
 rw[e2] at K
 refine LG.val t _ _ (bQ I).1 (bQ I).2 ?_ (H _ (s.put0 o p K (kB o)))
 unfold execOp
 have Y:goInt m2=.int .i64 (m2:Nat):=rfl;rw[Y] at l
 simp only[ho,resolve,invoke,builtin,Sem.run_bind,Sem.run_pure,Result.andThen_ok,List.map_toArray,D1,List.map_nil,Z,Q,l]
theorem qA {Q:Exit->Act->World->Prop}{i:Nat}{x:Oper}{v:Value}{S:World->Prop}(hi:ops[i]?=some x)(p:∀ (j:Nat) (o:Oper) cs b,ops[j]?=some o->o.op≠.select cs b)
    (Y:∀ c a w,Q (.panic c) (a.put x.dst v) w->Q (.panic c) a w)(U:∀ w w',S w->Tl M w w'->S w') :
    ∀ (n:Nat) (L:Array Bool) (a:Act) (w:World),
      (∀ j u,ops[j]?=some u->j≠i->L.getD j true=false->(∀ e∈u.after,Region.binds .any e=true->e.on≠i)->x.apart ops u=true) ->
      i∈Region.ready .any ops L->YieldsIf P ops S x v a->S w->rY M P ops Q 0 n (L.setIfInBounds i true) (a.put x.dst v) w->rY M P ops Q 0 (n+1) L a w:=by
  intro n
  induction n with
  | zero =>
    intro L a w _ hr D J H;refine ⟨fun h=>(by rw[h] at hr;cases hr),fun j F=>?_⟩
    by_cases hji:j=i
    . subst hji;exact D.wpOp hi J ⟨Rl.refl _ _ _ _,H⟩
    . have:=ready_mono F hji
      rw[H.1] at this
      cases this
  | succ n ih =>
    intro L a w d hr D J H;refine ⟨fun h=>(by rw[h] at hr;cases hr),fun j F=>?_⟩
    by_cases hji:j=i
    . subst hji;exact D.wpOp hi J ⟨Rl.refl _ _ _ _,H⟩
    . have h1:=H.2 j (ready_mono F hji)
      obtain ⟨l,u,y,B⟩:=mem_ready.1 F
      have C:∀ e∈u.after,Region.binds .any e=true->e.on≠i:=fun e he hb K=>by
        have h1:=B e he hb;have h0:=(mem_ready.1 hr).1;rw[K] at h1
        obtain ⟨hl,O⟩:=Hz h0
        simp[Array.getD,hl,O] at h1
      have X:=wpOp_putIf y (d j u y hji l C) (fun cs b=>p i x cs b hi) (fun cs b=>p j u cs b y) Y D h1
      have f:∀ k ok,ops[k]?=some ok->k≠i->(L.setIfInBounds j true).getD k true=false ->
          (∀ e∈ok.after,Region.binds .any e=true->e.on≠i)->x.apart ops ok=true:=fun k ok hk V z W=>by
        refine d k ok hk V ?_ W
        by_cases hjk:j=k
        . subst hjk;exact l
        . rw[getD_set_ne true hjk] at z;exact z
      refine wpOp_mono (fun Z w' I=>⟨I.2.1,ih (L.setIfInBounds j true) Z w' f (ready_mono hr (Ne.symm hji)) I.1 (U _ _ J (I.2.1.2 (MG _))) ?_⟩) X;rw[Array.setIfInBounds_comm _ _ hji];exact I.2.2
def vH (n:Nat)(ops:Array Oper)(L:Array Bool)(Γ:bU)(i t:Nat):Bool :=
  decide (i<ops.size) && Region.noSelect ops && Region.free .any ops L i && (Region.ready .any ops L).contains i && ((am ops i).dst == some t) && decide (t<n) && aZ Γ (am ops i) && (be ops Γ (am ops i) == some true)
theorem E7 (i t:Nat)(v:Value){S:World->Prop}(f:∀ w w',S w->Tl M w w'->S w')(D:S w)(hv:∀ w',S w'->(execOp (ev Γ) (am ops i)).run P w'=.ok (.value v) w')(H:AG M P n N R X ops 0 (L.setIfInBounds i true) ((t,v)::Γ) w)(l:vH n ops L Γ i t=true):AG M P n N R X ops 0 L Γ w:=by
 unfold vH at l
 simp only[na,decide_eq_true_eq,beq_iff_eq] at l
 obtain ⟨⟨⟨⟨⟨⟨⟨h1,p⟩,C⟩,u⟩,I⟩,B⟩,J⟩,F⟩:=l;have hr:i∈Region.ready .any ops L:=by simpa using u
 have e:=bG (ops:=ops) h1;intro a h;have e1:=h.exec (Region.noSelect_spec p i _ · · e) J;have y:=H _ (h.put B v)
 unfold A at *
 rw[fR hr];refine qA (S:=S) e (Region.noSelect_spec p) (fun c a w hq=>hq.elim) f _ _ _ _ (fun j x z b d=>Region.free_spec e C j x z b d) hr (.inl ⟨h.want F,fun w' o=>by rw[e1];exact hv w' o⟩) D ?_;rw[I];exact y
theorem zV (i t:Nat)(v:Value)(H:AG M P n N R X ops 0 (L.setIfInBounds i true) ((t,v)::Γ) w)(a:vH n ops L Γ i t=true:=by kernel_rfl)(hv:∀ w,(execOp (ev Γ) (am ops i)).run P w=.ok (.value v) w:=by intro _;kernel_rfl):AG M P n N R X ops 0 L Γ w :=
 E7 i t v (S:=fun _=>True) (fun _ _ _ _=>trivial) trivial (fun w' _=>hv w') H a
theorem zO {K:Nat}(i t:Nat)(ps:List (Nat × Nat × Nat))(v:Value)(hz:M.z=some (K,[]))(C:K<=w.heap.size)(s:SS w0 h0 w h B Rs F)(f:∀ p∈ps,(av B p.1).b<K)(H:AG M P n N R X ops 0 (L.setIfInBounds i true) ((t,v)::Γ) w)(J:vH n ops L Γ i t=true:=by kernel_rfl)(l:dj B ps=true:=by kernel_rfl)(D:cl P (execOp (ev Γ) (am ops i)) (dQ B ps)=some (.value v,cM B ps):=by kernel_rfl):AG M P n N R X ops 0 L Γ w :=
 E7 i t v (S:=fun w'=>K<=w'.heap.size/\∀ b,b<K->w'.heap[b]?=w.heap[b]?) (fun w1 w2 c ht=>by
  obtain ⟨h1,o⟩:=ht K [] hz;exact ⟨e4 c.1 h1,fun b j=>(o b j List.not_mem_nil).trans (c.2 b j)⟩) ⟨C,fun _ _=>rfl⟩ (fun w' c=>cZ _ _ _ _ D (fun q a u ha y=>by
  obtain ⟨p,e,d⟩:=rM ps q a ha;have:=fq (fun x I=>s.st.own x I) ps l q a u ha y;rw[<-this]
  unfold World.cell?
  rw[c.2 _ (d▸f p e)])) H J
theorem zC (i t:Nat){f:FuncId}{args:Array Value}(c:Calls P f args w fun e w'=>∃ v,e=.returned v/\Tl M w w'/\AG M P n N R X ops 0 (L.setIfInBounds i true) ((t,v)::Γ) w')(h:(g7 ops 0 L i && aZ Γ (am ops i) && ((am ops i).dst == some t) && decide (t<n))=true:=by kernel_rfl)(u:be ops Γ (am ops i)=some true:=by kernel_rfl)
  (hr:(execOp (ev Γ) (am ops i)).run P w=.ok (.enter f args) w:=by kernel_rfl):AG M P n N R X ops 0 L Γ w:=by
 simp only[na,decide_eq_true_eq,beq_iff_eq] at h
 obtain ⟨⟨⟨h1,l⟩,o⟩,j⟩:=h;obtain ⟨d,p⟩:=lE h1;intro a b;refine A.one h1 d (R':=fun v w'=>Tl M w w'/\AG M P n N R X ops 0 (L.setIfInBounds i true) ((t,v)::Γ) w') ⟨b.want u,.inr (.inr ⟨f,args,?_,c⟩)⟩ (fun v w' hq=>hq.1) (fun v w' hq=>?_)
 ·rw[b.exec (Region.noSelect_spec p i _ · · d) l];exact hr
 ·rw[o];exact hq.2 _ (b.put j v)
theorem Gh {K:Nat}{w':World}(hz:M.z=some (K,[]))(d:K<=w.heap.size)(x:Ext w w'):Tl M w w':=fun c bs e=>by
 rw[hz] at e
 injection e with e;injection e with e1 e2
 subst e1 e2;exact ⟨x.size,fun b a _=>Below.block x b oM⟩
theorem Iu {K b:Nat}{w':World}(hz:M.z=some (K,[]))(f:K<=w.heap.size)(a:K<=b)(x:Mo [b] w w'):Tl M w w':=fun d bs e=>by
 rw[hz] at e
 injection e with e;injection e with e1 e2
 subst e1 e2;exact ⟨x.size,fun c h _=>x.blk c oM (by simp;omega)⟩
theorem se {K:Nat}(i t:Nat){f:FuncId}{args:Array Value}{Φ:Value->Hp->Prop}(c:Calls P f args w (Ret w h Φ))(hz:M.z=some (K,[]))(b:K<=w.heap.size)(H:∀ v w' h',Up w h w' h'->K<=w'.heap.size->Φ v h'->AG M P n N R X ops 0 (L.setIfInBounds i true) ((t,v)::Γ) w')(l:(g7 ops 0 L i && aZ Γ (am ops i) && ((am ops i).dst == some t) && decide (t<n))=true:=by kernel_rfl)(d:be ops Γ (am ops i)=some true:=by kernel_rfl)
  (hr:(execOp (ev Γ) (am ops i)).run P w=.ok (.enter f args) w:=by kernel_rfl):AG M P n N R X ops 0 L Γ w :=
 zC i t (c.mono fun e w' ⟨v,h',j,u,a⟩=>⟨v,j,Gh hz b u.ext,H v w' h' u (e4 b u.ext.size) a⟩) l d hr
theorem Lj {K rb:Nat}(i t:Nat){f:FuncId}{args:Array Value}{Φ:Value->World->Hp->Prop}(c:Calls P f args w (eP rb w h Φ))(hz:M.z=some (K,[]))(d:K<=w.heap.size)(a:K<=rb)(H:∀ v w' h',UpM [rb] w h w' h'->K<=w'.heap.size->Φ v w' h'->AG M P n N R X ops 0 (L.setIfInBounds i true) ((t,v)::Γ) w')(o:(g7 ops 0 L i && aZ Γ (am ops i) && ((am ops i).dst == some t) && decide (t<n))=true:=by kernel_rfl)(j:be ops Γ (am ops i)=some true:=by kernel_rfl)
  (hr:(execOp (ev Γ) (am ops i)).run P w=.ok (.enter f args) w:=by kernel_rfl):AG M P n N R X ops 0 L Γ w :=
 zC i t (c.mono fun e w' ⟨v,h',l,u,b⟩=>⟨v,l,Iu hz d a u.mo,H v w' h' u (e4 d u.mo.size) b⟩) o j hr
theorem fe (s:SS w0 h0 w h B Rs F)(j:Nat)(a:decide (j<B.length)=true:=by kernel_rfl):(av B j).b<w.heap.size:=by rw[s.g.size];exact aJ (s.jk j a)
theorem HV (t b o len d sz:Nat)(i:Int)(j e:Nat)(H:LG P n N R X ops (k+1) ((t,.pointer (some ⟨b,0+e*sz,none⟩))::Γ) w)(f:cL ops Γ k t n=true:=by kernel_rfl)(h:EC P (ev Γ) (am ops k)=some (.slice (some ⟨b,o,none⟩) len d,.int .i64 i,sz):=by kernel_rfl)(hk:i=j:=by omega)(a:j<len:=by omega)(c:o+j*sz=0+e*sz:=by omega):LG P n N R X ops k Γ w :=
 LG.val t _ w (bQ f).1 (bQ f).2 (c▸im h rfl hk a w) H
theorem KZ (i t b o len d sz:Nat)(x:Int)(j e:Nat)(H:AG M P n N R X ops k0 (L.setIfInBounds i true) ((t,.pointer (some ⟨b,0+e*sz,none⟩))::Γ) w)(h:cE n ops k0 [] L Γ i t=true:=by kernel_rfl)(f:EC P (ev Γ) (am ops i)=some (.slice (some ⟨b,o,none⟩) len d,.int .i64 x,sz):=by kernel_rfl)(hk:x=j:=by omega)(a:j<len:=by omega)(c:o+j*sz=0+e*sz:=by omega):AG M P n N R X ops k0 L Γ w :=
 aV i t _ H h (fun w=>c▸im f rfl hk a w)
theorem Lh (i t b o len d sz:Nat)(x:Int)(j e:Nat)(H:AG M P n N R X ops k0 (L.setIfInBounds i true) ((t,.pointer (some ⟨b,0+e*sz,none⟩))::Γ) w)(f:cT n ops k0 L Γ i t=true:=by kernel_rfl)(h:EC P (ev Γ) (am ops i)=some (.slice (some ⟨b,o,none⟩) len d,.int .i64 x,sz):=by kernel_rfl)(hk:x=j:=by omega)(a:j<len:=by omega)(c:o+j*sz=0+e*sz:=by omega):AG M P n N R X ops k0 L Γ w :=
 T.val i t _ w (jf f).1 (jf f).2 (c▸im h rfl hk a w) H
theorem Lr (t b o len a sz:Nat)(i:Int)(j d:Nat)(H:LG P n N R X ops (k+1) ((t,.slice (some ⟨b,d,none⟩) (len-j) (a-j))::Γ) w)(p:cL ops Γ k t n=true:=by kernel_rfl)(u:Ca P (ev Γ) (am ops k)=some (.slice (some ⟨b,o,none⟩) len a,some (.int .i64 i),none,sz):=by kernel_rfl)(hk:i=j:=by omega)(f:j<=len:=by omega)(l:a≠j:=by omega)(c:d=o+j*sz:=by omega):LG P n N R X ops k Γ w:=by
 have h:=m7 j u hk f w;rw[if_neg l] at h
 have e:(some (⟨b,o,none⟩:Addr)).map (·.add (j*sz))=some ⟨b,d,none⟩:=by subst c;simp[Addr.add]
 rw[e] at h
 exact LG.val t _ w (bQ p).1 (bQ p).2 h H
theorem SS.torow {α:Type}(s:SS w0 h0 w h B Rs F)(j:Nat)(f:α->List Value)(l:List α)(sz m:Nat)(C:l.length=m)(D:m<=1099511627776)(hB:(av B j).vs=l.flatMap f:=by kernel_rfl)(hf:∀ x,(f x).length=sz:=by intro _;rfl)(y:decide (j<B.length)=true:=by kernel_rfl) :
    SS w0 h0 w h (B.eraseIdx j) (⟨(av B j).t,sz,some ⟨(av B j).b,0,none⟩,m,m,l.flatMap f⟩::Rs) F:=by
  have p:=oT y;have d:=bp p;have H:=s.st.own _ d
  have z:∀ x∈B.eraseIdx j,x.b≠(av B j).b:=by
    intro x a c;obtain ⟨i,hi,u⟩:=List.mem_iff_getElem.1 a;rw[List.getElem_eraseIdx] at u
    rw[List.length_eraseIdx_of_lt p] at hi
    split at u
    . rename_i I
      refine gt s.st (i:=i) (j:=j) (decide_eq_true oM) y (by simp;omega) ?_;rw[<-c,<-u];simp[av,show i<B.length by omega]
    . rename_i I
      refine gt s.st (i:=i+1) (j:=j) (decide_eq_true oM) y (by simp;omega) ?_;rw[<-c,<-u];simp[av,show i+1<B.length by omega]
  refine ⟨s.g0,⟨s.st.up,fun x a=>s.st.own x (G1 a),fun x a=>s.st.jk x (G1 a),fun x a=>s.st.lo x (G1 a),s.st.nd.sublist ((List.eraseIdx_sublist B j).map (·.b))⟩,?_,?_,s.mo,s.f⟩
  . intro r hr
    rcases g4.1 hr with rfl|hr
    . refine ⟨⟨by rw[bV hf,C],.inr ⟨(av B j).b,m,(av B j).vs.toArray,rfl,s.st.lo _ d,H,ep _,by unfold maxLen;omega,by rw[hB];simp[bV hf,C],by rw[hB];simp[Mu,bV hf,C]⟩⟩,?_,?_⟩
      . intro b c
        have:(av B j).b=b:=by simpa [Rw.v,Value.ownBlock] using c
        rw[<-this];exact s.st.jk _ d
      . intro b c o
        have:(av B j).b=b:=by simpa [Rw.v,Value.ownBlock] using c
        obtain ⟨x,a,e⟩:=g1.1 o;exact z x a (e.trans this.symm)
    . exact (s.ro r hr).sub _ (fun b c=>by
        obtain ⟨x,a,e⟩:=g1.1 c;exact g1.2 ⟨x,G1 a,e⟩)
  . refine List.pairwise_cons.2 ⟨fun r hr b c hv=>?_,s.ap⟩
    have:(av B j).b=b:=by simpa [Rw.v,Value.ownBlock] using c
    exact (s.ro r hr).ap b hv (this▸g1.2 ⟨_,d,rfl⟩)
theorem J0 {α:Type}(t j m I:Nat)(l:List α)(f:α->List Value)(d x:α)(e:Nat)(z:Value)(s:SS w0 h0 w h B Rs F)(sg:Seg h I 0 (f x))(J:l.length=m)(y:m<=1000000000)
  (H:∀ a c' w' h',SS w0 h0 w' h' (B.eraseIdx j) Rs ((fun h=>SlO 1 f d h a (l++[x]))::F)->m+1<=c'->LG P n N R X ops (k+1) ((t,.slice a (m+1) c')::Γ) w')(S:cL ops Γ k t n=true:=by kernel_rfl)(M:decide (j<B.length)=true:=by kernel_rfl)(hB:(av B j).vs=l.flatMap f:=by kernel_rfl)
  (Q:p8 P (ev Γ) (am ops k)=some (.slice (some ⟨(av B j).b,0,none⟩) m m,.slice (some ⟨I,0,none⟩) 1 1,(av B j).t,z,1,e):=by kernel_rfl)(c:z.cells.size=1:=by kernel_rfl)(hf:∀ x,(f x).length=1:=by intro _;rfl)(h1:(f x).all (·.oneCell')=true:=by kernel_rfl)(o:e<=100:=by decide):LG P n N R X ops k Γ w:=by
 have D:=s.torow j f l 1 m J oM hB hf M
 refine Kb t 0 (f x) D (j5 D.g sg) (hf x) (fun u L=>(o0.1 h1) u L) (by simp) rfl S Q c kD oM (by
  have:(m+1)*e<=(m+1)*100:=LW _ o
  omega) (fun a c' w' h' C=>?_)
 have e1:m+1=(l++[x]).length:=by simp[J]
 have e2:l.flatMap f++f x=(l++[x]).flatMap f:=by simp
 rw[e2,List.set_cons_zero] at C
 have O:SS w0 h0 w' h' (B.eraseIdx j) (⟨(av B j).t,1,a,c',(l++[x]).length,(l++[x]).flatMap f⟩::Rs) F:=by rw[<-e1];exact C
 obtain ⟨p,K,i⟩:=O.pubr 0 d hf rfl (by simp);exact H a c' w' p K (by rw[e1];exact i)
theorem SS.perm (s:SS w0 h0 w h B Rs F){B':List Bx}(p:B.Perm B'):SS w0 h0 w h B' Rs F :=
 ⟨s.g0,⟨s.st.up,fun x a=>s.st.own x (p.mem_iff.2 a),fun x a=>s.st.jk x (p.mem_iff.2 a),fun x a=>s.st.lo x (p.mem_iff.2 a),(p.map (·.b)).nodup_iff.1 s.st.nd⟩,
  fun r hr=>(s.ro r hr).sub _ (fun b c=>(p.map (·.b)).mem_iff.2 c),s.ap,s.mo,s.f⟩
end
section laws
variable {M:Ms} {P:Program} {ops:Array Oper} {Q:Exit->Act->World->Prop} {k0:Nat}
theorem E.eventN {h0:Hp}{AL:List Al}{L:Array Bool}{a:Act}{w:World}{h:Hp}(I:List Nat)(i0:Nat)(D:i0∈I)
    (B:∀ i∈I,i<ops.size/\i<k0)(J:Region.noSelect ops=true)(hun:L.getD i0 true=false)
    (U:∀ j V,ops[j]?=some V->L.getD j true=false->j ∉ I->(∀ x∈AL,x.i≠j)->∃ e∈V.after,Region.binds .any e=true/\L.getD e.on false=false/\∀ x∈AL,x.i≠e.on)
    (F:∀ e∈(am ops i0).after,Region.binds .any e=true->L.getD e.on false=true)
    (hal:∀ i∈I,∀ x∈AL,x.i≠i/\x.t ∉ (am ops i).looksAt ops/\(am ops i).dst≠some x.t)(oks:∀ x∈AL,AlOk P ops k0 x)(hM:∀ b∈M.l,b<h0.size)(g:G w h)(hsz:h0.size<=h.size)
    (H:∀ i∈I,L.getD i true=false->∀ w' h',Up w h w' h'->OpR P ops (am ops i) a w' (fun v p=>∃ o,UpM M.l w' h' p o/\E M P ops Q k0 h0 AL (L.setIfInBounds i true) (a.put (am ops i).dst v) p o)):E M P ops Q k0 h0 AL L a w h:=by
  have key:∀ (m:Nat) (T:List Al),T.length=m->∀ w' h',Up w h w' h'->∀ (S:List SA),(S.map (·.1)++T).Perm AL->(∀ s∈S,Blk h0 w' h' s)->(S.map (·.2)).Nodup ->
      A M P ops Q k0 (ei L S) (addA a S) w':=by
    intro m
    induction m using hP with
    | _ m ih =>
      intro T hT w' h' u S z W hn;have f:∀ i∈I,∀ s∈S,s.1.i≠i/\s.1.t ∉ (am ops i).looksAt ops/\(am ops i).dst≠some s.1.t:=fun i hi s d=>hal i hi _ (iR z d)
      refine A.intro (fun h0'=>?_) (fun j Y=>?_)
      . exfalso
        have:i0∈Region.ready .any ops (ei L S):=mem_ready.2 ⟨by rw[iy true (fun s d=>(f i0 D s d).1)];exact hun,_,bG (B i0 D).1,fun e O C=>kb (F e O C)⟩;rw[h0'] at this
        cases this
      . by_cases hji:j∈I
        . have y:=bG (ops:=ops) (B j hji).1
          have c:L.getD j true=false:=by
            obtain ⟨c,_⟩:=mem_ready.1 Y;exact gV c
          refine OpR.wpOp y ((H j hji c w' h' u).addA (Region.noSelect_spec J j _ · · y) S (fun s d=>(f j hji s d).2.1)) ?_;rintro v p ⟨o,u2,H3⟩;refine ⟨Rl.mo (B j hji).2 u2.mo,?_⟩;rw[<-ma L S j (fun s d=>(f j hji s d).1),<-mr a S _ v (fun s d=>(f j hji s d).2.2)];exact H3 p o (Up.refl u2.g) S T z (fun s d=>(W s d).up u2 hM) hn
        . obtain ⟨c,V,hoj,K⟩:=mem_ready.1 Y
          have hx:∃ x∈AL,x.i=j:=by
            refine Classical.byContradiction fun hno=>?_
            obtain ⟨e,O,C,hf,hne⟩:=U j V hoj (gV c) hji (fun x hx O=>hno ⟨x,hx,O⟩);have:=K e O C;rw[iy false (fun s d=>hne _ (iR z d)),hf] at this
            cases this
          obtain ⟨x,Z,rfl⟩:=hx;have hxT:=iS z Z Y;exact pm oks hM u.g (e4 hsz u.gr.size) z W hn hxT (fun w1 h1 S1 T1 u1 hp1 hb1 X hlt=>ih T1.length oM T1 rfl w1 h1 (u.trans u1) S1 hp1 hb1 X)
  exact fun w' h' u S T z W hn=>key _ T rfl w' h' u S z W hn
end laws
section dag
variable {M:Ms} {P:Program} {n:Nat} {N R:Po} {X:Nat->Po} {ops:Array Oper} {k0:Nat} {hr:Hp} {AL:List Al} {L:Array Bool} {Γ:bU} {w:World} {h:Hp}
def SrD (P:Program)(ops:Array Oper)(Γ:bU)(i:Nat)(w:World)(h:Hp)(Φ:Value->World->Hp->Prop):Prop :=
  (∃ v w'' h'',(execOp (ev Γ) (am ops i)).run P w=.ok (.value v) w''/\Up w h w'' h''/\Φ v w'' h'') \/
  (∃ f args,(execOp (ev Γ) (am ops i)).run P w=.ok (.enter f args) w/\Calls P f args w (fun e w''=>∃ v h'',e=.returned v/\Up w h w'' h''/\Φ v w'' h''))
theorem SrD.mono {i:Nat}{Φ Φ':Value->World->Hp->Prop}(x:SrD P ops Γ i w h Φ)(k:∀ v w' h',Up w h w' h'->Φ v w' h'->Φ' v w' h'):SrD P ops Γ i w h Φ':=by
 rcases x with ⟨v,w',h',e,u,p⟩|⟨f,args,e,c⟩
 ·exact .inl ⟨v,w',h',e,u,k _ _ _ u p⟩
 ·exact .inr ⟨f,args,e,c.mono fun e w' ⟨v,h',a,u,p⟩=>⟨v,h',a,u,k _ _ _ u p⟩⟩
theorem Ig {Γ:bU}{o:Oper}(h:o.guard.isNone=true):be ops Γ o=some true:=by
 unfold be
 rw[MH.1 h]
theorem SrD.opR {i:Nat}{a:Act}{K:Value->World->Hp->Prop}(d:Region.noSelect ops=true)(hi:i<ops.size)(hk:aZ Γ (am ops i)=true)(j:(am ops i).guard.isNone=true)(b:Kn n a Γ)(x:SrD P ops Γ i w h K) :
  OpR P ops (am ops i) a w (fun v w'=>∃ h',UpM M.l w h w' h'/\K v w' h'):=by
 have e1:=b.exec (Region.noSelect_spec d i _ · · (bG hi)) hk;refine ⟨b.want (Ig j),?_⟩;rw[e1]
 rcases x with ⟨v,w',h',e,u,p⟩|⟨f,args,e,c⟩
 ·exact .inl ⟨v,w',e,h',u.m M.l,p⟩
 ·exact .inr (.inr ⟨f,args,e,c.mono fun e w' ⟨v,h',o,u,p⟩=>⟨v,o,h',u.m M.l,p⟩⟩)
structure DS where
  i:Nat
  t:Nat
  K:Value->Hp->Prop
  D:List (Nat × Value)
structure DOk (P:Program) (ops:Array Oper) (Γ:bU) (s:DS):Prop where
  known:aZ (s.D++Γ) (am ops s.i)=true
  run:∀ w h,G w h->SrD P ops (s.D++Γ) s.i w h (fun v _ h''=>s.K v h'')
  stay:∀ v h h',Gw h h'->s.K v h->s.K v h'
theorem DOk.row (i t:Nat)(ty:TypeId)(m:Nat)(cs:List Value)(D:List (Nat × Value))(hk:aZ (D++Γ) (am ops i)=true:=by kernel_rfl)
  (hv:∀ w,(execOp (ev (D++Γ)) (am ops i)).run P w=.ok (.value (.slice (some ⟨w.heap.size,0,none⟩) m m)) (w.alloc (.cells cs.toArray ty (0,0))):=by intro _;kernel_rfl):DOk P ops Γ ⟨i,t,fun v h=>∃ b,v=.slice (some ⟨b,0,none⟩) m m/\Seg h b 0 cs,D⟩ :=
 ⟨hk,fun w h g=>by
  have u:Up w h (w.alloc (.cells cs.toArray ty (0,0))) _:=Up.allocAny g (.cells cs.toArray ty (0,0)) (.cells cs.toArray ty (0,0)) (.inl rfl);exact .inl ⟨_,_,_,hv w,u,_,rfl,by rw[g.size];exact Seg.new cs ty⟩,fun v h h' u ⟨b,e,s⟩=>⟨b,e,s.gw u⟩⟩
theorem DOk.call (i t:Nat){f:FuncId}{args:Array Value}(b:Value)(D:List (Nat × Value))(c:∀ w h,G w h->Calls P f args w (Ret w h fun v _=>v=b))(hk:aZ (D++Γ) (am ops i)=true:=by kernel_rfl)
  (hv:∀ w,(execOp (ev (D++Γ)) (am ops i)).run P w=.ok (.enter f args) w:=by intro _;kernel_rfl):DOk P ops Γ ⟨i,t,fun v _=>v=b,D⟩ :=
 ⟨hk,fun w h g=>.inr ⟨f,args,hv w,(c w h g).mono fun e w' ⟨v,h',d,u,a⟩=>⟨v,h',d,u,a⟩⟩,fun _ _ _ _ x=>x⟩
def rX (ops:Array Oper)(L:Array Bool)(i:Nat):Bool:=(am ops i).after.all fun e=>!Region.binds .any e || L.getD e.on false
def Ky (n:Nat)(ops:Array Oper)(k0:Nat)(AL:List Al)(L:Array Bool)(I:List (Nat × Nat)):Bool :=
  Region.noSelect ops && (I.all fun x=>decide (x.1<ops.size) && decide (x.1<k0) && uH ops AL x.1 (am ops x.1) && ((am ops x.1).dst == some x.2) && decide (x.2<n) && (am ops x.1).guard.isNone) &&
  (pa ops.size).all fun j=>L.getD j true || I.any (·.1 == j) || AL.any (·.i == j) || (am ops j).after.any fun e=>Region.binds .any e && (L.getD e.on false == false) && AL.all (·.i != e.on)
abbrev SK:=Nat × Nat × List Nat
def lM (n:Nat)(ops:Array Oper)(k0:Nat)(AL:List Al)(Lf:Array Bool):Nat->Array Bool->List SK->Bool
  | 0,L,D=>D.isEmpty && (L.toList == Lf.toList)
  | m + 1,L,D=>((D.filter fun s=>rX ops L s.1).any fun s=>L.getD s.1 true == false) && Ky n ops k0 AL L ((D.filter fun s=>rX ops L s.1).map fun s=>(s.1,s.2.1)) &&
      (D.filter fun s=>rX ops L s.1).all fun s=>(s.2.2.all fun t=>D.all fun s'=>s'.2.1 != t) && (D.all fun s'=>s'.1 == s.1 || s'.2.1 != s.2.1) && lM n ops k0 AL Lf m (L.setIfInBounds s.1 true) (D.filter fun s'=>s'.1 != s.1)
def DS.k (s:DS):SK:=(s.i,s.t,s.D.map (·.1))
theorem sF {β:Type}{f:DS->β}:∀ {D:List DS},(D.map f).Nodup->∀ {s s':DS},s∈D->s'∈D->f s=f s'->s=s'
  | x :: D,h,s,s',hs,hs',e=>by
    rw[D1,List.nodup_cons] at h
    rcases g4.1 hs with e1|hs
    . rcases g4.1 hs' with e2|hs'
      . rw[e1,e2]
      . exact absurd (g1.2 ⟨s',hs',by rw[<-e,e1]⟩) h.1
    . rcases g4.1 hs' with e2|hs'
      . exact absurd (g1.2 ⟨s,hs,by rw[e,e2]⟩) h.1
      . exact sF h.2 hs hs' e
def Ent (n:Nat)(a:Act)(x:Nat × Value):Prop:=x.1<n/\a.tmps[x.1]?=some x.2
theorem FH {t:Nat}{v:Value}{D:List (Nat × Value)}(h:(D++Γ).lookup t=some v):(∃ x∈D,x.1=t/\x.2=v)\/(Γ.lookup t=some v/\∀ x∈D,x.1≠t):=by
  induction D with
  | nil=>exact .inr ⟨h,fun x b=>by cases b⟩
  | cons x D ih =>
    rw[Mf,i3] at h
    cases h0:t == x.1 with
    | true=>rw[h0] at h;injection h with h;exact .inl ⟨x,MI,(by simpa using h0:t=x.1).symm,h⟩
    | false =>
      rw[h0] at h
      rcases ih h with ⟨y,a,e⟩|⟨h1,h2⟩
      . exact .inl ⟨y,MJ _ a,e⟩
      . refine .inr ⟨h1,fun y a=>?_⟩
        rcases g4.1 a with rfl|a
        . exact fun e=>by subst e;simp at h0
        . exact h2 y a
theorem Gs {a:Act}{D:List (Nat × Value)}(nb:n<=1000000)(b:∀ x∈D,Ent n a x):gk (D++Γ)=gk Γ:=by
  induction D with
  | nil=>rfl
  | cons x D ih =>
    rw[<-ih (fun y c=>b y (MJ _ c))];have d:=(b x MI).1;have e:((1000000:Nat) == x.1)=false:=by simp;omega
    unfold gk
    rw[Mf,i3,e]
theorem BG {a:Act}{D:List (Nat × Value)}(k:Kn n a Γ)(b:∀ x∈D,Ent n a x):Kn n a (D++Γ):=by
 refine ⟨k.df.trans (Gs k.nb b).symm,k.sz,k.nb,fun t v ht hv=>?_⟩
 rcases FH hv with ⟨x,hx,rfl,rfl⟩|⟨h1,_⟩
 ·exact (b x hx).2
 ·exact k.has t v ht h1
theorem Ent.put {a:Act}{x:Nat × Value}(e:Ent n a x){t:Nat}(v:Value)(h:x.1≠t):Ent n (a.put (some t) v) x:=⟨e.1,by
 have:(a.put (some t) v).tmps=a.tmps.setIfInBounds t v:=by simp[Act.put]
 rw[this,la (fun b=>h b.symm)];exact e.2⟩
theorem Ent.new {a:Act}(k:Kn n a Γ){t:Nat}(ht:t<n)(v:Value):Ent n (a.put (some t) v) (t,v):=⟨ht,(k.put ht v).has t v (by have:=k.nb;omega) (by rw[i3];simp)⟩
theorem Aj {a:Act}(k:Kn n a Γ){t:Nat}(ht:t<n)(v:Value)(hn:Γ.lookup t=none):Kn n (a.put (some t) v) Γ:=by
  have k2:=k.put ht v;have e:((1000000:Nat) == t)=false:=by have:=k.nb;simp;omega
  refine ⟨k2.df.trans (by unfold gk;rw[i3,e]),k2.sz,k2.nb,fun s u c b=>k2.has s u c ?_⟩;rw[i3];cases h0:s == t with
  | true => have:s=t:=by simpa using h0
            subst this;rw[hn] at b;cases b
  | false=>exact b
theorem Id (z:List DS)(Γ:bU)(ok:∀ s∈z,DOk P ops Γ s)(hdt:∀ s∈z,∀ x∈s.D,∃ c∈z,c.t=x.1/\∀ v h,c.K v h->v=x.2)(hfr:∀ s∈z,Γ.lookup s.t=none)(hni:(z.map (·.i)).Nodup)(hnt:(z.map (·.t)).Nodup){Lf:Array Bool}(oks:∀ x∈AL,AlOk P ops k0 x)(hM:∀ b∈M.l,b<hr.size) :
    ∀ (m:Nat) (D:List DS) (L:Array Bool) (a:Act) (w:World) (h:Hp),lM n ops k0 AL Lf m L (D.map DS.k)=true->(∀ s∈D,s∈z)->(∀ s∈z,s∈D\/∃ v,Ent n a (s.t,v)/\s.K v h)->G w h->hr.size<=h.size->Kn n a Γ ->
      (∀ w' h' a',Up w h w' h'->(∀ s∈z,∃ v,Ent n a' (s.t,v)/\s.K v h')->Kn n a' Γ->E M P ops (iG N R X) k0 hr AL Lf a' w' h')->E M P ops (iG N R X) k0 hr AL L a w h:=by
  intro m
  induction m with
  | zero =>
    intro D L a w h C hD hI g J V K
    unfold lM at C
    rw[na] at C
    have e0:D=[]:=by
      cases D with
      | nil=>rfl
      | cons x D=>simp at C
    have e:L=Lf:=Array.ext' (by simpa using C.2);subst e0;subst e;exact K w h a (Up.refl g) (fun s I=>(hI s I).resolve_left (by simp)) V
  | succ m ih =>
    intro D L a w h C hD hI g J V K
    unfold lM at C
    simp only[na,s9,o0] at C
    obtain ⟨⟨⟨k0_,Y,hk1⟩,O⟩,Z⟩:=C
    unfold Ky at O
    simp only[na,o0,decide_eq_true_eq,beq_iff_eq] at O
    obtain ⟨⟨B,Q⟩,F⟩:=O
    have o:∀ i,i∈((D.map DS.k).filter fun s=>rX ops L s.1).map (·.1)->∃ s∈D,s.i=i/\DS.k s∈(D.map DS.k).filter fun s=>rX ops L s.1:=fun i hi=>by
      obtain ⟨x,f,rfl⟩:=g1.1 hi;obtain ⟨hx1,H⟩:=MF.1 f;obtain ⟨s,I,rfl⟩:=g1.1 hx1;exact ⟨s,I,rfl,f⟩
    refine E.eventN (((D.map DS.k).filter fun s=>rX ops L s.1).map (·.1)) k0_.1 (g1.2 ⟨k0_,Y,rfl⟩) (fun i hi=>?_) B (by simpa using hk1) ?_ ?_ (fun i hi=>?_) oks hM g J (fun i hi W w' h' u=>?_)
    . obtain ⟨s,I,rfl,f⟩:=o i hi
      have:=Q (s.i,s.t) (g1.2 ⟨_,f,rfl⟩);exact ⟨this.1.1.1.1.1,this.1.1.1.1.2⟩
    . intro j oj hj W hji hal
      have hlt:=(Array.getElem?_eq_some_iff.1 hj).1;have e:oj=am ops j:=by have:=bG (ops:=ops) hlt;rw[hj] at this;injection this
      have:=F j (po.2 hlt)
      simp only[Bool.or_eq_true,W,Bool.false_eq_true,false_or,s9,Array.any_eq_true,beq_iff_eq,na] at this
      rcases this with (⟨x,f,hxe⟩|⟨x,f,hxe⟩)|⟨x,f,⟨hb,hL⟩,hno⟩
      . exfalso
        obtain ⟨y,hy,rfl⟩:=g1.1 f;exact hji (g1.2 ⟨y,hy,hxe⟩)
      . exact absurd hxe (hal x f)
      . rw[e]
        refine ⟨_,Array.getElem_mem f,hb,hL,fun y hy=>?_⟩;have:=(o0.1 hno) y hy
        simpa using this
    . intro e he hb
      have:=(MF.1 Y).2
      unfold rX at this
      have:=(Array.all_eq_true_iff_forall_mem.1 this) e he
      simpa [hb] using this
    . obtain ⟨s,I,rfl,f⟩:=o i hi
      have:=Q (s.i,s.t) (g1.2 ⟨_,f,rfl⟩);exact jD this.1.1.1.2
    . obtain ⟨s,I,rfl,f⟩:=o i hi
      have hi2:=Q (s.i,s.t) (g1.2 ⟨_,f,rfl⟩);obtain ⟨⟨⟨⟨⟨q1,q2⟩,q3⟩,q4⟩,q5⟩,q6⟩:=hi2;obtain ⟨⟨r1,r2⟩,r3⟩:=Z _ f;have p:=hD s I;have S:=ok s p
      have bb:∀ x∈s.D,Ent n a x:=fun x H=>by
        obtain ⟨c,d,e1,e2⟩:=hdt s p x H
        rcases hI c d with hm|⟨v,hv,hK⟩
        . exfalso
          have:=r1 x.1 (g1.2 ⟨x,H,rfl⟩);have:=this (DS.k c) (g1.2 ⟨c,hm,rfl⟩);have:c.t≠x.1:=by simpa [DS.k] using this
          exact this e1
        . have:=e2 v _ hK
          rw[e1,this] at hv
          exact hv
      have U:=BG V bb;rw[show (am ops s.i).dst=some s.t from q4];refine SrD.opR B q1 S.known q6 U (SrD.mono (S.run w' h' u.g) fun v w'' h'' u2 hK=>?_);refine ih (D.filter fun c=>c.i != s.i) _ _ w'' h'' ?_ (fun c d=>hD c (MF.1 d).1) (fun c d=>?_) u2.g (e4 J (u.trans u2).gr.size) (Aj V q5 v (hfr s p)) (fun w3 h3 a3 u3=>K w3 h3 a3 ((u.trans u2).trans u3))
      . have e:(D.map DS.k).filter (fun c=>c.1 != s.i)=(D.filter fun c=>c.i != s.i).map DS.k:=by rw[List.filter_map];rfl
        rw[<-e];exact r3
      . by_cases es:c=s
        . subst es;exact .inr ⟨v,Ent.new V q5 v,hK⟩
        . rcases hI c d with hm|⟨v',hv',hK'⟩
          . refine .inl (MF.2 ⟨hm,?_⟩)
            simp only[bne_iff_ne,ne_eq]
            exact fun e=>es (sF hni d p e)
          . exact .inr ⟨v',hv'.put v (fun e=>es (sF hnt d p e)),(ok c d).stay _ _ _ (u.trans u2).gr.gw hK'⟩
def rz:List DS->List Value->Hp->Prop
  | [],vs,_=>vs=[]
  | s::D,vs,h=>∃ v vs',vs=v::vs'/\s.K v h/\rz D vs' h
def GK:List DS->List Value->List (Nat × Value)
  | s::D,v::vs=>(s.t,v)::GK D vs
  | _,_=>[]
theorem qm {a:Act}{h:Hp}:∀ (D:List DS),(∀ s∈D,∃ v,Ent n a (s.t,v)/\s.K v h)->∃ vs,rz D vs h/\∀ x∈GK D vs,Ent n a x
  | [],_=>⟨[],rfl,fun x b=>by cases b⟩
  | s::D,H=>by
    obtain ⟨vs,h1,e⟩:=qm D (fun s c=>H s (MJ _ c));obtain ⟨v,f,d⟩:=H s MI;refine ⟨v::vs,⟨v,vs,rfl,d,h1⟩,fun x b=>?_⟩
    rcases g4.1 b with rfl|b
    . exact f
    . exact e x b
def Iz (L:Array Bool)(D:List SK):Array Bool:=D.foldl (fun L x=>L.setIfInBounds x.1 true) L
def DagOk (P:Program)(ops:Array Oper)(Γ:bU):List DS->Prop
  | []=>True
  | s::D=>DOk P ops Γ s/\DagOk P ops Γ D
theorem DagOk.nil {P:Program}{ops:Array Oper}{Γ:bU}:DagOk P ops Γ []:=trivial
theorem DagOk.cons {P:Program}{ops:Array Oper}{Γ:bU}{s:DS}{D:List DS}(h:DOk P ops Γ s)(r:DagOk P ops Γ D):DagOk P ops Γ (s::D):=⟨h,r⟩
theorem ww {P:Program}{ops:Array Oper}{Γ:bU}:∀ {D:List DS},DagOk P ops Γ D->∀ s∈D,DOk P ops Γ s
  | _::_,h,s,hs=>by
    rcases g4.1 hs with rfl|hs
    . exact h.1
    . exact ww h.2 s hs
theorem Rg.dag (D:List DS)(ks:List SK)(i:D.map DS.k=ks)(ok:DagOk P ops Γ D)(p:∀ s∈D,∀ x∈s.D,∃ s'∈D,s'.t=x.1/\∀ v h,s'.K v h->v=x.2)
  (H:∀ w' h' vs,Up w h w' h'->rz D vs h'->EG M P n N R X ops k0 hr AL (Iz L ks) (GK D vs++Γ) w' h')
  (y:lM n ops k0 AL (Iz L ks) ks.length L ks=true:=by kernel_rfl)(j:(ks.all fun x=>(Γ.lookup x.2.1).isNone)=true:=by kernel_rfl)(d:(ks.map (·.1)).Nodup:=by decide)(e:(ks.map (·.2.1)).Nodup:=by decide):EG M P n N R X ops k0 hr AL L Γ w h:=by
 intro c hM g b a C;subst i
 have f:∀ s∈D,Γ.lookup s.t=none:=fun s l=>by
  have:=o0.1 j (DS.k s) (g1.2 ⟨s,l,rfl⟩);exact MH.1 this
 rw[List.map_map] at d e
 refine Id D Γ (ww ok) p f d e c hM _ D L a w h (by rw[List.length_map] at y;exact y) (fun _ h=>h) (fun s l=>.inl l) g b C (fun w' h' B u hF o=>?_);obtain ⟨vs,h1,z⟩:=qm D hF;exact H w' h' vs u h1 c hM u.g (e4 b u.gr.size) B (BG o z)
end dag
structure HalfQ (Y y1 y0 u u1 q r:Nat):Prop where
  e:q*y1+r=u
  lt:u*4294967296+u1<(q+1)*Y
  qb:q<=4294967297
theorem mE {Y y1 y0 u u1:Nat}(c:Y=y1*4294967296+y0)(h1:u1<4294967296)(hn:2147483648<=y1)(h0:y0<4294967296)(h:u<Y):HalfQ Y y1 y0 u u1 (u/y1) (u-u/y1*y1):=by
 have f:u/y1*y1<=u:=MK u y1
 have d:u<(u/y1+1)*y1:=by
  have:=ML (a:=u) (b:=y1) oM;rw[LI,Mw];exact this
 refine ⟨by omega,?_,?_⟩
 ·have:(u/y1+1)*Y=(u/y1+1)*y1*4294967296+(u/y1+1)*y0:=by rw[c,Mg,L6]
  omega
 ·have e:u/y1<4294967298:=by
   rw[Mt oM]
   omega
  omega
theorem n9 {u y1:Nat}(h:0<y1):u-u/y1*y1<y1:=by
 have:=ML (a:=u) (b:=y1) h;have c:u/y1*y1<=u:=MK u y1
 omega
theorem HalfQ.dec {Y y1 y0 u u1 q r:Nat}(h:HalfQ Y y1 y0 u u1 q r)(a:Y=y1*4294967296+y0)(h1:u1<4294967296)(b:u<Y)(ht:4294967296<=q\/4294967296*r+u1<q*y0):HalfQ Y y1 y0 u u1 (q-1) (r+y1):=by
 have hq:0<q:=by
  rcases ht with h2|h2
  ·omega
  ·rcases Ga q with h3|h3
   ·subst h3;omega
   ·exact h3
 obtain ⟨p,rfl⟩:∃ p,q=p+1:=⟨q-1,by omega⟩;have e:=h.e;rw[LI,Mw] at e
 refine ⟨by rw[My];omega,?_,by have:=h.qb;omega⟩;rw[My]
 rcases ht with h2|h2
 ·have:4294967296*Y<=(p+1)*Y:=Af _ h2
  omega
 ·have:(p+1)*Y=(p+1)*y1*4294967296+(p+1)*y0:=by rw[a,Mg,L6]
  rw[LI p 1 y1,Mw] at this
  omega
theorem HalfQ.fin {Y y1 y0 u u1 q r:Nat}(h:HalfQ Y y1 y0 u u1 q r)(b:Y=y1*4294967296+y0)(ht:¬4294967296*r+u1<q*y0):q=(u*4294967296+u1)/Y/\(u*4294967296+u1)-q*Y=(u*4294967296+u1)%Y/\q*Y<=u*4294967296+u1:=by
 have a:q*Y<=u*4294967296+u1:=by
  have:q*Y=q*y1*4294967296+q*y0:=by rw[b,Mg,L6]
  have:=h.e
  omega
 have hq:q=(u*4294967296+u1)/Y:=(MM a h.lt).symm;have c:=Mx (u*4294967296+u1) Y;rw[<-hq,LC] at c
 exact ⟨hq,by omega,a⟩
theorem HalfQ.brk {Y y1 y0 u u1 q r:Nat}(h:HalfQ Y y1 y0 u u1 q r)(a:Y=y1*4294967296+y0)(h0:y0<4294967296)(hr:4294967296<=r)(hq:q<=4294967296):q=(u*4294967296+u1)/Y/\(u*4294967296+u1)-q*Y=(u*4294967296+u1)%Y/\q*Y<=u*4294967296+u1 :=
 h.fin a (by
  have:q*y0<=4294967296*y0:=Af _ hq
  omega)
theorem ko {A y s Y Q R:Nat}(b:Y=y*2^s)(d:A*2^s=Y*Q+R)(h:R<Y):A=y*Q+R/2^s/\R/2^s<y:=by
 have c:0<2^s:=Mc s;have e:y*Q*2^s=Y*Q:=by rw[b];ac_rfl
 have f:y*Q<=A:=by
  have:y*Q*2^s<=A*2^s:=by rw[d,e];omega
  exact Nat.le_of_mul_le_mul_right this c
 have a:R=(A-y*Q)*2^s:=by rw[Nat.sub_mul,d,e];omega
 rw[a,L8 _ c];refine ⟨by omega,?_⟩;have:(A-y*Q)*2^s<y*2^s:=by rw[<-a,<-b];exact h
 exact Nat.lt_of_mul_lt_mul_right this
theorem vE {A y s a e Y u1 f p h o R:Nat}(b:Y=y*2^s)(u:A*2^s=a*18446744073709551616+e)(c:e=u1*4294967296+f)(j:0<y)
  (e1:p=(a*4294967296+u1)/Y)(e2:h=(a*4294967296+u1)%Y)(l:o=(h*4294967296+f)/Y)(i:R=(h*4294967296+f)%Y) :
  A=y*(p*4294967296+o)+R/2^s/\R/2^s<y:=by
 have d:0<Y:=by rw[b];exact Mr j (Mc s)
 have B:=Mx (a*4294967296+u1) Y;have z:=Mx (h*4294967296+f) Y;rw[<-e1,<-e2] at B
 rw[<-l,<-i] at z
 have x:R<Y:=by rw[i];exact LX _ d
 refine ko b ?_ x;rw[u,c,Mg,<-L6]
 clear e1 e2 l i u c x b d j
 omega
theorem uU {y:Nat}(h0:0<y)(h:y<18446744073709551616):9223372036854775808<=y*2^(64-nb y)/\y*2^(64-nb y)<18446744073709551616:=by
 obtain ⟨c,a,d⟩:=cB h0;have b:nb y<=64:=kH (k:=64) h
 have e1:(2:Nat)^(nb y-1)*2^(64-nb y)=9223372036854775808:=by
  rw[<-L4,show nb y-1+(64-nb y)=63 by omega]
 have e2:(2:Nat)^nb y*2^(64-nb y)=18446744073709551616:=by
  rw[<-L4,show nb y+(64-nb y)=64 by omega]
 have e:=Af (2^(64-nb y)) c;have f:=MN a (Mc (64-nb y))
 omega
theorem Ep {hi lo s:Nat}(c:s<=64)(a:lo<18446744073709551616):(hi*18446744073709551616+lo)*2^s=(hi*2^s+lo/2^(64-s))*18446744073709551616+lo*2^s%18446744073709551616/\lo/2^(64-s)<2^s:=by
 have e:(18446744073709551616:Nat)=2^(64-s)*2^s:=by rw[<-L4,show 64-s+s=64 by omega]
 have h1:lo*2^s/18446744073709551616=lo/2^(64-s):=by
  rw[e,MO _ _ (Mc s)]
 have b:=Mx (lo*2^s) 18446744073709551616;rw[h1] at b
 constructor
 ·rw[LI,LI]
  have:hi*18446744073709551616*2^s=hi*2^s*18446744073709551616:=by ac_rfl
  omega
 ·rw[Mt (Mc _),LC,<-e];exact a
theorem n5 {a b q Y r:Nat}(h:q*Y<=a*4294967296+b)(hr:a*4294967296+b-q*Y=r)(c:r<18446744073709551616):((a*4294967296%18446744073709551616+b)%18446744073709551616+(18446744073709551616-q*Y%18446744073709551616))%18446744073709551616=r:=by
 generalize q*Y=m at *
 omega
theorem Ff {a b:Nat}(ha:a<4294967296)(c:b<4294967296):a*b<18446744073709551616:=by
 have:a*b<=4294967295*4294967295:=MP oM oM
 omega
theorem dU {a b c:Nat}(h:c<a*b):0<a:=by
 rcases Ga a with h0|h0
 ·rw[h0,zZ] at h;omega
 ·exact h0
theorem pN {u u1 Y:Nat}(h:u<Y)(h1:u1<4294967296):(u*4294967296+u1)/Y<4294967296:=by
 rw[Mt oM];have:(u+1)*4294967296<=Y*4294967296:=Af _ h
 omega
theorem Bq {p:Nat}(h:p<=64):(18446744073709551616:Nat)=2^(64-p)*2^p:=by rw[<-L4,show 64-p+p=64 by omega]
theorem AZ {x p o:Nat}(c:p<=64)(d:x<18446744073709551616)(f:o<2^p) :
  o ||| (x*2^p%18446744073709551616)=o+x*2^p%18446744073709551616/\o+x*2^p%18446744073709551616<18446744073709551616/\x*2^p%18446744073709551616+18446744073709551616*(x/2^(64-p))=x*2^p/\x/2^(64-p)<2^p:=by
 have e:=Bq c
 have b:x*2^p%18446744073709551616=x%2^(64-p)*2^p:=by
  conv=>lhs;rw[e]
  exact MQ _ _ _
 have a:x%2^(64-p)<2^(64-p):=LX _ (Mc _);refine ⟨by rw[b];exact gU p f,?_,?_,?_⟩
 ·rw[b]
  have:(x%2^(64-p)+1)*2^p<=2^(64-p)*2^p:=Af _ a;rw[<-e,LI] at this
  omega
 ·have h1:x*2^p/18446744073709551616=x/2^(64-p):=by
   conv=>lhs;rw[e]
   exact MO _ _ (Mc _)
  rw[<-h1];exact Mn _ _
 ·rw[Mt (Mc _),LC,<-e];exact d
theorem AB {l w:List Nat}{i q p x o a c:Nat}(u:i+q+1<l.length)(hv:aA l=2^p*(18446744073709551616^q*ai 18446744073709551616 (w.take i)))(h0:l.getD (i+q+1) 0=0)(e:a+18446744073709551616*c=x*2^p)(f:x=w.getD i 0)(h:o=l.getD (i+q) 0) :
  aA ((l.set (i+q) (o+a)).set (i+q+1) c)=2^p*(18446744073709551616^q*ai 18446744073709551616 (w.take (i+1))):=by
 have d:=cG 18446744073709551616 (l:=l) (k:=i+q) (o+a) oM;have b:=cG 18446744073709551616 (l:=l.set (i+q) (o+a)) (k:=i+q+1) c (by rw[LB];omega);rw[bw oM,if_neg oM,h0] at b
 rw[<-h] at d
 have j:2^p*(18446744073709551616^q*ai 18446744073709551616 (w.take (i+1)))=aA l+18446744073709551616^(i+q)*(x*2^p):=by
  rw[aF,hv,<-f,Mg,Mg,L4]
  congr 1
  ac_rfl
 rw[j,<-e];rw[LR] at b
 show ai 18446744073709551616 _=ai 18446744073709551616 l+_
 simp only[Mg,<-L6] at d b ⊢
 omega
theorem Bu (n:Nat):(2:Nat)^n=18446744073709551616^(n/64)*2^(n%64):=by
 have:n=64*(n/64)+n%64:=by omega
 conv=>lhs;rw[this,L4,LY]
theorem pF {x y p:Nat}(d:p<=64)(f:x<18446744073709551616) :
  (x/2^p) ||| (y*2^(64-p)%18446744073709551616)=x/2^p+y*2^(64-p)%18446744073709551616/\x/2^p+y*2^(64-p)%18446744073709551616<18446744073709551616/\2^p*(x/2^p+y*2^(64-p)%18446744073709551616)+x%2^p=x+18446744073709551616*(y%2^p):=by
 have e:=Bq d;have c:(18446744073709551616:Nat)=2^p*2^(64-p):=by rw[LC];exact e
 have b:y*2^(64-p)%18446744073709551616=y%2^p*2^(64-p):=by
  conv=>lhs;rw[c]
  exact MQ _ _ _
 have h:x/2^p<2^(64-p):=by rw[Mt (Mc _),<-e];exact f
 have a:y%2^p<2^p:=LX _ (Mc _);refine ⟨by rw[b];exact gU (64-p) h,?_,?_⟩
 ·rw[b]
  have:(y%2^p+1)*2^(64-p)<=2^p*2^(64-p):=Af _ a;rw[<-c,LI] at this
  omega
 ·rw[b,Mg]
  have h1:=Mx x (2^p);have i:2^p*(y%2^p*2^(64-p))=18446744073709551616*(y%2^p):=by rw[c];ac_rfl
  omega
theorem p9 {l W:List Nat}{i p d a:Nat}(b:i<l.length)(inv:2^p*ai 18446744073709551616 l+a=ai 18446744073709551616 (W.take i)+18446744073709551616^i*(W.getD i 0%2^p))(h0:l.getD i 0=0)(c:2^p*d+W.getD i 0%2^p=W.getD i 0+18446744073709551616*(W.getD (i+1) 0%2^p)) :
  2^p*ai 18446744073709551616 (l.set i d)+a=ai 18446744073709551616 (W.take (i+1))+18446744073709551616^(i+1)*(W.getD (i+1) 0%2^p):=by
 have e:=cG 18446744073709551616 (l:=l) (k:=i) d b;rw[h0] at e
 rw[aF,LR];have e1:18446744073709551616^i*(2^p*d+W.getD i 0%2^p)=18446744073709551616^i*(W.getD i 0+18446744073709551616*(W.getD (i+1) 0%2^p)):=by rw[c]
 have e2:ai 18446744073709551616 (l.set i d)=ai 18446744073709551616 l+18446744073709551616^i*d:=by omega
 rw[e2,Mg];have f:2^p*(18446744073709551616^i*d)=18446744073709551616^i*(2^p*d):=by ac_rfl
 rw[f]
 simp only[Mg,<-L6] at e1 ⊢
 simp only[L6] at e1 inv ⊢
 omega
theorem Dn {l W:List Nat}{p m:Nat}(b:W.length<=m)(inv:2^p*ai 18446744073709551616 l+W.getD 0 0%2^p=ai 18446744073709551616 (W.take m)+18446744073709551616^m*(W.getD m 0%2^p)):aA l=aA W/2^p:=by
 rw[Mu b] at inv
 have h0:W.getD m 0=0:=by simp[tv b]
 rw[h0,MR,Mj,y5] at inv
 have a:=Mc p;have c:=LX (W.getD 0 0) a
 show ai _ l=ai _ W/_
 rw[<-inv,MS a,LP c,y5]
theorem nF {w:List Nat}(a:Wd w){q:Nat}(hq:q<=w.length):aA (w.drop q)=aA w/18446744073709551616^q:=by
 have e:=bM 18446744073709551616 hq;have h1:=bL (Dg.take a q);rw[LF,LS hq] at h1
 show ai _ _=ai _ w/_
 rw[e,L1 _ _ (L2 kD),LP h1,Ab]
def nk (x:Nat):List Value:=[.int .u8 (x:Nat)]
theorem sR {b:Nat}(a:0<b){l:List Nat}(h:Dg b l)(j:Nat):l.getD j 0=ai b l/b^j%b:=by
 rcases ea j l.length with hj|hj
 ·have h1:=bM b (l:=l) (k:=j) oM
  have e:=fW b (l:=l) (k:=j) hj;have c:=bL (Dg.take h j);rw[LF,LS oM] at c
  have d:0<b^j:=L2 a;rw[h1,L1 _ _ d,LP c,Ab,e,Mp,A0 (h.getD a j)]
 ·rw[cn hj,LP,MR]
  exact e5 (bL h) (L3 a hj)
theorem BY {b:Nat}{l:List Nat}{k P:Nat}(hk:k<l.length)(c:0<b)(h:ai b l<b^k*P):l.getD k 0<P:=by
 have h1:=bM b (l:=l) (k:=k) oM;have d:=fW b (l:=l) (k:=k) hk;have e:0<b^k:=L2 c;refine MT (a:=b^k) ?_;have f:b^k*l.getD k 0<=b^k*ai b (l.drop k):=LW _ (by rw[d];omega)
 omega
theorem rQ (k:Nat):(256:Nat)^k=18446744073709551616^(k/8)*2^(8*(k%8)):=by
 have:k=8*(k/8)+k%8:=by omega
 conv=>lhs;rw[this,L4,LY]
 rw[LY 2 8]
theorem rt {l:List Nat}(a:Wd l)(k:Nat):l.getD (k/8) 0/2^(8*(k%8))%256=aA l/256^k%256:=by
 rw[sR kD a (k/8),rQ,<-L5]
 show _=ai 18446744073709551616 l/_/_%256
 generalize ai 18446744073709551616 l/18446744073709551616^(k/8)=y
 have:k%8=0\/k%8=1\/k%8=2\/k%8=3\/k%8=4\/k%8=5\/k%8=6\/k%8=7:=by omega
 rcases this with h|h|h|h|h|h|h|h<;>rw[h]<;>omega
theorem BQ (n k:Nat):(wds n).getD (k/8) 0/2^(8*(k%8))%256=n/256^k%256:=by
 rw[rt (Wd.wds n),ay]
theorem BM {b k:Nat}(a:b<256):b*2^(8*(k%8))<18446744073709551616:=by
 have:k%8=0\/k%8=1\/k%8=2\/k%8=3\/k%8=4\/k%8=5\/k%8=6\/k%8=7:=by omega
 rcases this with h|h|h|h|h|h|h|h<;>rw[h]<;>omega
theorem vB {a b k:Nat}(ha:a<2^(8*(k%8)))(c:b<256):a+b*2^(8*(k%8))<18446744073709551616:=by
 have:k%8=0\/k%8=1\/k%8=2\/k%8=3\/k%8=4\/k%8=5\/k%8=6\/k%8=7:=by omega
 rcases this with h|h|h|h|h|h|h|h<;>rw[h] at ha ⊢ <;> omega
theorem tR {l:List Nat}{n k x:Nat}(hk:k/8<l.length)(inv:aA l=n%256^k)(d:x=n/256^k%256) :
  (l.getD (k/8) 0 ||| x*2^(8*(k%8))%18446744073709551616)=l.getD (k/8) 0+x*2^(8*(k%8))/\l.getD (k/8) 0+x*2^(8*(k%8))<18446744073709551616 /\
  aA (l.set (k/8) (l.getD (k/8) 0+x*2^(8*(k%8))))=n%256^(k+1):=by
 have c:x<256:=by rw[d];exact LX _ oM
 have a:aA l<256^k:=by rw[inv];exact LX _ (L2 oM)
 have f:l.getD (k/8) 0<2^(8*(k%8)):=BY (b:=18446744073709551616) hk kD (by rw[<-rQ];exact a);refine ⟨?_,vB f c,?_⟩
 ·rw[A0 (BM c)];exact gU _ f
 ·have e:=cG 18446744073709551616 (l:=l) (k:=k/8) (l.getD (k/8) 0+x*2^(8*(k%8))) hk
  rw[B4,<-d,<-inv]
  show ai _ _=ai _ l+_
  have e2:256^k*x=18446744073709551616^(k/8)*(x*2^(8*(k%8))):=by rw[rQ k];ac_rfl
  rw[Mg] at e
  rw[e2]
  omega
theorem wY (n:Nat):n<256^((nb n+7)/8):=by
 have h:=I1 n;have e:(256:Nat)^((nb n+7)/8)=2^(8*((nb n+7)/8)):=by rw[LY]
 rw[e];exact e5 h (L3 oM oM)
theorem mI (n:Nat):nb n<=64*(wds n).length:=by
 apply kH
 have:=dD n
 rwa [show (18446744073709551616:Nat)=2^64 by rfl,<-LY] at this
theorem mt (n:Nat):(wds n).length=(nb n+63)/64:=by
 rcases Ga n with h|h
 ·subst h;rfl
 ·have h1:=BE h
  have a:=lU h;have b:=oA n ((wds n).length-1);have c:=k6.2 h
  generalize (wds n).getD ((wds n).length-1) 0=t at *
  have d:=(cB (ME a)).2.2;have e:nb t<=64:=kH (k:=64) b
  omega
def az (x:Nat):List Value:=[.int .u32 (x:Nat)]
abbrev S3 (A:Option Addr)(l:List Nat):Hp->Prop:=fun h_=>SlO 1 az 0 h_ A l
theorem n0:∀ f n:Nat,qo f n=q9 4294967296 f n
  | 0,_=>rfl
  | f+1,n=>by
    unfold qo q9
    split
    . rfl
    . rw[n0 f]
theorem uG (n:Nat):lim n=gZ 4294967296 n:=n0 n n
def Ld (l:List Nat):Prop:=Dg 4294967296 l
theorem Ld.lim (n:Nat):Ld (lim n):=fun x a=>km n x a
theorem Ld.get {l:List Nat}(h:Ld l)(k:Nat):l.getD k 0<4294967296:=Dg.getD h kD k
theorem Ld.set {l:List Nat}(h:Ld l)(k:Nat){x:Nat}(a:x<4294967296):Ld (l.set k x):=Dg.set h k a
theorem Ld.rep (n:Nat):Ld (As n 0):=Dg.rep kD
theorem da (n:Nat):ai 4294967296 (lim n)=n:=by rw[<-kC];exact fX n
theorem sP {l:List Nat}(h:Ld l){n:Nat}(e:ai 4294967296 l=n):lim n=l.take (tl l l.length):=by
 rw[<-e,<-kC];exact AO h
theorem ne {l:List Nat}(h:Ld l){n:Nat}(e:ai 4294967296 l=n):(lim n).length=tl l l.length:=by
 rw[sP h e,LF];have:=it l l.length;omega
theorem cC (n:Nat):n<4294967296^(lim n).length:=by rw[uG];exact jt kD n
theorem dG {a b:Nat}(h:a<=b):(lim a).length<=(lim b).length:=eh (LM h (cC b))
theorem gE {a b k:Nat}(h:a<=b)(c:(lim b).length<=k):(lim a).length<=k:=e4 (dG h) c
theorem iP {a b k:Nat}(ha:(lim a).length<=k)(c:(lim b).length<=k):(lim (a+b)).length<=k+1:=by
 refine eh ?_;have h1:=cC a;have e:=cC b;have f:4294967296^(lim a).length<=4294967296^k:=L3 kD ha;have d:4294967296^(lim b).length<=4294967296^k:=L3 kD c;rw[LR]
 omega
theorem gu {a b:Nat}:(lim (a*b)).length<=(lim a).length+(lim b).length:=by
 refine eh ?_;rw[L4];exact Nat.mul_lt_mul'' (cC a) (cC b)
theorem tA (n:Nat):(lim n).length<=2*(wds n).length:=by
 refine eh ?_;have:=dD n
 rwa [show (18446744073709551616:Nat)=4294967296^2 by rfl,<-LY] at this
theorem Dt (n:Nat):(wds n).length<=(lim n).length:=by
 refine ge kD ?_;have:=cC n;exact e5 this (Nat.pow_le_pow_left kD _)
theorem gH {a b:Nat}(h:(lim a).length<(lim b).length):a<b:=by
 rcases ea a b with hl|hl
 ·exact hl
 ·have:=dG hl;omega
theorem DJ {a b:Nat}(h:lim a=lim b):a=b:=by rw[<-fX a,<-fX b,h]
theorem ib {a b k:Nat}(d:(lim a).length=(lim b).length)(hk:k<(lim a).length)(f:(lim a).drop (k+1)=(lim b).drop (k+1))(c:(lim a).getD k 0<(lim b).getD k 0):a<b:=by
 have e:=bM 4294967296 (l:=lim a) (k:=k+1) oM;have h:=bM 4294967296 (l:=lim b) (k:=k+1) oM;rw[da] at e h
 rw[f] at e
 have j:=aK 4294967296 (l:=lim a) (k:=k) hk;have p:=aK 4294967296 (l:=lim b) (k:=k) oM;have i:=bL (Dg.take (Ld.lim a) k);rw[LF,LS oM] at i
 have o:4294967296^k*(lim a).getD k 0+4294967296^k<=4294967296^k*(lim b).getD k 0:=by
  rw[<-MD];exact LW _ c
 omega
def RN (h:Hp)(v:Value)(n:Nat):Prop:=Jz 1 az 0 h v (lim n)
def RI (h:Hp)(v:Value)(z:Int):Prop:=∃ A c,v=.agg #[.bool (af z),.slice A (lim (ab z)).length c]/\(lim (ab z)).length<=c/\SlO 1 az 0 h A (lim (ab z))
def RP (h:Hp)(v:Value)(z:Int)(n:Nat):Prop:=∃ A c B d,v=.agg #[.bool (af z),.slice A (lim (ab z)).length c,.slice B (lim n).length d]/\(lim (ab z)).length<=c/\(lim n).length<=d/\SlO 1 az 0 h A (lim (ab z))/\SlO 1 az 0 h B (lim n)
def RQ (h:Hp)(v:Value)(q:Rat):Prop:=RP h v q.num q.den
theorem RP.gw {h h':Hp}{v:Value}{z:Int}{n:Nat}(r:RP h v z n)(u:Gw h h'):RP h' v z n:=by
 obtain ⟨A,c,B,d,h1,b,f,a,e⟩:=r;exact ⟨A,c,B,d,h1,b,f,a.gw u,e.gw u⟩
theorem RQ.gw {h h':Hp}{v:Value}{q:Rat}(r:RQ h v q)(u:Gw h h'):RQ h' v q:=RP.gw r u
theorem RN.trim {h:Hp}{A:Option Addr}{l:List Nat}{n m a:Nat}(b:Ld l)(e:ai 4294967296 l=n)(c:l.length=m)(d:m<=a)(s:SlO 1 az 0 h A l):RN h (.slice A (tl l m) a) n:=by
 subst c;have e1:=ne b e;have:=it l l.length;refine ⟨A,a,by rw[e1],by omega,?_⟩;rw[sP b e];exact s.take _
theorem sD {h:Hp}{p b:Bool}{n a:Nat}{A:Option Addr}(c:b=(p && decide (0<n)))(e:(lim n).length<=a)(d:SlO 1 az 0 h A (lim n)):RI h (.agg #[.bool b,.slice A (lim n).length a]) (bu p n):=by
 subst c;refine ⟨A,a,?_,?_,?_⟩
 ·rw[jZ,fi]
 ·rw[fi];exact e
 ·rw[fi];exact d
theorem Eu {l:List Nat}{m:Nat}(h:0<m)(h0:l.getD (m-1) 0=0):tl l m=tl l (m-1):=by
 obtain ⟨k,rfl⟩:∃ k,m=k+1:=⟨m-1,by omega⟩;rw[kY,if_pos (by simpa using h0)];rfl
theorem xv {b:Nat}{z:List Nat}{i c c' s t X:Nat}(hi:i<z.length)(h0:z.getD i 0=0)(inv:ai b z+b^i*c=X)(e:s+b*c'=c+t):ai b (z.set i s)+b^(i+1)*c'=X+b^i*t:=by
 have h1:=cG b s hi;rw[h0,Mj,y5] at h1
 have e2:=congrArg (b^i * ·) e
 simp only[Mg] at e2
 rw[LR,L6,h1]
 omega
theorem tM {b:Nat}{z:List Nat}{c v:Nat}(inv:ai b z+b^z.length*c=v)(h:v<b^z.length):ai b z=v:=by
 rcases Ga c with hc|hc
 ·subst hc;rw[Mj,y5] at inv;exact inv
 ·have:b^z.length*1<=b^z.length*c:=LW _ hc
  omega
theorem qe {l:List Nat}{k x:Nat}(hk:k<l.length)(h:∀ i,k<=i->l.getD i 0=0):∀ i,k+1<=i->(l.set k x).getD i 0=0:=fun i hi=>by rw[bw hk,if_neg oM];exact h i oM
theorem AP {b:Nat}{z:List Nat}{x y c:Nat}(a:Dg b z)(inv:ai b z+y=x+b^z.length*c)(d:y<=x):ai b z=x-y:=by
 have h1:=bL a
 rcases Ga c with hc|hc
 ·subst hc;rw[Mj,y5] at inv;omega
 ·have:b^z.length*1<=b^z.length*c:=LW _ hc
  omega
theorem CM {b:Nat}{z y x:List Nat}{i c c' s:Nat}(hi:i<z.length)(h0:z.getD i 0=0)(inv:ai b z+ai b (y.take i)=ai b (x.take i)+b^i*c)(e:s+y.getD i 0+c=x.getD i 0+b*c') :
  ai b (z.set i s)+ai b (y.take (i+1))=ai b (x.take (i+1))+b^(i+1)*c':=by
 have h1:=cG b s hi;rw[h0,Mj,y5] at h1
 have e2:=congrArg (b^i * ·) e
 simp only[Mg] at e2
 rw[aF,aF,LR,L6,h1]
 omega
theorem Bt {x y c t:Nat}(b:x<4294967296)(a:y<4294967296)(d:c<=1)(ht:t=((x+(18446744073709551616-y))%18446744073709551616+(18446744073709551616-c))%18446744073709551616):t%4294967296+y+c=x+4294967296*(t/9223372036854775808)/\t/9223372036854775808<=1:=by
 subst ht
 omega
theorem sw {r x:Nat}(a:x<4294967296):r*4294967296 ||| x=r*4294967296+x:=by
 have:=Md (i:=32) (b:=x) oM r;rw[LC];exact this.symm
theorem vJ {r x d:Nat}(a:0<d)(hr:r<d)(b:x<4294967296)(c:d<4294967296) :
  (r*4294967296+x)/d%4294967296=(r*4294967296+x)/d/\r*4294967296+x=d*((r*4294967296+x)/d)+(r*4294967296+x)%d/\(r*4294967296+x)%d<d:=by
 refine ⟨A0 ?_,(Mx _ _).symm,LX _ a⟩;rw[Mt a];have h1:(r+1)*4294967296<=d*4294967296:=Af _ hr;rw[LC]
 omega
theorem AN {b:Nat}{l z:List Nat}{m d r a q X:Nat}(i:0<m)(h:m-1<z.length)(h0:z.getD (m-1) 0=0)(inv:X=d*ai b z+(b^m*r+ai b (l.take m)))(e:r*b+l.getD (m-1) 0=d*q+a) :
  X=d*ai b (z.set (m-1) q)+(b^(m-1)*a+ai b (l.take (m-1))):=by
 obtain ⟨k,rfl⟩:∃ k,m=k+1:=⟨m-1,by omega⟩;rw[My] at *
 have h1:=cG b q h;rw[h0,Mj,y5] at h1
 have e2:=congrArg (b^k * ·) e
 simp only[Mg] at e2
 rw[inv,h1,aF,LR,Mg];have f:b^k*(r*b)=b^k*b*r:=by rw[LC r b,L6]
 have c:b^k*(d*q)=d*(b^k*q):=by ac_rfl
 rw[f,c] at e2
 omega
theorem Aa (k:Nat):(2:Nat)^k=4294967296^(k/32)*2^(k%32):=by
 have:k=32*(k/32)+k%32:=by omega
 conv=>lhs;rw[this,L4,LY]
theorem IN {x p c:Nat}(d:p<32)(e:x<4294967296)(b:c<2^p) :
  (c ||| x*2^p%18446744073709551616)=c+x*2^p/\c+x*2^p<18446744073709551616/\(c+x*2^p)/4294967296<2^p:=by
 have h0:2^p<=2^31:=L3 kD oM;have h1:x*2^p<=4294967295*2^p:=Af _ oM;have a:x*2^p<18446744073709551616:=by omega
 refine ⟨?_,by omega,?_⟩
 ·rw[A0 a];exact gU p b
 ·rw[Mt kD];omega
theorem BX {b:Nat}{l:List Nat}{i c P Q s x:Nat}{a:List Nat}(h:0<b)(inv:ai b l+b^l.length*c=b^Q*(P*ai b (a.take i)))(e:l.length=Q+i)(d:s=c+x*P)(f:x=a.getD i 0) :
  ai b (l++[s%b])+b^(l++[s%b]).length*(s/b)=b^Q*(P*ai b (a.take (i+1))):=by
 have e1:b^l.length*s=b^l.length*(s%b)+b^l.length*(b*(s/b)):=by rw[<-Mg,Mn]
 have e2:b^l.length*s=b^l.length*c+b^Q*(P*(b^i*x)):=by
  rw[d,Mg,e,L4]
  congr 1
  ac_rfl
 rw[cP,zY,aF,<-f,Mg P,Mg (b^Q),<-inv]
 show _+b^l.length*(s%b+b*0)+b^(l.length+1)*_=_
 rw[Mj,y5,LR,L6]
 omega
theorem Ld.app {l:List Nat}(h:Ld l){x:Nat}(a:x<4294967296):Ld (l++[x]):=Dg.append h (Dg.one a)
theorem vA {a n q m p:Nat}(h:a<4294967296^n)(b:p<=32)(d:m=q+(n+1)):a*(4294967296^q*2^p)<4294967296^m:=by
 have h1:(2:Nat)^p<=4294967296:=e4 (L3 kD b) (ep (2^32));subst d;rw[L4,LR];have c:a*2^p<4294967296^n*4294967296:=e5 (MN h (Mc p)) (LW _ h1);have e:a*(4294967296^q*2^p)=4294967296^q*(a*2^p):=by ac_rfl
 rw[e];exact Mb c (L2 kD)
theorem Jg {x y p:Nat}(j:p<32)(o:x<4294967296)(l:y<4294967296) :
  (x ||| y*4294967296%18446744073709551616)=x+y*4294967296/\x+y*4294967296<18446744073709551616 /\
  2^p*((x+y*4294967296)/2^p%4294967296)+x%2^p=x+4294967296*(y%2^p):=by
 have h0:2^p*2^(32-p)=4294967296:=by rw[<-L4,show p+(32-p)=32 by omega]
 have b:=Mc p;refine ⟨?_,by omega,?_⟩
 ·rw[A0 oM]
  exact gU 32 oM
 ·-- y=2^p*y1+y0
  have f:=Mx y (2^p);have h:=Mx x (2^p)
  generalize y/2^p=y1 at *
  generalize hy0:y%2^p=y0 at *
  generalize hxq:x/2^p=x1 at *
  generalize hx0:x%2^p=x0 at *
  have d:x0<2^p:=by rw[<-hx0];exact LX _ b
  have c:y0<2^p:=by rw[<-hy0];exact LX _ b
  have i:x1<2^(32-p):=by
   refine MT (a:=2^p) ?_
   omega
  have e:x+y*4294967296=2^p*(x1+2^(32-p)*(2^p*y1+y0))+x0:=by
   rw[<-h,<-f,Mg,<-L6 (2^p) (2^(32-p)),h0]
   generalize 2^p*y1+y0=Y
   omega
  rw[e,MS b,LP d,y5]
  have e2:x1+2^(32-p)*(2^p*y1+y0)=(x1+2^(32-p)*y0)+4294967296*y1:=by
   rw[Mg,<-L6,LC (2^(32-p)) (2^p),h0];omega
  have u:2^(32-p)*y0+2^(32-p)<=4294967296:=by
   have:2^(32-p)*(y0+1)<=2^(32-p)*2^p:=LW _ c;rw[LC (2^(32-p)) (2^p),h0,Mg] at this
   omega
  rw[e2,Mp,A0 oM,Mg,<-L6,h0]
  omega
theorem FI {b:Nat}{l X:List Nat}{j P d a:Nat}(e:l.length=j)(inv:P*ai b l+a=ai b (X.take j)+b^j*(X.getD j 0%P))(h:P*d+X.getD j 0%P=X.getD j 0+b*(X.getD (j+1) 0%P)) :
  P*ai b (l++[d])+a=ai b (X.take (j+1))+b^(j+1)*(X.getD (j+1) 0%P):=by
 have e1:ai b (l++[d])=ai b l+b^j*d:=by
  rw[cP,e];show _+b^j*(d+b*0)=_;rw[Mj,y5]
 have c:=congrArg (b^j * ·) h
 simp only[Mg] at c
 rw[e1,aF,LR,Mg];have i:P*(b^j*d)=b^j*(P*d):=by ac_rfl
 have f:b^j*b*(X.getD (j+1) 0%P)=b^j*(b*(X.getD (j+1) 0%P)):=by ac_rfl
 rw[i,f]
 omega
theorem HM {a k:Nat}{l:List Nat}(f:(lim a).length<=k/32+l.length)(inv:2^(k%32)*ai 4294967296 l+((lim a).drop (k/32)).getD 0 0%2^(k%32)=ai 4294967296 (((lim a).drop (k/32)).take l.length)+4294967296^l.length*(((lim a).drop (k/32)).getD l.length 0%2^(k%32))):ai 4294967296 l=a/2^k:=by
 have b:((lim a).drop (k/32)).length<=l.length:=by rw[Mq];omega
 rw[Mu b,cn b,MR,Mj,y5] at inv
 have c:ai 4294967296 ((lim a).drop (k/32))=a/4294967296^(k/32):=by
  rcases ea (lim a).length (k/32) with h|h
  ·rw[z2 oM,LP]
   ·rfl
   ·exact e5 (cC a) (L3 kD oM)
  ·have e:=bM 4294967296 (l:=lim a) (k:=k/32) h
   rw[da] at e
   have h1:=bL (Dg.take (Ld.lim a) (k/32));rw[LF,LS h] at h1
   have d:a/4294967296^(k/32)=(ai 4294967296 ((lim a).take (k/32))+4294967296^(k/32)*ai 4294967296 ((lim a).drop (k/32)))/4294967296^(k/32):=by rw[<-e]
   rw[d,L1 _ _ (L2 kD),LP h1,Ab]
 rw[Aa k,<-L5,<-c,<-inv,MS (Mc _),LP (LX _ (Mc _)),y5]
section
variable {P:Program} {Γ:bU} {o:Oper}
theorem d8 {f:FuncId}{args:Array Value}{v:Value}{w:World}(h:(execOp (ev Γ) o).run P w=(callFunc f args).run P w)(k:(callFunc f args).run P w=.ok (.value v) w):(execOp (ev Γ) o).run P w=.ok (.value v) w:=h.trans k
end
theorem eW (x y c:Nat)(b:x<18446744073709551616)(a:y<18446744073709551616)(d:c<=1):∃ s c':Nat,s+18446744073709551616*c'=x+y+c/\s<18446744073709551616/\c'<=1/\∀ w,(callFunc 208 #[.int .u64 x,.int .u64 y,.int .u64 c]).run Tryz.prog w=.ok (.value (.tuple #[.int .u64 s,.int .u64 c'])) w:=by
 refine ⟨(x+y+c)%18446744073709551616,(x+y+c)/18446744073709551616,by omega,by omega,by omega,fun w=>?_⟩;rw[run_callFunc_extern Tryz.func208 kR kR kR (e:=add64Entry) kR,run_add64 x y c oM oM oM oM]
 simp only[Result.andThen]
 congr 5<;>omega
theorem jx (x y b:Nat)(f:x<18446744073709551616)(d:y<18446744073709551616)(c:b<=1):∃ s a:Nat,s+y+b=x+18446744073709551616*a/\s<18446744073709551616/\a<=1/\∀ w,(callFunc 209 #[.int .u64 x,.int .u64 y,.int .u64 b]).run Tryz.prog w=.ok (.value (.tuple #[.int .u64 s,.int .u64 a])) w:=by
 refine ⟨(x+18446744073709551616-y-b)%18446744073709551616,if x<y+b then 1 else 0,by split<;>omega,by omega,by split<;>omega,fun w=>?_⟩;rw[run_callFunc_extern Tryz.func209 kR kR kR (e:=sub64Entry) kR,run_sub64 x y b c]
 rfl
theorem Ret.of_same {f:FuncId}{args:Array Value}{V:Value}{P:Program}{w:World}{h:Hp}(g:G w h)(c:Calls P f args w fun e w'=>e=.returned V/\w'=w):Calls P f args w (Ret w h fun v _=>v=V) :=
 c.mono fun e w' ⟨b,a⟩=>by subst a;exact ⟨V,h,b,Up.refl g,rfl⟩
theorem ol (x y:Nat)(c:x<18446744073709551616)(a:y<18446744073709551616)(w:World)(h:Hp)(g:G w h):CR 202 #[uV x,uV y] w h (fun v _=>∃ hi lo:Nat,v=.tuple #[uV hi,uV lo]/\lo+18446744073709551616*hi=x*y/\lo<18446744073709551616/\hi<18446744073709551616/\hi<=18446744073709551614):=by
 refine (Ret.of_same g (Tryz.bits_Mul64 x y c a w)).mono ?_;rintro e w' ⟨v,h',b,u,rfl⟩;have h1:x*y<=18446744073709551615*18446744073709551615:=MP oM oM;exact ⟨_,h',b,u,x*y/18446744073709551616,x*y%18446744073709551616,rfl,by omega,by omega,by omega,by omega⟩
theorem nL {n:Nat}(h:n<18446744073709551616):Lib.bitLen n=nb n:=by
 rcases Ga n with h0|h0
 ·subst h0;rfl
 ·obtain ⟨b,c,d⟩:=cB h0
  have a:nb n<=64:=kH (k:=64) h;have:=Lib.bitLen_shift (nb n-1) n b h
  have h1:n/2^(nb n-1)=1:=by
   have:n<2^(nb n-1)*2:=by rw[<-LR];rwa [show (nb n-1).succ=nb n by omega]
   refine MM oM oM
  rw[h1] at this
  have e1:Lib.bitLen 1=1:=by decide
  omega
theorem AJ (x:Nat)(a:x<18446744073709551616)(w:World)(h:Hp)(g:G w h):CV 130 #[uV x] w h (nV (nb x)):=by
 have:=Ret.of_same g (Tryz.bits_Len64 x w oM oM);rw[A6,nL a] at this
 exact this
theorem EW (x:Nat)(a:x<18446744073709551616)(w:World)(h:Hp)(g:G w h):CV 205 #[uV x] w h (nV (64-nb x)):=by
 have:=Ret.of_same g (Tryz.bits_LeadingZeros64 x w oM oM);have b:nb x<=64:=kH (k:=64) a;rw[A6,nL a,show (64:Int)-(nb x:Nat)=((64-nb x:Nat):Int) by omega] at this
 exact this
theorem jN {a b:Nat}(ha:a<18446744073709551616)(d:b<18446744073709551616):a*b<=340282366920938463426481119284349108225:=by
 have h1:a<=18446744073709551615:=by omega
 have c:b<=18446744073709551615:=by omega
 exact MP h1 c
theorem jj (A:Option Addr)(c:Nat)(l:List Nat)(m:Nat)(D:l.length=m)(C:l.length<=1099511627776)(B:l.length<=c)(w:World)(h:Hp)(g:G w h)(y:S3 A l h):CV 73 #[.slice A m c] w h (.slice A (tl l m) c):=by
 have a:=((sS g).aS y);refine go Tryz.func73 [(0,qS A m c)] rfl (aa a ac (aG (lL a [.c,.v (nV m),.c] (ah (kZ ?_)))));refine bH _ (CG.loop (fun j Γ u=>∃ (n:Nat) (h_:Hp),j=n/\Γ=[(0,qS A m c),(2,sZ),(3,nV n)]/\SS w h u h_ [] [] [S3 A l]/\n<=m/\tl l m=tl l n) _ ⟨m,h,rfl,rfl,a.to _ _,nR _,rfl⟩ ?_);rintro _ _ w1 ⟨n,o,p,rfl,a,hn,ht⟩;refine cQ (aa a ac ?_);cases d:(decide ((0:Int)<(n:Int)))
 .
  have e:=oF d;refine lB 7 d (lL a ac (lG 9 ?_));refine lG 10 (lG 11 (lG 12 (lG 13 (lG 14 (lL a [.v qF] (ag (CG.exit ?_)))))))
  show CG _ _ _ _ _ _ _ _
  refine aa a aD (lT 20 A m c 1 (n:Nat) n ?_);exact lL a ac (ae a [] (qS A n c) (by rw[ht,nY oM]))
 have e:=oT d;refine lB 7 d (lL a di (bh 11 ((n:Nat)-1) (n-1) ?_));refine lX 12 A m c 1 (n-1:Nat) (n-1) ((a.f.1).ok oM) (lH 13 (mW (l.getD (n-1) 0)) a ((a.f.1).el (n-1) oM) ?_);cases b:(((l.getD (n-1) 0:Nat):Int) == (0:Int))
 .
  have i:=aj b;refine lB 14 b (lL a [.v qF] (ag (CG.exit ?_)))
  show CG _ _ _ _ _ _ _ _
  refine aa a aD (lT 20 A m c 1 (n:Nat) n ?_);exact lL a ac (ae a [] (qS A n c) (by rw[ht,nY oM]))
 have i:=eq_of_beq b;refine lB 14 b (lL a [.v qT] (ak (cK (kZ (kQ (lL a ac (bh 17 ((n:Nat)-1) (n-1) ?_)))))));refine lL a ac (lD ?_);intro z x;refine ⟨_,_,?_,⟨n-1,o,rfl,rfl,a.to _ _,oM,(by rw[ht];exact Eu oM oM)⟩,x.to _ kR⟩
 omega
theorem vx {h:Hp}{A:Option Addr}{n a:Nat}(hn:n<18446744073709551616)(b:2<=a)(s:SlO 1 az 0 h A [n%4294967296,n/4294967296]):RN h (.slice A (tl [n%4294967296,n/4294967296] 2) a) n :=
 RN.trim (Dg.cons oM (Dg.one oM)) (by simp only[ai];omega) rfl b s
theorem o4 (n:Nat)(hn:n<18446744073709551616)(w:World)(h:Hp)(g:G w h):CR 37 #[mV n] w h (fun v h=>RN h v n):=by
 have a:=sS g;refine go Tryz.func37 [(0,mV n)] rfl (aa a ac (aG (lL a ac (lV 4 (mW (n%4294967296)) ?_ (hr:=rT ((n:Int)) kR (gX _))))));refine lL a ac (lV 6 (mV (n/4294967296)) ?_ (hr:=aI (n:=MU (n:Int) 4294967296) kR (ef _ 4294967296)));refine lV 7 (mW (n/4294967296)) ?_ (hr:=rT (((n/4294967296:Nat):Int)) kR (oR oM oM));refine lR 8 141 2 ([mW (n%4294967296),mW (n/4294967296)]) a (fun b w2 i a=>?_);replace a:=a.aS (SlO.of_flat (sz:=1) (f:=az) (d:=0) (l:=[(n%4294967296),(n/4294967296)]) (fun _=>rfl) a.f.1);exact ar 9 a (jj (sB b) 2 ([(n%4294967296),(n/4294967296)]) 2 (by first|rfl|omega|assumption) (by simp) (by simp) _ _ a.g a.f.1) (fun c e a=>lL a ac (ae a [] (qS (sB b) (tl ([(n%4294967296),(n/4294967296)]) 2) 2) (vx hn oM a.f.1)))
theorem J2 (n:Nat)(A:Option Addr)(a:Nat)(e:(lim n).length<=a)(w:World)(h:Hp)(g:G w h)(d:S3 A (lim n) h):CR 72 #[.bool false,.slice A ((lim n).length) a] w h (fun v h=>RI h v (bu false n)):=by
 have b:=((sS g).aS d);refine go Tryz.func72 [(0,qF),(1,qS A ((lim n).length) a)] rfl (ax (lA 4 26 ([qF,sZ]) b (fun j w2 l b=>aG (lL b aD (lG 7 ?_)))));exact lG 8 (lG 9 (lL b [.v qF,.c,.v (.agg #[qF,qS A ((lim n).length) a])] (lP 0 0 ([qF,qS A ((lim n).length) a]) b (fun i b=>ae b [(0,0,2)] (.agg #[qF,qS A ((lim n).length) a]) (sD rfl e b.f.1)))))
theorem Kf (n:Nat)(A:Option Addr)(a:Nat)(i:(lim n).length<=a)(w:World)(h:Hp)(g:G w h)(j:S3 A (lim n) h):CR 72 #[.bool true,.slice A ((lim n).length) a] w h (fun v h=>RI h v (bu true n)):=by
 have b:=((sS g).aS j);have l:=@bR n;refine go Tryz.func72 [(0,qT),(1,qS A ((lim n).length) a)] rfl (ax (lA 4 26 ([qF,sZ]) b (fun x w2 u b=>aG (lL b [.c,.c,.c,.v (nV ((lim n).length))] ?_))));cases d:(decide ((0:Int)<(((lim n).length:Nat):Int)))
 .
  have e:=oF d;exact lB 9 d (lL b [.v qF,.c,.v (.agg #[qF,qS A ((lim n).length) a])] (lP 0 0 ([qF,qS A ((lim n).length) a]) b (fun o b=>ae b [(0,0,2)] (.agg #[qF,qS A ((lim n).length) a]) (sD (by simp only[MV];first|(symm;exact decide_eq_true oM)|(symm;exact decide_eq_false oM)) i b.f.1))))
 have e:=oT d;exact lB 9 d (lL b [.v qT,.c,.v (.agg #[qT,qS A ((lim n).length) a])] (lP 0 0 ([qT,qS A ((lim n).length) a]) b (fun p b=>ae b [(0,0,2)] (.agg #[qT,qS A ((lim n).length) a]) (sD (by simp only[MV];first|(symm;exact decide_eq_true oM)|(symm;exact decide_eq_false oM)) i b.f.1))))
theorem rI (p:Bool)(n:Nat)(A:Option Addr)(a:Nat)(c:(lim n).length<=a)(w:World)(h:Hp)(g:G w h)(b:S3 A (lim n) h):CR 72 #[.bool p,.slice A (lim n).length a] w h (fun v h=>RI h v (bu p n)):=by
 cases p
 ·exact J2 n A a c w h g b
 ·exact Kf n A a c w h g b
theorem sK (z:Int)(h0:z<0)(h1 : -9223372036854775808<=z)(w:World)(h:Hp)(g:G w h):CR 36 #[iV z] w h (fun v h=>RI h v (bu true (ab z))):=by
 have a:=sS g;have hi:ab z<=9223372036854775808:=by unfold ab;omega
 refine go Tryz.func36 [(0,iV z)] rfl (ax (lA 2 26 ([qF,sZ]) a (fun y w2 x a=>ah (aa a ac ?_))));have ⟨d,e⟩:=dT (p:=(z:Int)<(0:Int)) oM;refine lB 4 d (ak (aa a ac (lV 6 (mV (18446744073709551616-ab z)) ?_ (hr:=rU (z) kR (by rw[IntKind.wrap_u64];unfold ab;omega)))));refine lV 7 (mV (ab z)) ?_ (hr:=rU ((0-((18446744073709551616-ab z:Nat):Int))) kR (by rw[IntKind.wrap_u64];omega));refine lC 8 a (o4 (ab z) oM _ _ a.g) ?_;rintro _ u _ a ⟨j,o,rfl,b,c⟩;replace a:=a.aS c;refine lC 9 a (rI true (ab z) j o b _ _ a.g a.f.1) ?_;rintro _ _ _ a ⟨za,zb,rfl,i,l⟩;replace a:=a.aS l;exact lP 0 0 ([.bool (af (bu true (ab z))),qS za ((lim (ab (bu true (ab z)))).length) zb]) a (fun _ a=>ae a [(0,0,2)] (.agg #[.bool (af (bu true (ab z))),qS za ((lim (ab (bu true (ab z)))).length) zb]) (⟨_,_,rfl,i,a.f.1⟩))
theorem sT (z:Nat)(h1:z<9223372036854775808)(w:World)(h:Hp)(g:G w h):CR 36 #[nV z] w h (fun v h=>RI h v (bu false z)):=by
 have a:=sS g;refine go Tryz.func36 [(0,nV z)] rfl (ax (lA 2 26 ([qF,sZ]) a (fun y w2 x a=>ah (aa a ac ?_))));have ⟨d,e⟩:=dF (p:=(z:Int)<(0:Int)) oM;refine lB 4 d (ag (cK (aa a ac (lV 11 (mV z) ?_ (hr:=rU ((z:Int)) kR (a8 oM oM))))));refine lC 12 a (o4 z oM _ _ a.g) ?_;rintro _ u _ a ⟨j,o,rfl,b,c⟩;replace a:=a.aS c;refine lC 13 a (rI false z j o b _ _ a.g a.f.1) ?_;rintro _ _ _ a ⟨za,zb,rfl,i,l⟩;replace a:=a.aS l;exact lP 0 0 ([.bool (af (bu false z)),qS za ((lim (ab (bu false z))).length) zb]) a (fun _ a=>ae a [(0,0,2)] (.agg #[.bool (af (bu false z)),qS za ((lim (ab (bu false z))).length) zb]) (⟨_,_,rfl,i,a.f.1⟩))
theorem rE (z:Int)(h0 : -9223372036854775808<=z)(h1:z<9223372036854775808)(w:World)(h:Hp)(g:G w h):CR 36 #[iV z] w h (fun v h=>RI h v z):=by
 rcases Int.lt_or_le z 0 with hz|hz
 ·have e:bu true (ab z)=z:=by unfold bu ab;simp;omega
  have:=sK z hz h0 w h g;rw[e] at this
  exact this
 ·obtain ⟨n,rfl⟩:=Int.eq_ofNat_of_zero_le hz
  exact sT n oM w h g
theorem ia (a:Nat)(A:Option Addr)(c:Nat)(W:(lim a).length<=c)(b:Nat)(D:Option Addr)(d:Nat)(S:(lim b).length<=d)(L:(lim a).length<=4000000000)(J:(lim b).length<=4000000000)(w:World)(h:Hp)(g:G w h)(O:S3 A (lim a) h)(B:S3 D (lim b) h):CV 35 #[.slice A ((lim a).length) c,.slice D ((lim b).length) d] w h (iV (bX a b)):=by
 have e:=(((sS g).aS O).aS B);refine go Tryz.func35 [(0,qS A ((lim a).length) c),(1,qS D ((lim b).length) d)] rfl (aa e ac (ah (aa e [.c,.v (nV ((lim a).length)),.c,.v (nV ((lim b).length))] ?_)));cases o:((((lim a).length:Nat):Int) != (((lim b).length:Nat):Int))
 .
  have u:=aW o;refine lB 10 o (ag (cK (cQ (aa e [.c,.v (nV ((lim a).length))] (lV 18 (iV ((((lim a).length:Nat):Int)-1)) ?_ (hr:=rS ((((lim a).length:Nat)-1)) kR ((gL oM oM).trans oM)))))));refine lL e ac (aY ?_);refine bH _ (CG.loop (fun z Γ H=>∃ (m:Nat) (h_:Hp),z=m/\Γ=[(0,qS A ((lim a).length) c),(1,qS D ((lim b).length) d),(5,iV ((m:Int)-1))]/\SS w h H h_ [] [] [S3 D (lim b),S3 A (lim a)]/\m<=(lim a).length/\(lim a).length=(lim b).length/\(lim a).drop m=(lim b).drop m) _ ⟨(lim a).length,h,rfl,rfl,e.to _ _,nR _,oM,(by rw[z2 oM,z2 oM])⟩ ?_);rintro _ _ w2 ⟨m,V,C,rfl,e,X,p,i⟩;refine cQ (aa e ac ?_);cases l:(decide ((0:Int)<=((m:Int)-1:Int)))
  .
   have x:=oF l;refine lB 20 l (ag (CG.exit ?_))
   show CG _ _ _ _ _ _ _ _
   exact aa e ac (ae e [] (iV 0) (by rw[i5 (DJ (by obtain rfl:m=0:=oM;simpa using i))]))
  have x:=oT l;refine lB 20 l (ak (cK (cQ (kZ (cQ (cR 9 [] mixed e ao ?_))))));refine eV 0 23 (qS A ((lim a).length) c) (eV 1 24 (iV ((m:Int)-1)) (eX 2 25 A ((lim a).length) c 1 ((m:Int)-1) (m-1) ((e.f.2.1).ok oM) (eH 3 26 (mW ((lim a).getD (m-1) 0)) e ((e.f.2.1).el (m-1) oM) (eV 4 27 (qS D ((lim b).length) d) (eV 5 28 (iV ((m:Int)-1)) (eX 6 29 D ((lim b).length) d 1 ((m:Int)-1) (m-1) ((e.f.1).ok oM) (eH 7 30 (mW ((lim b).getD (m-1) 0)) e ((e.f.1).el (m-1) oM) ?_)))))));cases j:((((lim a).getD (m-1) 0:Nat):Int) != (((lim b).getD (m-1) 0:Nat):Int))
  .
   have y:=aW j;refine eB 8 31 j (bP e (fun Q M e=>tN (dr (cK (kQ (lL e ac (lV 22 (iV (((m-1:Nat):Int)-1)) ?_ (hr:=rS ((((m:Int)-1)-1)) kR ((gL oM oM).trans oM)))))))));refine lL e ac (lD ?_);intro U K;refine ⟨_,_,?_,⟨m-1,M,rfl,rfl,e.to _ _,oM,p,(fK (k:=m-1) p oM (by rw[show m-1+1=m by omega];exact i) oM)⟩,K.to _ kR⟩
   omega
  have y:=aN j;refine eB 8 31 j (bP e (fun _ _ e=>tN (co (cQ (cQ (cR 9 [] mixed e ao ?_))))));refine eV 0 32 (qS A ((lim a).length) c) (eV 1 33 (iV ((m:Int)-1)) (eX 2 34 A ((lim a).length) c 1 ((m:Int)-1) (m-1) ((e.f.2.1).ok oM) (eH 3 35 (mW ((lim a).getD (m-1) 0)) e ((e.f.2.1).el (m-1) oM) (eV 4 36 (qS D ((lim b).length) d) (eV 5 37 (iV ((m:Int)-1)) (eX 6 38 D ((lim b).length) d 1 ((m:Int)-1) (m-1) ((e.f.1).ok oM) (eH 7 39 (mW ((lim b).getD (m-1) 0)) e ((e.f.1).el (m-1) oM) ?_)))))));cases za:(decide ((((lim a).getD (m-1) 0:Nat):Int)<(((lim b).getD (m-1) 0:Nat):Int)))
  .
   have F:=oF za;exact eB 8 40 za (bP e (fun _ _ e=>tN (dr (cK (aa e ac (ae e [] (iV 1) (by rw[fM (by first|exact gH oM|exact ib (k:=m-1) oM oM (by rw[show m-1+1=m by omega];exact i.symm) oM)])))))))
  have F:=oT za;exact eB 8 40 za (bP e (fun _ _ e=>tN (co (aa e ac (ae e [] (iV (-1)) (by rw[dY (by first|exact gH oM|exact ib (k:=m-1) oM oM (by rw[show m-1+1=m by omega];exact i) oM)]))))))
 have u:=aN o;refine lB 10 o (ak (cQ (aa e [.c,.v (nV ((lim a).length)),.c,.v (nV ((lim b).length))] ?_)));cases zb:(decide ((((lim a).length:Nat):Int)<(((lim b).length:Nat):Int)))
 .
  have I:=oF zb;exact lB 15 zb (ag (cK (aa e ac (ae e [] (iV 1) (by rw[fM (by first|exact gH oM|exact ib (k:=m-1) oM oM (by rw[show m-1+1=m by omega];exact i.symm) oM)])))))
 have I:=oT zb;exact lB 15 zb (ak (aa e ac (ae e [] (iV (-1)) (by rw[dY (by first|exact gH oM|exact ib (k:=m-1) oM oM (by rw[show m-1+1=m by omega];exact i) oM)]))))
theorem HX (A:Option Addr)(c:Nat)(l:List Nat)(m:Nat)(p:l.length=m)(i:Nat)(hi:i<=1099511627776)(j:Ld l)(w:World)(h:Hp)(g:G w h)(e:S3 A l h):CV 165 #[.slice A m c,nV i] w h (mV (l.getD i 0)):=by
 have a:=((sS g).aS e);have o:=j.get i;refine go Tryz.func165 [(0,qS A m c),(1,nV i)] rfl (aa a ac (ah (aa a [.c,.c,.v (nV m)] ?_)));cases b:(decide ((i:Int)<(m:Int)))
 .
  have d:=oF b;exact lB 8 b (ag (cK (aa a ac (ae a [] (uV 0) (by rw[cn oM];rfl)))))
 have d:=oT b;refine lB 8 b (ak (aa a aD (lX 11 A m c 1 (i:Nat) i ((a.f.1).ok oM) ?_)));refine lH 12 (mW (l.getD i 0)) a ((a.f.1).el i oM) (lV 13 (mV (l.getD i 0)) ?_ (hr:=rU (((l.getD i 0:Nat):Int)) kR (a8 oM oM)));exact lL a ac (ae a [] (mV (l.getD i 0)) rfl)
theorem tE (a:Nat)(A:Option Addr)(c:Nat)(hc:(lim a).length<=c)(b:Nat)(D:Option Addr)(d:Nat)(hd:(lim b).length<=d)(X:(lim a).length<=4000000000)(V:(lim b).length<=4000000000)(w:World)(h:Hp)(g:G w h)(Z:S3 A (lim a) h)(L:S3 D (lim b) h):CR 141 #[.slice A ((lim a).length) c,.slice D ((lim b).length) d] w h (fun v h1=>RN h1 v (a+b)):=by
 have e:=(((sS g).aS Z).aS L);refine go Tryz.func141 [(0,qS A ((lim a).length) c),(1,qS D ((lim b).length) d)] rfl (aa e ac (aG (lL e [.c,.v (nV ((lim a).length)),.c,.v (nV ((lim b).length))] (lV 13 (nV (max (lim a).length (lim b).length)) ?_ (hr:=aI (n:=if (((lim b).length:Nat):Int)>(((lim a).length:Nat):Int) then (((lim b).length:Nat):Int) else (((lim a).length:Nat):Int)) kR (by split<;>omega))))));refine lL e ac (aG (lL e ac (bh 15 (((max (lim a).length (lim b).length):Nat)+1) (((max (lim a).length (lim b).length):Nat)+1) ?_)));refine lK 16 141 (((max (lim a).length (lim b).length):Nat)+1:Nat) 1 4 (uW 0) az 0 e (fun x w2 S e=>?_);have C:(As (((max (lim a).length (lim b).length):Nat)+1:Nat) 0).length=(((max (lim a).length (lim b).length):Nat)+1:Nat):=by simp
 refine lL e ac (aG (lL e ac (ah (aa e ac (aY ?_)))));refine bH _ (CG.loop (fun H Γ O=>∃ (i:Nat) (z:List Nat) (j:Nat) (h_:Hp),H=(max (lim a).length (lim b).length)+1-i/\Γ=[(0,qS A ((lim a).length) c),(1,qS D ((lim b).length) d),(4,sZ),(5,nV (max (lim a).length (lim b).length)),(6,qS (sB x) (((max (lim a).length (lim b).length):Nat)+1:Nat) (((max (lim a).length (lim b).length):Nat)+1:Nat)),(8,nV i),(7,mV j)]/\SS w h O h_ [⟨x,141,(z).flatMap az⟩] [] [S3 D (lim b),S3 A (lim a)]/\i<=(max (lim a).length (lim b).length)+1/\z.length=(max (lim a).length (lim b).length)+1/\Ld z/\j<=1/\ai 4294967296 z+4294967296^i*j=ai 4294967296 ((lim a).take i)+ai 4294967296 ((lim b).take i)/\(∀ k,i<=k->z.getD k 0=0)) _ ⟨0,As (((max (lim a).length (lim b).length):Nat)+1:Nat) 0,0,S,rfl,rfl,e.to _ _,MG _,C,Ld.rep _,oM,(by rw[dM];simp[ai]),fun k _=>ee⟩ ?_);rintro _ _ w5 ⟨i,z,j,h6,Y,rfl,e,hi,p,K,U,inv,hz⟩;have M:=(Ld.lim a).get i;have hbi:=(Ld.lim b).get i;refine cQ (aa e aD ?_);cases u:(decide ((i:Int)<=(((max (lim a).length (lim b).length):Nat):Int)))
 .
  have B:=oF u;refine lB 19 u (ag (CG.exit ?_))
  show CG _ _ _ _ _ _ _ _
  refine aa e ac ?_;have F:i=(max (lim a).length (lim b).length)+1:=by omega
  rw[Mu (show (lim a).length<=i by omega),Mu (show (lim b).length<=i by omega),da,da,F,<-p] at inv
  have Q:ai 4294967296 z=a+b:=tM inv (by rw[p];exact e5 (cC _) (L3 kD (iP oM oM)));obtain ⟨h9,e,y,I,J⟩:=e.pub 0;replace e:=(e.to [] []).aS (SlO.of_flat (sz:=1) (f:=az) (d:=0) (b:=x) (o:=0) (l:=z) (fun _=>rfl) y);exact ar 39 e (jj (sB x) (((max (lim a).length (lim b).length):Nat)+1:Nat) z (((max (lim a).length (lim b).length):Nat)+1:Nat) p oM oM _ _ e.g e.f.1) (fun _ _ e=>lL e ac (ae e [] (qS (sB x) (tl z (((max (lim a).length (lim b).length):Nat)+1:Nat)) (((max (lim a).length (lim b).length):Nat)+1:Nat)) (RN.trim K Q p (nR _) e.f.1)))
 have B:=oT u;refine lB 19 u (ak (cK (cQ (kZ (aa e di (ar 25 e (HX A c (lim a) ((lim a).length) rfl i oM (Ld.lim _) _ _ e.g e.f.2.1) (fun _ _ e=>lV 26 (mV (j+((lim a).getD i 0))) ?_ (hr:=rU (((j:Int)+(((lim a).getD i 0:Nat):Int))) kR (eE j ((lim a).getD i 0) oM)))))))));refine lL e aD (ar 29 e (HX D d (lim b) ((lim b).length) rfl i oM (Ld.lim _) _ _ e.g e.f.1) (fun _ zb e=>lV 30 (mV ((j+((lim a).getD i 0):Nat)+((lim b).getD i 0))) ?_ (hr:=rU ((((j+((lim a).getD i 0):Nat):Int)+(((lim b).getD i 0:Nat):Int))) kR (eE (j+((lim a).getD i 0):Nat) ((lim b).getD i 0) oM))));refine lL e ac (aG (lL e di (lV 34 (mW (((j+((lim a).getD i 0):Nat)+((lim b).getD i 0):Nat)%4294967296)) ?_ (hr:=rT ((((j+((lim a).getD i 0):Nat)+((lim b).getD i 0):Nat):Int)) kR (gX _)))));refine lX 35 (sB x) (((max (lim a).length (lim b).length):Nat)+1:Nat) (((max (lim a).length (lim b).length):Nat)+1:Nat) 1 (i:Nat) i rfl (lW 0 z az 1 i (((j+((lim a).getD i 0):Nat)+((lim b).getD i 0):Nat)%4294967296:Nat) e oM (fun _ e=>?_));have za:((z).set i (((j+((lim a).getD i 0):Nat)+((lim b).getD i 0):Nat)%4294967296:Nat)).length=(((max (lim a).length (lim b).length):Nat)+1:Nat):=by rw[LB];exact p
 replace e:=e.to [⟨x,141,((z).set i (((j+((lim a).getD i 0):Nat)+((lim b).getD i 0):Nat)%4294967296:Nat)).flatMap az⟩] [];refine lN (kQ (lL e ac (lV 37 (mV (((j+((lim a).getD i 0):Nat)+((lim b).getD i 0):Nat)/4294967296)) ?_ (hr:=aI (n:=MU (((j+((lim a).getD i 0):Nat)+((lim b).getD i 0):Nat):Int) 4294967296) kR (ef _ 4294967296)))));refine lL e ac (lN (kQ (lL e ac (bh 21 ((i:Nat)+1) (i+1) ?_))));refine lL e ac (lD ?_);intro a_ W;refine ⟨_,_,?_,⟨i+1,(z).set i (((j+((lim a).getD i 0):Nat)+((lim b).getD i 0):Nat)%4294967296:Nat),(((j+((lim a).getD i 0):Nat)+((lim b).getD i 0):Nat)/4294967296:Nat),zb,rfl,rfl,e.to _ _,oM,za,(K.set _ oM),oM,(by rw[xv (t:=(lim a).getD i 0+(lim b).getD i 0) oM (hz i (nR _)) inv oM,aF,aF,Mg];omega),(qe oM hz)⟩,W.to _ kR⟩
 omega
theorem kU (a:Nat)(A:Option Addr)(c:Nat)(hc:(lim a).length<=c)(b:Nat)(D:Option Addr)(d:Nat)(hd:(lim b).length<=d)(hLa:(lim a).length<=4000000000)(hLb:(lim b).length<=4000000000)(B:b<=a)(w:World)(h:Hp)(g:G w h)(hA:S3 A (lim a) h)(V:S3 D (lim b) h):CR 142 #[.slice A ((lim a).length) c,.slice D ((lim b).length) d] w h (fun v h1=>RN h1 v (a-b)):=by
 have e:=(((sS g).aS hA).aS V);have Z:=dG B;refine go Tryz.func142 [(0,qS A ((lim a).length) c),(1,qS D ((lim b).length) d)] rfl (aa e ac (aG (lL e [.c,.v (nV ((lim a).length))] (lK 11 141 ((lim a).length) 1 4 (uW 0) az 0 e (fun x w2 Y e=>?_)))));have I:(As ((lim a).length) 0).length=((lim a).length):=by simp
 refine lL e ac (aG (lL e ac (ah (aa e ac (aY ?_)))));refine bH _ (CG.loop (fun L Γ W=>∃ (i:Nat) (z:List Nat) (j:Nat) (h_:Hp),L=(lim a).length-i/\Γ=[(0,qS A ((lim a).length) c),(1,qS D ((lim b).length) d),(4,sZ),(5,qS (sB x) ((lim a).length) ((lim a).length)),(7,nV i),(6,mV j)]/\SS w h W h_ [⟨x,141,(z).flatMap az⟩] [] [S3 D (lim b),S3 A (lim a)]/\i<=(lim a).length/\z.length=(lim a).length/\Ld z/\j<=1/\ai 4294967296 z+ai 4294967296 ((lim b).take i)=ai 4294967296 ((lim a).take i)+4294967296^i*j/\(∀ k,i<=k->z.getD k 0=0)) _ ⟨0,As ((lim a).length) 0,0,Y,rfl,rfl,e.to _ _,MG _,I,Ld.rep _,oM,(by rw[dM];simp[ai]),fun k _=>ee⟩ ?_);rintro _ _ w5 ⟨i,z,j,h6,hm7,rfl,e,hi,p,M,Q,inv,hz⟩;have J:=(Ld.lim a).get i;have O:=(Ld.lim b).get i;refine cQ (aa e [.c,.c,.v (nV ((lim a).length))] ?_);cases u:(decide ((i:Int)<(((lim a).length:Nat):Int)))
 .
  have H:=oF u;refine lB 15 u (ag (CG.exit ?_))
  show CG _ _ _ _ _ _ _ _
  refine aa e ac ?_;have K:i=(lim a).length:=by omega
  rw[Mu (show (lim a).length<=i by omega),Mu (show (lim b).length<=i by omega),da,da,K,<-p] at inv
  have X:ai 4294967296 z=a-b:=AP M inv B;obtain ⟨h9,e,C,S,U⟩:=e.pub 0;replace e:=(e.to [] []).aS (SlO.of_flat (sz:=1) (f:=az) (d:=0) (b:=x) (o:=0) (l:=z) (fun _=>rfl) C);exact ar 37 e (jj (sB x) ((lim a).length) z ((lim a).length) p oM oM _ _ e.g e.f.1) (fun _ _ e=>lL e ac (ae e [] (qS (sB x) (tl z ((lim a).length)) ((lim a).length)) (RN.trim M X p (nR _) e.f.1)))
 have H:=oT u;refine lB 15 u (ak (cK (cQ (kZ (cQ (cR 11 [] mixed e ao ?_))))));refine eV 0 18 (qS A ((lim a).length) c) (eV 1 19 (nV i) (eX 2 20 A ((lim a).length) c 1 (i:Nat) i ((e.f.2.1).ok oM) (eH 3 21 (mW ((lim a).getD i 0)) e ((e.f.2.1).el i oM) (eV 4 22 (mV ((lim a).getD i 0)) ?_ (hv:=fun _=>rU ((((lim a).getD i 0:Nat):Int)) kR (a8 oM oM))))));refine eV 5 23 (qS D ((lim b).length) d) (eV 6 24 (nV i) (eV 9 27 (mV j) (au 7 25 e (fun _ _ e=>HX D d (lim b) ((lim b).length) rfl i oM (Ld.lim _) _ _ e.g e.f.1) (fun _ _ e=>eV 8 26 (mV ((((lim a).getD i 0)+(18446744073709551616-((lim b).getD i 0)))%18446744073709551616)) ?_ (hv:=fun _=>rU (((((lim a).getD i 0:Nat):Int)-(((lim b).getD i 0:Nat):Int))) kR (kI ((lim a).getD i 0) ((lim b).getD i 0) oM))))));refine eV 10 28 (mV ((((((lim a).getD i 0)+(18446744073709551616-((lim b).getD i 0)))%18446744073709551616:Nat)+(18446744073709551616-j))%18446744073709551616)) ?_ (hv:=fun _=>rU (((((((lim a).getD i 0)+(18446744073709551616-((lim b).getD i 0)))%18446744073709551616:Nat):Int)-(j:Int))) kR (kI ((((lim a).getD i 0)+(18446744073709551616-((lim b).getD i 0)))%18446744073709551616:Nat) j oM));refine bP e (fun _ zb e=>tV 11 8 (mV ((((((lim a).getD i 0)+(18446744073709551616-((lim b).getD i 0)))%18446744073709551616:Nat)+(18446744073709551616-j))%18446744073709551616)) (rD ?_));obtain ⟨t,ht⟩:∃ t,t=((((((lim a).getD i 0)+(18446744073709551616-((lim b).getD i 0)))%18446744073709551616:Nat)+(18446744073709551616-j))%18446744073709551616:Nat):=⟨_,rfl⟩;obtain ⟨F,y⟩:=Bt J O Q ht;rw[ht] at F y
 refine lL e di (lV 32 (mW (((((((lim a).getD i 0)+(18446744073709551616-((lim b).getD i 0)))%18446744073709551616:Nat)+(18446744073709551616-j))%18446744073709551616:Nat)%4294967296)) ?_ (hr:=rT ((((((((lim a).getD i 0)+(18446744073709551616-((lim b).getD i 0)))%18446744073709551616:Nat)+(18446744073709551616-j))%18446744073709551616:Nat):Int)) kR (gX _)));refine lX 33 (sB x) ((lim a).length) ((lim a).length) 1 (i:Nat) i rfl (lW 0 z az 1 i (((((((lim a).getD i 0)+(18446744073709551616-((lim b).getD i 0)))%18446744073709551616:Nat)+(18446744073709551616-j))%18446744073709551616:Nat)%4294967296:Nat) e oM (fun _ e=>?_));have za:((z).set i (((((((lim a).getD i 0)+(18446744073709551616-((lim b).getD i 0)))%18446744073709551616:Nat)+(18446744073709551616-j))%18446744073709551616:Nat)%4294967296:Nat)).length=((lim a).length):=by rw[LB];exact p
 replace e:=e.to [⟨x,141,((z).set i (((((((lim a).getD i 0)+(18446744073709551616-((lim b).getD i 0)))%18446744073709551616:Nat)+(18446744073709551616-j))%18446744073709551616:Nat)%4294967296:Nat)).flatMap az⟩] [];refine lN (kQ (lL e ac (lV 35 (mV (((((((lim a).getD i 0)+(18446744073709551616-((lim b).getD i 0)))%18446744073709551616:Nat)+(18446744073709551616-j))%18446744073709551616:Nat)/9223372036854775808)) ?_ (hr:=aI (n:=MU (((((((lim a).getD i 0)+(18446744073709551616-((lim b).getD i 0)))%18446744073709551616:Nat)+(18446744073709551616-j))%18446744073709551616:Nat):Int) 9223372036854775808) kR (ef _ 9223372036854775808)))));refine lL e ac (lN (kQ (lL e ac (bh 17 ((i:Nat)+1) (i+1) ?_))));refine lL e ac (lD ?_);intro a_ ka;refine ⟨_,_,?_,⟨i+1,(z).set i (((((((lim a).getD i 0)+(18446744073709551616-((lim b).getD i 0)))%18446744073709551616:Nat)+(18446744073709551616-j))%18446744073709551616:Nat)%4294967296:Nat),(((((((lim a).getD i 0)+(18446744073709551616-((lim b).getD i 0)))%18446744073709551616:Nat)+(18446744073709551616-j))%18446744073709551616:Nat)/9223372036854775808:Nat),zb,rfl,rfl,e.to _ _,oM,za,(M.set _ oM),y,(CM oM (hz i (nR _)) inv F),(qe oM hz)⟩,ka.to _ kR⟩
 omega
theorem GJ {x y:Nat}(a:x<4294967296)(b:y<4294967296):x*y<=18446744065119617025:=MP (show x<=4294967295 by omega) (show y<=4294967295 by omega)
theorem wo {a b q r:Nat}(h:a=b*q+r)(hr:r<b):q=a/b/\r=a%b:=by
 subst h;rw[MS oM,LP hr,Nat.mul_add_mod,A0 hr];simp
theorem nu {l:List Nat}{k j x:Nat}(hk:k<l.length)(h:∀ i,j<=i->l.getD i 0=0)(a:k<j):∀ i,j<=i->(l.set k x).getD i 0=0:=fun i hi=>by rw[bw hk,if_neg oM];exact h i hi
theorem o9 (a:Nat)(A:Option Addr)(c:Nat)(hc:(lim a).length<=c)(b:Nat)(D:Option Addr)(d:Nat)(hd:(lim b).length<=d)(hLa:(lim a).length<=4000000000)(hLb:(lim b).length<=4000000000)(w:World)(h:Hp)(g:G w h)(hA:S3 A (lim a) h)(Z:S3 D (lim b) h):CR 110 #[.slice A ((lim a).length) c,.slice D ((lim b).length) d] w h (fun v h1=>RN h1 v (a*b)):=by
 have e:=(((sS g).aS hA).aS Z);refine go Tryz.func110 [(0,qS A ((lim a).length) c),(1,qS D ((lim b).length) d)] rfl (aa e ac (aG (lL e [.c,.v (nV ((lim a).length)),.c,.v (nV ((lim b).length))] (bh 13 (((lim a).length:Nat)+((lim b).length:Nat)) (((lim a).length)+((lim b).length)) ?_))));refine lK 14 141 (((lim a).length)+((lim b).length):Nat) 1 4 (uW 0) az 0 e (fun u w2 h3 e=>?_);have K:(As (((lim a).length)+((lim b).length):Nat) 0).length=(((lim a).length)+((lim b).length):Nat):=by simp
 refine lL e ac (ah (aa e ac (aY ?_)));refine bH _ (CG.loop (fun C Γ M=>∃ (i:Nat) (l:List Nat) (h_:Hp),C=(lim a).length-i/\Γ=[(0,qS A ((lim a).length) c),(1,qS D ((lim b).length) d),(4,sZ),(5,qS (sB u) (((lim a).length)+((lim b).length):Nat) (((lim a).length)+((lim b).length):Nat)),(6,nV i)]/\SS w h M h_ [⟨u,141,(l).flatMap az⟩] [] [S3 D (lim b),S3 A (lim a)]/\i<=(lim a).length/\l.length=(lim a).length+(lim b).length/\Ld l/\ai 4294967296 l=ai 4294967296 ((lim a).take i)*b/\(∀ k,i+(lim b).length<=k->l.getD k 0=0)) _ ⟨0,As (((lim a).length)+((lim b).length):Nat) 0,h3,rfl,rfl,e.to _ _,MG _,K,Ld.rep _,(by rw[dM];simp[ai]),fun k _=>ee⟩ ?_);rintro _ _ w5 ⟨i,l,h6,hm7,rfl,e,hi,F,X,hv,hz⟩;have L:=(Ld.lim a).get i;refine cQ (aa e [.c,.c,.v (nV ((lim a).length))] ?_);cases x:(decide ((i:Int)<(((lim a).length:Nat):Int)))
 .
  have J:=oF x;refine lB 18 x (ag (CG.exit ?_))
  show CG _ _ _ _ _ _ _ _
  refine aa e ac ?_;have S:i=(lim a).length:=by omega
  rw[S,y8,da] at hv
  have hE:ai 4294967296 l=a*b:=hv;obtain ⟨h9,e,H,W,V⟩:=e.pub 0;replace e:=(e.to [] []).aS (SlO.of_flat (sz:=1) (f:=az) (d:=0) (b:=u) (o:=0) (l:=l) (fun _=>rfl) H);exact ar 66 e (jj (sB u) (((lim a).length)+((lim b).length):Nat) l (((lim a).length)+((lim b).length):Nat) F oM oM _ _ e.g e.f.1) (fun _ _ e=>lL e ac (ae e [] (qS (sB u) (tl l (((lim a).length)+((lim b).length):Nat)) (((lim a).length)+((lim b).length):Nat)) (RN.trim X hE F (nR _) e.f.1)))
 have J:=oT x;refine lB 18 x (ak (cK (cQ (kZ (aa e ac (ah (aa e ac (aY ?_))))))));refine bH _ (CG.loop (fun C Γ M=>∃ (j:Nat) (l2:List Nat) (p:Nat) (h_:Hp),C=(lim b).length-j/\Γ=[(0,qS A ((lim a).length) c),(1,qS D ((lim b).length) d),(4,sZ),(5,qS (sB u) (((lim a).length)+((lim b).length):Nat) (((lim a).length)+((lim b).length):Nat)),(6,nV i),(8,nV j),(7,mV p)]/\SS w h M h_ [⟨u,141,(l2).flatMap az⟩] [] [S3 D (lim b),S3 A (lim a)]/\j<=(lim b).length/\l2.length=(lim a).length+(lim b).length/\Ld l2/\p<4294967296/\ai 4294967296 l2+4294967296^(i+j)*p=ai 4294967296 l+4294967296^i*((lim a).getD i 0*ai 4294967296 ((lim b).take j))/\(∀ k,i+(lim b).length<=k->l2.getD k 0=0)) _ ⟨0,l,0,h6,rfl,rfl,e.to _ _,MG _,F,X,by omega,(by simp[ai]),hz⟩ ?_);rintro _ _ _ ⟨j,l2,p,ze,Y,rfl,e,hj,y,z,hcy,inv,B⟩;have Q:=(Ld.lim b).get j;have hlk:=z.get (i+j);have hxy:=GJ L Q;refine cQ (aa e [.c,.c,.v (nV ((lim b).length))] ?_);cases za:(decide ((j:Int)<(((lim b).length:Nat):Int)))
 .
  have zb:=oF za;refine lB 24 za (ag (CG.exit ?_))
  show CG _ _ _ _ _ _ _ _
  refine kQ (lL e [.c,.c,.c,.v (nV ((lim b).length))] (bh 61 ((i:Nat)+((lim b).length:Nat)) (i+((lim b).length)) ?_));refine lL e ac (lV 63 (mW (p%4294967296)) ?_ (hr:=rT ((p:Int)) kR (gX _)));refine lX 64 (sB u) (((lim a).length)+((lim b).length):Nat) (((lim a).length)+((lim b).length):Nat) 1 (i+((lim b).length):Nat) (i+((lim b).length):Nat) rfl (lW 0 l2 az 1 (i+((lim b).length):Nat) (p%4294967296) e oM (fun _ e=>?_));have zc:((l2).set (i+((lim b).length):Nat) (p%4294967296)).length=(((lim a).length)+((lim b).length):Nat):=by rw[LB];exact y
  replace e:=e.to [⟨u,141,((l2).set (i+((lim b).length):Nat) (p%4294967296)).flatMap az⟩] [];refine lN (kQ (lL e ac (bh 20 ((i:Nat)+1) (i+1) ?_)));refine lL e ac (lD ?_);intro a_ O;refine ⟨_,_,?_,⟨i+1,(l2).set (i+((lim b).length):Nat) (p%4294967296),ze,rfl,rfl,e.to _ _,oM,zc,(z.set _ oM),(by have U:j=(lim b).length:=oM;rw[U] at inv;have I:=ut oM inv (B _ oM);rw[da] at I;rw[show p%4294967296=p by omega];exact I.trans (ux hv)),(nu oM (fun k hk=>B k oM) oM)⟩,O.to _ kR⟩
  omega
 have zb:=oT za;refine lB 24 za (ak (cK (cQ (kZ (cQ (cR 21 [] mixed e ao ?_))))));refine eV 0 27 (mV p) (eV 1 28 (qS (sB u) (((lim a).length)+((lim b).length):Nat) (((lim a).length)+((lim b).length):Nat)) (eV 2 29 (nV i) (eV 3 30 (nV j) (jX 4 31 ((i:Nat)+(j:Nat)) (i+j) (eX 5 32 (sB u) (((lim a).length)+((lim b).length):Nat) (((lim a).length)+((lim b).length):Nat) 1 (i+j:Nat) (i+j) rfl (eQ 6 33 0 l2 az 1 0 (i+j) (mW ((l2).getD (i+j) 0)) e oM (eV 7 34 (mV ((l2).getD (i+j) 0)) ?_ (hv:=fun _=>rU ((((l2).getD (i+j) 0:Nat):Int)) kR (a8 oM oM)))))))));refine eV 8 35 (mV (p+((l2).getD (i+j) 0))) ?_ (hv:=fun _=>rU (((p:Int)+(((l2).getD (i+j) 0:Nat):Int))) kR (eE p ((l2).getD (i+j) 0) oM));refine eV 9 36 (qS A ((lim a).length) c) (eV 10 37 (nV i) (eX 11 38 A ((lim a).length) c 1 (i:Nat) i ((e.f.2.1).ok oM) (eH 12 39 (mW ((lim a).getD i 0)) e ((e.f.2.1).el i oM) (eV 13 40 (mV ((lim a).getD i 0)) ?_ (hv:=fun _=>rU ((((lim a).getD i 0:Nat):Int)) kR (a8 oM oM))))));refine eV 14 41 (qS D ((lim b).length) d) (eV 15 42 (nV j) (eX 16 43 D ((lim b).length) d 1 (j:Nat) j ((e.f.1).ok oM) (eH 17 44 (mW ((lim b).getD j 0)) e ((e.f.1).el j oM) (eV 18 45 (mV ((lim b).getD j 0)) ?_ (hv:=fun _=>rU ((((lim b).getD j 0:Nat):Int)) kR (a8 oM oM))))));refine eV 19 46 (mV (((lim a).getD i 0)*((lim b).getD j 0))) ?_ (hv:=fun _=>rU (((((lim a).getD i 0:Nat):Int)*(((lim b).getD j 0:Nat):Int))) kR (jm ((lim a).getD i 0) ((lim b).getD j 0) oM));refine eV 20 47 (mV ((p+((l2).getD (i+j) 0):Nat)+(((lim a).getD i 0)*((lim b).getD j 0):Nat))) ?_ (hv:=fun _=>rU ((((p+((l2).getD (i+j) 0):Nat):Int)+((((lim a).getD i 0)*((lim b).getD j 0):Nat):Int))) kR (eE (p+((l2).getD (i+j) 0):Nat) (((lim a).getD i 0)*((lim b).getD j 0):Nat) oM));refine bP e (fun _ zf e=>tV 21 7 (mV ((p+((l2).getD (i+j) 0):Nat)+(((lim a).getD i 0)*((lim b).getD j 0):Nat))) (rD (lL e di (bh 51 ((i:Nat)+(j:Nat)) (i+j) ?_))));refine lL e ac (lV 53 (mW (((p+((l2).getD (i+j) 0):Nat)+(((lim a).getD i 0)*((lim b).getD j 0):Nat):Nat)%4294967296)) ?_ (hr:=rT ((((p+((l2).getD (i+j) 0):Nat)+(((lim a).getD i 0)*((lim b).getD j 0):Nat):Nat):Int)) kR (gX _)));refine lX 54 (sB u) (((lim a).length)+((lim b).length):Nat) (((lim a).length)+((lim b).length):Nat) 1 (i+j:Nat) (i+j) rfl (lW 0 l2 az 1 (i+j) (((p+((l2).getD (i+j) 0):Nat)+(((lim a).getD i 0)*((lim b).getD j 0):Nat):Nat)%4294967296:Nat) e oM (fun _ e=>?_));have zd:((l2).set (i+j) (((p+((l2).getD (i+j) 0):Nat)+(((lim a).getD i 0)*((lim b).getD j 0):Nat):Nat)%4294967296:Nat)).length=(((lim a).length)+((lim b).length):Nat):=by rw[LB];exact y
 replace e:=e.to [⟨u,141,((l2).set (i+j) (((p+((l2).getD (i+j) 0):Nat)+(((lim a).getD i 0)*((lim b).getD j 0):Nat):Nat)%4294967296:Nat)).flatMap az⟩] [];refine lN (kQ (lL e ac (lV 56 (mV (((p+((l2).getD (i+j) 0):Nat)+(((lim a).getD i 0)*((lim b).getD j 0):Nat):Nat)/4294967296)) ?_ (hr:=aI (n:=MU (((p+((l2).getD (i+j) 0):Nat)+(((lim a).getD i 0)*((lim b).getD j 0):Nat):Nat):Int) 4294967296) kR (ef _ 4294967296)))));refine lL e ac (lN (bH [(0,qS A ((lim a).length) c),(1,qS D ((lim b).length) d),(4,sZ),(5,qS (sB u) (((lim a).length)+((lim b).length):Nat) (((lim a).length)+((lim b).length):Nat)),(6,nV i),(8,nV j),(7,mV (((p+((l2).getD (i+j) 0):Nat)+(((lim a).getD i 0)*((lim b).getD j 0):Nat):Nat)/4294967296))] ?_));refine kQ (lL e ac (bh 26 ((j:Nat)+1) (j+1) ?_));refine lL e ac (lD ?_);intro a_ O;refine ⟨_,_,?_,⟨j+1,(l2).set (i+j) (((p+((l2).getD (i+j) 0):Nat)+(((lim a).getD i 0)*((lim b).getD j 0):Nat):Nat)%4294967296:Nat),(((p+((l2).getD (i+j) 0):Nat)+(((lim a).getD i 0)*((lim b).getD j 0):Nat):Nat)/4294967296:Nat),zf,rfl,rfl,e.to _ _,oM,zd,(z.set _ oM),oM,(mi oM inv oM),(nu oM B oM)⟩,O.to _ kR⟩
 omega
theorem Kw (a:Nat)(A:Option Addr)(c:Nat)(hc:(lim a).length<=c)(hLa:(lim a).length<=4000000000)(d:Nat)(I:0<d)(W:d<4294967296)(w:World)(h:Hp)(g:G w h)(hA:S3 A (lim a) h):CR 163 #[.slice A ((lim a).length) c,mW d] w h (fun v h1=>∃ V,∃ r:Nat,v=.tuple #[V,mW r]/\RN h1 V (a/d)/\r=a%d):=by
 have e:=((sS g).aS hA);refine go Tryz.func163 [(0,qS A ((lim a).length) c),(1,mW d)] rfl (aa e aD (aG (lL e [.c,.v (nV ((lim a).length))] (lK 11 141 ((lim a).length) 1 4 (uW 0) az 0 e (fun B w2 h3 e=>?_)))));have K:(As ((lim a).length) 0).length=((lim a).length):=by simp
 refine lL e ac (aG (lL e ac (ah (aa e [.c,.v (nV ((lim a).length))] (lV 14 (iV ((((lim a).length:Nat):Int)-1)) ?_ (hr:=rS ((((lim a).length:Nat)-1)) kR ((gL oM oM).trans oM)))))));refine lL e ac (aY ?_);refine bH _ (CG.loop (fun O Γ X=>∃ (m:Nat) (z:List Nat) (r:Nat) (h_:Hp),O=m/\Γ=[(0,qS A ((lim a).length) c),(1,mW d),(4,sZ),(5,uW 0),(6,qS (sB B) ((lim a).length) ((lim a).length)),(8,iV ((m:Int)-1)),(7,mV r)]/\SS w h X h_ [⟨B,141,(z).flatMap az⟩] [] [S3 A (lim a)]/\m<=(lim a).length/\z.length=(lim a).length/\Ld z/\a=d*ai 4294967296 z+(4294967296^m*r+ai 4294967296 ((lim a).take m))/\r<d/\(∀ k,k<m->z.getD k 0=0)) _ ⟨(lim a).length,As ((lim a).length) 0,0,h3,rfl,rfl,e.to _ _,nR _,K,Ld.rep _,(by rw[dM,y8,da];simp),I,fun k _=>ee⟩ ?_);rintro _ _ w5 ⟨m,z,r,Z,hm7,rfl,e,hm,j,Q,inv,hr,hz⟩;have C:=(Ld.lim a).get (m-1);refine cQ (aa e ac ?_);cases i:(decide ((0:Int)<=((m:Int)-1:Int)))
 .
  have H:=oF i;refine lB 16 i (ag (CG.exit ?_))
  show CG _ _ _ _ _ _ _ _
  refine aa e ac ?_;have M:m=0:=by omega
  rw[M,L9,Mw,List.take_zero] at inv
  have F:a=d*ai 4294967296 z+r:=by simpa [ai] using inv
  obtain ⟨L,J⟩:=wo F hr;have Y:ai 4294967296 z=a/d:=L;obtain ⟨h9,e,D,S,U⟩:=e.pub 0;replace e:=(e.to [] []).aS (SlO.of_flat (sz:=1) (f:=az) (d:=0) (b:=B) (o:=0) (l:=z) (fun _=>rfl) D);refine ar 40 e (jj (sB B) ((lim a).length) z ((lim a).length) j oM oM _ _ e.g e.f.1) (fun _ _ e=>lL e ac (lV 42 (mW r) ?_ (hr:=aI (aI (n:=IntKind.wrap .u32 (r:Int)) kR (gX _)) oM)));exact lL e aD (ae e [] (.tuple #[qS (sB B) (tl z ((lim a).length)) ((lim a).length),mW r]) (⟨_,r,rfl,RN.trim Q Y j (nR _) e.f.1,J⟩))
 have H:=oT i;refine lB 16 i (ak (cK (cQ (kZ (aa e ac (lV 20 (mV (r*4294967296%18446744073709551616)) ?_ (hr:=rU (((r:Int)*4294967296)) kR (j4 r 4294967296))))))));refine lL e aD (lX 23 A ((lim a).length) c 1 ((m:Int)-1) (m-1) ((e.f.1).ok oM) ?_);refine lH 24 (mW ((lim a).getD (m-1) 0)) e ((e.f.1).el (m-1) oM) (lV 25 (mV ((lim a).getD (m-1) 0)) ?_ (hr:=rU ((((lim a).getD (m-1) 0:Nat):Int)) kR (a8 oM oM)));refine lV 26 (mV (r*4294967296+(lim a).getD (m-1) 0)) ?_ (hr:=aI (iw (t:=38) (u:=38) (x:=.tmp 20) (y:=.tmp 25) (a:=(r*4294967296%18446744073709551616)) (b:=((lim a).getD (m-1) 0)) kR kR kR oM oM _) (by rw[A0 (show r*4294967296<18446744073709551616 by omega),sw C]));refine lL e ac (aG (lL e pd (lV 31 (mV d) ?_ (hr:=rU ((d:Int)) kR (a8 oM oM)))));have p:=vJ (r:=r) (x:=(lim a).getD (m-1) 0) I hr C W;refine lV 32 (mV ((r*4294967296+(lim a).getD (m-1) 0)/d)) ?_ (hr:=aI (dH (t:=38) (u:=38) (x:=.tmp 29) (y:=.tmp 31) (k:=.u64) (a:=((r*4294967296+(lim a).getD (m-1) 0:Nat):Int)) (b:=(d:Int)) kR kR kR oM _) (kl (r*4294967296+(lim a).getD (m-1) 0) d oM));refine lV 33 (mW (((r*4294967296+(lim a).getD (m-1) 0)/d:Nat)%4294967296)) ?_ (hr:=rT ((((r*4294967296+(lim a).getD (m-1) 0)/d:Nat):Int)) kR (gX _));refine lX 34 (sB B) ((lim a).length) ((lim a).length) 1 ((m:Int)-1) (m-1) rfl (lW 0 z az 1 (m-1) (((r*4294967296+(lim a).getD (m-1) 0)/d:Nat)%4294967296:Nat) e oM (fun _ e=>?_));have za:((z).set (m-1) (((r*4294967296+(lim a).getD (m-1) 0)/d:Nat)%4294967296:Nat)).length=((lim a).length):=by rw[LB];exact j
 replace e:=e.to [⟨B,141,((z).set (m-1) (((r*4294967296+(lim a).getD (m-1) 0)/d:Nat)%4294967296:Nat)).flatMap az⟩] [];refine lN (kQ (lL e aD (lV 37 (mV d) ?_ (hr:=rU ((d:Int)) kR (a8 oM oM)))));refine lV 38 (mV ((r*4294967296+(lim a).getD (m-1) 0)%d)) ?_ (hr:=aI (ft (t:=38) (u:=38) (x:=.tmp 35) (y:=.tmp 37) (k:=.u64) (a:=((r*4294967296+(lim a).getD (m-1) 0:Nat):Int)) (b:=(d:Int)) kR kR kR oM _) (dk (r*4294967296+(lim a).getD (m-1) 0) d));refine lL e ac (lN (kQ (lL e ac (lV 18 (iV (((m-1:Nat):Int)-1)) ?_ (hr:=rS ((((m:Int)-1)-1)) kR ((gL oM oM).trans oM))))));refine lL e ac (lD ?_);intro a_ ka;refine ⟨_,_,?_,⟨m-1,(z).set (m-1) (((r*4294967296+(lim a).getD (m-1) 0)/d:Nat)%4294967296:Nat),((r*4294967296+(lim a).getD (m-1) 0)%d:Nat),Z,rfl,rfl,e.to _ _,oM,za,(Q.set _ (LX _ kD)),(by rw[p.1];exact AN oM oM (hz _ oM) inv p.2.1),p.2.2,(fun k hk=>by rw[bw oM,if_neg oM];exact hz k oM)⟩,ka.to _ kR⟩
 omega
theorem kE (a:Nat)(A:Option Addr)(c:Nat)(hc:(lim a).length<=c)(hLa:(lim a).length<=4000000000)(k:Nat)(hk:k<=4000000000)(w:World)(h:Hp)(g:G w h)(hA:S3 A (lim a) h):CR 164 #[.slice A ((lim a).length) c,nV k] w h (fun v h1=>RN h1 v (a*2^k)):=by
 have d:=((sS g).aS hA);obtain ⟨L,hL⟩:∃ L:List Nat,L=As (k/32) 0:=⟨_,rfl⟩;have C:L.length=k/32:=by rw[hL,List.length_replicate]
 refine go Tryz.func164 [(0,qS A ((lim a).length) c),(1,nV k)] rfl (aa d ac (ah (aa d ac ?_)));have ⟨H,O⟩:=dT (p:=(0:Int)<=(k:Int)) oM;refine lB 12 H (ak (aa d ac (lV 14 (nV L.length) ?_ (hr:=aI (aI (dH (t:=3) (u:=3) (x:=.tmp 13) (y:=.const (iV 32)) (k:=.i64) (a:=(k:Int)) (b:=(32:Int)) kR kR kR oM _) (dE k 32 oM)) oM))));refine lK 15 141 L.length 1 4 (uW 0) az 0 d (fun Q w3 U d=>?_);have hl5:(As L.length 0).length=L.length:=by simp
 refine lL d ac (aG (lL d ac (ah (ax ?_))));rw[show As L.length 0=L by rw[C];exact hL.symm] at d
 replace d:=d.torow 0 az L 1 L.length rfl oM;replace d:=d.to [] [⟨141,1,sB Q,L.length,(L).length,(L).flatMap az⟩];refine lL d ac (aY ?_);refine bH _ (CG.loop (fun M Γ Z=>∃ (i:Nat) (B:Option Addr) (z:Nat) (l:List Nat) (e:Nat) (h_:Hp),M=(lim a).length+1-i/\Γ=[(0,qS A ((lim a).length) c),(1,nV k),(4,sZ),(7,nV i),(6,mV e),(5,qS B ((l).length) z)]/\SS w h Z h_ [] [⟨141,1,B,z,(l).length,(l).flatMap az⟩] [S3 A (lim a)]/\i<=(lim a).length+1/\l.length=L.length+i/\Ld l/\e<2^(k%32)/\ai 4294967296 l+4294967296^l.length*e=4294967296^L.length*(2^(k%32)*ai 4294967296 ((lim a).take i))) _ ⟨0,sB Q,L.length,L,0,U,rfl,rfl,d.to _ _,MG _,rfl,(by rw[hL];exact Ld.rep _),Mc _,(by rw[hL,dM];simp[ai])⟩ ?_);rintro _ _ w6 ⟨i,B,z,l,e,h7,W,rfl,d,hi,j,S,K,inv⟩;have F:=(Ld.lim a).get i;refine cQ (aa d [.c,.c,.v (nV ((lim a).length))] ?_);cases o:(decide ((i:Int)<=(((lim a).length:Nat):Int)))
 .
  have D:=oF o;refine lB 19 o (ag (CG.exit ?_))
  show CG _ _ _ _ _ _ _ _
  refine aa d ac ?_;have hin:i=(lim a).length+1:=by omega
  rw[Mu (show (lim a).length<=i by omega),da,j] at inv
  have hE:ai 4294967296 l=a*2^k:=tM (c:=e) (by rw[j,inv,Aa k,C];ac_rfl) (by rw[j,Aa k];exact vA (cC a) oM oM);obtain ⟨_,d,za⟩:=d.pubr 0 (A:=B) (c:=z) (l:=l) (f:=az) (ty:=141) (sz:=1) 0 (fun _=>rfl);exact ar 39 d (jj B z l ((l).length) rfl oM za _ _ d.g d.f.1) (fun _ _ d=>lL d ac (ae d [] (qS B (tl l ((l).length)) z) (RN.trim S hE rfl za d.f.1)))
 have D:=oT o;refine lB 19 o (ak (cK (cQ (kZ (aa d di (ar 25 d (HX A c (lim a) ((lim a).length) rfl i oM (Ld.lim _) _ _ d.g d.f.1) (fun _ _ d=>lL d ac (lV 27 (nV (k%32)) ?_ (hr:=aI (ft (t:=3) (u:=3) (x:=.tmp 26) (y:=.const (iV 32)) (k:=.i64) (a:=(k:Int)) (b:=(32:Int)) kR kR kR oM _) (dk k 32))))))))));refine lV 28 (mV (k%32)) ?_ (hr:=rU (((k%32:Nat):Int)) kR (a8 oM oM));refine lV 29 (mV (((lim a).getD i 0)*2^(k%32)%18446744073709551616)) ?_ (hr:=g9 (t:=38) (u:=144) (x:=.tmp 25) (y:=.tmp 28) (ky:=.u64) (a:=((lim a).getD i 0)) (n:=(k%32)) kR kR kR _);obtain ⟨I,Y,J⟩:=IN (x:=(lim a).getD i 0) (p:=k%32) (c:=e) oM F K;refine lV 30 (mV (e+(lim a).getD i 0*2^(k%32))) ?_ (hr:=aI (iw (t:=38) (u:=38) (x:=.tmp 22) (y:=.tmp 29) (a:=e) (b:=(((lim a).getD i 0)*2^(k%32)%18446744073709551616:Nat)) kR kR kR oM oM _) (by rw[I]));refine lL d ac (aG (lL d aD (lV 33 (mW ((e+(lim a).getD i 0*2^(k%32))%4294967296)) ?_ (hr:=rT (((e+(lim a).getD i 0*2^(k%32):Nat):Int)) kR (gX _)))));refine lR 34 141 1 ([mW ((e+(lim a).getD i 0*2^(k%32))%4294967296)]) d (fun zb _ _ d=>lY 35 0 141 1 z B l az ((e+(lim a).getD i 0*2^(k%32))%4294967296:Nat) 4 zb (uW 0) d d.f.1 (fun X zd _ V d=>lL d ac (lN (kQ (lL d ac (lV 37 (mV ((e+(lim a).getD i 0*2^(k%32))/4294967296)) ?_ (hr:=aI (n:=MU ((e+(lim a).getD i 0*2^(k%32):Nat):Int) 4294967296) kR (ef _ 4294967296))))))));refine lL d ac (lN (kQ (lL d ac (bh 21 ((i:Nat)+1) (i+1) ?_))));refine lL d ac (lD ?_);intro a_ ka;replace d:=d.tl;refine ⟨_,_,?_,⟨i+1,X,zd,l++[((e+(lim a).getD i 0*2^(k%32))%4294967296:Nat)],((e+(lim a).getD i 0*2^(k%32))/4294967296:Nat),V,rfl,rfl,d.to _ _,oM,(by rw[zY,j];rfl),(S.app (LX _ kD)),J,(BX kD inv j rfl rfl)⟩,ka.to _ kR⟩
 omega
theorem pV (a:Nat)(A:Option Addr)(c:Nat)(J:(lim a).length<=c)(C:(lim a).length<=4000000000)(w:World)(h:Hp)(g:G w h)(D:S3 A (lim a) h):CV 133 #[.slice A ((lim a).length) c] w h (nV (nb a)):=by
 have b:=((sS g).aS D);have u:=@bR a;have o:=(Ld.lim a).get ((lim a).length-1);refine go Tryz.func133 [(0,qS A ((lim a).length) c)] rfl (aa b ac (ah (aa b [.c,.v (nV ((lim a).length))] ?_)));cases e:((((lim a).length:Nat):Int) == (0:Int))
 .
  have i:=aj e;refine lB 7 e (ag (cK (aa b [.c,.v (nV ((lim a).length))] (bh 10 (((lim a).length:Nat)-1) (((lim a).length)-1) ?_))));refine bh 11 (32*(((lim a).length)-1:Nat)) (32*(((lim a).length)-1:Nat)) (lL b ac (ah (aa b [.c,.c,.v (nV ((lim a).length))] (lI 15 (((lim a).length:Nat)-1) ?_))));refine lX 16 A ((lim a).length) c 1 (((lim a).length:Nat)-1) (((lim a).length)-1) ((b.f.1).ok oM) (lH 17 (mW ((lim a).getD (((lim a).length)-1) 0)) b ((b.f.1).el (((lim a).length)-1) oM) (lL b ac (aY ?_)));refine bH _ (CG.loop (fun l Γ y=>∃ (n:Nat) (x:Nat) (h_:Hp),l=x/\Γ=[(2,iV 0),(3,nV n),(4,mW x)]/\SS w h y h_ [] [] [S3 A (lim a)]/\n+nb x=nb a/\x<4294967296/\nb a<=128000000000) _ ⟨32*((lim a).length-1),(lim a).getD ((lim a).length-1) 0,h,rfl,rfl,b.to _ _,(BR oM).symm,o,(by have:=sd a;omega)⟩ ?_);rintro _ _ w2 ⟨n,x,z,p,rfl,b,hn,I,F⟩;refine cQ (aa b ac ?_);cases d:(decide ((0:Int)<(x:Int)))
  .
   have j:=oF d;refine lB 19 d (ag (CG.exit ?_))
   show CG _ _ _ _ _ _ _ _
   exact aa b aD (ae b [] (nV n) (by obtain rfl:x=0:=oM;rw[Cl] at hn;rw[<-hn];rfl))
  have j:=oT d;refine lB 19 d (ak (cK (cQ (kZ (kQ (lL b ac (bh 23 ((n:Nat)+1) (n+1) ?_)))))));refine lL b ac (lN (kQ (lL b ac (lV 21 (mW (x/2)) ?_ (hr:=aI (n:=MU (x:Nat) 2) kR (ef x 2))))));refine lL b ac (lD ?_);intro H B;refine ⟨_,_,?_,⟨n+1,x/2,z,rfl,rfl,b.to _ _,(by have:=EM (n:=x) oM;omega),oM,F⟩,B.to _ kR⟩
  omega
 have i:=eq_of_beq e;exact lB 7 e (ak (aa b ac (ae b [] (iV 0) (by obtain rfl:a=0:=oM;rfl))))
theorem ry (a:Nat)(A:Option Addr)(c:Nat)(hc:(lim a).length<=c)(hLa:(lim a).length<=4000000000)(k:Nat)(hk0:0<k)(hk:k<=4000000000)(w:World)(h:Hp)(g:G w h)(hA:S3 A (lim a) h):CR 164 #[.slice A ((lim a).length) c,iV (-(k:Int))] w h (fun v h1=>RN h1 v (a/2^k)):=by
 have d:=((sS g).aS hA);refine go Tryz.func164 [(0,qS A ((lim a).length) c),(1,iV (-(k:Int)))] rfl (aa d ac (ah (aa d ac ?_)));have ⟨H,O⟩:=dF (p:=(0:Int)<=((-(k:Int)):Int)) oM;refine lB 12 H (ag (cK (aa d ac (lV 41 (nV k) ?_ (hr:=rS ((0-(-(k:Int)))) kR (by rw[IntKind.wrap_i64];omega))))));refine lL d ac (aG (lL d ac (ah (aa d ac (lV 43 (nV (k/32)) ?_ (hr:=aI (dH (t:=3) (u:=3) (x:=.tmp 42) (y:=.const (iV 32)) (k:=.i64) (a:=(k:Int)) (b:=(32:Int)) kR kR kR oM _) (dE k 32 oM)))))));refine lL d ac (aY ?_);replace d:=d.nil 141 1;refine bH _ (CG.loop (fun L Γ W=>∃ (j:Nat) (z:Option Addr) (i:Nat) (l:List Nat) (h_:Hp),L=(lim a).length-(k/32+j)/\Γ=[(0,qS A ((lim a).length) c),(1,nV k),(4,sZ),(9,nV (k/32+j)),(8,qS z ((l).length) i)]/\SS w h W h_ [] [⟨141,1,z,i,(l).length,(l).flatMap az⟩] [S3 A (lim a)]/\l.length=j/\Ld l/\2^(k%32)*ai 4294967296 l+((lim a).drop (k/32)).getD 0 0%2^(k%32)=ai 4294967296 (((lim a).drop (k/32)).take j)+4294967296^j*(((lim a).drop (k/32)).getD j 0%2^(k%32))/\l.length<=(lim a).length) _ ⟨0,none,0,[],h,rfl,rfl,d.to _ _,rfl,Dg.nil,(by simp[ai]),(by simp)⟩ ?_);rintro _ _ w2 ⟨j,z,i,l,h3,S,rfl,d,o,Q,inv,Z⟩;have F:=(Ld.lim a).get (k/32+j);have D:=(Ld.lim a).get (k/32+j+1);refine cQ (aa d [.c,.c,.v (nV ((lim a).length))] ?_);cases e:(decide (((k/32+j:Nat):Int)<(((lim a).length:Nat):Int)))
 .
  have C:=oF e;refine lB 47 e (ag (CG.exit ?_))
  show CG _ _ _ _ _ _ _ _
  refine aa d ac ?_;have Y:ai 4294967296 l=a/2^k:=HM oM (by rw[o];exact inv);obtain ⟨h6,d,B⟩:=d.pubr 0 (A:=z) (c:=i) (l:=l) (f:=az) (ty:=141) (sz:=1) 0 (fun _=>rfl);exact ar 69 d (jj z i l ((l).length) rfl oM B _ _ d.g d.f.1) (fun w9 _ d=>lL d ac (ae d [] (qS z (tl l ((l).length)) i) (RN.trim Q Y rfl B d.f.1)))
 have C:=oT e;refine lB 47 e (ak (cK (cQ (kZ (aa d aD (ar 52 d (HX A c (lim a) ((lim a).length) rfl (k/32+j) oM (Ld.lim _) _ _ d.g d.f.1) (fun _ _ d=>lL d aD (bh 55 ((k/32+j:Nat)+1) ((k/32+j)+1) ?_))))))));refine ar 56 d (HX A c (lim a) ((lim a).length) rfl ((k/32+j)+1) oM (Ld.lim _) _ _ d.g d.f.1) (fun _ _ d=>?_);obtain ⟨I,V,K⟩:=Jg (p:=k%32) oM F D;have J:=bC (l:=lim a) (k:=j) (n:=k/32);have M:=bC (l:=lim a) (k:=j+1) (n:=k/32);refine lV 57 (mV (((lim a).getD ((k/32+j)+1) 0:Nat)*4294967296%18446744073709551616)) ?_ (hr:=rU (((((lim a).getD ((k/32+j)+1) 0:Nat):Int)*4294967296)) kR (j4 ((lim a).getD ((k/32+j)+1) 0:Nat) 4294967296));refine lV 58 (mV ((lim a).getD (k/32+j) 0+(lim a).getD (k/32+j+1) 0*4294967296)) ?_ (hr:=aI (iw (t:=38) (u:=38) (x:=.tmp 52) (y:=.tmp 57) (a:=((lim a).getD (k/32+j) 0)) (b:=(((lim a).getD ((k/32+j)+1) 0:Nat)*4294967296%18446744073709551616:Nat)) kR kR kR oM oM _) (by rw[I]));refine lL d ac (lN (kQ (lL d di (lV 62 (nV (k%32)) ?_ (hr:=aI (ft (t:=3) (u:=3) (x:=.tmp 61) (y:=.const (iV 32)) (k:=.i64) (a:=(k:Int)) (b:=(32:Int)) kR kR kR oM _) (dk k 32))))));refine lV 63 (mV (k%32)) ?_ (hr:=rU (((k%32:Nat):Int)) kR (a8 oM oM));refine lV 64 (mV (((lim a).getD (k/32+j) 0+(lim a).getD (k/32+j+1) 0*4294967296)/2^(k%32))) ?_ (hr:=gI (t:=38) (u:=144) (x:=.tmp 60) (y:=.tmp 63) (ky:=.u64) (a:=((lim a).getD (k/32+j) 0+(lim a).getD (k/32+j+1) 0*4294967296)) (n:=(k%32)) kR kR kR oM _);refine lV 65 (mW ((((lim a).getD (k/32+j) 0+(lim a).getD (k/32+j+1) 0*4294967296)/2^(k%32):Nat)%4294967296)) ?_ (hr:=rT (((((lim a).getD (k/32+j) 0+(lim a).getD (k/32+j+1) 0*4294967296)/2^(k%32):Nat):Int)) kR (gX _));refine lR 66 141 1 ([mW ((((lim a).getD (k/32+j) 0+(lim a).getD (k/32+j+1) 0*4294967296)/2^(k%32):Nat)%4294967296)]) d (fun za _ _ d=>lY 67 0 141 1 i z l az ((((lim a).getD (k/32+j) 0+(lim a).getD (k/32+j+1) 0*4294967296)/2^(k%32):Nat)%4294967296:Nat) 4 za (uW 0) d d.f.1 (fun zb U _ X d=>lL d ac (lN (kQ (lL d ac (bh 49 ((k/32+j:Nat)+1) ((k/32+j)+1) ?_))))));refine lL d ac (lD ?_);intro a_ ka;replace d:=d.tl;refine ⟨_,_,?_,⟨j+1,zb,U,l++[((((lim a).getD (k/32+j) 0+(lim a).getD (k/32+j+1) 0*4294967296)/2^(k%32):Nat)%4294967296:Nat)],X,rfl,rfl,d.to _ _,(by rw[zY,o];rfl),(Q.app (LX _ kD)),(FI o inv (by rw[J,M];exact K)),(by rw[zY];show _+1<=_;omega)⟩,ka.to _ kR⟩
 omega
def bg (l:List Nat):Nat:=ai 4294967296 l
theorem wP {a b:Nat}(ha:a<4294967296)(d:b<4294967296):a*b<=18446744065119617025:=by
 have h1:a<=4294967295:=by omega
 have c:b<=4294967295:=by omega
 exact MP h1 c
def l3 (u2 u1 u0:Nat):Nat:=4294967296*(4294967296*u2+u1)+u0
def l2 (v1 v0:Nat):Nat:=4294967296*v1+v0
structure Hss (u2 u1 u0 v1 v0 g r o:Nat):Prop where
  e:g*v1+(r+4294967296*o)=4294967296*u2+u1
  lt:g+1=4294967296\/l3 u2 u1 u0<(g+1)*l2 v1 v0
  gb:g<4294967296
def CT (u2 u1 u0 v1 v0 g:Nat):Prop:=g*l2 v1 v0<=l3 u2 u1 u0/\(g+1=4294967296\/l3 u2 u1 u0<(g+1)*l2 v1 v0)/\g<4294967296
theorem Kl {g a b:Nat}:g*l2 a b=4294967296*(g*a)+g*b:=by unfold l2;rw[Mg,Mv]
theorem Hss.fin {d u1 b c a g r o:Nat}(h:Hss d u1 b c a g r o)(ht:g*a<=4294967296*(r+4294967296*o)+b):CT d u1 b c a g:=by
 refine ⟨?_,h.lt,h.gb⟩;rw[Kl]
 unfold l3
 rw[<-h.e,Mg]
 omega
theorem HR {u:List Nat}{k:Nat}(hk:2<=k):l3 (u.getD k 0) (u.getD (k-1) 0) (u.getD (k-2) 0)=u.getD k 0*4294967296*4294967296+u.getD (k-1) 0*4294967296+u.getD (k-2) 0:=by
 unfold l3
 rw[LC (u.getD k 0) 4294967296,LC (4294967296*u.getD k 0) 4294967296,LC (u.getD (k-1) 0),Mg]
theorem Hf {a b:Nat}:l2 a b=a*4294967296+b:=by unfold l2;rw[LC]
section
variable {n j G:Nat} {u v:List Nat}
theorem FQ (hn:2<=n)(f:v.length=n)(a:Ld v)(c:Ld u)(p:j+n<u.length)(hR:bg u<4294967296^(j+1)*bg v):u.getD (j+n) 0<=v.getD (n-1) 0:=by
 rcases ea (v.getD (n-1) 0) (u.getD (j+n) 0) with h|h
 ·exfalso
  have e1:=aK 4294967296 (l:=v) (k:=n-1) oM;rw[show n-1+1=v.length by omega,y8] at e1
  have h1:=bL (Dg.take a (n-1));rw[LF,LS oM] at h1
  have e2:=aK 4294967296 (l:=u) (k:=j+n) oM;have b:=bM 4294967296 (l:=u) (k:=j+n+1) oM;have i:4294967296^(j+n)*(v.getD (n-1) 0+1)<=4294967296^(j+n)*u.getD (j+n) 0:=LW _ h
  have d:4294967296^(j+1)*bg v<4294967296^(j+1)*(4294967296^(n-1)*(v.getD (n-1) 0+1)):=by
   refine Mb ?_ (L2 kD)
   show ai _ v<_
   rw[e1,Mg,Mh];omega
  rw[<-L6,<-L4,show j+1+(n-1)=j+n by omega] at d
  have e:bg u=ai 4294967296 (u.take (j+n))+4294967296^(j+n)*u.getD (j+n) 0+4294967296^(j+n+1)*ai 4294967296 (u.drop (j+n+1)):=by
   show ai _ u=_
   rw[b,e2]
  have o:=MG (4294967296^(j+n+1)*ai 4294967296 (u.drop (j+n+1)))
  omega
 ·exact h
theorem BC (hn:2<=n)(f:v.length=n)(c:Ld v)(b:Ld u)(h:j+n<u.length)(a:v.getD (n-1) 0≠0)(hR:bg u<4294967296^(j+1)*bg v)(e:CT (u.getD (j+n) 0) (u.getD (j+n-1) 0) (u.getD (j+n-2) 0) (v.getD (n-1) 0) (v.getD (n-2) 0) G) :
  bg u/(4294967296^j*bg v)<=G/\G<=bg u/(4294967296^j*bg v)+1:=by
 obtain ⟨h1,d,i⟩:=e;rw[HR oM,Hf] at h1 d
 exact nx kD hn f c b h a hR h1 d i
theorem wq (hn:2<=n)(d:v.length=n)(a:Ld v)(b:v.getD (n-1) 0≠0):4294967296^(n-1)<=bg v/\bg v<4294967296^n:=by
 have c:=bL a;rw[d] at c
 refine ⟨?_,c⟩;have e1:=aK 4294967296 (l:=v) (k:=n-1) oM;rw[show n-1+1=v.length by omega,y8] at e1
 have e:4294967296^(n-1)*1<=4294967296^(n-1)*v.getD (n-1) 0:=LW _ oM
 show _<=ai _ v
 omega
theorem B1 (hn:2<=n)(c:v.length=n)(a:Ld v)(hR:bg u<4294967296^(j+1)*bg v):bg u<4294967296^(j+n+1):=by
 have b:=bL a;rw[c] at b
 have h1:4294967296^(j+1)*bg v<4294967296^(j+1)*4294967296^n:=Mb b (L2 kD);rw[<-L4,show j+1+n=j+n+1 by omega] at h1
 omega
theorem CF {u1:List Nat}(hn:2<=n)(i:v.length=n)(c:Ld v)(h:Ld u)(f:Ld u1)(y:j+n<u.length)(d:v.getD (n-1) 0≠0)(hR:bg u<4294967296^(j+1)*bg v)
  (o:bg u/(4294967296^j*bg v)<=G/\G<=bg u/(4294967296^j*bg v)+1)(a:Above u1 u (j+n+1))(e:bg u1+4294967296^j*(G*bg v)=bg u+4294967296^(j+n+1)*0) :
  bg u1<4294967296^j*bg v/\bg u1+4294967296^j*(G*bg v)=bg u:=by
 obtain ⟨p,x⟩:=wq hn i c d;have l:=fj (b:=4294967296) kD a f h (by rw[a.1];omega) (B1 hn i c hR);have:=(fS (b:=4294967296) kD hn p x hR l e (MG 1) o).1 rfl;rw[Mj,y5] at e
 exact ⟨this.2.2.1,e⟩
theorem I8 {b a W K T c:Nat}(e2:a+T*c=b+W)(f:b+W=K+T)(l:a<T)(i:K<W)(e:W<=T):a=K:=by
 have d:c=1:=by
  rcases Nat.lt_trichotomy c 1 with h|h|h
  ·have:c=0:=by omega
   subst this;omega
  ·exact h
  ·have j:T*2<=T*c:=LW _ h
   omega
 subst d
 omega
theorem Gt {u1 d:List Nat}{c:Nat}(hn:2<=n)(D:v.length=n)(p:Ld v)(h:Ld u)(x:Ld u1)(y:Ld d)(O:j+n<u.length)(l:v.getD (n-1) 0≠0)(hR:bg u<4294967296^(j+1)*bg v)
  (H:bg u/(4294967296^j*bg v)<=G/\G<=bg u/(4294967296^j*bg v)+1)(o:Above u1 u (j+n+1))(a:Above d u (j+n+1))(e:bg u1+4294967296^j*(G*bg v)=bg u+4294967296^(j+n+1)*1)
  (e2:bg d+4294967296^(j+n+1)*c=bg u1+4294967296^j*bg v) :
  bg d<4294967296^j*bg v/\bg d+4294967296^j*((G-1)*bg v)=bg u/\0<G:=by
 obtain ⟨L,C⟩:=wq hn D p l;have f:=B1 hn D p hR;have I:=fj (b:=4294967296) kD o x h (by rw[o.1];omega) f;have z:=fj (b:=4294967296) kD a y h (by rw[a.1];omega) f;obtain ⟨K,M,B,J⟩:=(fS (b:=4294967296) kD hn L C hR I e oM H).2 rfl
 have i:4294967296^j*bg v<=4294967296^(j+n+1):=by
  have h1:4294967296^j*bg v<=4294967296^j*4294967296^n:=LW _ (Nat.le_of_lt C);rw[<-L4] at h1
  have F:(4294967296:Nat)^(j+n)<=4294967296^(j+n+1):=L3 kD oM;exact e4 h1 F
 have hk:bg d=bg u-4294967296^j*((G-1)*bg v):=I8 e2 M z B i;exact ⟨by rw[hk];exact B,by rw[hk];exact Nat.sub_add_cancel J,by rw[K];exact MW _⟩
theorem HB {u1:List Nat}(hn:2<=n)(i:v.length=n)(d:Ld v)(h:Ld u)(f:Ld u1)(z:j+n<u.length)(a:v.getD (n-1) 0≠0)(hR:bg u<4294967296^(j+1)*bg v)
  (o:bg u/(4294967296^j*bg v)<=G/\G<=bg u/(4294967296^j*bg v)+1)(c:Above u1 u (j+n+1))(e:bg u1+4294967296^j*(G*bg v)=bg u+4294967296^(j+n+1)*1):0<G:=by
 obtain ⟨p,x⟩:=wq hn i d a;have l:=fj (b:=4294967296) kD c f h (by rw[c.1];omega) (B1 hn i d hR);obtain ⟨y,_⟩:=(fS (b:=4294967296) kD hn p x hR l e (ep 1) o).2 rfl;rw[y];exact MW _
end
theorem Gm {q:List Nat}{j Q X V R R':Nat}(c:j<q.length)(h0:q.getD j 0=0)(inv:X=bg q*V+R)(e:R'+4294967296^j*(Q*V)=R):X=bg (q.set j Q)*V+R':=by
 have a:=cG 4294967296 (l:=q) (k:=j) Q c;rw[h0,Mj,y5] at a
 have b:bg (q.set j Q)=bg q+4294967296^j*Q:=a;rw[b,LI,inv,<-e,L6];omega
theorem GZ {X V R q a b s:Nat}(e:V=b*2^s)(j:X=a*2^s)(inv:X=q*V+R)(hR:R<V):q=a/b/\R/2^s=a%b:=by
 have l:=Mc s;have f:0<V:=by omega
 have i:0<b:=by
  rcases Ga b with h|h
  ·rw[h,zZ] at e;omega
  ·exact h
 have e1:a*2^s=V*q+R:=by rw[<-j,inv,LC]
 obtain ⟨h1,c⟩:=ko (A:=a) (y:=b) (Q:=q) e e1 hR;have d:a=R/2^s+b*q:=by omega
 constructor
 ·rw[d,L1 _ _ i,LP c,Ab]
 ·rw[d,Mp,A0 c]
structure Gk (u2 u1 u0 v1 v0 g r:Nat):Prop where
  e:g*v1+r=4294967296*u2+u1
  lt:4294967296<=g+1\/l3 u2 u1 u0<(g+1)*l2 v1 v0
theorem Gk.start {b u1 d a c:Nat}(hv:0<a)(h0:d<4294967296):Gk b u1 d a c ((b*4294967296+u1)/a) ((b*4294967296+u1)%a):=by
 have e:=Mx (b*4294967296+u1) a;have hr:=LX (b*4294967296+u1) hv
 generalize (b*4294967296+u1)/a=q at *
 generalize (b*4294967296+u1)%a=r at *
 rw[LC b] at e
 refine ⟨by rw[LC q];exact e,.inr ?_⟩;rw[Kl,LI q 1 a,Mw,LC q a]
 unfold l3
 rw[<-e]
 have h1:4294967296*(a*q+r)+4294967296<=4294967296*(a*q+a):=by
  rw[<-MD];exact LW _ oM
 have f:0<=(q+1)*c:=MG _
 omega
theorem Gk.step {b u1 d a c g r:Nat}(h:Gk b u1 d a c g r)(f:0<g):(g-1)*a+(r+a)=4294967296*b+u1:=by
 obtain ⟨p,rfl⟩:∃ p,g=p+1:=⟨g-1,by omega⟩;have e1:=h.e;rw[LI,Mw] at e1
 rw[My]
 omega
theorem Gk.decB {b u1 d a c g r:Nat}(h:Gk b u1 d a c g r)(e:4294967296<=g):Gk b u1 d a c (g-1) (r+a):=⟨h.step oM,.inl oM⟩
theorem Gk.decT {f u1 c a b g r:Nat}(h:Gk f u1 c a b g r)(ht:4294967296*r+c<g*b):0<g/\Gk f u1 c a b (g-1) (r+a):=by
 have d:0<g:=dU ht;refine ⟨d,h.step d,.inr ?_⟩;rw[show g-1+1=g by omega,Kl]
 unfold l3
 rw[<-h.e,Mg]
 omega
theorem Gk.big {c u1 i a f g r:Nat}(h:Gk c u1 i a f g r)(d:4294967296<=g)(b:c<=a)(h1:u1<4294967296):r<4294967296:=by
 have e:=h.e;have e1:4294967296*a<=g*a:=Af _ d;have e2:4294967296*c<=4294967296*a:=LW _ b
 omega
theorem Gk.fin {d u1 b c a g r:Nat}(h:Gk d u1 b c a g r)(f:g<4294967296)(h0:a<4294967296)(ht:4294967296<=r\/g*a<=4294967296*r+b):CT d u1 b c a g:=by
 have i:Hss d u1 b c a g r 0:=⟨by rw[Mj,y5];exact h.e,by rcases h.lt with h1|h1;exact .inl oM;exact .inr h1,f⟩;refine i.fin ?_;rw[Mj,y5]
 rcases ht with h1|h1
 ·have j:=wP f h0
  have l:4294967296*4294967296<=4294967296*r:=LW _ h1
  omega
 ·exact h1
theorem mM (n:Nat):(lim n).length=(nb n+31)/32:=by
 rcases Ga n with h|h
 ·subst h;rfl
 ·have h1:=BR h
  have a:=me n h;have b:=(Ld.lim n).get ((lim n).length-1);have c:=bR.2 h
  generalize (lim n).getD ((lim n).length-1) 0=t at *
  have d:=(cB (ME a)).2.2;have e:nb t<=32:=kH (k:=32) b
  omega
theorem xE {b:Nat}(a:0<b)(s:Nat):nb (b*2^s)=nb b+s:=by
 obtain ⟨d,c,e⟩:=cB a;rw[show nb b+s=(nb b-1+s)+1 by omega]
 apply ki
 ·rw[L4];exact Af _ d
 ·rw[show nb b-1+s+1=nb b+s by omega,L4];exact MN c (Mc s)
theorem EH (x:Nat)(A:Option Addr)(c m:Nat)(f:(lim x).length=m)(b:m<=c)(d:m<=4000000000)(s:Nat)(e:s<=4000000000)(w:World)(h:Hp)(g:G w h)(a:S3 A (lim x) h):CR 164 #[.slice A m c,iV (-(s:Int))] w h (fun v h1=>RN h1 v (x/2^s)):=by
 subst f
 rcases Ga s with h0|h0
 ·subst h0
  have:=kE x A c b d 0 oM w h g a;rw[L9,Mh] at this
  rw[L9,Ma];exact this
 ·exact ry x A c b d s h0 e w h g a
theorem xh {a b s k:Nat}(f:(lim (b*2^s)).length=k)(hk:2<=k)(c:k<=(lim (a*2^s)).length+1)(d:0<b*2^s):bg (lim (a*2^s)++[0,0])<4294967296^((lim (a*2^s)).length+2-(lim (b*2^s)).length)*bg (lim (b*2^s)):=by
 have e1:bg (lim (a*2^s)++[0,0])=a*2^s:=by
  unfold bg;rw[cP,da];simp[ai]
 have e2:bg (lim (b*2^s))=b*2^s:=da _;rw[e1,e2];have h1:=cC (a*2^s);have e:4294967296^((lim (b*2^s)).length-1)<=b*2^s:=by rw[uG];exact sV kD d
 have h:4294967296^((lim (a*2^s)).length+2-(lim (b*2^s)).length)*4294967296^((lim (b*2^s)).length-1)<=4294967296^((lim (a*2^s)).length+2-(lim (b*2^s)).length)*(b*2^s):=LW _ e;rw[<-L4] at h
 have i:4294967296^(lim (a*2^s)).length<=4294967296^((lim (a*2^s)).length+2-(lim (b*2^s)).length+((lim (b*2^s)).length-1)):=L3 kD oM
 omega
theorem F6 {a s V n:Nat}:a*2^s=bg (As n 0)*V+bg (lim (a*2^s)++[0,0]):=by
 unfold bg;rw[dM,zZ,Ab,cP,da];simp[ai]
theorem nU (a:Nat)(A:Option Addr)(c:Nat)(u:(lim a).length<=c)(b:Nat)(D:Option Addr)(d:Nat)(z:(lim b).length<=d)(F:(lim a).length<=3000000000)(B:(lim b).length<=3000000000)(i:a<b)(w:World)(h:Hp)(g:G w h)(H:S3 A (lim a) h)(y:S3 D (lim b) h):CR 140 #[.slice A ((lim a).length) c,.slice D ((lim b).length) d] w h (fun v h1=>∃ x o,v=.tuple #[x,o]/\RN h1 x (a/b)/\RN h1 o (a%b)):=by
 have e:=(((sS g).aS H).aS y);have C:=dY i;refine go Tryz.func140 [(0,qS A ((lim a).length) c),(1,qS D ((lim b).length) d)] rfl (aa e aD (ah (aa e aD (ar 27 e (ia a A c u b D d z oM oM _ _ e.g e.f.2.1 e.f.1) (fun w1 I e=>?_)))));have ⟨j,l⟩:=dT (p:=(bX a b:Int)<(0:Int)) oM;exact lB 28 j (ak (aa e di (ae e [] (.tuple #[sZ,qS A ((lim a).length) c]) (⟨_,_,rfl,by rw[LP i];exact ⟨none,0,rfl,nR _,SlO.nil⟩,by rw[A0 i];exact ⟨A,c,rfl,u,e.f.2.1⟩⟩))))
theorem rP {b:Nat}(h:(lim b).length=1):b<4294967296/\(lim b).getD 0 0=b/\0<b:=by
 have h1:=cC b;rw[h] at h1
 have a:0<b:=bR.1 oM;refine ⟨by omega,?_,a⟩;rw[DB a oM];rfl
theorem ng (a:Nat)(A:Option Addr)(c:Nat)(H:(lim a).length<=c)(b:Nat)(D:Option Addr)(d:Nat)(L:(lim b).length<=d)(V:(lim a).length<=3000000000)(S:(lim b).length<=3000000000)(x:b<=a)(h1:(lim b).length=1)(w:World)(h:Hp)(g:G w h)(W:S3 A (lim a) h)(K:S3 D (lim b) h):CR 140 #[.slice A ((lim a).length) c,.slice D ((lim b).length) d] w h (fun v h1=>∃ I F,v=.tuple #[I,F]/\RN h1 I (a/b)/\RN h1 F (a%b)):=by
 have e:=(((sS g).aS W).aS K);have U:=fH x;obtain ⟨O,j,i⟩:=rP h1;refine go Tryz.func140 [(0,qS A ((lim a).length) c),(1,qS D ((lim b).length) d)] rfl (aa e aD (ah (aa e aD (ar 27 e (ia a A c H b D d L oM oM _ _ e.g e.f.2.1 e.f.1) (fun w1 Y e=>?_)))));have ⟨i,B⟩:=dF (p:=(bX a b:Int)<(0:Int)) oM;refine lB 28 i (ag (cK (cQ (aa e [.c,.v (nV ((lim b).length))] ?_))));have l:((((lim b).length:Nat):Int) == (1:Int))=true:=sN oM;have C:=eq_of_beq l;refine lB 32 l (ak (aa e aD (lX 36 D ((lim b).length) d 1 0 0 ((e.f.1).ok oM) ?_)));refine lH 37 (mW ((lim b).getD 0 0)) e ((e.f.1).el 0 oM) (lC 38 e (Kw a A c H oM ((lim b).getD 0 0) oM oM _ _ e.g e.f.2.1) ?_);rintro _ w5 Z e ⟨_,r,rfl,⟨z,J,rfl,u,hq⟩,o⟩;replace e:=e.aS hq;refine lL e [.c,.v (qS z ((lim (a/((lim b).getD 0 0))).length) J),.v (mW r),.c,.c] (aG (lL e aD ?_));have M:=LX a (show 0<(lim b).getD 0 0 by omega);refine lV 43 (mV r) ?_ (hr:=rU ((r:Int)) kR (a8 oM oM));refine lC 44 e (o4 r oM _ _ e.g) ?_;rintro _ _ _ e ⟨X,Q,rfl,y,za⟩;replace e:=e.aS za;exact lL e aD (ae e [] (.tuple #[qS z ((lim (a/((lim b).getD 0 0))).length) J,qS X ((lim r).length) Q]) (⟨_,_,rfl,by rw[j] at *;exact ⟨_,_,rfl,u,e.f.2.1⟩,by rw[<-j,<-o];exact ⟨_,_,rfl,y,e.f.1⟩⟩))
theorem qn (a:Nat)(A:Option Addr)(c:Nat)(hc:(lim a).length<=c)(b:Nat)(D:Option Addr)(d:Nat)(hd:(lim b).length<=d)(hLa:(lim a).length<=3000000000)(hLb:(lim b).length<=3000000000)(hab:b<=a)(hb2:2<=(lim b).length)(s:Nat)(hs_:s=32*(lim b).length-nb b)(w:World)(h:Hp)(g:G w h)(hA:S3 A (lim a) h)(hD:S3 D (lim b) h):CR 140 #[.slice A ((lim a).length) c,.slice D ((lim b).length) d] w h (fun v h1=>∃ v1 v2,v=.tuple #[v1,v2]/\RN h1 v1 (a/b)/\RN h1 v2 (a%b)):=by
 have e:=(((sS g).aS hA).aS hD);have hcl:=fH hab;have hbp:0<b:=bR.1 oM;have hln:=mM b;have cj:s<32:=by omega
 have hvn:(lim (b*2^s)).length=(lim b).length:=by rw[mM,xE hbp];omega
 have hlm:=dG hab;have has:=dG (show a<=a*2^s from Nat.le_mul_of_pos_right _ (Mc s));have cf:(lim (a*2^s)).length<=(lim a).length+1:=eh (by rw[LR];exact e5 (MN (cC a) (Mc s)) (LW _ (e4 (L3 kD (show s<=32 by omega)) (nR (2^32)))));have _:([0,0]:List Nat).length=2:=rfl;have bq:((lim (a*2^s))++[0,0]).length=((lim (a*2^s)).length+2):=by simp
 have W:=Ld.lim (b*2^s);have bd:=me (b*2^s) (Mr hbp (Mc s));have hv1:=W.get ((lim (b*2^s)).length-1);have hv0:=W.get ((lim (b*2^s)).length-2);refine go Tryz.func140 [(0,qS A ((lim a).length) c),(1,qS D ((lim b).length) d)] rfl (aa e aD (ah (aa e aD (ar 27 e (ia a A c hc b D d hd oM oM _ _ e.g e.f.2.1 e.f.1) (fun w1 h2 e=>?_)))));have ⟨hb3,b0⟩:=dF (p:=(bX a b:Int)<(0:Int)) oM;refine lB 28 hb3 (ag (cK (cQ (aa e [.c,.v (nV ((lim b).length))] ?_))));have hb4:((((lim b).length:Nat):Int) == (1:Int))=false:=eM oM;have b7:=aj hb4;refine lB 32 hb4 (ag (cK (aa e [.c,.v (nV ((lim b).length))] (bh 47 (32*((lim b).length:Nat)) (32*(lim b).length) ?_))));refine lL e ac (ar 49 e (pV b D d hd oM _ _ e.g e.f.1) (fun w5 h6 e=>bh 50 ((32*(lim b).length:Nat)-(nb b:Nat)) s (lL e ac (aG (lL e aD (lC 53 e (kE b D d hd oM s oM _ _ e.g e.f.1) ?_))))));rintro _ _ _ e ⟨Q,X,rfl,hc9,zR⟩;replace e:=e.aS zR;refine lL e ac (aG (lR 54 141 0 ([]) e (fun zj _ _ e=>lL e aD (lC 57 e (kE a A c hc oM s oM _ _ e.g e.f.r.2.1) ?_))));rintro _ _ _ e ⟨zk,ye,rfl,cb,zS⟩;replace e:=e.aS zS;refine Lt 58 141 1 az 0 zj zk (lim (a*2^s)) ye 4 (uW 0) e e.f.1 oM (fun _ _=>by kernel_rfl) (fun yf yg _ _ e=>lR 59 141 2 ([uW 0,uW 0]) e (fun ze _ _ e=>?_));replace e:=e.aS (SlO.of_flat (sz:=1) (f:=az) (d:=0) (l:=[0,0]) (fun _=>rfl) e.f.1);refine KY 60 0 141 1 yg yf (lim (a*2^s)) az 0 (sB ze) ([0,0]) 2 4 (uW 0) e e.f.1 oM (fun zP zQ _ _ e=>lL e ac (aG (lL e [.c,.v (nV ((lim (b*2^s)).length)),.c] (aG (lL e aD (bh 65 (((lim (b*2^s)).length:Nat)-1) (((lim (b*2^s)).length:Nat)-1) ?_))))));refine lX 66 Q ((lim (b*2^s)).length) X 1 (((lim (b*2^s)).length:Nat)-1:Nat) (((lim (b*2^s)).length:Nat)-1:Nat) ((e.f.q.1).ok oM) (lH 67 (mW ((lim (b*2^s)).getD (((lim (b*2^s)).length:Nat)-1:Nat) 0)) e ((e.f.q.1).el (((lim (b*2^s)).length:Nat)-1:Nat) oM) (lV 68 (mV ((lim (b*2^s)).getD (((lim (b*2^s)).length:Nat)-1:Nat) 0)) ?_ (hr:=rU ((((lim (b*2^s)).getD (((lim (b*2^s)).length:Nat)-1:Nat) 0:Nat):Int)) kR (a8 oM oM))));refine lL e ac (aG (lL e aD (bh 71 (((lim (b*2^s)).length:Nat)-2) (((lim (b*2^s)).length:Nat)-2) ?_)));refine lX 72 Q ((lim (b*2^s)).length) X 1 (((lim (b*2^s)).length:Nat)-2:Nat) (((lim (b*2^s)).length:Nat)-2:Nat) ((e.f.q.1).ok oM) (lH 73 (mW ((lim (b*2^s)).getD (((lim (b*2^s)).length:Nat)-2:Nat) 0)) e ((e.f.q.1).el (((lim (b*2^s)).length:Nat)-2:Nat) oM) (lV 74 (mV ((lim (b*2^s)).getD (((lim (b*2^s)).length:Nat)-2:Nat) 0)) ?_ (hr:=rU ((((lim (b*2^s)).getD (((lim (b*2^s)).length:Nat)-2:Nat) 0:Nat):Int)) kR (a8 oM oM))));refine lL e ac (lN (bH [(4,sZ),(5,sZ),(8,nV s),(9,qS Q ((lim (b*2^s)).length) X),(10,qS zP ((lim (a*2^s)++([0,0])).length) zQ),(11,nV ((lim (b*2^s)).length)),(12,mV ((lim (b*2^s)).getD (((lim (b*2^s)).length:Nat)-1:Nat) 0)),(13,mV ((lim (b*2^s)).getD (((lim (b*2^s)).length:Nat)-2:Nat) 0))] ?_));refine aa e [.c,.v (nV ((lim (a*2^s)++([0,0])).length)),.c] (bh 78 (((lim (a*2^s)++([0,0])).length:Nat)-((lim (b*2^s)).length:Nat)) (((lim (a*2^s)).length+2)-(lim (b*2^s)).length) ?_);refine lK 79 141 (((lim (a*2^s)).length+2)-(lim (b*2^s)).length:Nat) 1 4 (uW 0) az 0 e (fun za _ yi e=>?_);have zU:(As (((lim (a*2^s)).length+2)-(lim (b*2^s)).length:Nat) 0).length=(((lim (a*2^s)).length+2)-(lim (b*2^s)).length:Nat):=by simp
 refine lL e ac (ah (aa e [.c,.v (nV ((lim (a*2^s)++([0,0])).length)),.c] (bh 83 (((lim (a*2^s)++([0,0])).length:Nat)-((lim (b*2^s)).length:Nat)) (((lim (a*2^s)++([0,0])).length:Nat)-((lim (b*2^s)).length:Nat)) ?_)));refine lV 84 (iV (((((lim (a*2^s)).length+2)-(lim (b*2^s)).length:Nat):Int)-1)) ?_ (hr:=rS (((((lim (a*2^s)++([0,0])).length:Nat)-((lim (b*2^s)).length:Nat):Nat)-1)) kR ((gL oM oM).trans oM));refine lL e ac (aY ?_);refine bH _ (CG.loop (fun Y Γ w_=>∃ (m:Nat) (rA:Option Addr) (O:Nat) (u:List Nat) (U:List Nat) (L:Hp),Y=m/\Γ=[(4,sZ),(5,sZ),(8,nV s),(9,qS Q ((lim (b*2^s)).length) X),(10,qS rA ((u).length) O),(11,nV ((lim (b*2^s)).length)),(12,mV ((lim (b*2^s)).getD (((lim (b*2^s)).length:Nat)-1:Nat) 0)),(13,mV ((lim (b*2^s)).getD (((lim (b*2^s)).length:Nat)-2:Nat) 0)),(14,qS (sB za) (((lim (a*2^s)).length+2)-(lim (b*2^s)).length:Nat) (((lim (a*2^s)).length+2)-(lim (b*2^s)).length:Nat)),(15,iV ((m:Int)-1))]/\SS w h w_ L [⟨za,141,(U).flatMap az⟩] [⟨141,1,rA,O,(u).length,(u).flatMap az⟩] [S3 (sB ze) ([0,0]),fun L=>Seg L ze 0 ([uW 0,uW 0]),S3 zk (lim (a*2^s)),fun L=>Seg L zj 0 ([]),S3 Q (lim (b*2^s)),S3 D (lim b),S3 A (lim a)]/\m<=((lim (a*2^s)).length+2)-(lim (b*2^s)).length/\u.length=((lim (a*2^s)).length+2)/\Ld u/\U.length=((lim (a*2^s)).length+2)-(lim (b*2^s)).length/\Ld U/\bg u<4294967296^m*bg (lim (b*2^s))/\a*2^s=bg U*bg (lim (b*2^s))+bg u/\(∀ k,k<m->U.getD k 0=0)) _ ⟨((lim (a*2^s)).length+2)-(lim (b*2^s)).length,zP,zQ,(lim (a*2^s))++[0,0],As (((lim (a*2^s)).length+2)-(lim (b*2^s)).length:Nat) 0,yi,rfl,rfl,e.to _ _,nR _,bq,(Dg.append (Ld.lim _) (Dg.cons kD (Dg.one kD))),zU,Ld.rep _,(xh hvn hb2 oM (Mr hbp (Mc s))),F6,fun k _=>ee⟩ ?_);rintro _ _ _ ⟨m,rA,O,u,U,_,bz,rfl,e,hm,hul,S,hql,hWq,hR,inv,hq0⟩;refine cQ (aa e ac ?_);cases zm:(decide ((0:Int)<=((m:Int)-1:Int)))
 .
  have zB:=oF zm;refine lB 86 zm (ag (CG.exit ?_))
  show CG _ _ _ _ _ _ _ _
  refine aa e ac ?_;have hm0:m=0:=by omega
  rw[hm0,L9,Mw] at hR
  obtain ⟨hQ,hRm⟩:=GZ (da (b*2^s)) rfl inv hR;obtain ⟨_,e,br,b5,b3⟩:=e.pub 0;replace e:=(e.to [] [⟨141,1,rA,O,(u).length,(u).flatMap az⟩]).aS (SlO.of_flat (sz:=1) (f:=az) (d:=0) (b:=za) (o:=0) (l:=U) (fun _=>rfl) br);refine ar 252 e (jj (sB za) (((lim (a*2^s)).length+2)-(lim (b*2^s)).length:Nat) U (((lim (a*2^s)).length+2)-(lim (b*2^s)).length:Nat) hql oM oM _ _ e.g e.f.1) (fun _ _ e=>lL e ac ?_);obtain ⟨_,e,zW⟩:=e.pubr 0 (A:=rA) (c:=O) (l:=u) (f:=az) (ty:=141) (sz:=1) 0 (fun _=>rfl);refine ar 254 e (jj rA O u ((u).length) rfl oM zW _ _ e.g e.f.1) (fun _ _ e=>lL e ac (lV 256 (iV (-(s:Int))) ?_ (hr:=rS ((0-(s:Int))) kR (by rw[IntKind.wrap_i64];omega))));refine lC 257 e (EH (bg u) rA O (tl u ((u).length)) (ne S rfl) (by have:=it u u.length;omega) (by have:=it u u.length;omega) s oM _ _ e.g (by rw[sP (n:=bg u) S rfl];exact (e.f.1).take _)) ?_;rintro _ _ _ e ⟨yj,yk,rfl,zX,ya⟩;replace e:=e.aS ya;exact lL e aD (ae e [] (.tuple #[qS (sB za) (tl U (((lim (a*2^s)).length+2)-(lim (b*2^s)).length:Nat)) (((lim (a*2^s)).length+2)-(lim (b*2^s)).length:Nat),qS yj ((lim (bg u/2^s)).length) yk]) (⟨_,_,rfl,RN.trim hWq hQ hql (nR _) e.f.r.1,by rw[<-hRm];exact ⟨_,_,rfl,zX,e.f.1⟩⟩))
 have zB:=oT zm;refine lB 86 zm (ak (cK (cQ (kZ (cQ (cR 17 [] mixed e ao ?_))))));have hm1:0<m:=by omega
 have hn2:2<=(lim (b*2^s)).length:=by omega
 have hjn:m-1+(lim (b*2^s)).length<u.length:=by omega
 have hR1:bg u<4294967296^(m-1+1)*bg (lim (b*2^s)):=by rw[show m-1+1=m by omega];exact hR
 have hle:=FQ hn2 rfl W S hjn hR1;have hu2:=S.get (m-1+(lim (b*2^s)).length);have hu1:=S.get (m-1+(lim (b*2^s)).length-1);have hu0:=S.get (m-1+(lim (b*2^s)).length-2);refine eV 0 89 (qS rA ((u).length) O) (eV 1 90 (iV ((m:Int)-1)) (eV 2 91 (nV ((lim (b*2^s)).length)) (jX 3 92 (((m:Int)-1)+((lim (b*2^s)).length:Nat)) (m-1+(lim (b*2^s)).length) ?_)));obtain ⟨zb,zD⟩:=e.rowA 0 (A:=rA) (c:=O) (m:=(u).length) (ty:=141) (sz:=1) (cs:=(u).flatMap az) oM;subst zD;refine eX 4 93 (sB zb) ((u).length) O 1 (m-1+(lim (b*2^s)).length:Nat) (m-1+(lim (b*2^s)).length:Nat) rfl (E2 (ty:=141) (sz:=1) (c:=O) (m:=(u).length) (b:=zb) (cs:=(u).flatMap az) 5 94 0 (mW (u.getD (m-1+(lim (b*2^s)).length:Nat) 0)) (az (u.getD (m-1+(lim (b*2^s)).length:Nat) 0)) e (fw (f:=az) (sz:=1) (fun _=>rfl) 0 u (m-1+(lim (b*2^s)).length:Nat) oM) (eV 6 95 (mV (u.getD (m-1+(lim (b*2^s)).length:Nat) 0)) ?_ (hv:=fun _=>rU (((u.getD (m-1+(lim (b*2^s)).length:Nat) 0:Nat):Int)) kR (a8 oM oM))));refine eV 7 96 (mV ((u.getD (m-1+(lim (b*2^s)).length:Nat) 0:Nat)*4294967296%18446744073709551616)) ?_ (hv:=fun _=>rU ((((u.getD (m-1+(lim (b*2^s)).length:Nat) 0:Nat):Int)*4294967296)) kR (j4 (u.getD (m-1+(lim (b*2^s)).length:Nat) 0:Nat) 4294967296));refine eV 8 97 (qS (sB zb) ((u).length) O) (eV 9 98 (iV ((m:Int)-1)) (eV 10 99 (nV ((lim (b*2^s)).length)) (jX 11 100 (((m:Int)-1)+((lim (b*2^s)).length:Nat)) (m-1+(lim (b*2^s)).length) (jX 12 101 ((m-1+(lim (b*2^s)).length:Nat)-1) (m-1+(lim (b*2^s)).length-1) (eX 13 102 (sB zb) ((u).length) O 1 (m-1+(lim (b*2^s)).length-1:Nat) (m-1+(lim (b*2^s)).length-1:Nat) rfl (E2 (ty:=141) (sz:=1) (c:=O) (m:=(u).length) (b:=zb) (cs:=(u).flatMap az) 14 103 0 (mW (u.getD (m-1+(lim (b*2^s)).length-1:Nat) 0)) (az (u.getD (m-1+(lim (b*2^s)).length-1:Nat) 0)) e (fw (f:=az) (sz:=1) (fun _=>rfl) 0 u (m-1+(lim (b*2^s)).length-1:Nat) oM) (eV 15 104 (mV (u.getD (m-1+(lim (b*2^s)).length-1:Nat) 0)) ?_ (hv:=fun _=>rU (((u.getD (m-1+(lim (b*2^s)).length-1:Nat) 0:Nat):Int)) kR (a8 oM oM)))))))));refine eV 16 105 (mV ((u.getD (m-1+(lim (b*2^s)).length) 0)*4294967296+u.getD (m-1+(lim (b*2^s)).length-1) 0)) ?_ (hv:=fun _=>aI (iw (t:=38) (u:=38) (x:=.tmp 96) (y:=.tmp 104) (a:=((u.getD (m-1+(lim (b*2^s)).length:Nat) 0:Nat)*4294967296%18446744073709551616:Nat)) (b:=(u.getD (m-1+(lim (b*2^s)).length-1:Nat) 0:Nat)) kR kR kR oM oM _) (by rw[A0 (show (u.getD (m-1+(lim (b*2^s)).length) 0)*4294967296<18446744073709551616 by omega),sw hu1]));refine bP e (fun _ yl e=>tV 17 16 (mV ((u.getD (m-1+(lim (b*2^s)).length) 0)*4294967296+u.getD (m-1+(lim (b*2^s)).length-1) 0)) (rD (lL e aD (lV 108 (mV (((u.getD (m-1+(lim (b*2^s)).length) 0)*4294967296+u.getD (m-1+(lim (b*2^s)).length-1) 0:Nat)/((lim (b*2^s)).getD (((lim (b*2^s)).length:Nat)-1:Nat) 0:Nat))) ?_ (hr:=aI (dH (t:=38) (u:=38) (x:=.tmp 106) (y:=.tmp 107) (k:=.u64) (a:=(((u.getD (m-1+(lim (b*2^s)).length) 0)*4294967296+u.getD (m-1+(lim (b*2^s)).length-1) 0:Nat):Int)) (b:=(((lim (b*2^s)).getD (((lim (b*2^s)).length:Nat)-1:Nat) 0:Nat):Int)) kR kR kR oM _) (kl ((u.getD (m-1+(lim (b*2^s)).length) 0)*4294967296+u.getD (m-1+(lim (b*2^s)).length-1) 0:Nat) ((lim (b*2^s)).getD (((lim (b*2^s)).length:Nat)-1:Nat) 0:Nat) oM))))));refine lL e ac (aG (lL e aD (lV 111 (mV (((u.getD (m-1+(lim (b*2^s)).length) 0)*4294967296+u.getD (m-1+(lim (b*2^s)).length-1) 0:Nat)%((lim (b*2^s)).getD (((lim (b*2^s)).length:Nat)-1:Nat) 0:Nat))) ?_ (hr:=aI (ft (t:=38) (u:=38) (x:=.tmp 109) (y:=.tmp 110) (k:=.u64) (a:=(((u.getD (m-1+(lim (b*2^s)).length) 0)*4294967296+u.getD (m-1+(lim (b*2^s)).length-1) 0:Nat):Int)) (b:=(((lim (b*2^s)).getD (((lim (b*2^s)).length:Nat)-1:Nat) 0:Nat):Int)) kR kR kR oM _) (dk ((u.getD (m-1+(lim (b*2^s)).length) 0)*4294967296+u.getD (m-1+(lim (b*2^s)).length-1) 0:Nat) ((lim (b*2^s)).getD (((lim (b*2^s)).length:Nat)-1:Nat) 0:Nat))))));refine lL e ac (lN (CG.join (fun Γ w_=>∃ (I:Nat) (L:Hp),Γ=[(4,sZ),(5,sZ),(8,nV s),(9,qS Q ((lim (b*2^s)).length) X),(10,qS (sB zb) ((u).length) O),(11,nV ((lim (b*2^s)).length)),(12,mV ((lim (b*2^s)).getD (((lim (b*2^s)).length:Nat)-1:Nat) 0)),(13,mV ((lim (b*2^s)).getD (((lim (b*2^s)).length:Nat)-2:Nat) 0)),(14,qS (sB za) (((lim (a*2^s)).length+2)-(lim (b*2^s)).length:Nat) (((lim (a*2^s)).length+2)-(lim (b*2^s)).length:Nat)),(15,iV ((m:Int)-1)),(17,mV I)]/\SS w h w_ L [⟨za,141,(U).flatMap az⟩] [⟨141,1,sB zb,O,(u).length,(u).flatMap az⟩] [S3 (sB ze) ([0,0]),fun L=>Seg L ze 0 ([uW 0,uW 0]),S3 zk (lim (a*2^s)),fun L=>Seg L zj 0 ([]),S3 Q (lim (b*2^s)),S3 D (lim b),S3 A (lim a)]/\CT (u.getD (m-1+(lim (b*2^s)).length) 0) (u.getD (m-1+(lim (b*2^s)).length-1) 0) (u.getD (m-1+(lim (b*2^s)).length-2) 0) ((lim (b*2^s)).getD ((lim (b*2^s)).length-1) 0) ((lim (b*2^s)).getD ((lim (b*2^s)).length-2) 0) I) ?_ ?_))
 .
  refine kZ ?_;refine bH _ (CG.loop (fun Y Γ w_=>∃ (g:Nat) (M:Nat) (L:Hp),Y=g/\Γ=[(4,sZ),(5,sZ),(8,nV s),(9,qS Q ((lim (b*2^s)).length) X),(10,qS (sB zb) ((u).length) O),(11,nV ((lim (b*2^s)).length)),(12,mV ((lim (b*2^s)).getD (((lim (b*2^s)).length:Nat)-1:Nat) 0)),(13,mV ((lim (b*2^s)).getD (((lim (b*2^s)).length:Nat)-2:Nat) 0)),(14,qS (sB za) (((lim (a*2^s)).length+2)-(lim (b*2^s)).length:Nat) (((lim (a*2^s)).length+2)-(lim (b*2^s)).length:Nat)),(15,iV ((m:Int)-1)),(17,mV g),(18,mV M)]/\SS w h w_ L [⟨za,141,(U).flatMap az⟩] [⟨141,1,sB zb,O,(u).length,(u).flatMap az⟩] [S3 (sB ze) ([0,0]),fun L=>Seg L ze 0 ([uW 0,uW 0]),S3 zk (lim (a*2^s)),fun L=>Seg L zj 0 ([]),S3 Q (lim (b*2^s)),S3 D (lim b),S3 A (lim a)]/\Gk (u.getD (m-1+(lim (b*2^s)).length) 0) (u.getD (m-1+(lim (b*2^s)).length-1) 0) (u.getD (m-1+(lim (b*2^s)).length-2) 0) ((lim (b*2^s)).getD ((lim (b*2^s)).length-1) 0) ((lim (b*2^s)).getD ((lim (b*2^s)).length-2) 0) g M/\M<4294967296/\g<18446744073709551616) _ ⟨(((u.getD (m-1+(lim (b*2^s)).length) 0)*4294967296+u.getD (m-1+(lim (b*2^s)).length-1) 0:Nat)/((lim (b*2^s)).getD (((lim (b*2^s)).length:Nat)-1:Nat) 0:Nat):Nat),(((u.getD (m-1+(lim (b*2^s)).length) 0)*4294967296+u.getD (m-1+(lim (b*2^s)).length-1) 0:Nat)%((lim (b*2^s)).getD (((lim (b*2^s)).length:Nat)-1:Nat) 0:Nat):Nat),yl,rfl,rfl,e.to _ _,(Gk.start oM hu0),(by have:=LX (u.getD (m-1+(lim (b*2^s)).length) 0*4294967296+u.getD (m-1+(lim (b*2^s)).length-1) 0) (show 0<(lim (b*2^s)).getD ((lim (b*2^s)).length-1) 0 by omega);omega),(by have:=Nat.div_le_self ((u.getD (m-1+(lim (b*2^s)).length) 0)*4294967296+u.getD (m-1+(lim (b*2^s)).length-1) 0) ((lim (b*2^s)).getD ((lim (b*2^s)).length-1) 0);omega)⟩ ?_);rintro _ _ _ ⟨g,M,zl,ch,rfl,e,hG,hrh,hgb⟩;have b6:=fun hg=>hG.big hg hle hu1
  refine cQ (aa e ac ?_);cases zn:(decide ((4294967296:Int)<=(g:Int)))
  .
   have zE:=oF zn;refine lB 113 zn (lL e aD ?_);cases zo:(decide ((M:Int)<(4294967296:Int)))
   .
    have zG:=oF zo;refine lB 116 zo (lL e ac (lG 118 ?_));refine lG 119 (lG 120 (lG 121 (lG 122 (lG 123 (lG 124 (lG 125 (lG 126 (lG 127 (lG 128 (lG 129 (lG 130 (lG 131 (lG 132 (lL e [.v qF,.v qF] (ag (CG.exit ?_))))))))))))))));intro a_ V;exact ⟨_,⟨g,zl,rfl,e.to _ _,(hG.fin oM hv0 (by first|exact .inr oM|exact .inl oM))⟩,V.to _ kR⟩
   have zG:=oT zo;refine lB 116 zo (lL e di (lV 120 (mV (g*((lim (b*2^s)).getD (((lim (b*2^s)).length:Nat)-2:Nat) 0:Nat))) ?_ (hr:=rU (((g:Int)*(((lim (b*2^s)).getD (((lim (b*2^s)).length:Nat)-2:Nat) 0:Nat):Int))) kR (jm g ((lim (b*2^s)).getD (((lim (b*2^s)).length:Nat)-2:Nat) 0:Nat) (by have:=wP (show g<4294967296 by omega) hv0;omega)))));refine lL e ac (lV 122 (mV (M*4294967296)) ?_ (hr:=rU (((M:Int)*4294967296)) kR ((a8 oM oM).trans oM)));refine lL e di (bh 126 (((m:Int)-1)+((lim (b*2^s)).length:Nat)) (m-1+(lim (b*2^s)).length) ?_);refine bh 127 ((m-1+(lim (b*2^s)).length:Nat)-2) (m-1+(lim (b*2^s)).length-2) (lX 128 (sB zb) ((u).length) O 1 (m-1+(lim (b*2^s)).length-2:Nat) (m-1+(lim (b*2^s)).length-2:Nat) rfl (JU (ty:=141) (sz:=1) (c:=O) (m:=(u).length) (b:=zb) (cs:=(u).flatMap az) 129 0 (mW (u.getD (m-1+(lim (b*2^s)).length-2:Nat) 0)) (az (u.getD (m-1+(lim (b*2^s)).length-2:Nat) 0)) e (fw (f:=az) (sz:=1) (fun _=>rfl) 0 u (m-1+(lim (b*2^s)).length-2:Nat) oM) (lV 130 (mV (u.getD (m-1+(lim (b*2^s)).length-2:Nat) 0)) ?_ (hr:=rU (((u.getD (m-1+(lim (b*2^s)).length-2:Nat) 0:Nat):Int)) kR (a8 oM oM)))));refine lV 131 (mV (M*4294967296+u.getD (m-1+(lim (b*2^s)).length-2) 0)) ?_ (hr:=aI (iw (t:=38) (u:=38) (x:=.tmp 122) (y:=.tmp 130) (a:=(M*4294967296)) (b:=(u.getD (m-1+(lim (b*2^s)).length-2:Nat) 0:Nat)) kR kR kR oM oM _) (by rw[sw hu0]));cases zp:(decide (((M*4294967296+u.getD (m-1+(lim (b*2^s)).length-2) 0:Nat):Int)<((g*((lim (b*2^s)).getD (((lim (b*2^s)).length:Nat)-2:Nat) 0:Nat):Nat):Int)))
   .
    have zH:=oF zp;refine lB 132 zp (lL e [.v qF,.v qF] (ag (CG.exit ?_)));intro a_ V;exact ⟨_,⟨g,zl,rfl,e.to _ _,(hG.fin oM hv0 (by first|exact .inr oM|exact .inl oM))⟩,V.to _ kR⟩
   have zH:=oT zp;refine lB 132 zp (lL e [.v qT,.v qT] (ak (cK (kZ (ax ?_)))));have Z:Gk (u.getD (m-1+(lim (b*2^s)).length) 0) (u.getD (m-1+(lim (b*2^s)).length-1) 0) (u.getD (m-1+(lim (b*2^s)).length-2) 0) ((lim (b*2^s)).getD ((lim (b*2^s)).length-1) 0) ((lim (b*2^s)).getD ((lim (b*2^s)).length-2) 0) (g-1) (M+(lim (b*2^s)).getD ((lim (b*2^s)).length-1) 0):=by first|exact hG.decB oM|exact (hG.decT oM).2
   have hg0:0<g:=by first|omega|exact (hG.decT oM).1
   refine lL e ac (lV 136 (mV (g-1)) ?_ (hr:=rU (((g:Int)-(1:Int))) kR (fE g 1 oM oM)));refine lL e ac (aG (lL e aD (lV 139 (mV (M+((lim (b*2^s)).getD (((lim (b*2^s)).length:Nat)-1:Nat) 0:Nat))) ?_ (hr:=rU (((M:Int)+(((lim (b*2^s)).getD (((lim (b*2^s)).length:Nat)-1:Nat) 0:Nat):Int))) kR (eE M ((lim (b*2^s)).getD (((lim (b*2^s)).length:Nat)-1:Nat) 0:Nat) oM)))));refine lL e ac (aG (lL e ac ?_));cases zq:(decide ((4294967296:Int)<=((M+((lim (b*2^s)).getD (((lim (b*2^s)).length:Nat)-1:Nat) 0:Nat):Nat):Int)))
   .
    have zI:=oF zq;refine lB 141 zq (lN (bH [(4,sZ),(5,sZ),(8,nV s),(9,qS Q ((lim (b*2^s)).length) X),(10,qS (sB zb) ((u).length) O),(11,nV ((lim (b*2^s)).length)),(12,mV ((lim (b*2^s)).getD (((lim (b*2^s)).length:Nat)-1:Nat) 0)),(13,mV ((lim (b*2^s)).getD (((lim (b*2^s)).length:Nat)-2:Nat) 0)),(14,qS (sB za) (((lim (a*2^s)).length+2)-(lim (b*2^s)).length:Nat) (((lim (a*2^s)).length+2)-(lim (b*2^s)).length:Nat)),(15,iV ((m:Int)-1)),(17,mV (g-1)),(18,mV (M+((lim (b*2^s)).getD (((lim (b*2^s)).length:Nat)-1:Nat) 0:Nat))),(141,qF)] ?_));refine dr (CG.skip ?_);intro a_ V;refine ⟨_,_,?_,⟨g-1,(M+((lim (b*2^s)).getD (((lim (b*2^s)).length:Nat)-1:Nat) 0:Nat):Nat),zl,rfl,rfl,e.to _ _,Z,oM,oM⟩,V.to _ kR⟩
    omega
   have zI:=oT zq;refine lB 141 zq (lN (bH [(4,sZ),(5,sZ),(8,nV s),(9,qS Q ((lim (b*2^s)).length) X),(10,qS (sB zb) ((u).length) O),(11,nV ((lim (b*2^s)).length)),(12,mV ((lim (b*2^s)).getD (((lim (b*2^s)).length:Nat)-1:Nat) 0)),(13,mV ((lim (b*2^s)).getD (((lim (b*2^s)).length:Nat)-2:Nat) 0)),(14,qS (sB za) (((lim (a*2^s)).length+2)-(lim (b*2^s)).length:Nat) (((lim (a*2^s)).length+2)-(lim (b*2^s)).length:Nat)),(15,iV ((m:Int)-1)),(17,mV (g-1)),(18,mV (M+((lim (b*2^s)).getD (((lim (b*2^s)).length:Nat)-1:Nat) 0:Nat))),(141,qT)] ?_));refine co (CG.exit ?_);have bn:=fun hg=>Z.big hg hle hu1
   intro a_ V;exact ⟨_,⟨(g-1),zl,rfl,e.to _ _,(Z.fin oM hv0 (.inl oM))⟩,V.to _ kR⟩
  have zE:=oT zn;refine lB 113 zn (lL e ac (lG 115 ?_));refine lG 116 (lG 117 (lG 118 (lG 119 (lG 120 (lG 121 (lG 122 (lG 123 (lG 124 (lG 125 (lG 126 (lG 127 (lG 128 (lG 129 (lG 130 (lG 131 (lG 132 (lG 133 (lL e [.v qT] (ak (cK (kZ (ax ?_))))))))))))))))))))));have Z:Gk (u.getD (m-1+(lim (b*2^s)).length) 0) (u.getD (m-1+(lim (b*2^s)).length-1) 0) (u.getD (m-1+(lim (b*2^s)).length-2) 0) ((lim (b*2^s)).getD ((lim (b*2^s)).length-1) 0) ((lim (b*2^s)).getD ((lim (b*2^s)).length-2) 0) (g-1) (M+(lim (b*2^s)).getD ((lim (b*2^s)).length-1) 0):=by first|exact hG.decB oM|exact (hG.decT oM).2
  have hg0:0<g:=by first|omega|exact (hG.decT oM).1
  refine lL e ac (lV 136 (mV (g-1)) ?_ (hr:=rU (((g:Int)-(1:Int))) kR (fE g 1 oM oM)));refine lL e ac (aG (lL e aD (lV 139 (mV (M+((lim (b*2^s)).getD (((lim (b*2^s)).length:Nat)-1:Nat) 0:Nat))) ?_ (hr:=rU (((M:Int)+(((lim (b*2^s)).getD (((lim (b*2^s)).length:Nat)-1:Nat) 0:Nat):Int))) kR (eE M ((lim (b*2^s)).getD (((lim (b*2^s)).length:Nat)-1:Nat) 0:Nat) oM)))));refine lL e ac (aG (lL e ac ?_));cases zr:(decide ((4294967296:Int)<=((M+((lim (b*2^s)).getD (((lim (b*2^s)).length:Nat)-1:Nat) 0:Nat):Nat):Int)))
  .
   have zJ:=oF zr;refine lB 141 zr (lN (bH [(4,sZ),(5,sZ),(8,nV s),(9,qS Q ((lim (b*2^s)).length) X),(10,qS (sB zb) ((u).length) O),(11,nV ((lim (b*2^s)).length)),(12,mV ((lim (b*2^s)).getD (((lim (b*2^s)).length:Nat)-1:Nat) 0)),(13,mV ((lim (b*2^s)).getD (((lim (b*2^s)).length:Nat)-2:Nat) 0)),(14,qS (sB za) (((lim (a*2^s)).length+2)-(lim (b*2^s)).length:Nat) (((lim (a*2^s)).length+2)-(lim (b*2^s)).length:Nat)),(15,iV ((m:Int)-1)),(17,mV (g-1)),(18,mV (M+((lim (b*2^s)).getD (((lim (b*2^s)).length:Nat)-1:Nat) 0:Nat))),(141,qF)] ?_));refine dr (CG.skip ?_);intro a_ V;refine ⟨_,_,?_,⟨g-1,(M+((lim (b*2^s)).getD (((lim (b*2^s)).length:Nat)-1:Nat) 0:Nat):Nat),zl,rfl,rfl,e.to _ _,Z,oM,oM⟩,V.to _ kR⟩
   omega
  have zJ:=oT zr;refine lB 141 zr (lN (bH [(4,sZ),(5,sZ),(8,nV s),(9,qS Q ((lim (b*2^s)).length) X),(10,qS (sB zb) ((u).length) O),(11,nV ((lim (b*2^s)).length)),(12,mV ((lim (b*2^s)).getD (((lim (b*2^s)).length:Nat)-1:Nat) 0)),(13,mV ((lim (b*2^s)).getD (((lim (b*2^s)).length:Nat)-2:Nat) 0)),(14,qS (sB za) (((lim (a*2^s)).length+2)-(lim (b*2^s)).length:Nat) (((lim (a*2^s)).length+2)-(lim (b*2^s)).length:Nat)),(15,iV ((m:Int)-1)),(17,mV (g-1)),(18,mV (M+((lim (b*2^s)).getD (((lim (b*2^s)).length:Nat)-1:Nat) 0:Nat))),(141,qT)] ?_));refine co (CG.exit ?_);have bn:=fun hg=>Z.big hg hle hu1
  intro a_ V;exact ⟨_,⟨(g-1),zl,rfl,e.to _ _,(Z.fin oM hv0 (.inl oM))⟩,V.to _ kR⟩
 rintro _ _ ⟨I,ym,rfl,e,hH⟩;refine ax ?_;have hgl:=hH.2.2;have hGd:=BC (n:=(lim (b*2^s)).length) (j:=m-1) hn2 rfl W S hjn bd hR1 hH;refine lL e ac (aG (lL e ac (ah (aa e ac (aY ?_)))));refine bH _ (CG.loop (fun Y Γ w_=>∃ (i:Nat) (raA:Option Addr) (J:Nat) (z:List Nat) (F:Nat) (H:Nat) (L:Hp),Y=(lim (b*2^s)).length-i/\Γ=[(4,sZ),(5,sZ),(8,nV s),(9,qS Q ((lim (b*2^s)).length) X),(10,qS raA ((z).length) J),(11,nV ((lim (b*2^s)).length)),(12,mV ((lim (b*2^s)).getD (((lim (b*2^s)).length:Nat)-1:Nat) 0)),(13,mV ((lim (b*2^s)).getD (((lim (b*2^s)).length:Nat)-2:Nat) 0)),(14,qS (sB za) (((lim (a*2^s)).length+2)-(lim (b*2^s)).length:Nat) (((lim (a*2^s)).length+2)-(lim (b*2^s)).length:Nat)),(15,iV ((m:Int)-1)),(17,mV I),(21,nV i),(19,mV F),(20,mV H)]/\SS w h w_ L [⟨za,141,(U).flatMap az⟩] [⟨141,1,raA,J,(z).length,(z).flatMap az⟩] [S3 (sB ze) ([0,0]),fun L=>Seg L ze 0 ([uW 0,uW 0]),S3 zk (lim (a*2^s)),fun L=>Seg L zj 0 ([]),S3 Q (lim (b*2^s)),S3 D (lim b),S3 A (lim a)]/\i<=(lim (b*2^s)).length/\z.length=((lim (a*2^s)).length+2)/\Ld z/\F<4294967296/\H<=1/\ai 4294967296 z+4294967296^(m-1)*(I*ai 4294967296 ((lim (b*2^s)).take i))=bg u+4294967296^(m-1+i)*(F+H)/\Above z u (m-1+(lim (b*2^s)).length+1)) _ ⟨0,sB zb,O,u,0,0,ym,rfl,rfl,e.to _ _,MG _,hul,S,oM,oM,(by show ai _ u+_=ai _ u+_;simp[ai]),Above.refl _ _⟩ ?_);rintro _ _ _ ⟨i,raA,J,z,F,H,zu,cd,rfl,e,hi,hua,hWa,hcy,hbo,bk,bl⟩;have b2:=hWa.get (m-1+i);have hvi:=W.get i;refine cQ (aa e aD ?_);cases zs:(decide ((i:Int)<(((lim (b*2^s)).length:Nat):Int)))
 .
  have zK:=oF zs;refine lB 144 zs (ag (CG.exit ?_))
  show CG _ _ _ _ _ _ _ _
  refine ax ?_;have b4:=hWa.get (m-1+(lim (b*2^s)).length);refine lL e di (bh 182 (((m:Int)-1)+((lim (b*2^s)).length:Nat)) (m-1+(lim (b*2^s)).length) ?_);obtain ⟨zd,zL⟩:=e.rowA 0 (A:=raA) (c:=J) (m:=(z).length) (ty:=141) (sz:=1) (cs:=(z).flatMap az) oM;subst zL;refine lX 183 (sB zd) ((z).length) J 1 (m-1+(lim (b*2^s)).length:Nat) (m-1+(lim (b*2^s)).length:Nat) rfl (JU (ty:=141) (sz:=1) (c:=J) (m:=(z).length) (b:=zd) (cs:=(z).flatMap az) 184 0 (mW (z.getD (m-1+(lim (b*2^s)).length:Nat) 0)) (az (z.getD (m-1+(lim (b*2^s)).length:Nat) 0)) e (fw (f:=az) (sz:=1) (fun _=>rfl) 0 z (m-1+(lim (b*2^s)).length:Nat) oM) (lV 185 (mV (z.getD (m-1+(lim (b*2^s)).length:Nat) 0)) ?_ (hr:=rU (((z.getD (m-1+(lim (b*2^s)).length:Nat) 0:Nat):Int)) kR (a8 oM oM))));refine lL e ac (lV 187 (mV (((z.getD (m-1+(lim (b*2^s)).length:Nat) 0:Nat)+(18446744073709551616-F))%18446744073709551616)) ?_ (hr:=rU ((((z.getD (m-1+(lim (b*2^s)).length:Nat) 0:Nat):Int)-(F:Int))) kR (kI (z.getD (m-1+(lim (b*2^s)).length:Nat) 0:Nat) F oM)));refine lL e ac (lV 189 (mV (((((z.getD (m-1+(lim (b*2^s)).length:Nat) 0:Nat)+(18446744073709551616-F))%18446744073709551616:Nat)+(18446744073709551616-H))%18446744073709551616)) ?_ (hr:=rU ((((((z.getD (m-1+(lim (b*2^s)).length:Nat) 0:Nat)+(18446744073709551616-F))%18446744073709551616:Nat):Int)-(H:Int))) kR (kI (((z.getD (m-1+(lim (b*2^s)).length:Nat) 0:Nat)+(18446744073709551616-F))%18446744073709551616:Nat) H oM)));refine lL e ac (aG ?_);rw[show i=(lim (b*2^s)).length by omega] at bk
  obtain ⟨hT1,hT2⟩:=Bt (t:=(((((z.getD (m-1+(lim (b*2^s)).length:Nat) 0:Nat)+(18446744073709551616-F))%18446744073709551616:Nat)+(18446744073709551616-H))%18446744073709551616:Nat)) (hWa.get (m-1+(lim (b*2^s)).length)) hcy hbo rfl;have hE:=wQ oM bk (s:=(((((((z.getD (m-1+(lim (b*2^s)).length:Nat) 0:Nat)+(18446744073709551616-F))%18446744073709551616:Nat)+(18446744073709551616-H))%18446744073709551616:Nat))%4294967296)) (bo':=((((((z.getD (m-1+(lim (b*2^s)).length:Nat) 0:Nat)+(18446744073709551616-F))%18446744073709551616:Nat)+(18446744073709551616-H))%18446744073709551616:Nat))/9223372036854775808) oM;refine lL e di (bh 193 (((m:Int)-1)+((lim (b*2^s)).length:Nat)) (m-1+(lim (b*2^s)).length) ?_);refine lL e ac (lV 195 (mW ((((((z.getD (m-1+(lim (b*2^s)).length:Nat) 0:Nat)+(18446744073709551616-F))%18446744073709551616:Nat)+(18446744073709551616-H))%18446744073709551616:Nat)%4294967296)) ?_ (hr:=rT (((((((z.getD (m-1+(lim (b*2^s)).length:Nat) 0:Nat)+(18446744073709551616-F))%18446744073709551616:Nat)+(18446744073709551616-H))%18446744073709551616:Nat):Int)) kR (gX _)));refine lX 196 (sB zd) ((z).length) J 1 (m-1+(lim (b*2^s)).length:Nat) (m-1+(lim (b*2^s)).length:Nat) rfl (Hm (ty:=141) (c:=J) (b:=zd) 0 (m-1+(lim (b*2^s)).length:Nat) 0 ([mW ((((((z.getD (m-1+(lim (b*2^s)).length:Nat) 0:Nat)+(18446744073709551616-F))%18446744073709551616:Nat)+(18446744073709551616-H))%18446744073709551616:Nat)%4294967296)]) z az 1 0 ((((((z.getD (m-1+(lim (b*2^s)).length:Nat) 0:Nat)+(18446744073709551616-F))%18446744073709551616:Nat)+(18446744073709551616-H))%18446744073709551616:Nat)%4294967296:Nat) e oM (fun _ e=>?_));replace e:=e.to [⟨za,141,(U).flatMap az⟩] [⟨141,1,sB zd,J,(z).length,(z.set (m-1+(lim (b*2^s)).length:Nat) ((((((z.getD (m-1+(lim (b*2^s)).length:Nat) 0:Nat)+(18446744073709551616-F))%18446744073709551616:Nat)+(18446744073709551616-H))%18446744073709551616:Nat)%4294967296:Nat)).flatMap az⟩];refine lN (CG.join (fun Γ w_=>∃ (gz:Nat) (rzA:Option Addr) (rzc:Nat) (uz:List Nat) (L:Hp),Γ=[(4,sZ),(5,sZ),(8,nV s),(9,qS Q ((lim (b*2^s)).length) X),(11,nV ((lim (b*2^s)).length)),(12,mV ((lim (b*2^s)).getD (((lim (b*2^s)).length:Nat)-1:Nat) 0)),(13,mV ((lim (b*2^s)).getD (((lim (b*2^s)).length:Nat)-2:Nat) 0)),(14,qS (sB za) (((lim (a*2^s)).length+2)-(lim (b*2^s)).length:Nat) (((lim (a*2^s)).length+2)-(lim (b*2^s)).length:Nat)),(15,iV ((m:Int)-1)),(17,mV gz),(10,qS rzA ((uz).length) rzc)]/\SS w h w_ L [⟨za,141,(U).flatMap az⟩] [⟨141,1,rzA,rzc,(uz).length,(uz).flatMap az⟩] [S3 (sB ze) ([0,0]),fun L=>Seg L ze 0 ([uW 0,uW 0]),S3 zk (lim (a*2^s)),fun L=>Seg L zj 0 ([]),S3 Q (lim (b*2^s)),S3 D (lim b),S3 A (lim a)]/\uz.length=((lim (a*2^s)).length+2)/\Ld uz/\gz<4294967296/\bg uz<4294967296^(m-1)*bg (lim (b*2^s))/\bg uz+4294967296^(m-1)*(gz*bg (lim (b*2^s)))=bg u) ?_ ?_)
  .
   refine ax ?_;have hW4:Ld (z.set (m-1+(lim (b*2^s)).length:Nat) ((((((z.getD (m-1+(lim (b*2^s)).length:Nat) 0:Nat)+(18446744073709551616-F))%18446744073709551616:Nat)+(18446744073709551616-H))%18446744073709551616:Nat)%4294967296:Nat)):=hWa.set _ (LX _ kD);have bb:Above (z.set (m-1+(lim (b*2^s)).length:Nat) ((((((z.getD (m-1+(lim (b*2^s)).length:Nat) 0:Nat)+(18446744073709551616-F))%18446744073709551616:Nat)+(18446744073709551616-H))%18446744073709551616:Nat)%4294967296:Nat)) u (m-1+(lim (b*2^s)).length+1):=bl.set oM oM;have hl4:(z.set (m-1+(lim (b*2^s)).length:Nat) ((((((z.getD (m-1+(lim (b*2^s)).length:Nat) 0:Nat)+(18446744073709551616-F))%18446744073709551616:Nat)+(18446744073709551616-H))%18446744073709551616:Nat)%4294967296:Nat)).length=((lim (a*2^s)).length+2):=by rw[LB];exact hua
   refine lL e ac (lV 198 (mV ((((((z.getD (m-1+(lim (b*2^s)).length:Nat) 0:Nat)+(18446744073709551616-F))%18446744073709551616:Nat)+(18446744073709551616-H))%18446744073709551616:Nat)/9223372036854775808)) ?_ (hr:=aI (n:=MU ((((((z.getD (m-1+(lim (b*2^s)).length:Nat) 0:Nat)+(18446744073709551616-F))%18446744073709551616:Nat)+(18446744073709551616-H))%18446744073709551616:Nat):Int) 9223372036854775808) kR (ef _ 9223372036854775808)));cases zt:((((((((z.getD (m-1+(lim (b*2^s)).length:Nat) 0:Nat)+(18446744073709551616-F))%18446744073709551616:Nat)+(18446744073709551616-H))%18446744073709551616:Nat)/9223372036854775808:Nat):Int) == (1:Int))
   .
    have zM:=aj zt;refine lB 199 zt (ag (CG.skip ?_));have hD_:=CF hn2 rfl W S hW4 hjn bd hR1 hGd bb (by rw[show ((((((z.getD (m-1+(lim (b*2^s)).length:Nat) 0:Nat)+(18446744073709551616-F))%18446744073709551616:Nat)+(18446744073709551616-H))%18446744073709551616:Nat))/9223372036854775808=0 by omega] at hE;exact hE);have hDw:=hW4;have hDg:=hgl;have hDu:=hD_.1;have hDe:=hD_.2;have hDl:=hl4;intro a_ V;replace e:=e.rown [⟨141,1,sB zd,J,(z.set (m-1+(lim (b*2^s)).length:Nat) ((((((z.getD (m-1+(lim (b*2^s)).length:Nat) 0:Nat)+(18446744073709551616-F))%18446744073709551616:Nat)+(18446744073709551616-H))%18446744073709551616:Nat)%4294967296:Nat)).length,(z.set (m-1+(lim (b*2^s)).length:Nat) ((((((z.getD (m-1+(lim (b*2^s)).length:Nat) 0:Nat)+(18446744073709551616-F))%18446744073709551616:Nat)+(18446744073709551616-H))%18446744073709551616:Nat)%4294967296:Nat)).flatMap az⟩] (by simp only[LB]);exact ⟨_,⟨I,sB zd,J,z.set (m-1+(lim (b*2^s)).length:Nat) ((((((z.getD (m-1+(lim (b*2^s)).length:Nat) 0:Nat)+(18446744073709551616-F))%18446744073709551616:Nat)+(18446744073709551616-H))%18446744073709551616:Nat)%4294967296:Nat),zu,rfl,e.to _ _,hDl,hDw,hDg,hDu,hDe⟩,V.to _ (by simp only[LB];kernel_rfl)⟩
   have zM:=eq_of_beq zt;refine lB 199 zt (ak (aa e ac ?_));have hE1:=hE;rw[show ((((((z.getD (m-1+(lim (b*2^s)).length:Nat) 0:Nat)+(18446744073709551616-F))%18446744073709551616:Nat)+(18446744073709551616-H))%18446744073709551616:Nat))/9223372036854775808=1 by omega] at hE1
   have hgp:=HB hn2 rfl W S hW4 hjn bd hR1 hGd bb hE1;refine lV 201 (mV (I-1)) ?_ (hr:=rU (((I:Int)-(1:Int))) kR (fE I 1 oM oM));refine lL e ac (lN (bH [(4,sZ),(5,sZ),(8,nV s),(9,qS Q ((lim (b*2^s)).length) X),(10,qS (sB zd) ((z).length) J),(11,nV ((lim (b*2^s)).length)),(12,mV ((lim (b*2^s)).getD (((lim (b*2^s)).length:Nat)-1:Nat) 0)),(13,mV ((lim (b*2^s)).getD (((lim (b*2^s)).length:Nat)-2:Nat) 0)),(14,qS (sB za) (((lim (a*2^s)).length+2)-(lim (b*2^s)).length:Nat) (((lim (a*2^s)).length+2)-(lim (b*2^s)).length:Nat)),(15,iV ((m:Int)-1)),(17,mV (I-1)),(19,mV F)] ?_));refine aa e ac (ah (aa e ac (aY ?_)));replace e:=e.rown [⟨141,1,sB zd,J,(z.set (m-1+(lim (b*2^s)).length:Nat) ((((((z.getD (m-1+(lim (b*2^s)).length:Nat) 0:Nat)+(18446744073709551616-F))%18446744073709551616:Nat)+(18446744073709551616-H))%18446744073709551616:Nat)%4294967296:Nat)).length,(z.set (m-1+(lim (b*2^s)).length:Nat) ((((((z.getD (m-1+(lim (b*2^s)).length:Nat) 0:Nat)+(18446744073709551616-F))%18446744073709551616:Nat)+(18446744073709551616-H))%18446744073709551616:Nat)%4294967296:Nat)).flatMap az⟩] (by simp only[LB]);refine bH _ (CG.loop (fun Y Γ w_=>∃ (C:Nat) (rbA:Option Addr) (K:Nat) (B:List Nat) (c2:Nat) (L:Hp),Y=(lim (b*2^s)).length-C/\Γ=[(4,sZ),(5,sZ),(8,nV s),(9,qS Q ((lim (b*2^s)).length) X),(10,qS rbA ((B).length) K),(11,nV ((lim (b*2^s)).length)),(12,mV ((lim (b*2^s)).getD (((lim (b*2^s)).length:Nat)-1:Nat) 0)),(13,mV ((lim (b*2^s)).getD (((lim (b*2^s)).length:Nat)-2:Nat) 0)),(14,qS (sB za) (((lim (a*2^s)).length+2)-(lim (b*2^s)).length:Nat) (((lim (a*2^s)).length+2)-(lim (b*2^s)).length:Nat)),(15,iV ((m:Int)-1)),(17,mV (I-1)),(24,nV C),(19,mV c2)]/\SS w h w_ L [⟨za,141,(U).flatMap az⟩] [⟨141,1,rbA,K,(B).length,(B).flatMap az⟩] [S3 (sB ze) ([0,0]),fun L=>Seg L ze 0 ([uW 0,uW 0]),S3 zk (lim (a*2^s)),fun L=>Seg L zj 0 ([]),S3 Q (lim (b*2^s)),S3 D (lim b),S3 A (lim a)]/\C<=(lim (b*2^s)).length/\B.length=((lim (a*2^s)).length+2)/\Ld B/\c2<=1/\ai 4294967296 B+4294967296^(m-1+C)*c2=ai 4294967296 (z.set (m-1+(lim (b*2^s)).length:Nat) ((((((z.getD (m-1+(lim (b*2^s)).length:Nat) 0:Nat)+(18446744073709551616-F))%18446744073709551616:Nat)+(18446744073709551616-H))%18446744073709551616:Nat)%4294967296:Nat))+4294967296^(m-1)*ai 4294967296 ((lim (b*2^s)).take C)/\Above B u (m-1+(lim (b*2^s)).length+1)) _ ⟨0,sB zd,J,z.set (m-1+(lim (b*2^s)).length:Nat) ((((((z.getD (m-1+(lim (b*2^s)).length:Nat) 0:Nat)+(18446744073709551616-F))%18446744073709551616:Nat)+(18446744073709551616-H))%18446744073709551616:Nat)%4294967296:Nat),0,zu,rfl,(by simp only[LB]<;>rfl),e.to _ _,MG _,hl4,hW4,oM,(by simp[ai]),bb⟩ ?_);rintro _ _ _ ⟨C,rbA,K,B,c2,yb,bt,rfl,e,hi2,hub,hWb,hc2,bf,bm⟩;refine cQ (aa e aD ?_);cases zi:(decide ((C:Int)<(((lim (b*2^s)).length:Nat):Int)))
   .
    have zv:=oF zi;refine lB 204 zi (ag (CG.exit ?_))
    show CG _ _ _ _ _ _ _ _
    refine kQ ?_;have bx:=hWb.get (m-1+(lim (b*2^s)).length);refine lL e di (bh 234 (((m:Int)-1)+((lim (b*2^s)).length:Nat)) (m-1+(lim (b*2^s)).length) ?_);refine lL e di (bh 238 (((m:Int)-1)+((lim (b*2^s)).length:Nat)) (m-1+(lim (b*2^s)).length) ?_);obtain ⟨zf,zw⟩:=e.rowA 0 (A:=rbA) (c:=K) (m:=(B).length) (ty:=141) (sz:=1) (cs:=(B).flatMap az) oM;subst zw;refine lX 239 (sB zf) ((B).length) K 1 (m-1+(lim (b*2^s)).length:Nat) (m-1+(lim (b*2^s)).length:Nat) rfl (JU (ty:=141) (sz:=1) (c:=K) (m:=(B).length) (b:=zf) (cs:=(B).flatMap az) 240 0 (mW (B.getD (m-1+(lim (b*2^s)).length:Nat) 0)) (az (B.getD (m-1+(lim (b*2^s)).length:Nat) 0)) e (fw (f:=az) (sz:=1) (fun _=>rfl) 0 B (m-1+(lim (b*2^s)).length:Nat) oM) (lV 241 (mV (B.getD (m-1+(lim (b*2^s)).length:Nat) 0)) ?_ (hr:=rU (((B.getD (m-1+(lim (b*2^s)).length:Nat) 0:Nat):Int)) kR (a8 oM oM))));refine lL e ac (lV 243 (mV ((B.getD (m-1+(lim (b*2^s)).length:Nat) 0:Nat)+c2)) ?_ (hr:=rU ((((B.getD (m-1+(lim (b*2^s)).length:Nat) 0:Nat):Int)+(c2:Int))) kR (eE (B.getD (m-1+(lim (b*2^s)).length:Nat) 0:Nat) c2 oM)));refine lV 244 (mW (((B.getD (m-1+(lim (b*2^s)).length:Nat) 0:Nat)+c2:Nat)%4294967296)) ?_ (hr:=rT ((((B.getD (m-1+(lim (b*2^s)).length:Nat) 0:Nat)+c2:Nat):Int)) kR (gX _));refine lX 245 (sB zf) ((B).length) K 1 (m-1+(lim (b*2^s)).length:Nat) (m-1+(lim (b*2^s)).length:Nat) rfl (Hm (ty:=141) (c:=K) (b:=zf) 0 (m-1+(lim (b*2^s)).length:Nat) 0 ([mW (((B.getD (m-1+(lim (b*2^s)).length:Nat) 0:Nat)+c2:Nat)%4294967296)]) B az 1 0 (((B.getD (m-1+(lim (b*2^s)).length:Nat) 0:Nat)+c2:Nat)%4294967296:Nat) e oM (fun _ e=>?_));replace e:=e.to [⟨za,141,(U).flatMap az⟩] [⟨141,1,sB zf,K,(B).length,(B.set (m-1+(lim (b*2^s)).length:Nat) (((B.getD (m-1+(lim (b*2^s)).length:Nat) 0:Nat)+c2:Nat)%4294967296:Nat)).flatMap az⟩];refine lD ?_;rw[show C=(lim (b*2^s)).length by omega] at bf
    have hE3:=AM (s:=(B.getD (m-1+(lim (b*2^s)).length) 0+c2)%4294967296) (c':=(B.getD (m-1+(lim (b*2^s)).length) 0+c2)/4294967296) oM bf (Mn _ _);have hDw:Ld (B.set (m-1+(lim (b*2^s)).length:Nat) (((B.getD (m-1+(lim (b*2^s)).length:Nat) 0:Nat)+c2:Nat)%4294967296:Nat)):=hWb.set _ (LX _ kD);obtain ⟨hDu,hDe,hDp⟩:=Gt hn2 rfl W S hW4 hDw hjn bd hR1 hGd bb (bm.set oM oM) hE1 hE3;have hDg:I-1<4294967296:=by omega
    have hDl:(B.set (m-1+(lim (b*2^s)).length:Nat) (((B.getD (m-1+(lim (b*2^s)).length:Nat) 0:Nat)+c2:Nat)%4294967296:Nat)).length=((lim (a*2^s)).length+2):=by rw[LB];exact hub
    intro a_ V;replace e:=e.rown [⟨141,1,sB zf,K,(B.set (m-1+(lim (b*2^s)).length:Nat) (((B.getD (m-1+(lim (b*2^s)).length:Nat) 0:Nat)+c2:Nat)%4294967296:Nat)).length,(B.set (m-1+(lim (b*2^s)).length:Nat) (((B.getD (m-1+(lim (b*2^s)).length:Nat) 0:Nat)+c2:Nat)%4294967296:Nat)).flatMap az⟩] (by simp only[LB]);exact ⟨_,⟨(I-1),sB zf,K,B.set (m-1+(lim (b*2^s)).length:Nat) (((B.getD (m-1+(lim (b*2^s)).length:Nat) 0:Nat)+c2:Nat)%4294967296:Nat),yb,rfl,e.to _ _,hDl,hDw,hDg,hDu,hDe⟩,V.to _ (by simp only[LB];kernel_rfl)⟩
   have zv:=oT zi;refine lB 204 zi (ak (cK (cQ (kZ (cQ (cR 15 [] mixed e ao ?_))))));have b1:=W.get C;have b9:=hWb.get (m-1+C);refine eV 0 207 (mV c2) (eV 1 208 (qS rbA ((B).length) K) (eV 2 209 (iV ((m:Int)-1)) (eV 3 210 (nV C) (jX 4 211 (((m:Int)-1)+(C:Nat)) (m-1+C) ?_))));obtain ⟨zg,zx⟩:=e.rowA 0 (A:=rbA) (c:=K) (m:=(B).length) (ty:=141) (sz:=1) (cs:=(B).flatMap az) oM;subst zx;refine eX 5 212 (sB zg) ((B).length) K 1 (m-1+C:Nat) (m-1+C) rfl (E2 (ty:=141) (sz:=1) (c:=K) (m:=(B).length) (b:=zg) (cs:=(B).flatMap az) 6 213 0 (mW (B.getD (m-1+C) 0)) (az (B.getD (m-1+C) 0)) e (fw (f:=az) (sz:=1) (fun _=>rfl) 0 B (m-1+C) oM) (eV 7 214 (mV (B.getD (m-1+C) 0)) ?_ (hv:=fun _=>rU (((B.getD (m-1+C) 0:Nat):Int)) kR (a8 oM oM))));refine eV 8 215 (mV (c2+(B.getD (m-1+C) 0))) ?_ (hv:=fun _=>rU (((c2:Int)+((B.getD (m-1+C) 0:Nat):Int))) kR (eE c2 (B.getD (m-1+C) 0) oM));refine eV 9 216 (qS Q ((lim (b*2^s)).length) X) (eV 10 217 (nV C) (eX 11 218 Q ((lim (b*2^s)).length) X 1 (C:Nat) C ((e.f.q.1).ok oM) (eH 12 219 (mW ((lim (b*2^s)).getD C 0)) e ((e.f.q.1).el C oM) (eV 13 220 (mV ((lim (b*2^s)).getD C 0)) ?_ (hv:=fun _=>rU ((((lim (b*2^s)).getD C 0:Nat):Int)) kR (a8 oM oM))))));refine eV 14 221 (mV ((c2+(B.getD (m-1+C) 0):Nat)+((lim (b*2^s)).getD C 0:Nat))) ?_ (hv:=fun _=>rU ((((c2+(B.getD (m-1+C) 0):Nat):Int)+(((lim (b*2^s)).getD C 0:Nat):Int))) kR (eE (c2+(B.getD (m-1+C) 0):Nat) ((lim (b*2^s)).getD C 0:Nat) oM));refine bP e (fun _ yc e=>tV 15 19 (mV ((c2+(B.getD (m-1+C) 0):Nat)+((lim (b*2^s)).getD C 0:Nat))) (rD (lL e di (bh 225 (((m:Int)-1)+(C:Nat)) (m-1+C) ?_))));refine lL e ac (lV 227 (mW (((c2+(B.getD (m-1+C) 0):Nat)+((lim (b*2^s)).getD C 0:Nat):Nat)%4294967296)) ?_ (hr:=rT ((((c2+(B.getD (m-1+C) 0):Nat)+((lim (b*2^s)).getD C 0:Nat):Nat):Int)) kR (gX _)));refine lX 228 (sB zg) ((B).length) K 1 (m-1+C:Nat) (m-1+C) rfl (Hm (ty:=141) (c:=K) (b:=zg) 0 (m-1+C) 0 ([mW (((c2+(B.getD (m-1+C) 0):Nat)+((lim (b*2^s)).getD C 0:Nat):Nat)%4294967296)]) B az 1 0 (((c2+(B.getD (m-1+C) 0):Nat)+((lim (b*2^s)).getD C 0:Nat):Nat)%4294967296:Nat) e oM (fun _ e=>?_));replace e:=e.to [⟨za,141,(U).flatMap az⟩] [⟨141,1,sB zg,K,(B).length,(B.set (m-1+C) (((c2+(B.getD (m-1+C) 0):Nat)+((lim (b*2^s)).getD C 0:Nat):Nat)%4294967296:Nat)).flatMap az⟩];refine lN (kQ (lL e ac (lV 230 (mV (((c2+(B.getD (m-1+C) 0):Nat)+((lim (b*2^s)).getD C 0:Nat):Nat)/4294967296)) ?_ (hr:=aI (n:=MU (((c2+(B.getD (m-1+C) 0):Nat)+((lim (b*2^s)).getD C 0:Nat):Nat):Int) 4294967296) kR (ef _ 4294967296)))));refine lL e ac (lN (kQ (lL e ac (bh 206 ((C:Nat)+1) (C+1) ?_))));refine lL e ac (lD ?_);intro a_ V;replace e:=e.rown [⟨141,1,sB zg,K,(B.set (m-1+C) (((c2+(B.getD (m-1+C) 0):Nat)+((lim (b*2^s)).getD C 0:Nat):Nat)%4294967296:Nat)).length,(B.set (m-1+C) (((c2+(B.getD (m-1+C) 0):Nat)+((lim (b*2^s)).getD C 0:Nat):Nat)%4294967296:Nat)).flatMap az⟩] (by simp only[LB]);refine ⟨_,_,?_,⟨C+1,sB zg,K,B.set (m-1+C) (((c2+(B.getD (m-1+C) 0):Nat)+((lim (b*2^s)).getD C 0:Nat):Nat)%4294967296:Nat),(((c2+(B.getD (m-1+C) 0):Nat)+((lim (b*2^s)).getD C 0:Nat):Nat)/4294967296:Nat),yc,rfl,rfl,e.to _ _,oM,(by rw[LB];exact hub),(hWb.set _ (LX _ kD)),oM,(t6 oM bf (Mn _ _ |>.trans oM)),(bm.set oM oM)⟩,V.to _ (by simp only[LB];kernel_rfl)⟩
   omega
  rintro _ _ ⟨gz,rzA,rzc,uz,yd,rfl,e,hDl,hDw,hDg,hDu,hDe⟩;refine kQ (lL e di (lV 249 (mW gz) ?_ (hr:=rT ((gz:Int)) kR (oR oM oM))));refine lX 250 (sB za) (((lim (a*2^s)).length+2)-(lim (b*2^s)).length:Nat) (((lim (a*2^s)).length+2)-(lim (b*2^s)).length:Nat) 1 ((m:Int)-1) (m-1) rfl (lW 0 U az 1 (m-1) gz e oM (fun _ e=>?_));have zN:((U).set (m-1) gz).length=(((lim (a*2^s)).length+2)-(lim (b*2^s)).length:Nat):=by rw[LB];exact hql
  replace e:=e.to [⟨za,141,((U).set (m-1) gz).flatMap az⟩] [⟨141,1,rzA,rzc,(uz).length,(uz).flatMap az⟩];refine lN (kQ (lL e ac (lV 88 (iV (((m-1:Nat):Int)-1)) ?_ (hr:=rS ((((m:Int)-1)-1)) kR ((gL oM oM).trans oM)))));refine lL e ac (lD ?_);intro a_ V;refine ⟨_,_,?_,⟨m-1,rzA,rzc,uz,(U).set (m-1) gz,yd,rfl,rfl,e.to _ _,oM,hDl,hDw,zN,(hWq.set _ hDg),hDu,(Gm oM (hq0 _ oM) inv hDe),(fun k hk=>by rw[bw oM,if_neg oM];exact hq0 k oM)⟩,V.to _ kR⟩
  omega
 have zK:=oT zs;refine lB 144 zs (ak (cK (cQ (kZ (ax ?_)))));have hgv:=wP hgl hvi;refine lL e pd (lX 151 Q ((lim (b*2^s)).length) X 1 (i:Nat) i ((e.f.q.1).ok oM) ?_);refine lH 152 (mW ((lim (b*2^s)).getD i 0)) e ((e.f.q.1).el i oM) (lV 153 (mV ((lim (b*2^s)).getD i 0)) ?_ (hr:=rU ((((lim (b*2^s)).getD i 0:Nat):Int)) kR (a8 oM oM)));refine lV 154 (mV (I*((lim (b*2^s)).getD i 0:Nat))) ?_ (hr:=rU (((I:Int)*(((lim (b*2^s)).getD i 0:Nat):Int))) kR (jm I ((lim (b*2^s)).getD i 0:Nat) oM));refine lV 155 (mV (F+(I*((lim (b*2^s)).getD i 0:Nat):Nat))) ?_ (hr:=rU (((F:Int)+((I*((lim (b*2^s)).getD i 0:Nat):Nat):Int))) kR (eE F (I*((lim (b*2^s)).getD i 0:Nat):Nat) oM));refine lL e ac (aG (lL e di (bh 159 (((m:Int)-1)+(i:Nat)) (m-1+i) ?_)));obtain ⟨zc,zA⟩:=e.rowA 0 (A:=raA) (c:=J) (m:=(z).length) (ty:=141) (sz:=1) (cs:=(z).flatMap az) oM;subst zA;refine lX 160 (sB zc) ((z).length) J 1 (m-1+i:Nat) (m-1+i) rfl (JU (ty:=141) (sz:=1) (c:=J) (m:=(z).length) (b:=zc) (cs:=(z).flatMap az) 161 0 (mW (z.getD (m-1+i) 0)) (az (z.getD (m-1+i) 0)) e (fw (f:=az) (sz:=1) (fun _=>rfl) 0 z (m-1+i) oM) (lV 162 (mV (z.getD (m-1+i) 0)) ?_ (hr:=rU (((z.getD (m-1+i) 0:Nat):Int)) kR (a8 oM oM))));refine lL e ac (lV 164 (mV ((F+(I*((lim (b*2^s)).getD i 0:Nat):Nat):Nat)%4294967296)) ?_ (hr:=sH (t:=38) (u:=38) (x:=.tmp 163) (y:=.const (uV 4294967295)) (a:=(F+(I*((lim (b*2^s)).getD i 0:Nat):Nat):Nat)) (m:=4294967295) 32 kR kR kR oM kD _));refine lV 165 (mV (((z.getD (m-1+i) 0)+(18446744073709551616-((F+(I*((lim (b*2^s)).getD i 0:Nat):Nat):Nat)%4294967296:Nat)))%18446744073709551616)) ?_ (hr:=rU ((((z.getD (m-1+i) 0:Nat):Int)-(((F+(I*((lim (b*2^s)).getD i 0:Nat):Nat):Nat)%4294967296:Nat):Int))) kR (kI (z.getD (m-1+i) 0) ((F+(I*((lim (b*2^s)).getD i 0:Nat):Nat):Nat)%4294967296:Nat) oM));refine lL e ac (lV 167 (mV (((((z.getD (m-1+i) 0)+(18446744073709551616-((F+(I*((lim (b*2^s)).getD i 0:Nat):Nat):Nat)%4294967296:Nat)))%18446744073709551616:Nat)+(18446744073709551616-H))%18446744073709551616)) ?_ (hr:=rU ((((((z.getD (m-1+i) 0)+(18446744073709551616-((F+(I*((lim (b*2^s)).getD i 0:Nat):Nat):Nat)%4294967296:Nat)))%18446744073709551616:Nat):Int)-(H:Int))) kR (kI (((z.getD (m-1+i) 0)+(18446744073709551616-((F+(I*((lim (b*2^s)).getD i 0:Nat):Nat):Nat)%4294967296:Nat)))%18446744073709551616:Nat) H oM)));refine lL e ac (aG ?_);obtain ⟨hS1,hS2⟩:=Bt (t:=(((((z.getD (m-1+i) 0)+(18446744073709551616-((F+(I*((lim (b*2^s)).getD i 0:Nat):Nat):Nat)%4294967296:Nat)))%18446744073709551616:Nat)+(18446744073709551616-H))%18446744073709551616:Nat)) (hWa.get (m-1+i)) (LX ((F+(I*((lim (b*2^s)).getD i 0:Nat):Nat):Nat)) (show 0<4294967296 by decide)) hbo rfl;refine lL e di (bh 171 (((m:Int)-1)+(i:Nat)) (m-1+i) ?_);refine lL e ac (lV 173 (mW ((((((z.getD (m-1+i) 0)+(18446744073709551616-((F+(I*((lim (b*2^s)).getD i 0:Nat):Nat):Nat)%4294967296:Nat)))%18446744073709551616:Nat)+(18446744073709551616-H))%18446744073709551616:Nat)%4294967296)) ?_ (hr:=rT (((((((z.getD (m-1+i) 0)+(18446744073709551616-((F+(I*((lim (b*2^s)).getD i 0:Nat):Nat):Nat)%4294967296:Nat)))%18446744073709551616:Nat)+(18446744073709551616-H))%18446744073709551616:Nat):Int)) kR (gX _)));refine lX 174 (sB zc) ((z).length) J 1 (m-1+i:Nat) (m-1+i) rfl (Hm (ty:=141) (c:=J) (b:=zc) 0 (m-1+i) 0 ([mW ((((((z.getD (m-1+i) 0)+(18446744073709551616-((F+(I*((lim (b*2^s)).getD i 0:Nat):Nat):Nat)%4294967296:Nat)))%18446744073709551616:Nat)+(18446744073709551616-H))%18446744073709551616:Nat)%4294967296)]) z az 1 0 ((((((z.getD (m-1+i) 0)+(18446744073709551616-((F+(I*((lim (b*2^s)).getD i 0:Nat):Nat):Nat)%4294967296:Nat)))%18446744073709551616:Nat)+(18446744073709551616-H))%18446744073709551616:Nat)%4294967296:Nat) e oM (fun _ e=>?_));replace e:=e.to [⟨za,141,(U).flatMap az⟩] [⟨141,1,sB zc,J,(z).length,(z.set (m-1+i) ((((((z.getD (m-1+i) 0)+(18446744073709551616-((F+(I*((lim (b*2^s)).getD i 0:Nat):Nat):Nat)%4294967296:Nat)))%18446744073709551616:Nat)+(18446744073709551616-H))%18446744073709551616:Nat)%4294967296:Nat)).flatMap az⟩];refine lN (bH [(4,sZ),(5,sZ),(8,nV s),(9,qS Q ((lim (b*2^s)).length) X),(10,qS (sB zc) ((z).length) J),(11,nV ((lim (b*2^s)).length)),(12,mV ((lim (b*2^s)).getD (((lim (b*2^s)).length:Nat)-1:Nat) 0)),(13,mV ((lim (b*2^s)).getD (((lim (b*2^s)).length:Nat)-2:Nat) 0)),(14,qS (sB za) (((lim (a*2^s)).length+2)-(lim (b*2^s)).length:Nat) (((lim (a*2^s)).length+2)-(lim (b*2^s)).length:Nat)),(15,iV ((m:Int)-1)),(17,mV I),(21,nV i),(19,mV (F+(I*((lim (b*2^s)).getD i 0:Nat):Nat))),(20,mV H),(22,mV (((((z.getD (m-1+i) 0)+(18446744073709551616-((F+(I*((lim (b*2^s)).getD i 0:Nat):Nat):Nat)%4294967296:Nat)))%18446744073709551616:Nat)+(18446744073709551616-H))%18446744073709551616))] ?_);refine aa e ac (lV 176 (mV ((((((z.getD (m-1+i) 0)+(18446744073709551616-((F+(I*((lim (b*2^s)).getD i 0:Nat):Nat):Nat)%4294967296:Nat)))%18446744073709551616:Nat)+(18446744073709551616-H))%18446744073709551616:Nat)/9223372036854775808)) ?_ (hr:=aI (n:=MU ((((((z.getD (m-1+i) 0)+(18446744073709551616-((F+(I*((lim (b*2^s)).getD i 0:Nat):Nat):Nat)%4294967296:Nat)))%18446744073709551616:Nat)+(18446744073709551616-H))%18446744073709551616:Nat):Int) 9223372036854775808) kR (ef _ 9223372036854775808)));refine lL e ac (lN (kQ (lL e ac (lV 178 (mV ((F+(I*((lim (b*2^s)).getD i 0:Nat):Nat):Nat)/4294967296)) ?_ (hr:=aI (n:=MU ((F+(I*((lim (b*2^s)).getD i 0:Nat):Nat):Nat):Int) 4294967296) kR (ef _ 4294967296))))));refine lL e ac (lN (kQ (lL e ac (bh 146 ((i:Nat)+1) (i+1) ?_))));refine lL e ac (lD ?_);intro a_ V;replace e:=e.rown [⟨141,1,sB zc,J,(z.set (m-1+i) ((((((z.getD (m-1+i) 0)+(18446744073709551616-((F+(I*((lim (b*2^s)).getD i 0:Nat):Nat):Nat)%4294967296:Nat)))%18446744073709551616:Nat)+(18446744073709551616-H))%18446744073709551616:Nat)%4294967296:Nat)).length,(z.set (m-1+i) ((((((z.getD (m-1+i) 0)+(18446744073709551616-((F+(I*((lim (b*2^s)).getD i 0:Nat):Nat):Nat)%4294967296:Nat)))%18446744073709551616:Nat)+(18446744073709551616-H))%18446744073709551616:Nat)%4294967296:Nat)).flatMap az⟩] (by simp only[LB]);refine ⟨_,_,?_,⟨i+1,sB zc,J,z.set (m-1+i) ((((((z.getD (m-1+i) 0)+(18446744073709551616-((F+(I*((lim (b*2^s)).getD i 0:Nat):Nat):Nat)%4294967296:Nat)))%18446744073709551616:Nat)+(18446744073709551616-H))%18446744073709551616:Nat)%4294967296:Nat),((F+(I*((lim (b*2^s)).getD i 0:Nat):Nat):Nat)/4294967296:Nat),((((((z.getD (m-1+i) 0)+(18446744073709551616-((F+(I*((lim (b*2^s)).getD i 0:Nat):Nat):Nat)%4294967296:Nat)))%18446744073709551616:Nat)+(18446744073709551616-H))%18446744073709551616:Nat)/9223372036854775808:Nat),zu,rfl,rfl,e.to _ _,oM,(by rw[LB];exact hua),(hWa.set _ (LX _ kD)),oM,hS2,(ue (t:=((F+(I*((lim (b*2^s)).getD i 0:Nat):Nat):Nat))%4294967296) oM bk (Mn _ _ |>.trans oM) oM),(bl.set oM oM)⟩,V.to _ (by simp only[LB];kernel_rfl)⟩
 omega
end Go.Proofs.YtnphimgdpdiekaaGreatDoor
