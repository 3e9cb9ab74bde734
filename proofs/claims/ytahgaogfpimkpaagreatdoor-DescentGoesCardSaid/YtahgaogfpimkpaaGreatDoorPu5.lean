/- Laws and contracts of this claim, part 6. No condition of ours. -/
import Derived.Test.YtahgaogfpimkpaaGreatDoorPu4
set_option maxRecDepth 100000
set_option maxHeartbeats 4000000
namespace Go.Proofs.YtahgaogfpimkpaaGreatDoor
open Go.RowKit
open Go.RowKit Go.Shelf
section ro
variable {w0:World} {h0:Hp} {w:World} {h:Hp} {B:List Bx} {R:List Rw} {F:List (Hp→Prop)}
theorem SS.ro_jk (s:SS w0 h0 w h B R F)(j:Nat){ty:TypeId}{sz c m:Nat}{A:Option Addr}{cs:List Value}(hr:R.getD j default=⟨ty,sz,A,c,m,cs⟩:=by kernel_rfl)(hj:decide (j<R.length)=true:=by kernel_rfl):∀ b∈(Value.slice A m c).ownBlock.toList,h[b]?=some bI:=fun b hb=>by
 have hj':=oT hj;have r:=s.ro _ (List.getElem_mem hj');rw[gL hr hj'] at r
 exact r.jk b (Option.mem_toList.1 hb)
theorem SS.ro_lt (s:SS w0 h0 w h B R F)(j:Nat){ty:TypeId}{sz c m:Nat}{A:Option Addr}{cs:List Value}(hr:R.getD j default=⟨ty,sz,A,c,m,cs⟩:=by kernel_rfl)(hj:decide (j<R.length)=true:=by kernel_rfl):∀ b∈(Value.slice A m c).ownBlock.toList,b<h.size:=fun b hb=>by
 have hj':=oT hj;have r:=s.ro _ (List.getElem_mem hj');rw[gL hr hj'] at r
 exact aN (r.jk b (Option.mem_toList.1 hb))
theorem SS.ro_ne (s:SS w0 h0 w h B R F)(q j:Nat){ty:TypeId}{sz c m:Nat}{A:Option Addr}{cs:List Value}(hq:decide (q<B.length)=true:=by kernel_rfl)(hr:R.getD j default=⟨ty,sz,A,c,m,cs⟩:=by kernel_rfl)(hj:decide (j<R.length)=true:=by kernel_rfl):(aA B q).b ∉ (Value.slice A m c).ownBlock.toList:=fun hb=>by
 have hj':=oT hj;have r:=s.ro _ (List.getElem_mem hj');rw[gL hr hj'] at r
 exact r.ap _ (Option.mem_toList.1 hb) (List.mem_map.2 ⟨_,bj (oT hq),rfl⟩)
end ro
structure Whole (lo:Nat) (h:Hp) (b:Nat) (ty:TypeId) (vs:List Value):Prop where
  lo:lo≤b
  ty0:(ty == 0)=false
  at_:h[b]?=some (.cells vs.toArray ty (0,0))
section ss
variable {w0:World} {h0:Hp} {w:World} {h:Hp} {B:List Bx} {R:List Rw} {F:List (Hp→Prop)}
end ss
structure Poked (h h':Hp) (b:Nat):Prop where
  oth:∀ c,c≠b→c<h.size→h'[c]?=h[c]?
section ss
variable {w0:World} {h0:Hp} {w:World} {h:Hp} {B:List Bx} {R:List Rw} {F:List (Hp→Prop)}
end ss
section laws
variable {M:Ms} {P:Program} {n:Nat} {N R:Po} {X:Nat→Po} {ops:Array Oper} {k k0:Nat} {hr:Hp} {AL:List Al} {L:Array Bool} {Γ:cO} {w:World} {h:Hp} {w0:World} {h0:Hp} {B:List Bx} {Rs:List Rw} {F:List (Hp→Prop)}
theorem wj {α:Type}{f:α→List Value}{sz:Nat}(hf:∀ x,(f x).length=sz)(l:List α)(sp:List Value)(e:Nat)(x:α)(he:e<l.length):cl (l.flatMap f++sp) (0+e*sz) (f x)=(l.set e x).flatMap f++sp:=by
 obtain ⟨a,y,b,rfl,hle⟩:∃ a y b,l=a++y::b∧a.length=e:=⟨l.take e,l[e],l.drop (e+1),by rw[List.getElem_cons_drop,List.take_append_drop],by rw[List.length_take];omega⟩;subst hle;have h1:(a++y::b).flatMap f++sp=a.flatMap f++(f y++(b.flatMap f++sp)):=by simp
 have h2:((a++y::b).set a.length x).flatMap f++sp=a.flatMap f++(f x++(b.flatMap f++sp)):=by simp
 rw[h1,h2,Nat.zero_add];have h3:=fF (f x) (a.flatMap f) (f y++(b.flatMap f++sp)) 0;rw[cG hf,Nat.add_zero] at h3
 rw[h3,iG _ _ _ (by rw[hf,hf])]
theorem Jf {α:Type}(i j:Nat)(l:List α)(f:α→List Value)(sz e:Nat)(x:α)(sp:List Value)(s:SS w0 h0 w h B Rs F)(hk:e<l.length)(H:∀ w',SS w0 h0 w' h (gk B j ((l.set e x).flatMap f++sp)) Rs F→AG M P n N R X ops k0 (L.setIfInBounds i true) Γ w')(hc:F8 ops k0 L Γ i=true:=by kernel_rfl)
  (hj:decide (j<B.length)=true:=by kernel_rfl)(hB:(aA B j).vs=l.flatMap f++sp:=by kernel_rfl)(hf:∀ x,(f x).length=sz:=by intro _;rfl)
  (he:eo P (execOp (ev Γ) (av ops i))=some (.skip,n5 (aA B j).b (0+e*sz) (f x)):=by kernel_rfl)(hz:∀ K bs,M.z=some (K,bs)→K≤(aA B j).b∨(aA B j).b∈bs:=by intro _ _ e;cases e):AG M P n N R X ops k0 L Γ w:=by
 refine tP i j (0+e*sz) (f x) s (fun w' s'=>H w' ?_) hc ?_ he hz
 ·have e1:gY B j (0+e*sz) (f x)=gk B j ((l.set e x).flatMap f++sp):=by
   unfold gY gk
   rw[hB,wj hf l sp e x hk]
  rw[←e1];exact s'
 ·rw[hj,hB,Bool.true_and]
  refine decide_eq_true ?_;rw[hf,List.length_append,cG hf];have:=Nat.mul_le_mul_right sz (show e+1≤l.length from hk);rw[Nat.add_mul] at this
  omega
theorem Jr {α:Type}(i t j:Nat)(l:List α)(f:α→List Value)(sz:Nat)(d:α)(e:Nat)(v:Value)(sp:List Value)(s:SS w0 h0 w h B Rs F)(hk:e<l.length)(H:EG M P n N R X ops k0 hr AL (L.setIfInBounds i true) ((t,v)::Γ) w h)(hM:(aA B j).b ∉ M.l:=by exact List.not_mem_nil)(hc:xW n ops k0 AL L Γ i t=true:=by kernel_rfl)
  (hj:decide (j<B.length)=true:=by kernel_rfl)(hB:(aA B j).vs=l.flatMap f++sp:=by kernel_rfl)(hf:∀ x,(f x).length=sz:=by intro _;rfl)
  (he:bX P (execOp (ev Γ) (av ops i)) (f (l.getD e d))=some (.value v,j6 (aA B j).b (0+e*sz) (f (l.getD e d)).length):=by kernel_rfl):EG M P n N R X ops k0 hr AL L Γ w h :=
 Rg.load i t v (gB hc).1 (gB hc).2 (fun w' hx=>cf _ _ _ _ he (fun q a u ha hu=>by
  rw[eA _ _ _ _ _ ha,((s.st.own _ (bj (oT hj))).mo hx hM).cell,hB];rw[←eK hf d l e hk] at hu
  have hq:q<sz:=by
   rcases Nat.lt_or_ge q sz with hl|hl
   ·exact hl
   ·rw[List.getElem?_eq_none (by simp;omega)] at hu;cases hu
  rw[List.getElem?_take_of_lt hq,List.getElem?_drop] at hu
  have h2:=Nat.mul_le_mul_right sz (show e+1≤l.length from hk);rw[Nat.add_mul] at h2
  rw[Nat.zero_add,List.getElem?_append_left (by rw[cG hf];omega)];exact hu)) H
end laws
def fr (f:Nat→Rat):Nat→Rat
  | 0=>0
  | n+1=>fr f n+f n
theorem dm {f g:Nat→Rat}:∀ {n:Nat},(∀ i,i<n→f i=g i)→fr f n=fr g n
  | 0,_=>rfl
  | n+1,h=>by
    show fr f n+f n=fr g n+g n
    rw[dm (fun i hi=>h i oM),h n oM]
theorem nM (f g:Nat→Rat)(c:Rat):∀ n,fr (fun i=>f i+c*g i) n=fr f n+c*fr g n
  | 0=>by show (0:Rat)=0+c*0;grind
  | n+1=>by
    show fr _ n+(f n+c*g n)=(fr f n+f n)+c*(fr g n+g n)
    rw[nM f g c n];grind
theorem mf {f:Nat→Rat}:∀ {n:Nat},(∀ i,i<n→f i=0)→fr f n=0
  | 0,_=>rfl
  | n+1,h=>by
    show fr f n+f n=0
    rw[mf (fun i hi=>h i oM),h n oM];grind
theorem kJ (c:Rat)(f:Nat→Rat):∀ n,fr (fun i=>c*f i) n=c*fr f n
  | 0=>by show (0:Rat)=c*0;grind
  | n+1=>by
    show fr _ n+c*f n=c*(fr f n+f n)
    rw[kJ c f n];grind
theorem sJ (f g:Nat→Rat):∀ n,fr (fun i=>f i+g i) n=fr f n+fr g n
  | 0=>by show (0:Rat)=0+0;grind
  | n+1=>by
    show fr _ n+(f n+g n)=(fr f n+f n)+(fr g n+g n)
    rw[sJ f g n];grind
theorem mm (f:Nat→Nat→Rat)(m:Nat):∀ n,fr (fun i=>fr (fun j=>f i j) m) n=fr (fun j=>fr (fun i=>f i j) n) m
  | 0=>by
    show (0:Rat)=fr (fun _=>0) m
    rw[mf (f:=fun _=>0) (fun i _=>rfl)]
  | n+1=>by
    show fr _ n+fr (fun j=>f n j) m=fr (fun j=>fr (fun i=>f i j) n+f n j) m
    rw[mm f m n,sJ]
theorem v8 {f g:Nat→Rat}:∀ {n:Nat},(∀ i,i<n→f i≤g i)→fr f n≤fr g n
  | 0,_=>Rat.le_refl
  | n+1,h=>by
    have h1:=v8 (fun i hi=>h i oM:∀ i,i<n→f i≤g i);have h2:=h n oM
    show fr f n+f n≤fr g n+g n
    grind
theorem wl {f:Nat→Rat}:∀ {n:Nat},(∀ i,i<n→0≤f i)→0≤fr f n
  | 0,_=>Rat.le_refl
  | n+1,h=>by
    have h1:=wl (fun i hi=>h i oM:∀ i,i<n→0≤f i);have h2:=h n oM
    show 0≤fr f n+f n
    grind
theorem sa (n:Nat):fr (fun _=>1) n=((n:Nat):Rat):=by
 induction n with
 | zero=>rfl
 | succ n ih=>show fr _ n+1=_;rw[ih];simp
theorem oy {n j:Nat}(f:Nat→Rat)(hj:j<n):fr (fun i=>(if i=j then 1 else 0)*f i) n=f j:=by
  induction n with
  | zero=>omega
  | succ n ih =>
    show fr _ n+(if n=j then 1 else 0)*f n=f j
    by_cases e:n=j
    · subst e
      rw[if_pos rfl,mf (fun i hi=>by rw[if_neg oM];grind)];grind
    · rw[if_neg e,ih oM];grind
def dt (n:Nat)(u v:Nat→Rat):Rat:=fr (fun i=>u i*v i) n
theorem d6 (n:Nat)(u v:Nat→Rat):dt n u v=dt n v u:=dm (fun i _=>Rat.mul_comm _ _)
theorem gK (n:Nat)(u w v:Nat→Rat)(c:Rat):dt n (fun i=>u i+c*w i) v=dt n u v+c*dt n w v:=by
 unfold dt
 rw[←nM];exact dm (fun i _=>by grind)
theorem Gn (n:Nat)(v:Nat→Rat):0≤dt n v v:=wl (fun i _=>kf (v i))
theorem ie {n:Nat}{u u' v v':Nat→Rat}(h:∀ i,i<n→u i=u' i)(h2:∀ i,i<n→v i=v' i):dt n u v=dt n u' v':=dm (fun i hi=>by rw[h i hi,h2 i hi])
def gi (v:Nat→Nat→Rat)(n j:Nat):Nat→Nat→Rat
  | 0=>fun i=>if i=j then 1 else 0
  | m+1=>fun i=>gi v n j m i+(-(v m j/dt n (v m) (v m)))*v m i
section
variable {v:Nat→Nat→Rat} {n m:Nat} (ho:∀ i,i<m→∀ k,k<i→dt n (v i) (v k)=0) (hz:∀ i,i<m→dt n (v i) (v i)≠0)
include ho hz
omit hz in
theorem rL {j:Nat}(hj:j<n):∀ k,k≤m→∀ i,k≤i→i<m→dt n (gi v n j k) (v i)=v i j
  | 0,_,i,_,hi=>oy (v i) hj
  | k+1,hk,i,hki,hi=>by
    show dt n (fun i=>gi v n j k i+(-(v k j/dt n (v k) (v k)))*v k i) (v i)=_
    rw[gK,rL hj k oM i oM hi,d6 n (v k) (v i),ho i hi k oM];grind
theorem rK {j:Nat}(hj:j<n):∀ k,k≤m→dt n (gi v n j k) (gi v n j k)=1-fr (fun i=>v i j*v i j/dt n (v i) (v i)) k
  | 0,_=>by
    show fr (fun i=>(if i=j then 1 else 0)*(if i=j then 1 else 0)) n=1-0
    rw[oy (fun i=>if i=j then 1 else 0) hj,if_pos rfl];grind
  | k+1,hk=>by
    have h1:=rK hj k oM;have h2:=rL ho hj k oM k (Nat.le_refl _) oM;have h3:=hz k oM
    show dt n (fun i=>gi v n j k i+(-(v k j/dt n (v k) (v k)))*v k i) (fun i=>gi v n j k i+(-(v k j/dt n (v k) (v k)))*v k i)=1-(fr _ k+v k j*v k j/dt n (v k) (v k))
    have e1:dt n (gi v n j k) (fun i=>gi v n j k i+(-(v k j/dt n (v k) (v k)))*v k i)=dt n (gi v n j k) (gi v n j k)+(-(v k j/dt n (v k) (v k)))*v k j:=by rw[d6,gK,d6 n (v k) (gi v n j k),h2]
    have e2:dt n (v k) (fun i=>gi v n j k i+(-(v k j/dt n (v k) (v k)))*v k i)=v k j+(-(v k j/dt n (v k) (v k)))*dt n (v k) (v k):=by rw[d6,gK,h2]
    rw[gK,e1,e2,h1]
    grind
theorem AE:m≤n:=by
 have h1:∀ j,j<n→fr (fun i=>v i j*v i j/dt n (v i) (v i)) m≤1:=fun j hj=>by
  have h2:=rK ho hz hj m (Nat.le_refl _);have h3:=Gn n (gi v n j m);rw[h2] at h3
  grind
 have h2:=v8 (n:=n) (g:=fun _=>1) h1;rw[sa,←mm (fun i j=>v i j*v i j/dt n (v i) (v i)) n m] at h2
 rw[dm (g:=fun _=>1) (fun i hi=>?_),sa] at h2
 ·rw[←Rat.intCast_natCast,←Rat.intCast_natCast] at h2
  have h3:((m:Int):Rat)≤((n:Int):Rat):=h2;have:=Rat.intCast_le_intCast.1 h3
  omega
 ·have h3:=hz i hi
  rw[dm (g:=fun j=>(1/dt n (v i) (v i))*(v i j*v i j)) (fun j _=>by grind),kJ]
  show 1/dt n (v i) (v i)*dt n (v i) (v i)=1
  grind
end
def mv (n:Nat)(A:Nat→Nat→Rat)(x:Nat→Rat):Nat→Rat:=fun i=>fr (fun j=>A i j*x j) n
theorem FI (n:Nat)(A:Nat→Nat→Rat)(u w:Nat→Rat)(c:Rat)(i:Nat):mv n A (fun j=>u j+c*w j) i=mv n A u i+c*mv n A w i:=by
 unfold mv
 rw[←nM];exact dm (fun j _=>by grind)
theorem FM {n:Nat}{A:Nat→Nat→Rat}(hA:∀ i,i<n→∀ j,j<n→A i j=A j i)(u v:Nat→Rat):dt n u (mv n A v)=dt n v (mv n A u):=by
 unfold dt mv
 rw[dm (g:=fun i=>fr (fun j=>u i*(A i j*v j)) n) (fun i _=>(kJ _ _ _).symm),mm,
  dm (f:=fun i=>v i*fr (fun j=>A i j*u j) n) (g:=fun i=>fr (fun j=>v i*(A i j*u j)) n) (fun i _=>(kJ _ _ _).symm)]
 exact dm (fun j hj=>dm (fun i hi=>by rw[hA i hi j hj];grind))
structure Cst where
  x:Nat→Rat
  r:Nat→Rat
  w:Nat→Rat
section
variable (n:Nat) (A:Nat→Nat→Rat) (b:Nat→Rat)
def oJ (s:Cst):Rat:=dt n s.r s.r/dt n s.w (mv n A s.w)
def Hn (s:Cst):Nat→Rat:=fun i=>s.x i+s.w i*oJ n A s
def C3 (x:Nat→Rat):Nat→Rat:=fun i=>b i+mv n A x i*((-1:Int):Rat)
def Jk (s:Cst):Cst:=⟨Hn n A s,C3 n A b (Hn n A s),fun i=>C3 n A b (Hn n A s) i+s.w i*(dt n (C3 n A b (Hn n A s)) (C3 n A b (Hn n A s))/dt n s.r s.r)⟩
def cg (x:Nat→Rat):Nat→Cst
  | 0=>⟨x,C3 n A b x,C3 n A b x⟩
  | t+1=>Jk n A b (cg x t)
end
section
variable {n:Nat} {A:Nat→Nat→Rat} {b x:Nat→Rat}
theorem Hu (t:Nat):(cg n A b x t).r=C3 n A b (cg n A b x t).x:=by cases t<;>rfl
theorem p6 (t i:Nat):(cg n A b x (t+1)).r i=(cg n A b x t).r i+(-oJ n A (cg n A b x t))*mv n A (cg n A b x t).w i:=by
 rw[Hu (t+1),Hu t]
 show b i+mv n A (fun j=>(cg n A b x t).x j+(cg n A b x t).w j*oJ n A (cg n A b x t)) i*((-1:Int):Rat)=_
 have e:mv n A (fun j=>(cg n A b x t).x j+(cg n A b x t).w j*oJ n A (cg n A b x t)) i=mv n A (cg n A b x t).x i+oJ n A (cg n A b x t)*mv n A (cg n A b x t).w i:=by
  rw[←FI];unfold mv;exact dm (fun j _=>by grind)
 rw[e]
 unfold C3
 rw[show ((-1:Int):Rat) = -1 from rfl]
 grind
def Eo (n:Nat)(A:Nat→Nat→Rat)(b x:Nat→Rat)(t:Nat):Prop:=dt n (cg n A b x t).r (cg n A b x t).r≠0∧dt n (cg n A b x t).w (mv n A (cg n A b x t).w)≠0
structure Orth (n:Nat) (A:Nat→Nat→Rat) (b x:Nat→Rat) (t:Nat):Prop where
  rr:∀ j,j≤t→∀ i,i<j→dt n (cg n A b x j).r (cg n A b x i).r=0
  ww:∀ j,j≤t→∀ i,i<j→dt n (cg n A b x j).w (mv n A (cg n A b x i).w)=0
  rw_:∀ j,j≤t→∀ i,i<j→dt n (cg n A b x j).r (cg n A b x i).w=0
  own:∀ j,j≤t→dt n (cg n A b x j).r (cg n A b x j).w=dt n (cg n A b x j).r (cg n A b x j).r
theorem Er (t i:Nat):(cg n A b x (t+1)).w i=(cg n A b x (t+1)).r i+(dt n (cg n A b x (t+1)).r (cg n A b x (t+1)).r/dt n (cg n A b x t).r (cg n A b x t).r)*(cg n A b x t).w i:=by
 show (cg n A b x (t+1)).r i+(cg n A b x t).w i*_=_
 rw[Rat.mul_comm];rfl
theorem o8 (hA:∀ i,i<n→∀ j,j<n→A i j=A j i):∀ t,(∀ i,i<t→Eo n A b x i)→Orth n A b x t
  | 0,_=>⟨fun j hj i hi=>by omega,fun j hj i hi=>by omega,fun j hj i hi=>by omega,fun j hj=>by
      obtain rfl:j=0:=by omega
      rfl⟩
  | t + 1,hg=>by
    have O:=o8 hA t (fun i hi=>hg i oM);obtain ⟨g1,g2⟩:=hg t oM;obtain ⟨r,hr⟩:∃ r,r=(cg n A b x (t+1)).r:=⟨_,rfl⟩;obtain ⟨k,hk⟩:∃ k,k=oJ n A (cg n A b x t):=⟨_,rfl⟩;have hkf:k*dt n (cg n A b x t).w (mv n A (cg n A b x t).w)=dt n (cg n A b x t).r (cg n A b x t).r:=by rw[hk];unfold oJ;grind
    have e1:∀ v,dt n r v=dt n (cg n A b x t).r v+(-k)*dt n (mv n A (cg n A b x t).w) v:=fun v=>by
      rw[←gK,hr,hk];exact ie (fun i _=>p6 t i) (fun _ _=>rfl)
    have h3:∀ i,i≤t→dt n r (cg n A b x i).w=0:=fun i hi=>by
      rw[e1,d6 n (mv n A _),FM hA]
      by_cases e:i=t
      · subst e
        rw[O.own i (Nat.le_refl _)];grind
      · rw[O.rw_ t (Nat.le_refl _) i oM,O.ww t (Nat.le_refl _) i oM];grind
    have h1:∀ i,i≤t→dt n r (cg n A b x i).r=0:=fun i hi=>by
      cases i with
      | zero=>exact h3 0 hi
      | succ i =>
        have e2:dt n r (cg n A b x (i+1)).r=dt n r (cg n A b x (i+1)).w+(-(dt n (cg n A b x (i+1)).r (cg n A b x (i+1)).r/dt n (cg n A b x i).r (cg n A b x i).r))*dt n r (cg n A b x i).w:=by
          rw[d6 n r,d6 n r (cg n A b x (i+1)).w,d6 n r (cg n A b x i).w,←gK];exact ie (fun j _=>by rw[Er];grind) (fun _ _=>rfl)
        rw[e2,h3 (i+1) hi,h3 i oM];grind
    have hA_:∀ i,i≤t→oJ n A (cg n A b x i)*dt n r (mv n A (cg n A b x i).w)=dt n r (cg n A b x i).r+(-1)*dt n r (cg n A b x (i+1)).r:=fun i _=>by
      have e3:dt n (cg n A b x (i+1)).r r=dt n (cg n A b x i).r r+(-oJ n A (cg n A b x i))*dt n (mv n A (cg n A b x i).w) r:=by
        rw[←gK];exact ie (fun j _=>p6 i j) (fun _ _=>rfl)
      rw[d6 n r (cg n A b x (i+1)).r,e3,d6 n r (cg n A b x i).r,d6 n r (mv n A _)];grind
    have h2:∀ i,i≤t→dt n (cg n A b x (t+1)).w (mv n A (cg n A b x i).w)=0:=fun i hi=>by
      obtain ⟨q1,q2⟩:=hg i oM;have hki:oJ n A (cg n A b x i)≠0:=by unfold oJ;grind
      have e4:dt n (cg n A b x (t+1)).w (mv n A (cg n A b x i).w)=dt n r (mv n A (cg n A b x i).w)+(dt n r r/dt n (cg n A b x t).r (cg n A b x t).r)*dt n (cg n A b x t).w (mv n A (cg n A b x i).w):=by
        rw[←gK,hr];exact ie (fun j _=>Er t j) (fun _ _=>rfl)
      have e5:=hA_ i hi;rw[h1 i hi] at e5
      rw[e4]
      by_cases e:i=t
      · subst e
        rw[←hk] at e5
        rw[←hr] at e5
        have hk0:k≠0:=by rw[hk];exact hki
        have e6:dt n r (mv n A (cg n A b x i).w) = -(dt n r r)/k:=by grind
        have e7:dt n (cg n A b x i).w (mv n A (cg n A b x i).w)=dt n (cg n A b x i).r (cg n A b x i).r/k:=by grind
        rw[e6,e7];grind
      · rw[O.ww t (Nat.le_refl _) i oM]
        rw[h1 (i+1) oM] at e5
        have e6:dt n r (mv n A (cg n A b x i).w)=0:=by grind
        rw[e6];grind
    refine ⟨fun j hj i hi=>?_,fun j hj i hi=>?_,fun j hj i hi=>?_,fun j hj=>?_⟩
    · by_cases e:j≤t
      · exact O.rr j e i hi
      · obtain rfl:j=t+1:=by omega
        rw[←hr];exact h1 i oM
    · by_cases e:j≤t
      · exact O.ww j e i hi
      · obtain rfl:j=t+1:=by omega
        exact h2 i oM
    · by_cases e:j≤t
      · exact O.rw_ j e i hi
      · obtain rfl:j=t+1:=by omega
        rw[←hr];exact h3 i oM
    · by_cases e:j≤t
      · exact O.own j e
      · obtain rfl:j=t+1:=by omega
        have e8:dt n (cg n A b x (t+1)).r (cg n A b x (t+1)).w=dt n r r+(dt n r r/dt n (cg n A b x t).r (cg n A b x t).r)*dt n (cg n A b x t).w r:=by
          rw[←gK,d6,hr];exact ie (fun j _=>Er t j) (fun _ _=>rfl)
        rw[e8,d6 n (cg n A b x t).w r,h3 t (Nat.le_refl _),←hr];grind
theorem r6 (hA:∀ i,i<n→∀ j,j<n→A i j=A j i){t:Nat}(hg:∀ i,i<t→Eo n A b x i):t≤n:=by
 have O:=o8 hA t hg;exact AE (v:=fun i=>(cg n A b x i).r) (m:=t) (fun i hi k hk=>O.rr i oM k hk) (fun i hi=>(hg i hi).1)
end
def SD (e:Nat)(q:Rat):Prop:=∃ (N:Int) (D:Nat),0<D∧D≤2^e∧N.natAbs≤2^e∧q*((D:Nat):Rat)=(N:Rat)
def CD (n e:Nat)(v:Nat→Rat):Prop:=∃ D:Nat,0<D∧D≤2^e∧∀ i,i<n→∃ N:Int,N.natAbs≤2^e∧v i*((D:Nat):Rat)=(N:Rat)
def MD (n e:Nat)(A:Nat→Nat→Rat):Prop:=∃ D:Nat,0<D∧D≤2^e∧∀ i,i<n→∀ j,j<n→∃ N:Int,N.natAbs≤2^e∧A i j*((D:Nat):Rat)=(N:Rat)
theorem jf {a e f:Nat}(h:a≤2^e)(hf:e≤f):a≤2^f:=Nat.le_trans h (Nat.pow_le_pow_right kD hf)
theorem SD.mono {e f:Nat}{q:Rat}(h:SD e q)(hf:e≤f):SD f q:=by
 obtain ⟨N,D,h0,h1,h2,h3⟩:=h;exact ⟨N,D,h0,jf h1 hf,jf h2 hf,h3⟩
theorem CD.mono {n e f:Nat}{v:Nat→Rat}(h:CD n e v)(hf:e≤f):CD n f v:=by
 obtain ⟨D,h0,h1,h2⟩:=h;exact ⟨D,h0,jf h1 hf,fun i hi=>by obtain ⟨N,a,b⟩:=h2 i hi;exact ⟨N,jf a hf,b⟩⟩
theorem CD.at_ {n e:Nat}{v:Nat→Rat}(h:CD n e v){i:Nat}(hi:i<n):SD e (v i):=by
 obtain ⟨D,h0,h1,h2⟩:=h;obtain ⟨N,a,b⟩:=h2 i hi;exact ⟨N,D,h0,h1,a,b⟩
theorem ft {a b e f:Nat}(h:a≤2^e)(h2:b≤2^f):a*b≤2^(e+f):=by rw[Nat.pow_add];exact Nat.mul_le_mul h h2
theorem ED {a b e:Nat}(h:a≤2^e)(h2:b≤2^e):a+b≤2^(e+1):=by rw[Nat.pow_succ];omega
theorem oh {D:Nat}(h:0<D):((D:Nat):Rat)≠0:=by simp;omega
theorem SD.lq {e k:Nat}{q:Rat}(h:SD e q)(hk:e<64*k):LQ k q:=by
 obtain ⟨N,D,h0,h1,h2,h3⟩:=h
 have hq:q=mkRat N D:=by
  have h5:=oh h0;rw[Rat.mkRat_eq_div,←h3]
  generalize ((D:Nat):Rat)=y at *
  grind
 obtain ⟨p1,p2,_,_⟩:=gc N D h0
 have hp:(2:Nat)^e<18446744073709551616^k:=by
  rw[show (18446744073709551616:Nat)=2^64 from rfl,←Nat.pow_mul];exact Nat.pow_lt_pow_right kD hk
 constructor
 ·refine dw kD (Nat.lt_of_le_of_lt ?_ hp)
  rw[hq,p1];refine Nat.le_trans ?_ h2
  unfold aa
  exact Int.natAbs_ediv_le_natAbs _ _
 ·refine dw kD (Nat.lt_of_le_of_lt ?_ hp)
  rw[hq,p2];exact Nat.le_trans (Nat.div_le_self _ _) h1
theorem SD.div {e f:Nat}{p q:Rat}(hp:SD e p)(hq:SD f q):SD (e+f) (p/q):=by
  obtain ⟨N,D,a0,a1,a2,a3⟩:=hp;obtain ⟨M,E,b0,b1,b2,b3⟩:=hq;have hD:=oh a0;have hE:=oh b0
  by_cases h0:M=0
  · subst h0
    have hq0:q=0:=by
      rcases Rat.mul_eq_zero.1 (show q*((E:Nat):Rat)=0 by rw[b3];rfl) with e|e
      · exact e
      · exact absurd e hE
    refine ⟨0,1,by decide,Nat.one_le_two_pow,Nat.zero_le _,?_⟩;rw[hq0,show p/0=0 by grind];grind
  · have hM:((M:Int):Rat)≠0:=by simpa using h0
    have hMn:0<M.natAbs:=by omega
    refine ⟨N*(E:Nat)*M.sign,D*M.natAbs,Nat.mul_pos a0 hMn,ft a1 b2,?_,?_⟩
    · rw[Int.natAbs_mul,Int.natAbs_mul,Int.natAbs_natCast,Int.natAbs_sign,if_neg h0,Nat.mul_one];exact ft a2 b1
    · have hs:((M.natAbs:Nat):Rat)=((M.sign:Int):Rat)*(M:Rat):=by
        have h9:((M.natAbs:Nat):Int)=M.sign*M:=by
          rcases Int.lt_trichotomy M 0 with h|h|h
          · rw[Int.sign_eq_neg_one_of_neg h];omega
          · exact absurd h h0
          · rw[Int.sign_eq_one_of_pos h];omega
        rw[←Rat.intCast_natCast,←Rat.intCast_mul,h9]
      have hqn:q≠0:=fun e=>by rw[e] at b3;exact hM (by grind)
      have e1:p/q*q=p:=by grind
      rw[Rat.natCast_mul,hs,Rat.intCast_mul,Rat.intCast_mul,Rat.intCast_natCast,←a3,←b3]
      grind
theorem nz {f:Nat→Rat}{D e:Nat}:∀ n,(∀ i,i<n→∃ N:Int,N.natAbs≤2^e∧f i*((D:Nat):Rat)=(N:Rat))→∃ N:Int,N.natAbs≤n*2^e∧fr f n*((D:Nat):Rat)=(N:Rat)
  | 0,_=>⟨0,Nat.zero_le _,by show (0:Rat)*_=0;grind⟩
  | n + 1,h=>by
    obtain ⟨N,a,b⟩:=nz n (fun i hi=>h i oM);obtain ⟨M,c,d⟩:=h n oM;refine ⟨N+M,?_,?_⟩
    · have:=Int.natAbs_add_le N M
      rw[Nat.succ_mul];omega
    · show (fr f n+f n)*_=_
      rw[Rat.intCast_add,←b,←d];grind
section
variable {n:Nat} (hn:n≤4)
include hn
theorem sT {x e:Nat}(h:x≤n*2^e):x≤2^(e+2):=by
 have:=Nat.mul_le_mul_right (2^e) hn;rw[Nat.pow_add];omega
theorem CD.dot {e f:Nat}{u v:Nat→Rat}(hu:CD n e u)(hv:CD n f v):SD (e+f+2) (dt n u v):=by
 obtain ⟨D,a0,a1,a2⟩:=hu;obtain ⟨E,b0,b1,b2⟩:=hv
 obtain ⟨N,c1,c2⟩:=nz (f:=fun i=>u i*v i) (D:=D*E) (e:=e+f) n (fun i hi=>by
  obtain ⟨N,p,q⟩:=a2 i hi;obtain ⟨M,r,s⟩:=b2 i hi;refine ⟨N*M,by rw[Int.natAbs_mul];exact ft p r,?_⟩;rw[Rat.intCast_mul,←q,←s,Rat.natCast_mul];grind)
 exact ⟨N,D*E,Nat.mul_pos a0 b0,jf (ft a1 b1) oM,sT hn c1,c2⟩
theorem MD.app {e f:Nat}{A:Nat→Nat→Rat}{v:Nat→Rat}(hA:MD n e A)(hv:CD n f v):CD n (e+f+2) (mv n A v):=by
 obtain ⟨D,a0,a1,a2⟩:=hA;obtain ⟨E,b0,b1,b2⟩:=hv;refine ⟨D*E,Nat.mul_pos a0 b0,jf (ft a1 b1) oM,fun i hi=>?_⟩
 obtain ⟨N,c1,c2⟩:=nz (f:=fun j=>A i j*v j) (D:=D*E) (e:=e+f) n (fun j hj=>by
  obtain ⟨N,p,q⟩:=a2 i hi j hj;obtain ⟨M,r,s⟩:=b2 j hj;refine ⟨N*M,by rw[Int.natAbs_mul];exact ft p r,?_⟩;rw[Rat.intCast_mul,←q,←s,Rat.natCast_mul];grind)
 exact ⟨N,sT hn c1,c2⟩
omit hn
theorem CD.lin {e f g:Nat}{u v:Nat→Rat}{k:Rat}(hu:CD n e u)(hk:SD f k)(hv:CD n g v):CD n (e+f+g+1) (fun i=>u i+v i*k):=by
 obtain ⟨D,a0,a1,a2⟩:=hu;obtain ⟨M,E,b0,b1,b2,b3⟩:=hk;obtain ⟨F,c0,c1,c2⟩:=hv;refine ⟨D*E*F,Nat.mul_pos (Nat.mul_pos a0 b0) c0,jf (ft (ft a1 b1) c1) oM,fun i hi=>?_⟩;obtain ⟨N,p,q⟩:=a2 i hi;obtain ⟨L,r,s⟩:=c2 i hi;refine ⟨N*(E:Nat)*(F:Nat)+L*M*(D:Nat),?_,?_⟩
 ·refine Nat.le_trans (Int.natAbs_add_le _ _) ?_
  rw[Int.natAbs_mul,Int.natAbs_mul,Int.natAbs_mul,Int.natAbs_mul,Int.natAbs_natCast,Int.natAbs_natCast,Int.natAbs_natCast];refine ED (ft (ft p b1) c1) ?_;have:=ft (ft r b2) a1;rw[show g+f+e=e+f+g by omega] at this
  exact this
 ·rw[Rat.intCast_add,Rat.intCast_mul,Rat.intCast_mul,Rat.intCast_mul,Rat.intCast_mul,Rat.intCast_natCast,Rat.intCast_natCast,Rat.intCast_natCast,←q,←s,←b3,Rat.natCast_mul,Rat.natCast_mul]
  grind
end
theorem SD.one:SD 0 ((-1:Int):Rat):=⟨-1,1,by decide,by decide,by decide,by rw[show ((-1:Int):Rat) = -1 from rfl];grind⟩
structure Bit where
  x:Nat
  r:Nat
  w:Nat
def Bj (a c:Nat)(s:Bit):Bit:=⟨s.x+(2*s.r+2*s.w+a+6)+s.w+1,3*s.r+3*s.w+2*a+9,3*(3*s.r+3*s.w+2*a+9)+2*s.r+s.w+5⟩
def bits (a c x:Nat):Nat→Bit
  | 0=>⟨x,c+a+x+3,c+a+x+3⟩
  | t+1=>Bj a c (bits a c x t)
theorem sH {n:Nat}(hn:n≤4){a c e:Nat}{A:Nat→Nat→Rat}{b x:Nat→Rat}(hA:MD n a A)(hb:CD n c b)(hx:CD n e x):∀ t,CD n (bits a c e t).x (cg n A b x t).x∧CD n (bits a c e t).r (cg n A b x t).r∧CD n (bits a c e t).w (cg n A b x t).w
  | 0=>by
    have h1:=(hb.lin SD.one (hA.app hn hx)).mono (f:=c+a+e+3) oM;exact ⟨hx,h1,h1⟩
  | t + 1=>by
    obtain ⟨h1,h2,h3⟩:=sH hn hA hb hx t;obtain ⟨s,hs⟩:∃ s,s=bits a c e t:=⟨_,rfl⟩;rw[←hs] at h1 h2 h3
    have hy:=hA.app hn h3;have hk:SD (2*s.r+2*s.w+a+6) (oJ n A (cg n A b x t)):=((h2.dot hn h2).div (h3.dot hn hy)).mono oM
    have hnk:SD (2*s.r+2*s.w+a+6) (-oJ n A (cg n A b x t)):=by
      obtain ⟨N,D,d0,d1,d2,d3⟩:=hk;exact ⟨-N,D,d0,d1,by rw[Int.natAbs_neg];exact d2,by rw[Rat.intCast_neg,←d3];grind⟩
    have hx':CD n (s.x+(2*s.r+2*s.w+a+6)+s.w+1) (cg n A b x (t+1)).x:=h1.lin hk h3
    have hr':CD n (3*s.r+3*s.w+2*a+9) (cg n A b x (t+1)).r:=by
      have:=(h2.lin hnk hy).mono (f:=3*s.r+3*s.w+2*a+9) oM;obtain ⟨D,d0,d1,d2⟩:=this;refine ⟨D,d0,d1,fun i hi=>?_⟩;obtain ⟨N,p,q⟩:=d2 i hi;refine ⟨N,p,?_⟩;rw[←q,p6];grind
    have hq:=(hr'.dot hn hr').div (h2.dot hn h2);have hw':CD n (3*(3*s.r+3*s.w+2*a+9)+2*s.r+s.w+5) (cg n A b x (t+1)).w:=(hr'.lin hq h3).mono oM
    show CD n (Bj a c (bits a c e t)).x _∧CD n (Bj a c (bits a c e t)).r _∧CD n (Bj a c (bits a c e t)).w _
    rw[←hs];exact ⟨hx',hr',hw'⟩
structure CgB (n:Nat) (A:Nat→Nat→Rat) (b x:Nat→Rat) (t:Nat):Prop where
  xx:∀ i,i<n→LQ 100000 ((cg n A b x t).x i)
  r:∀ i,i<n→LQ 100000 ((cg n A b x t).r i)
  w:∀ i,i<n→LQ 100000 ((cg n A b x t).w i)
  ax:∀ i,i<n→LQ 100000 (mv n A (cg n A b x t).x i)
  aw:∀ i,i<n→LQ 100000 (mv n A (cg n A b x t).w i)
  rr:LQ 100000 (dt n (cg n A b x t).r (cg n A b x t).r)
  ww:LQ 100000 (dt n (cg n A b x t).w (mv n A (cg n A b x t).w))
  k:LQ 100000 (oJ n A (cg n A b x t))
theorem CF {t:Nat}(ht:t≤4):(bits 18 8 8 t).x≤2200000∧(bits 18 8 8 t).r≤700000∧(bits 18 8 8 t).w≤2200000:=by
 rcases (by omega:t=0∨t=1∨t=2∨t=3∨t=4) with rfl|rfl|rfl|rfl|rfl<;>decide
theorem Ip {n:Nat}(hn:n≤4){A:Nat→Nat→Rat}{b x:Nat→Rat}(hA:MD n 18 A)(hb:CD n 8 b)(hx:CD n 8 x){t:Nat}(ht:t≤4):CgB n A b x t:=by
 obtain ⟨h1,h2,h3⟩:=sH hn hA hb hx t;obtain ⟨b1,b2,b3⟩:=CF ht;have c1:=h1.mono b1;have c2:=h2.mono b2;have c3:=h3.mono b3;have a1:=hA.app hn c1;have a3:=hA.app hn c3;exact ⟨fun i hi=>(c1.at_ hi).lq kD,fun i hi=>(c2.at_ hi).lq kD,fun i hi=>(c3.at_ hi).lq kD,fun i hi=>(a1.at_ hi).lq kD,fun i hi=>(a3.at_ hi).lq kD,(c2.dot hn c2).lq kD,(c3.dot hn a3).lq kD,((c2.dot hn c2).div (c3.dot hn a3)).lq kD⟩
def CjEnd (n:Nat)(A:Nat→Nat→Rat)(b x:Nat→Rat)(t:Nat)(e:Int):Prop :=
  (∀ i,i<t→dt n (cg n A b x i).r (cg n A b x i).r≠0∧0<(dt n (cg n A b x i).w (mv n A (cg n A b x i).w)).num) ∧
    (e=0∧dt n (cg n A b x t).r (cg n A b x t).r=0∨e=9∧dt n (cg n A b x t).r (cg n A b x t).r≠0∧¬0<(dt n (cg n A b x t).w (mv n A (cg n A b x t).w)).num)
theorem CjEnd.uniq {n:Nat}{A:Nat→Nat→Rat}{b x:Nat→Rat}{t t':Nat}{e e':Int}(h:CjEnd n A b x t e)(h':CjEnd n A b x t' e'):t=t'∧e=e':=by
 have key:∀ {t t':Nat} {e e':Int},CjEnd n A b x t e→CjEnd n A b x t' e'→¬t<t':=fun {t t' e e'} h h' hlt=>by
  obtain ⟨g1,g2⟩:=h'.1 t hlt
  rcases h.2 with ⟨_,q⟩|⟨_,_,q⟩
  ·exact g1 q
  ·exact q g2
 have ht:t=t':=by
  have:=key h h';have:=key h' h;omega
 subst ht;refine ⟨rfl,?_⟩
 rcases h.2 with ⟨q1,q2⟩|⟨q1,q2,_⟩<;>rcases h'.2 with ⟨p1,p2⟩|⟨p1,p2,_⟩
 ·rw[q1,p1]
 ·exact absurd q2 p2
 ·exact absurd p2 q2
 ·rw[q1,p1]
theorem s8 {n:Nat}{A:Nat→Nat→Rat}{b x:Nat→Rat}{t:Nat}(h:dt n (cg n A b x t).r (cg n A b x t).r≠0∧0<(dt n (cg n A b x t).w (mv n A (cg n A b x t).w)).num):Eo n A b x t:=⟨h.1,fun e=>by have:=h.2;rw[e] at this;exact absurd this kD⟩
theorem EO {A:Option Addr}{c a b:Nat}(h:a=b):Value.slice A a c=.slice A b c:=by rw[h]
theorem B6 {A:Option Addr}{c a b:Nat}{x:Value}(h:a=b):Value.tuple #[.slice A a c,x]=.tuple #[.slice A b c,x]:=by rw[h]
def bc (n:Nat)(f:Nat→Rat):List Rat:=(List.range n).map f
theorem bU (n:Nat)(f:Nat→Rat):(bc n f).length=n:=by simp[bc]
theorem eu {n i:Nat}(f:Nat→Rat)(h:i<n):(bc n f).getD i 0=f i:=by simp[bc,h]
theorem q4 {l:List Rat}{n:Nat}{f:Nat→Rat}(hl:l.length=n)(h:∀ i,i<n→l.getD i 0=f i):l=bc n f:=by
 subst hl;refine List.ext_getElem (by simp[bc]) (fun i h1 h2=>?_);have:=h i h1
 simp only[bc,List.getElem_map,List.getElem_range]
 rw[←this];simp[h1]
theorem wa {L:List Rat}{n:Nat}{f:Nat→Rat}(hl:L.length=n)(h:∀ j,L.getD j 0=if j<n then f j else 0):L=bc n f:=q4 hl (fun i hi=>by rw[h i,if_pos hi])
theorem rV {L:List Rat}{n i:Nat}{f:Nat→Rat}{x:Rat}(hl:L.length=n)(h:∀ j,L.getD j 0=if j<i then f j else 0)(hi:i<n)(hx:x=f i):∀ j,(L.set i x).getD j 0=if j<i+1 then f j else 0:=fun j=>by
 rw[cJ oM]
 by_cases e:j=i
 ·subst e;rw[if_pos rfl,if_pos oM];exact hx
 ·rw[if_neg e,h j]
  by_cases e2:j<i
  ·rw[if_pos e2,if_pos oM]
  ·rw[if_neg e2,if_neg oM]
def mA (W:List (List Rat)):Nat→Nat→Rat:=fun i j=>(W.getD i []).getD j 0
theorem qw {a b:List Rat}{u v:Nat→Rat}:∀ n,(∀ i,i<n→a.getD i 0=u i)→(∀ i,i<n→b.getD i 0=v i)→dB a b n=dt n u v
  | 0,_,_=>rfl
  | n+1,h1,h2=>by
    show dB a b n+a.getD n 0*b.getD n 0=dt n u v+u n*v n
    rw[qw n (fun i hi=>h1 i oM) (fun i hi=>h2 i oM),h1 n oM,h2 n oM]
def Ah (W:List (List Rat)):Prop:=ip W∧W.length=(W.getD 0 []).length
noncomputable def Df (W:List (List Rat)):Bool:=@decide (Ah W) (Classical.propDecidable _)
def SymP (W:List (List Rat)):Prop:=Ah W∧∀ i,i<W.length→∀ k,k<i→(W.getD i []).getD k 0=(W.getD k []).getD i 0
noncomputable def Cj (W:List (List Rat)):Bool:=@decide (SymP W) (Classical.propDecidable _)
theorem HT {W:List (List Rat)}(h:¬Ah W):Df W=false:=@decide_eq_false _ (Classical.propDecidable _) h
theorem GN {W:List (List Rat)}(h:Ah W):Df W=true:=@decide_eq_true _ (Classical.propDecidable _) h
theorem Dw {W:List (List Rat)}(h:Df W=true):Ah W:=@oT _ (Classical.propDecidable _) h
theorem n4 {W:List (List Rat)}(h:Df W=false):¬Ah W:=@oF _ (Classical.propDecidable _) h
theorem xc {W:List (List Rat)}(h:¬SymP W):Cj W=false:=@decide_eq_false _ (Classical.propDecidable _) h
theorem Dt {W:List (List Rat)}(h:SymP W):Cj W=true:=@decide_eq_true _ (Classical.propDecidable _) h
theorem SymP.all {W:List (List Rat)}(h:SymP W):∀ i,i<W.length→∀ j,j<W.length→mA W i j=mA W j i:=fun i hi j hj=>by
 rcases Nat.lt_trichotomy i j with e|e|e
 ·exact (h.2 j hj i e).symm
 ·rw[e]
 ·exact h.2 i hi j e
theorem Eg {a b:Rat}(h:a=b):cW a b=0:=by rw[h];exact tH b
theorem B9 {a b:Rat}(h:cW a b=0):a=b:=by
 unfold cW dH at h
 have ha:=a.den_pos;have hb:=b.den_pos
 split at h
 ·omega
 ·split at h
  ·omega
  ·have e:a.num*(b.den:Int)=b.num*(a.den:Int):=by omega
   rw[←Rat.mkRat_self a,←Rat.mkRat_self b];exact (Rat.mkRat_eq_iff oM oM).2 e
theorem BN (A:Option Addr)(cap:Nat)(us:List Value)(W:List (List Rat))(hl:W.length≤1000000)(hls:∀ i,i<W.length→(W.getD i []).length≤1000000)(hR:ip W)(w:World)(h:Hp)(g:G w h)(hA:Sv A us h)(hU:QVs h us W):CV 157 #[.slice A us.length cap] w h (.bool true):=by
 have x:=td A cap us W hl hls w h g hA hU;rw[←HB hR] at x
 exact x
theorem ti {n a:Nat}(hn:n≤5)(ha:a≤1000001):n*a+a+2≤100000000:=by
 have:=Nat.mul_le_mul_right a hn
 omega
theorem H8 (a:List Rat)(x:Nat→Rat)(n:Nat)(A:Option Addr)(ca:Nat)(X:Option Addr)(cX:Nat)(hal:a.length=n)(K1 K2:Nat)(hn4:n≤5)(hb:K1+K2≤1000000)(hK1:∀ j,LQ K1 (a.getD j 0))(hK2:∀ i,i<n→LQ K2 (x i))(w:World)(h:Hp)(g:G w h)(hA:Sq A a h)(hX:Sq X (bc n x) h)(tb:Tab h):CV 119 #[.slice A a.length ca,.slice X (bc n x).length cX] w h (.tuple #[qv (dt n (fun j=>a.getD j 0) x),.bool true]):=by
 have x_:=HV A ca a X cX (bc n x) K1 K2 (by rw[bU];exact hal) oM (by have:=ti (n:=a.length) (a:=K1+K2+1) oM oM;omega) (fun i _=>hK1 i) (fun i hi=>by rw[eu x oM];exact hK2 i oM) w h g hA hX tb;rw[hal,qw n (u:=fun j=>a.getD j 0) (v:=x) (fun i _=>rfl) (fun i hi=>eu x hi)] at x_
 rw[hal];exact x_
theorem qU (u v:Nat→Rat)(n:Nat)(A:Option Addr)(ca:Nat)(X:Option Addr)(cX:Nat)(K1 K2:Nat)(hn4:n≤5)(hb:K1+K2≤1000000)(hK1:∀ i,i<n→LQ K1 (u i))(hK2:∀ i,i<n→LQ K2 (v i))(w:World)(h:Hp)(g:G w h)(hA:Sq A (bc n u) h)(hX:Sq X (bc n v) h)(tb:Tab h):CR 119 #[.slice A (bc n u).length ca,.slice X (bc n v).length cX] w h (fun r _=>r=.tuple #[qv (dt n u v),.bool true]):=by
 have x_:=HV A ca (bc n u) X cX (bc n v) K1 K2 (by rw[bU,bU]) (by rw[bU];omega) (by rw[bU];have:=ti (n:=n) (a:=K1+K2+1) oM oM;omega) (fun i hi=>by rw[bU] at hi;rw[eu u hi];exact hK1 i hi) (fun i hi=>by rw[bU] at hi;rw[eu v hi];exact hK2 i hi) w h g hA hX tb;rw[bU n u,qw n (u:=u) (v:=v) (fun i hi=>eu u hi) (fun i hi=>eu v hi)] at x_
 rw[bU n u];exact x_
theorem oo (A:Option Addr)(cap:Nat)(us:List Value)(W:List (List Rat))(hl:W.length≤1000)(hls:∀ i,i<W.length→(W.getD i []).length≤1000)(w:World)(h:Hp)(g:G w h)(hA:Sv A us h)(hU:QVs h us W):CV 115 #[.slice A us.length cap] w h (.bool (Df W)):=by
 have hs:=(((sS g).aS hA).aQ hU);have hlu:=(hs.f.1).len;refine go Tryz.func115 [(0,qS A us.length cap)] rfl (ab hs [.v 2 qF] (ay (lL hs [.m 3 0] (ah 4 hs (td A cap us W oM (fun i hi=>by have:=hls i hi;omega) _ _ hs.g hs.f.2.1 hs.f.1) (fun w1 h2 hs=>?_)))));cases hb3:(fR W)
 ·
  refine lL hs [.m 5 4] (lG 6 ?_);exact lG 7 (lG 8 (lG 9 (lG 10 (lG 11 (lG 12 (lL hs [.v 13 qF,.m 2 13] (ae hs [] qF (congrArg Value.bool (HT (fun h_=>by first|exact xn aM h_.1|(have:=h_.2;omega))).symm))))))))
 refine lL hs [.m 5 4,.m 6 0,.v 7 (nV us.length),.m 8 0] ?_;obtain ⟨hr1,hr2,hr3⟩:=C4 ‹fR W=true›;refine lX 9 A us.length cap 1 0 0 ((hs.f.2.1).ok oM) ?_;obtain ⟨Aqz,cqz,eqz,hcqz,hRqz⟩:=(hs.f.1).at_ 0 oM;replace hs:=hs.aS hRqz;refine Ae 10 (us.getD 0 undef) hs ((hs.f.r.1).el 0 oM) eqz (lL hs [.v 11 (nV ((W.getD 0 []).length))] ?_);cases hb4:((us.length:Int) == (((W.getD 0 []).length:Nat):Int))
 ·
  have phb4:=aj hb4;exact lB 12 hb4 (lL hs [.v 13 qF,.m 2 13] (ae hs [] qF (congrArg Value.bool (HT (fun h_=>by first|exact xn aM h_.1|(have:=h_.2;omega))).symm)))
 have phb4:=eq_of_beq hb4;exact lB 12 hb4 (lL hs [.v 13 qT,.m 2 13] (ae hs [] qT (congrArg Value.bool (GN ⟨C4 aM,by omega⟩).symm)))
theorem Hm (A:Option Addr)(cap:Nat)(us:List Value)(W:List (List Rat))(hl:W.length≤1000)(hls:∀ i,i<W.length→(W.getD i []).length≤1000)(hq:∀ i j,LQ 100000000 ((W.getD i []).getD j 0))(w:World)(h:Hp)(g:G w h)(hA:Sv A us h)(hU:QVs h us W):CV 116 #[.slice A us.length cap] w h (.bool (Cj W)):=by
 have hs:=(((sS g).aS hA).aQ hU);have hlu:=(hs.f.1).len;refine go Tryz.func116 [(0,qS A us.length cap)] rfl (ab hs [.v 2 qF] (af (ab hs [.m 6 0] (ah 7 hs (oo A cap us W hl hls _ _ hs.g hs.f.2.1 hs.f.1) (fun w1 h2 hs=>?_)))));cases hb3:(Df W)
 ·
  exact lL hs [.v 8 qT] (ar (ab hs [.v 2 qF] (ae hs [] qF (congrArg Value.bool (xc (fun h_=>n4 aM h_.1)).symm))))
 refine lL hs [.v 8 qF] (am (cK (cQ (ab hs [.m 9 0,.v 10 (nV us.length),.v 11 (iV 0)] (bd ?_)))));have hS:=Dw ‹Df W=true›;obtain ⟨⟨hr1,hr2,hr3⟩,hr4⟩:=id hS;refine bD _ (CG.loop (fun μ_ Γ w_=>∃ (i:Nat) (h_:Hp),μ_=W.length-i∧Γ=[(0,qS A us.length cap),(9,qS A us.length cap),(10,nV us.length),(11,nV i)]∧SS w h w_ h_ [] [] [Qu us W,Sv A us]∧i≤W.length∧(∀ a,a<i→∀ b,b<a→(W.getD a []).getD b 0=(W.getD b []).getD a 0)) _ ⟨0,h2,rfl,rfl,hs.to _ _,Nat.zero_le _,(fun a ha=>absurd ha (Nat.not_lt_zero a))⟩ ?_);rintro _ _ w4 ⟨i,h5,hm6,rfl,hs,hi,hY⟩;refine aD ?_;cases hb7:(decide ((i:Int)<(us.length:Int)))
 ·
  have phb7:=oF hb7;refine lB 12 hb7 (af (dK (CG.exit ?_)))
  show CG _ _ _ _ _ _ _ _
  exact ab hs [.v 2 qT] (ae hs [] qT (congrArg Value.bool (Dt ⟨hS,fun a ha b hb=>hY a oM b hb⟩).symm))
 have phb7:=oT hb7;refine lB 12 hb7 (af (cI (cK (cQ (kZ (ab hs [.m 13 11] (lX 14 A us.length cap 1 (i:Nat) i ((hs.f.2.1).ok oM) ?_)))))));obtain ⟨Aqx,cqx,eqx,hcqx,hRqx⟩:=(hs.f.1).at_ i oM;replace hs:=hs.aS hRqx;refine Ae 15 (us.getD i undef) hs ((hs.f.r.1).el i oM) eqx (lL hs [.m 3 13,.m 4 15] (ay (lL hs [.m 16 3,.v 17 (iV 0)] (bd ?_))));refine bD _ (CG.loop (fun μ_ Γ w_=>∃ (j:Nat) (h_:Hp),μ_=i-j∧Γ=[(0,qS A us.length cap),(9,qS A us.length cap),(10,nV us.length),(11,nV i),(3,nV i),(4,qS Aqx ((W.getD i []).length) cqx),(16,nV i),(17,nV j)]∧SS w h w_ h_ [] [] [Sq Aqx (W.getD i []),Qu us W,Sv A us]∧j≤i∧(∀ b,b<j→(W.getD i []).getD b 0=(W.getD b []).getD i 0)) _ ⟨0,h5,rfl,rfl,hs.to _ _,Nat.zero_le _,(fun b hb=>absurd hb (Nat.not_lt_zero b))⟩ ?_);rintro _ _ w8 ⟨j,h9,hm10,rfl,hs,hj,hX⟩;have hwi:=hr3 i;have hwj:=hr3 j;refine aD ?_;cases za:(decide ((j:Int)<(i:Int)))
 ·
  have zc:=oF za;refine lB 18 za (af (dK (CG.exit ?_)))
  show CG _ _ _ _ _ _ _ _
  refine kQ (bw 34 ((i:Nat)+1) (i+1) ?_);refine lL hs [.m 11 34] (lD ?_);intro a_ ka;replace hs:=hs.tl;refine ⟨_,_,?_,⟨i+1,h9,rfl,rfl,hs.to _ _,oM,(fun a ha b hb=>by by_cases e_:a=i;(subst e_;exact hX b oM);exact hY a oM b hb)⟩,ka.to _ kR⟩
  omega
 have zc:=oT za;refine lB 18 za (af (cI (cK (cQ (kZ (ab hs [.m 19 17,.m 5 19] (af (cR 13 [] mixed hs aq ?_))))))));refine eV 0 20 (qS Aqx ((W.getD i []).length) cqx) (eV 1 21 (nV j) (eX 2 22 Aqx ((W.getD i []).length) cqx 5 (j:Nat) j ((hs.f.1).ok oM) (eH 3 23 (qv ((W.getD i []).getD j 0)) hs ((hs.f.1).el j oM) (eV 4 24 (qS A us.length cap) (eV 5 25 (nV j) (eX 6 26 A us.length cap 1 (j:Nat) j ((hs.f.r.1).ok oM) ?_))))));obtain ⟨Aqy,cqy,eqy,hcqy,hRqy⟩:=(hs.f.2.1).at_ j oM;replace hs:=hs.aS hRqy;refine EX 7 27 (us.getD j undef) hs ((hs.f.r.2.1).el j oM) eqy (eV 8 28 (nV i) (eX 9 29 Aqy ((W.getD j []).length) cqy 5 (i:Nat) i ((hs.f.1).ok oM) (eH 10 30 (qv ((W.getD j []).getD i 0)) hs ((hs.f.1).el i oM) (ak 11 31 hs (fun _ _ hs=>lM ((W.getD i []).getD j 0) ((W.getD j []).getD i 0) (hq i j) (hq j i) _ _ hs.g) (fun _ _ hs=>?_)))));cases zb:((cW ((W.getD i []).getD j 0) ((W.getD j []).getD i 0):Int) != (0:Int))
 ·
  have zd:=aJ zb;refine eB 12 32 zb (bF hs (fun _ ze hs=>tN (dK (cK (kQ (bw 33 ((j:Nat)+1) (j+1) ?_))))));refine lL hs [.m 17 33] (lD ?_);intro a_ ka;replace hs:=hs.tl;refine ⟨_,_,?_,⟨j+1,ze,rfl,rfl,hs.to _ _,oM,(fun b hb=>by by_cases e_:b=j;(subst e_;exact B9 oM);exact hX b oM)⟩,ka.to _ kR⟩
  omega
 have zd:=aU zb;exact eB 12 32 zb (bF hs (fun _ _ hs=>tN (cI (ab hs [.v 2 qF] (ae hs [] qF (congrArg Value.bool (xc (fun h_=>absurd (h_.2 i oM j oM) (fun e_=>absurd (Eg e_) oM))).symm))))))
theorem Dj (A:Option Addr)(cap:Nat)(us:List Value)(W:List (List Rat))(hl:W.length≤1000)(hls:∀ i,i<W.length→(W.getD i []).length≤1000)(hq:∀ i j,LQ 100000000 ((W.getD i []).getD j 0))(hS:SymP W)(w:World)(h:Hp)(g:G w h)(hA:Sv A us h)(hU:QVs h us W):CV 116 #[.slice A us.length cap] w h (.bool true):=by
 have x:=Hm A cap us W hl hls hq w h g hA hU;rw[Dt hS] at x
 exact x
theorem qt (A:Option Addr)(cap:Nat)(us:List Value)(W:List (List Rat))(hl:W.length≤1000)(hls:∀ i,i<W.length→(W.getD i []).length≤1000)(x:Nat→Rat)(n:Nat)(hn4:n≤5)(X:Option Addr)(cX:Nat)(hR:ip W)(hn:W.length=n)(hn2:(W.getD 0 []).length=n)(K1 K2:Nat)(hK1:∀ i j,LQ K1 ((W.getD i []).getD j 0))(hK2:∀ i,i<n→LQ K2 (x i))(hKb:1≤K1∧1≤K2∧K1+K2≤1000000)(w:World)(h:Hp)(g:G w h)(hA:Sv A us h)(hU:QVs h us W)(hX:Sq X (bc n x) h)(tb:Tab h):CR 117 #[.slice A us.length cap,.slice X ((bc n x).length) cX] w h (fun v h1=>∃ A c,v=.tuple #[.slice A (bc n (mv n (mA W) x)).length c,iV 0]∧(bc n (mv n (mA W) x)).length≤c∧Sq A (bc n (mv n (mA W) x)) h1):=by
 have hs:=(((((sS g).aS hA).aQ hU).aS hX).aB tb);have hlu:=(hs.f.r.1).len;have hvl:=bU n x;have hr1:=hR.1;refine go Tryz.func117 [(0,qS A us.length cap),(1,qS X ((bc n x).length) cX)] rfl (ab hs [.v 4 (sZ),.v 5 (iV 0)] (af (ab hs [.m 9 0] (ah 10 hs (BN A cap us W oM (fun i hi=>by have:=hls i hi;omega) hR _ _ hs.g hs.f.r.2.1 hs.f.r.1) (fun w1 h2 hs=>lL hs [.v 11 qF,.m 12 11,.m 13 0] (lX 14 A us.length cap 1 0 0 ((hs.f.r.2.1).ok oM) ?_))))));obtain ⟨Aqz,cqz,eqz,hcqz,hRqz⟩:=(hs.f.r.1).at_ 0 oM;replace hs:=hs.aS hRqz;refine Ae 15 (us.getD 0 undef) hs ((hs.f.q.1).el 0 oM) eqz (lL hs [.v 16 (nV ((W.getD 0 []).length)),.m 17 1,.v 18 (nV ((bc n x).length))] ?_);have hb3:((((W.getD 0 []).length:Nat):Int) != (((bc n x).length:Nat):Int))=false:=tO oM;have phb3:=aJ hb3;refine lB 19 hb3 (lL hs [.v 20 qF] (am (cK (ab hs [.m 21 0,.v 22 (nV us.length)] (lK 23 39 us.length 5 56 (.agg #[qF,uV 0,eS,uV 0,eS]) qc 0 hs (fun b4 w5 h6 hs=>?_))))));have hl7:(List.replicate us.length 0).length=us.length:=by simp
 refine lL hs [.m 6 23] (af (ab hs [.m 24 0,.v 25 (nV us.length),.v 26 (iV 0)] (bd ?_)));refine bD _ (CG.loop (fun μ_ Γ w_=>∃ (i:Nat) (L:List Rat) (h_:Hp),μ_=n-i∧Γ=[(1,qS X ((bc n x).length) cX),(4,sZ),(5,iV 0),(6,qS (sB b4) us.length us.length),(24,qS A us.length cap),(25,nV us.length),(26,nV i)]∧SS w h w_ h_ [⟨b4,39,(L).flatMap qc⟩] [] [Sq Aqz (W.getD 0 []),fun h_=>Tab h_,Sq X (bc n x),Qu us W,Sv A us]∧i≤n∧L.length=us.length∧(∀ j,L.getD j 0=if j<i then mv n (mA W) x j else 0)) _ ⟨0,List.replicate us.length (0:Rat),h6,rfl,rfl,hs.to _ _,Nat.zero_le _,(by simp),(fun j=>by rw[fg,if_neg (Nat.not_lt_zero j)])⟩ ?_);rintro _ _ w8 ⟨i,L,h9,hm10,rfl,hs,hi,hLl,hLv⟩;refine aD ?_;cases za:(decide ((i:Int)<(us.length:Int)))
 ·
  have zb:=oF za;refine lB 27 za (af (dK (CG.exit ?_)))
  show CG _ _ _ _ _ _ _ _
  refine aD ?_;have hin:i=n:=by omega
  have hLe:L=bc n (mv n (mA W) x):=wa (hLl.trans oM) (fun j=>by rw[hLv j,hin]);obtain ⟨_,hs,sg13,lo14,bc15⟩:=hs.pub 0;replace hs:=(hs.to [] []).aS (SlO.of_flat (sz:=5) (f:=qc) (d:=0) (b:=b4) (o:=0) (l:=L) (fun _=>rfl) sg13);replace hs:=hs.aS (show Sq (sB b4) (bc n (mv n (mA W) x)) _ from by rw[←hLe];exact hs.f.1);exact lL hs [.m 41 6,.m 4 41,.v 5 (iV 0)] (ae hs [] (.tuple #[qS (sB b4) us.length us.length,iV 0]) (⟨(sB b4),us.length,B6 (by rw[bU];omega),(by rw[bU];omega),hs.f.1⟩))
 have zb:=oT za;refine lB 27 za (af (cI (cK (cQ (kZ (ab hs [.m 28 26] (lX 29 A us.length cap 1 (i:Nat) i ((hs.f.q.1).ok oM) ?_)))))));obtain ⟨Aqx,cqx,eqx,hcqx,hRqx⟩:=(hs.f.r.2.1).at_ i oM;replace hs:=hs.aS hRqx;refine Ae 30 (us.getD i undef) hs ((hs.f.q.2.1).el i oM) eqx (lL hs [.m 7 28,.m 8 30] (lN (kQ (lL hs [.m 32 6,.m 33 7,.m 34 8,.m 35 1] (ah 36 hs (H8 (W.getD i []) x n Aqx cqx X cX (by rw[hR.2.2 i oM];omega) K1 K2 oM oM (hK1 i) hK2 _ _ hs.g hs.f.1 hs.f.r.2.1 hs.f.r.1) (fun _ zd hs=>lL hs [.m 31 36,.v 37 (qv (mv n (mA W) x i)),.v 38 qT] (lX 39 (sB b4) us.length us.length 5 (i:Nat) i rfl ?_)))))));refine lW 0 L qc 5 i (mv n (mA W) x i) hs oM (fun _ hs=>?_);have zc:((L).set i (mv n (mA W) x i)).length=us.length:=by rw[List.length_set];exact hLl
 replace hs:=hs.to [⟨b4,39,((L).set i (mv n (mA W) x i)).flatMap qc⟩] [];refine lN (kQ (bw 40 ((i:Nat)+1) (i+1) ?_));refine lL hs [.m 26 40] (lD ?_);intro a_ ka;replace hs:=hs.tl;refine ⟨_,_,?_,⟨i+1,(L).set i (mv n (mA W) x i),zd,rfl,rfl,hs.to _ _,oM,zc,(rV hLl hLv oM rfl)⟩,ka.to _ kR⟩
 omega
theorem FA (A:Option Addr)(cap:Nat)(us:List Value)(W:List (List Rat))(hl:W.length≤1000)(hls:∀ i,i<W.length→(W.getD i []).length≤1000)(x:Nat→Rat)(n:Nat)(hn4:n≤5)(X:Option Addr)(cX:Nat)(hS:SymP W)(hn:W.length=n)(K1 K2 K3:Nat)(hK1:∀ i j,LQ K1 ((W.getD i []).getD j 0))(hK2:∀ i,i<n→LQ K2 (x i))(hK3:∀ i,i<n→LQ K3 (mv n (mA W) x i))(hKb:1≤K1∧1≤K2∧K1+K2≤1000000)(hKc:K2+K3≤1000000)(w:World)(h:Hp)(g:G w h)(hA:Sv A us h)(hU:QVs h us W)(hX:Sq X (bc n x) h)(tb:Tab h):CV 120 #[.slice A us.length cap,.slice X ((bc n x).length) cX] w h (.tuple #[qv (dt n x (mv n (mA W) x)),iV 0]):=by
 have hs:=(((((sS g).aS hA).aQ hU).aS hX).aB tb);have hlu:=(hs.f.r.1).len;have hvl:=bU n x;refine go Tryz.func120 [(0,qS A us.length cap),(1,qS X ((bc n x).length) cX)] rfl (aD (lA 4 39 ([qF,uV 0,eS,uV 0,eS]) hs (fun b1 w2 h3 hs=>lL hs [.v 5 (iV 0)] (af (ab hs [.m 10 0] (ah 11 hs (Dj A cap us W hl hls (fun i j=>(hK1 i j).mono oM) hS _ _ hs.g hs.f.r.2.1 hs.f.r.1) (fun w4 h5 hs=>lL hs [.v 12 qF,.m 13 12,.m 14 0,.v 15 (nV us.length),.m 16 1,.v 17 (nV ((bc n x).length))] ?_)))))));have hb6:((us.length:Int) != (((bc n x).length:Nat):Int))=false:=tO oM;have phb6:=aJ hb6;refine lB 18 hb6 (lL hs [.v 19 qF] (am (cK (ab hs [.m 22 0,.m 23 1] (lC 24 hs (qt A cap us W hl hls x n hn4 X cX hS.1.1 hn (by rw[←hn];exact hS.1.2.symm) K1 K2 hK1 hK2 hKb _ _ hs.g hs.f.r.2.1 hs.f.r.1 hs.f.2.1 hs.f.1) ?_)))));rintro _ w7 h8 hs ⟨Ay,cy,rfl,hcy,hAy⟩;replace hs:=hs.aS hAy;exact lL hs [.m 21 24,.v 25 (qS Ay ((bc n (mv n (mA W) x)).length) cy),.v 26 (iV 0),.m 6 25,.m 7 26] (ay (lL hs [.m 28 1,.m 29 6] (ah 30 hs (qU x (mv n (mA W) x) n X cX Ay cy K2 K3 hn4 oM hK2 hK3 _ _ hs.g hs.f.r.1 hs.f.1 hs.f.2.1) (fun w9 _ hs=>lL hs [.m 27 30,.v 31 (qv (dt n x (mv n (mA W) x))),.v 32 qT] (lA 8 39 ([qF,uV 0,eS,uV 0,eS]) hs (fun b11 _ _ hs=>lP 0 0 (qc (dt n x (mv n (mA W) x))) hs (fun _ hs=>lL hs [.m 9 32] (ay (lL hs [.o 33 (qv (dt n x (mv n (mA W) x))) 0 0 5] (lP 1 0 (qc (dt n x (mv n (mA W) x))) hs (fun _ hs=>lL hs [.v 5 (iV 0)] (ae hs [(1,0,5)] (.tuple #[qv (dt n x (mv n (mA W) x)),iV 0]) rfl))))))))))))
theorem Cr (b o c:Nat)(l:List Rat)(hpos:0<l.length)(hl:l.length≤1000000)(w:World)(h:Hp)(g:G w h)(hA:Sq (some ⟨b,o,none⟩) l h):CR 93 #[.slice (some ⟨b,o,none⟩) l.length c] w h (fun v h1=>SlN h.size 39 qc h1 v l):=by
 have hs:=((sS g).aS hA);have hnil:([]:List Rat).length=0:=rfl;refine go Tryz.func93 [(0,qS (some ⟨b,o,none⟩) l.length c)] rfl (ab hs [.v 2 (sZ)] (af (ab hs [.m 3 0,.v 4 qF] (am (cK (aD (Iw 5 39 5 qc ([]:List Rat) hs (fun b1 w2 h3 hs=>lL hs [.m 6 0] (I8 7 0 39 5 ((([]:List Rat)).length) (sB b1) ([]:List Rat) qc 0 (some ⟨b,o,none⟩) l c 56 (.agg #[qF,uV 0,eS,uV 0,eS]) hs hs.f.1 oM (fun A6 c7 w8 h9 hs=>lL hs [.m 2 7] (lN (kX ?_))))))))))));obtain ⟨hq,bq,spq,hs,hbq,hcq⟩:=hs.pubn 0 (A:=A6) (c:=c7) (ty:=39) (sz:=5) (l:=([]:List Rat)++l) (f:=qc) (by simpa using hpos);subst hbq;exact hs.ret [] (qS (sB bq) l.length c7) (⟨bq,_,spq,rfl,hcq,hs.f.1⟩)
theorem vo (A:Option Addr)(n c:Nat)(l:List Rat)(hn:l.length=n)(hpos:0<n)(hl:n≤1000000)(w:World)(h:Hp)(g:G w h)(hA:Sq A l h):CR 93 #[.slice A n c] w h (fun v h1=>SlN h.size 39 qc h1 v l):=by
 subst hn;have e:=hA.ok hpos;rw[e] at hA ⊢
 exact Cr _ _ c l hpos hl w h g hA
theorem oC  (a b:Nat→Rat)(n:Nat)(hn4:n≤5)(A:Option Addr)(cA:Nat)(D:Option Addr)(cD:Nat)(k:Rat)(K1 K2 K3:Nat)(hK1:∀ i,i<n→LQ K1 (a i))(hK2:∀ i,i<n→LQ K2 (b i))(hK3:LQ K3 k)(hKb:K1+K2+K3+1≤100000000)(w:World)(h:Hp)(g:G w h)(hA:Sq A (bc n a) h)(hD:Sq D (bc n b) h)(tb:Tab h):CR 118 #[.slice A ((bc n a).length) cA,.slice D ((bc n b).length) cD,qv k] w h (fun v h1=>∃ A c,v=.slice A (bc n fun i=>a i+b i*k).length c∧(bc n fun i=>a i+b i*k).length≤c∧Sq A (bc n fun i=>a i+b i*k) h1):=by
 have hs:=((((sS g).aS hA).aS hD).aB tb);have hva:=bU n a;have hvb:=bU n b;refine go Tryz.func118 [(0,qS A ((bc n a).length) cA),(1,qS D ((bc n b).length) cD),(2,qv k)] rfl (aD (lA 5 39 (qc k) hs (fun b1 w2 h3 hs=>lL hs [.v 6 (sZ)] (ay (lL hs [.m 9 0,.v 10 (nV ((bc n a).length))] (lK 11 39 ((bc n a).length) 5 56 (.agg #[qF,uV 0,eS,uV 0,eS]) qc 0 hs (fun b4 w5 h6 hs=>?_)))))));have hl7:(List.replicate ((bc n a).length) 0).length=((bc n a).length):=by simp
 refine lL hs [.m 7 11] (af (ab hs [.m 12 7,.v 13 (nV ((bc n a).length)),.v 14 (iV 0)] (bd ?_)));refine bD _ (CG.loop (fun μ_ Γ w_=>∃ (i:Nat) (L:List Rat) (h_:Hp),μ_=n-i∧Γ=[(0,qS A ((bc n a).length) cA),(1,qS D ((bc n b).length) cD),(5,pB b1),(6,sZ),(7,qS (sB b4) ((bc n a).length) ((bc n a).length)),(13,nV ((bc n a).length)),(14,nV i)]∧SS w h w_ h_ [⟨b4,39,(L).flatMap qc⟩,⟨b1,39,qc k⟩] [] [fun h_=>Tab h_,Sq D (bc n b),Sq A (bc n a)]∧i≤n∧L.length=((bc n a).length)∧(∀ j,L.getD j 0=if j<i then (fun i_=>a i_+b i_*k) j else 0)) _ ⟨0,List.replicate ((bc n a).length) (0:Rat),h6,rfl,rfl,hs.to _ _,Nat.zero_le _,(by simp),(fun j=>by rw[fg,if_neg (Nat.not_lt_zero j)])⟩ ?_);rintro _ _ w8 ⟨i,L,h9,hm10,rfl,hs,hi,hLl,hLv⟩;refine aD ?_;cases za:(decide ((i:Int)<((((bc n a).length):Nat):Int)))
 ·
  have zc:=oF za;refine lB 15 za (af (dK (CG.exit ?_)))
  show CG _ _ _ _ _ _ _ _
  refine aD ?_;have hin:i=n:=by omega
  have hLe:L=bc n (fun i=>a i+b i*k):=wa (hLl.trans oM) (fun j=>by rw[hLv j,hin]);obtain ⟨_,hs,sg13,lo14,bc15⟩:=hs.pub 0;replace hs:=(hs.to [⟨b1,39,qc k⟩] []).aS (SlO.of_flat (sz:=5) (f:=qc) (d:=0) (b:=b4) (o:=0) (l:=L) (fun _=>rfl) sg13);replace hs:=hs.aS (show Sq (sB b4) (bc n (fun i=>a i+b i*k)) _ from by rw[←hLe];exact hs.f.1);exact lL hs [.m 32 7,.m 6 32] (ae hs [] (qS (sB b4) ((bc n a).length) ((bc n a).length)) (⟨(sB b4),((bc n a).length),EO (by rw[bU,bU]),(by rw[bU,bU];exact nR _),hs.f.1⟩))
 have zc:=oT za;refine lB 15 za (af (cI (cK (cQ (kZ (ab hs [.m 16 14,.m 8 16] (lN (cR 13 [] mixed hs aq ?_))))))));refine eV 0 17 (qS (sB b4) ((bc n a).length) ((bc n a).length)) (eV 1 18 (nV i) (eV 2 19 (qS A ((bc n a).length) cA) (eV 3 20 (nV i) (eX 4 21 A ((bc n a).length) cA 5 (i:Nat) i ((hs.f.r.1).ok oM) (eH 5 22 (qv ((bc n a).getD i 0)) hs ((hs.f.r.1).el i oM) (eV 6 23 (qS D ((bc n b).length) cD) (eV 7 24 (nV i) (eX 8 25 D ((bc n b).length) cD 5 (i:Nat) i ((hs.f.2.1).ok oM) (eH 9 26 (qv ((bc n b).getD i 0)) hs ((hs.f.2.1).el i oM) (eO 10 27 [(1,0,5)] (qv k) hs ?_))))))))));have zb:=LQ.mul (show LQ K2 ((bc n b).getD i 0) from by rw[eu b oM];exact hK2 i oM) hK3;refine ak 11 28 hs (fun _ _ hs=>ji ((bc n b).getD i 0) k (LQ.mono (show LQ K2 ((bc n b).getD i 0) from by rw[eu b oM];exact hK2 i oM) oM) (LQ.mono hK3 oM) _ _ hs.g hs.f.1) (fun _ _ hs=>?_);have hq20:=LQ.add (show LQ K1 ((bc n a).getD i 0) from by rw[eu a oM];exact hK1 i oM) zb;refine ak 12 29 hs (fun _ _ hs=>ki ((bc n a).getD i 0) (((bc n b).getD i 0)*k) (LQ.mono (show LQ K1 ((bc n a).getD i 0) from by rw[eu a oM];exact hK1 i oM) oM) (LQ.mono zb oM) _ _ hs.g hs.f.1) (fun _ _ hs=>bF hs (fun _ ze hs=>tX 13 30 (sB b4) ((bc n a).length) ((bc n a).length) 5 (i:Nat) i rfl (tW 14 0 L qc 5 i (((bc n a).getD i 0)+(((bc n b).getD i 0)*k)) hs oM (fun _ hs=>?_))));have zd:((L).set i (((bc n a).getD i 0)+(((bc n b).getD i 0)*k))).length=((bc n a).length):=by rw[List.length_set];exact hLl
 replace hs:=hs.to [⟨b4,39,((L).set i (((bc n a).getD i 0)+(((bc n b).getD i 0)*k))).flatMap qc⟩,⟨b1,39,qc k⟩] [];refine tN (kQ (bw 31 ((i:Nat)+1) (i+1) ?_));refine lL hs [.m 14 31] (lD ?_);intro a_ ka;refine ⟨_,_,?_,⟨i+1,(L).set i (((bc n a).getD i 0)+(((bc n b).getD i 0)*k)),ze,rfl,rfl,hs.to _ _,oM,zd,(rV hLl hLv oM (by rw[eu a oM,eu b oM]))⟩,ka.to _ kR⟩
 omega
abbrev TV:=Value × Value × Value
def vY:TV:=(.slice none 0 0,.slice none 0 0,.slice none 0 0)
def wx (t:TV):List Value:=[t.1,t.2.1,t.2.2]
def TR1 (n:Nat)(s:Cst)(h:Hp)(t:TV):Prop:=(∃ A c,t.1=.slice A (bc n s.x).length c∧SlO 5 qc 0 h A (bc n s.x))∧(∃ A c,t.2.1=.slice A (bc n s.r).length c∧SlO 5 qc 0 h A (bc n s.r))∧∃ A c,t.2.2=.slice A (bc n s.w).length c∧SlO 5 qc 0 h A (bc n s.w)
theorem TR1.gw {n:Nat}{s:Cst}{h h':Hp}{t:TV}(x:TR1 n s h t)(u:Gw h h'):TR1 n s h' t:=by
 obtain ⟨⟨A,c,e,p⟩,⟨B,d,f,q⟩,C,g,i,r⟩:=x;exact ⟨⟨A,c,e,p.gw u⟩,⟨B,d,f,q.gw u⟩,C,g,i,r.gw u⟩
structure CTr (n:Nat) (A:Nat→Nat→Rat) (b x:Nat→Rat) (h:Hp) (al:List TV):Prop where
  at_:∀ i,i<al.length→TR1 n (cg n A b x i) h (al.getD i vY)
theorem CTr.gw {n:Nat}{A:Nat→Nat→Rat}{b x:Nat→Rat}{h h':Hp}{al:List TV}(y:CTr n A b x h al)(u:Gw h h'):CTr n A b x h' al:=⟨fun i hi=>(y.at_ i hi).gw u⟩
theorem CTr.nil {n:Nat}{A:Nat→Nat→Rat}{b x:Nat→Rat}{h:Hp}:CTr n A b x h []:=⟨fun i hi=>absurd hi (Nat.not_lt_zero i)⟩
theorem CTr.snoc {n:Nat}{A:Nat→Nat→Rat}{b x:Nat→Rat}{h:Hp}{al:List TV}{t:TV}(y:CTr n A b x h al)(z:TR1 n (cg n A b x al.length) h t):CTr n A b x h (al++[t]):=⟨fun i hi=>by
 rw[List.length_append,List.length_singleton] at hi
 rw[bL]
 by_cases e:i<al.length
 ·rw[if_pos e];exact y.at_ i e
 ·rw[if_neg e,if_pos oM,show i=al.length by omega];exact z⟩
open Classical in
noncomputable def Fz (W:List (List Rat)) (bl xl:List Rat):Int:=if Ah W∧bl.length=W.length∧xl.length=W.length then 10 else 5
theorem FC {W:List (List Rat)}{bl xl:List Rat}(h:Ah W∧bl.length=W.length∧xl.length=W.length):Fz W bl xl=10:=if_pos h
theorem vn {W:List (List Rat)}{bl xl:List Rat}(h:¬Ah W∨(bl.length≠W.length∨xl.length≠W.length)):Fz W bl xl=5:=if_neg (fun x=>by
 rcases h with h|h|h
 ·exact h x.1
 ·exact h x.2.1
 ·exact h x.2.2)
theorem Im (A:Option Addr)(cap:Nat)(us:List Value)(W:List (List Rat))(hl:W.length≤1000)(hls:∀ i,i<W.length→(W.getD i []).length≤1000)(hS:Ah W)(w:World)(h:Hp)(g:G w h)(hA:Sv A us h)(hU:QVs h us W):CV 115 #[.slice A us.length cap] w h (.bool true):=by
 have x:=oo A cap us W hl hls w h g hA hU;rw[GN hS] at x
 exact x
theorem sK (A:Option Addr)(c:Nat)(l:List Rat)(n:Nat)(hn:l.length=n)(hpos:0<n)(hl:n≤1000000)(w:World)(h:Hp)(g:G w h)(hA:Sq A l h):CR 93 #[.slice A l.length c] w h (fun v h1=>∃ B d,v=.slice B l.length d∧Sq B l h1):=by
 refine (vo A l.length c l rfl oM oM w h g hA).mono ?_;rintro _ w' ⟨_,h',rfl,u,x⟩;obtain ⟨B,d,e,_,s⟩:=x.slv (d:=0) (sz:=5) (fun _=>rfl);exact ⟨_,h',rfl,u,B,d,e,s⟩
section
variable {n:Nat} {A:Nat→Nat→Rat} {b x:Nat→Rat} {t:Nat}
theorem I1 (h:(dt n (cg n A b x t).r (cg n A b x t).r).num.sign=0):dt n (cg n A b x t).r (cg n A b x t).r=0:=Rat.num_eq_zero.1 (Int.sign_eq_zero_iff_zero.1 h)
theorem Dr (h:(dt n (cg n A b x t).r (cg n A b x t).r).num.sign≠0):dt n (cg n A b x t).r (cg n A b x t).r≠0:=fun e=>h (by rw[e];rfl)
theorem GM (h:(dt n (cg n A b x t).w (mv n A (cg n A b x t).w)).num.sign≤0):¬0<(dt n (cg n A b x t).w (mv n A (cg n A b x t).w)).num:=fun e=>by rw[Int.sign_eq_one_of_pos e] at h;omega
theorem Gh (h:(dt n (cg n A b x t).r (cg n A b x t).r).num.sign≠0)(h2:¬(dt n (cg n A b x t).w (mv n A (cg n A b x t).w)).num.sign≤0):dt n (cg n A b x t).r (cg n A b x t).r≠0∧0<(dt n (cg n A b x t).w (mv n A (cg n A b x t).w)).num:=⟨Dr h,by
 rcases Int.lt_trichotomy (dt n (cg n A b x t).w (mv n A (cg n A b x t).w)).num 0 with e|e|e
 ·rw[Int.sign_eq_neg_one_of_neg e] at h2;omega
 ·rw[e] at h2;exact absurd kD h2
 ·exact e⟩
theorem DZ (h:∀ i,i<t→dt n (cg n A b x i).r (cg n A b x i).r≠0∧0<(dt n (cg n A b x i).w (mv n A (cg n A b x i).w)).num)(h2:dt n (cg n A b x t).r (cg n A b x t).r≠0∧0<(dt n (cg n A b x t).w (mv n A (cg n A b x t).w)).num):∀ i,i<t+1→dt n (cg n A b x i).r (cg n A b x i).r≠0∧0<(dt n (cg n A b x i).w (mv n A (cg n A b x i).w)).num:=fun i hi=>by
 by_cases e:i=t
 ·rw[e];exact h2
 ·exact h i oM
end
theorem Ej (A:Option Addr)(cap:Nat)(us:List Value)(W:List (List Rat))(hl:W.length≤1000)(hls:∀ i,i<W.length→(W.getD i []).length≤1000)(b x:Nat→Rat)(n:Nat)(hn4:n≤5)(D:Option Addr)(cD:Nat)(X:Option Addr)(cX:Nat)(hS:SymP W)(hn:W.length=n)(hK1:∀ i j,LQ 3 ((W.getD i []).getD j 0))(hb:∀ i,i<n→LQ 100000 (b i))(hx:∀ i,i<n→LQ 100000 (x i))(hB:∀ t,t≤n→CgB n (mA W) b x t)(w:World)(h:Hp)(g:G w h)(hA:Sv A us h)(hU:QVs h us W)(hD:Sq D (bc n b) h)(hX:Sq X (bc n x) h)(tb:Tab h):CR 67 #[.slice A us.length cap,.slice D ((bc n b).length) cD,.slice X ((bc n x).length) cX] w h (fun v h1=>∃ (t:Nat) (e:Int) (A:Option Addr) (c:Nat) (al:List TV),CjEnd n (mA W) b x t e∧v=.tuple #[.slice A al.length c,iV e]∧SlO 3 wx vY h1 A al∧CTr n (mA W) b x h1 al∧al.length=(if e=0 then t+1 else 0)):=by
 have hs:=((((((sS g).aS hA).aQ hU).aS hD).aS hX).aB tb);have hlu:=(hs.f.r.2.1).len;have hvb:=bU n b;have hvx:=bU n x;have hSy:∀ i,i<n→∀ j,j<n→mA W i j=mA W j i:=by rw[←hn];exact hS.all
 have hB0:=hB 0 (Nat.zero_le _);have hn0:0<n:=by have:=hS.1.1.1;omega
 refine go Tryz.func67 [(0,qS A us.length cap),(1,qS D ((bc n b).length) cD),(2,qS X ((bc n x).length) cX)] rfl (ab hs [.v 6 (sZ),.v 7 (iV 0)] (af (ab hs [.m 25 0] (ah 26 hs (Im A cap us W hl hls hS.1 _ _ hs.g hs.f.q.1 hs.f.r.2.1) (fun w1 h2 hs=>lL hs [.v 27 qF,.m 28 27,.m 29 1,.v 30 (nV ((bc n b).length)),.m 31 0,.v 32 (nV us.length)] ?_)))));have hb3:((((bc n b).length:Nat):Int) != (us.length:Int))=false:=tO oM;have phb3:=aJ hb3;refine lB 33 hb3 (lL hs [.v 34 qF,.m 35 34,.m 36 2,.v 37 (nV ((bc n x).length)),.m 38 0,.v 39 (nV us.length)] ?_);have hb4:((((bc n x).length:Nat):Int) != (us.length:Int))=false:=tO oM;have phb4:=aJ hb4;refine lB 40 hb4 (lL hs [.v 41 qF] (am (cK (cQ (ab hs [.m 42 0] (ah 43 hs (Dj A cap us W hl hls (fun i j=>(hK1 i j).mono oM) hS _ _ hs.g hs.f.q.1 hs.f.r.2.1) (fun w5 h6 hs=>lL hs [.v 44 qF] (am (cK (ab hs [.m 46 0,.m 47 2] (lC 48 hs (qt A cap us W hl hls x n hn4 X cX hS.1.1 hn (by rw[←hn];exact hS.1.2.symm) 3 100000 hK1 hx kD _ _ hs.g hs.f.q.1 hs.f.r.2.1 hs.f.2.1 hs.f.1) ?_)))))))))));rintro _ w7 h8 hs ⟨Ay,cy,rfl,hcy,hAy⟩;replace hs:=hs.aS hAy;refine lL hs [.m 45 48,.v 49 (qS Ay ((bc n (mv n (mA W) x)).length) cy),.v 50 (iV 0),.m 8 49,.m 9 50] (ay (lL hs [.m 51 1,.m 52 8] (ah 53 hs (pZ (-1) oM oM _ _ hs.g) (fun w9 _ hs=>lC 54 hs (oC b (mv n (mA W) x) n oM D cD Ay cy ((-1:Int):Rat) 100000 100000 1 hb (hB0.ax) (LQ.int oM oM) oM _ _ hs.g hs.f.r.2.1 hs.f.1 hs.f.2.1) ?_))));rintro _ _ _ hs ⟨Xr,cr,rfl,hcr,hXr⟩;replace hs:=hs.aS hXr;refine lL hs [.m 8 54] (ay (lL hs [.m 55 2] (lC 56 hs (sK X cX (bc n x) n (bU n _) oM oM _ _ hs.g hs.f.r.2.1) ?_)));rintro _ _ _ hs ⟨K1,ck1,rfl,hK_1⟩;replace hs:=hs.aS hK_1;refine lL hs [.m 57 8,.m 58 8] (lC 59 hs (sK Xr cr (bc n (cg n (mA W) b x 0).r) n (bU n _) oM oM _ _ hs.g hs.f.2.1) ?_);rintro _ _ _ hs ⟨K2,ck2,rfl,hK_2⟩;replace hs:=hs.aS hK_2;refine lL hs [.v 60 (.agg #[qS K1 ((bc n x).length) ck1,qS Xr ((bc n (cg n (mA W) b x 0).r).length) cr,qS K2 ((bc n (cg n (mA W) b x 0).r).length) ck2])] (Iw 61 127 3 wx ([((qS K1 ((bc n x).length) ck1,qS Xr ((bc n (cg n (mA W) b x 0).r).length) cr,qS K2 ((bc n (cg n (mA W) b x 0).r).length) ck2):TV)]:List TV) hs (fun zj _ zk hs=>lL hs [.m 10 61] (lN (bD [(0,qS A us.length cap),(1,qS D ((bc n b).length) cD),(6,sZ),(7,iV 0),(10,qS (sB zj) ((([((qS K1 ((bc n x).length) ck1,qS Xr ((bc n (cg n (mA W) b x 0).r).length) cr,qS K2 ((bc n (cg n (mA W) b x 0).r).length) ck2):TV)]:List TV)).length) ((([((qS K1 ((bc n x).length) ck1,qS Xr ((bc n (cg n (mA W) b x 0).r).length) cr,qS K2 ((bc n (cg n (mA W) b x 0).r).length) ck2):TV)]:List TV)).length))] ?_))));refine kZ ?_;replace hs:=hs.add (K:=fun h_=>CTr n (mA W) b x h_ ([((qS K1 ((bc n x).length) ck1,qS Xr ((bc n (cg n (mA W) b x 0).r).length) cr,qS K2 ((bc n (cg n (mA W) b x 0).r).length) ck2):TV)]:List TV)) ((CTr.nil.snoc ⟨⟨_,_,rfl,hs.f.2.1⟩,⟨_,_,rfl,hs.f.r.1⟩,⟨_,_,rfl,hs.f.1⟩⟩));replace hs:=hs.aS hs.f.2.1;replace hs:=hs.aS hs.f.q.1;replace hs:=hs.aS hs.f.q.1;refine bD _ (CG.loop (fun μ_ Γ w_=>∃ (t:Nat) (saA:Option Addr) (sac:Nat) (al:List TV) (Ax:Option Addr) (cx:Nat) (Ar:Option Addr) (cr_:Nat) (Aw:Option Addr) (cw:Nat) (h_:Hp),μ_=n+1-t∧Γ=[(0,qS A us.length cap),(1,qS D ((bc n b).length) cD),(10,qS saA ((al).length) sac)]∧SS w h w_ h_ [] [⟨127,3,saA,sac,(al).length,(al).flatMap wx⟩] [Sq Ax (bc n (cg n (mA W) b x t).x),Sq Ar (bc n (cg n (mA W) b x t).r),Sq Aw (bc n (cg n (mA W) b x t).w),fun h_=>CTr n (mA W) b x h_ al,Sq K2 (bc n (cg n (mA W) b x 0).r),Sq K1 (bc n x),Sq Xr (bc n (cg n (mA W) b x 0).r),Sq Ay (bc n (mv n (mA W) x)),fun h_=>Tab h_,Sq X (bc n x),Sq D (bc n b),Qu us W,Sv A us]∧al.length=t+1∧al.getD t vY=(qS Ax (bc n (cg n (mA W) b x t).x).length cx,qS Ar (bc n (cg n (mA W) b x t).r).length cr_,qS Aw (bc n (cg n (mA W) b x t).w).length cw)∧(∀ i,i<t→dt n (cg n (mA W) b x i).r (cg n (mA W) b x i).r≠0∧0<(dt n (cg n (mA W) b x i).w (mv n (mA W) (cg n (mA W) b x i).w)).num)) _ ⟨0,sB zj,(([((qS K1 ((bc n x).length) ck1,qS Xr ((bc n (cg n (mA W) b x 0).r).length) cr,qS K2 ((bc n (cg n (mA W) b x 0).r).length) ck2):TV)]:List TV)).length,([((qS K1 ((bc n x).length) ck1,qS Xr ((bc n (cg n (mA W) b x 0).r).length) cr,qS K2 ((bc n (cg n (mA W) b x 0).r).length) ck2):TV)]:List TV),K1,ck1,Xr,cr,K2,ck2,zk,rfl,rfl,hs.to _ _,rfl,rfl,(fun i hi=>absurd hi (Nat.not_lt_zero i))⟩ ?_);rintro _ _ _ ⟨t,saA,sac,al,Ax,cx,Ar,cr_,Aw,cw,_,hm24,rfl,hs,ht,hcur,hg⟩;have htn:=r6 hSy (fun i hi=>s8 (hg i hi));have hBt:=hB t htn;refine kZ (ab hs [.m 62 10,.m 63 10,.v 64 (nV ((al).length))] (bw 65 (((al).length:Nat)-1) t ?_));obtain ⟨za,zf⟩:=hs.rowA 0 (A:=saA) (c:=sac) (m:=(al).length) (ty:=127) (sz:=3) (cs:=(al).flatMap wx) oM;subst zf;refine lX 66 (sB za) ((al).length) sac 3 (t:Nat) t rfl (Hy (ty:=127) (sz:=3) (c:=sac) (m:=(al).length) (b:=za) (cs:=(al).flatMap wx) 67 0 (.agg #[qS Ax ((bc n (cg n (mA W) b x t).x).length) cx,qS Ar ((bc n (cg n (mA W) b x t).r).length) cr_,qS Aw ((bc n (cg n (mA W) b x t).w).length) cw]) ([qS Ax ((bc n (cg n (mA W) b x t).x).length) cx,qS Ar ((bc n (cg n (mA W) b x t).r).length) cr_,qS Aw ((bc n (cg n (mA W) b x t).w).length) cw]) hs ((gm (f:=wx) (sz:=3) (fun _=>rfl) vY al t oM).trans (congrArg wx hcur)) (lA 11 127 ([sZ,sZ,sZ]) hs (fun zb _ _ hs=>lP 0 0 ([qS Ax ((bc n (cg n (mA W) b x t).x).length) cx,qS Ar ((bc n (cg n (mA W) b x t).r).length) cr_,qS Aw ((bc n (cg n (mA W) b x t).w).length) cw]) hs (fun _ hs=>ay (lL hs [.v 69 (qP zb 1),.o 70 (qS Ar ((bc n (cg n (mA W) b x t).r).length) cr_) 0 1 1,.v 71 (qP zb 1),.o 72 (qS Ar ((bc n (cg n (mA W) b x t).r).length) cr_) 0 1 1] (ah 73 hs (qU (cg n (mA W) b x t).r (cg n (mA W) b x t).r n Ar cr_ Ar cr_ 100000 100000 oM kD hBt.r hBt.r _ _ hs.g hs.f.2.1 hs.f.2.1 hs.f.q.q.1) (fun _ _ hs=>lL hs [.m 68 73,.v 74 (qv (dt n (cg n (mA W) b x t).r (cg n (mA W) b x t).r)),.v 75 qT] (lA 12 39 ([qF,uV 0,eS,uV 0,eS]) hs (fun zl _ _ hs=>lP 0 0 (qc (dt n (cg n (mA W) b x t).r (cg n (mA W) b x t).r)) hs (fun _ hs=>lL hs [.m 13 75] (af (ab hs [.o 76 (qv (dt n (cg n (mA W) b x t).r (cg n (mA W) b x t).r)) 0 0 5] (ah 77 hs (eL (dt n (cg n (mA W) b x t).r (cg n (mA W) b x t).r) (hBt.rr.mono oM) _ _ hs.g) (fun _ _ hs=>?_))))))))))))));cases zd:(((dt n (cg n (mA W) b x t).r (cg n (mA W) b x t).r).num.sign:Int) == (0:Int))
 ·
  have zg:=aj zd;refine lB 78 zd (am (cK (ab hs [.m 81 0,.v 82 (qP zb 2),.o 83 (qS Aw ((bc n (cg n (mA W) b x t).w).length) cw) 1 2 1] (ah 84 hs (FA A cap us W hl hls (cg n (mA W) b x t).w n oM Aw cw hS hn 3 100000 100000 hK1 hBt.w hBt.aw kD kD _ _ hs.g hs.f.q.q.q.1 hs.f.q.q.r.2.1 hs.f.r.1 hs.f.q.q.1) (fun _ _ hs=>lL hs [.m 80 84,.v 85 (qv (dt n (cg n (mA W) b x t).w (mv n (mA W) (cg n (mA W) b x t).w))),.v 86 (iV 0)] (lA 14 39 ([qF,uV 0,eS,uV 0,eS]) hs (fun b42 _ _ hs=>lP 0 0 (qc (dt n (cg n (mA W) b x t).w (mv n (mA W) (cg n (mA W) b x t).w))) hs (fun _ hs=>lL hs [.m 15 86] (af (ab hs [.o 87 (qv (dt n (cg n (mA W) b x t).w (mv n (mA W) (cg n (mA W) b x t).w))) 0 0 5] (ah 88 hs (eL (dt n (cg n (mA W) b x t).w (mv n (mA W) (cg n (mA W) b x t).w)) (hBt.ww.mono oM) _ _ hs.g) (fun _ _ hs=>?_))))))))))));cases ze:(decide (((dt n (cg n (mA W) b x t).w (mv n (mA W) (cg n (mA W) b x t).w)).num.sign:Int)≤(0:Int)))
  ·
   have zi:=oF ze;refine lB 89 ze (am (cK (ab hs [.o 91 (qv (dt n (cg n (mA W) b x t).r (cg n (mA W) b x t).r)) 1 0 5,.o 92 (qv (dt n (cg n (mA W) b x t).w (mv n (mA W) (cg n (mA W) b x t).w))) 0 0 5] ?_)));have hgo:=Gh (n:=n) (A:=(mA W)) (b:=b) (x:=x) (t:=t) oM oM;have hg1:∀ i,i<t+1→_:=DZ hg hgo;have htn1:=r6 hSy (fun i hi=>s8 (hg1 i hi));have hB1:=hB (t+1) htn1;refine ah 93 hs (k8 (dt n (cg n (mA W) b x t).r (cg n (mA W) b x t).r) (dt n (cg n (mA W) b x t).w (mv n (mA W) (cg n (mA W) b x t).w)) (hBt.rr.mono oM) (hBt.ww.mono oM) (by have:=Int.sign_eq_zero_iff_zero (a:=(dt n (cg n (mA W) b x t).w (mv n (mA W) (cg n (mA W) b x t).w)).num);omega) _ _ hs.g hs.f.q.q.1) (fun _ _ hs=>lL hs [.m 90 93,.v 94 (qv (oJ n (mA W) (cg n (mA W) b x t))),.v 95 qT] (lA 16 39 ([qF,uV 0,eS,uV 0,eS]) hs (fun zm _ _ hs=>lP 0 0 (qc (oJ n (mA W) (cg n (mA W) b x t))) hs (fun _ hs=>lL hs [.m 17 95] (lN (bD [(0,qS A us.length cap),(1,qS D ((bc n b).length) cD),(10,qS (sB za) ((al).length) sac),(11,pB zb),(12,pB zl),(16,pB zm)] ?_))))));refine ab hs [.v 96 (pB zb),.o 97 (qS Ax ((bc n (cg n (mA W) b x t).x).length) cx) 3 0 1,.v 98 (qP zb 2),.o 99 (qS Aw ((bc n (cg n (mA W) b x t).w).length) cw) 3 2 1,.o 100 (qv (oJ n (mA W) (cg n (mA W) b x t))) 0 0 5] (lC 101 hs (oC (cg n (mA W) b x t).x (cg n (mA W) b x t).w n oM Ax cx Aw cw (oJ n (mA W) (cg n (mA W) b x t)) 100000 100000 100000 hBt.xx hBt.w hBt.k oM _ _ hs.g hs.f.1 hs.f.r.1 hs.f.q.q.1) ?_);rintro _ _ _ hs ⟨Xn,cn,rfl,hcn,hXn⟩;replace hs:=hs.aS hXn;refine lL hs [.v 102 (.agg #[qS Xn ((bc n (cg n (mA W) b x (t+1)).x).length) cn,sZ,sZ])] (lA 18 127 ([sZ,sZ,sZ]) hs (fun zc _ _ hs=>lP 0 0 ([qS Xn ((bc n (cg n (mA W) b x (t+1)).x).length) cn,sZ,sZ]) hs (fun _ hs=>ay (lL hs [.m 104 0,.v 105 (pB zc),.o 106 (qS Xn ((bc n (cg n (mA W) b x (t+1)).x).length) cn) 0 0 1] (lC 107 hs (qt A cap us W hl hls ((cg n (mA W) b x (t+1)).x) n hn4 Xn cn hS.1.1 hn (by rw[←hn];exact hS.1.2.symm) 3 100000 hK1 hB1.xx kD _ _ hs.g hs.f.q.q.q.2.1 hs.f.q.q.q.1 hs.f.1 hs.f.q.q.2.1) ?_)))));rintro _ _ _ hs ⟨Az,cz,rfl,hcz,hAz⟩;replace hs:=hs.aS hAz;refine lL hs [.m 103 107,.v 108 (qS Az ((bc n (mv n (mA W) (cg n (mA W) b x (t+1)).x)).length) cz),.v 109 (iV 0),.m 19 108,.m 20 109] (ay (lL hs [.m 110 1,.m 111 19] (ah 112 hs (pZ (-1) oM oM _ _ hs.g) (fun _ _ hs=>lC 113 hs (oC b (mv n (mA W) (cg n (mA W) b x (t+1)).x) n oM D cD Az cz ((-1:Int):Rat) 100000 100000 1 hb hB1.ax (LQ.int oM oM) oM _ _ hs.g hs.f.q.q.q.1 hs.f.1 hs.f.q.q.r.1) ?_))));rintro _ _ _ hs ⟨Xm,cm,rfl,hcm,hXm⟩;replace hs:=hs.aS hXm;refine lL hs [.v 114 (qP zc 1)] (lP 0 1 ([qS Xm ((bc n (cg n (mA W) b x (t+1)).r).length) cm]) hs (fun _ hs=>ay (lL hs [.v 116 (qP zc 1),.o 117 (qS Xm ((bc n (cg n (mA W) b x (t+1)).r).length) cm) 0 1 1,.v 118 (qP zc 1),.o 119 (qS Xm ((bc n (cg n (mA W) b x (t+1)).r).length) cm) 0 1 1] (ah 120 hs (qU (cg n (mA W) b x (t+1)).r (cg n (mA W) b x (t+1)).r n Xm cm Xm cm 100000 100000 oM kD hB1.r hB1.r _ _ hs.g hs.f.1 hs.f.1 hs.f.q.q.r.2.1) (fun _ _ hs=>lL hs [.m 115 120,.v 121 (qv (dt n (cg n (mA W) b x (t+1)).r (cg n (mA W) b x (t+1)).r)),.v 122 qT] (lA 21 39 ([qF,uV 0,eS,uV 0,eS]) hs (fun b70 _ _ hs=>lP 0 0 (qc (dt n (cg n (mA W) b x (t+1)).r (cg n (mA W) b x (t+1)).r)) hs (fun _ hs=>lL hs [.m 22 122] (ay (lL hs [.o 124 (qv (dt n (cg n (mA W) b x (t+1)).r (cg n (mA W) b x (t+1)).r)) 0 0 5,.o 125 (qv (dt n (cg n (mA W) b x t).r (cg n (mA W) b x t).r)) 4 0 5] (ah 126 hs (k8 (dt n (cg n (mA W) b x (t+1)).r (cg n (mA W) b x (t+1)).r) (dt n (cg n (mA W) b x t).r (cg n (mA W) b x t).r) (hB1.rr.mono oM) (hBt.rr.mono oM) (fun e_=>hgo.1 (Rat.num_eq_zero.1 e_)) _ _ hs.g hs.f.q.q.r.2.1) (fun _ _ hs=>lL hs [.m 123 126,.v 127 (qv ((dt n (cg n (mA W) b x (t+1)).r (cg n (mA W) b x (t+1)).r)/(dt n (cg n (mA W) b x t).r (cg n (mA W) b x t).r))),.v 128 qT] (lA 23 39 ([qF,uV 0,eS,uV 0,eS]) hs (fun zn _ _ hs=>lP 0 0 (qc ((dt n (cg n (mA W) b x (t+1)).r (cg n (mA W) b x (t+1)).r)/(dt n (cg n (mA W) b x t).r (cg n (mA W) b x t).r))) hs (fun _ hs=>lL hs [.m 24 128] (lN (bD [(0,qS A us.length cap),(1,qS D ((bc n b).length) cD),(10,qS (sB za) ((al).length) sac),(11,pB zb),(18,pB zc),(23,pB zn)] ?_)))))))))))))))));refine ab hs [.v 129 (qP zc 1),.o 130 (qS Xm ((bc n (cg n (mA W) b x (t+1)).r).length) cm) 2 1 1,.v 131 (qP zb 2),.o 132 (qS Aw ((bc n (cg n (mA W) b x t).w).length) cw) 6 2 1,.o 133 (qv ((dt n (cg n (mA W) b x (t+1)).r (cg n (mA W) b x (t+1)).r)/(dt n (cg n (mA W) b x t).r (cg n (mA W) b x t).r))) 0 0 5] (lC 134 hs (oC (cg n (mA W) b x (t+1)).r (cg n (mA W) b x t).w n oM Xm cm Aw cw ((dt n (cg n (mA W) b x (t+1)).r (cg n (mA W) b x (t+1)).r)/(dt n (cg n (mA W) b x t).r (cg n (mA W) b x t).r)) 100000 100000 200000 hB1.r hBt.w (hB1.rr.div hBt.rr) oM _ _ hs.g hs.f.1 hs.f.q.2.1 hs.f.q.q.r.2.1) ?_);rintro _ _ _ hs ⟨Xv,cv,rfl,hcv,hXv⟩;replace hs:=hs.aS hXv;refine lL hs [.v 135 (qP zc 2)] (lP 2 2 ([qS Xv ((bc n (cg n (mA W) b x (t+1)).w).length) cv]) hs (fun _ hs=>lN (kQ (lL hs [.m 136 10,.o 137 (.agg #[qS Xn ((bc n (cg n (mA W) b x (t+1)).x).length) cn,qS Xm ((bc n (cg n (mA W) b x (t+1)).r).length) cm,qS Xv ((bc n (cg n (mA W) b x (t+1)).w).length) cv]) 2 0 3] (lR 138 127 1 ([qS Xn ((bc n (cg n (mA W) b x (t+1)).x).length) cn,qS Xm ((bc n (cg n (mA W) b x (t+1)).r).length) cm,qS Xv ((bc n (cg n (mA W) b x (t+1)).w).length) cv]) hs (fun zo _ _ hs=>lY 139 0 127 3 sac (sB za) al wx ((qS Xn ((bc n (cg n (mA W) b x (t+1)).x).length) cn,qS Xm ((bc n (cg n (mA W) b x (t+1)).r).length) cm,qS Xv ((bc n (cg n (mA W) b x (t+1)).w).length) cv):TV) 72 zo (.agg #[sZ,sZ,sZ]) hs hs.f.1 (fun zp zq _ zr hs=>lL hs [.m 10 139] (lD ?_))))))));intro a_ ka;replace hs:=((((hs.tl.tl.tl.tl.tl.tl.tl.tl.tl.add (K:=fun h_=>CTr n (mA W) b x h_ (al++[((qS Xn ((bc n (cg n (mA W) b x (t+1)).x).length) cn,qS Xm ((bc n (cg n (mA W) b x (t+1)).r).length) cm,qS Xv ((bc n (cg n (mA W) b x (t+1)).w).length) cv):TV)])) ((hs.f.q.q.1).snoc (by rw[ht];exact ⟨⟨_,_,rfl,hs.f.q.1⟩,⟨_,_,rfl,hs.f.r.1⟩,⟨_,_,rfl,hs.f.2.1⟩⟩))).aS hs.f.2.1).aS hs.f.r.1).aS hs.f.q.1);replace hs:=hs.drop 7 0;refine ⟨_,_,?_,⟨t+1,zp,zq,al++[((qS Xn ((bc n (cg n (mA W) b x (t+1)).x).length) cn,qS Xm ((bc n (cg n (mA W) b x (t+1)).r).length) cm,qS Xv ((bc n (cg n (mA W) b x (t+1)).w).length) cv):TV)],Xn,cn,Xm,cm,Xv,cv,zr,rfl,rfl,hs.to _ _,(by rw[List.length_append,ht];rfl),(by rw[bL,if_neg oM,if_pos oM]),hg1⟩,ka.to _ kR⟩
   omega
  have zi:=oT ze;exact lB 89 ze (ar (ab hs [.v 6 (sZ),.v 7 (iV 9)] (ae hs [] (.tuple #[sZ,iV 9]) (⟨t,9,none,0,[],⟨hg,.inr ⟨rfl,Dr oM,GM oM⟩⟩,rfl,SlO.nil,CTr.nil,by rw[if_neg kD];rfl⟩))))
 have zg:=eq_of_beq zd;refine lB 78 zd (ar (aD ?_));obtain ⟨_,hs,hc100⟩:=hs.pubr 0 (A:=sB za) (c:=sac) (l:=al) (f:=wx) (ty:=127) (sz:=3) vY (fun _=>rfl);exact lL hs [.m 79 10,.m 6 79,.v 7 (iV 0)] (ae hs [] (.tuple #[qS (sB za) ((al).length) sac,iV 0]) (⟨t,0,_,_,al,⟨hg,.inl ⟨rfl,I1 oM⟩⟩,rfl,hs.f.1,hs.f.q.1,by rw[if_pos rfl];exact ht⟩))
theorem D6 (A:Option Addr)(cap:Nat)(us:List Value)(W:List (List Rat))(hl:W.length≤1000)(hls:∀ i,i<W.length→(W.getD i []).length≤1000)(D:Option Addr)(cD:Nat)(bl:List Rat)(X:Option Addr)(cX:Nat)(xl:List Rat)(hbl:bl.length≤1000)(hxl:xl.length≤1000)(hq:∀ i j,LQ 100000000 ((W.getD i []).getD j 0))(hE:¬SymP W∨bl.length≠W.length∨xl.length≠W.length)(w:World)(h:Hp)(g:G w h)(hA:Sv A us h)(hU:QVs h us W)(hD:Sq D bl h)(hX:Sq X xl h)(tb:Tab h):CV 67 #[.slice A us.length cap,.slice D bl.length cD,.slice X xl.length cX] w h (.tuple #[sZ,iV (Fz W bl xl)]):=by
 have hs:=((((((sS g).aS hA).aQ hU).aS hD).aS hX).aB tb);have hlu:=(hs.f.r.2.1).len;refine go Tryz.func67 [(0,qS A us.length cap),(1,qS D bl.length cD),(2,qS X xl.length cX)] rfl (ab hs [.v 6 (sZ),.v 7 (iV 0)] (af (ab hs [.m 25 0] (ah 26 hs (oo A cap us W hl hls _ _ hs.g hs.f.q.1 hs.f.r.2.1) (fun w1 h2 hs=>?_)))));cases hb3:(Df W)
 ·
  refine lL hs [.v 27 qT,.m 28 27] (lG 29 ?_);refine lG 30 (lG 31 (lG 32 (lG 33 (lL hs [.v 34 qT,.m 35 34] (lG 36 ?_)))));exact lG 37 (lG 38 (lG 39 (lG 40 (lL hs [.v 41 qT] (ar (ab hs [.v 6 (sZ),.v 7 (iV 5)] (ae hs [] (.tuple #[sZ,iV 5]) (by rw[vn (by first|exact .inl (n4 aM)|exact .inr oM)]))))))))
 refine lL hs [.v 27 qF,.m 28 27,.m 29 1,.v 30 (nV bl.length),.m 31 0,.v 32 (nV us.length)] ?_;cases hb4:((bl.length:Int) != (us.length:Int))
 ·
  have phb4:=aJ hb4;refine lB 33 hb4 (lL hs [.v 34 qF,.m 35 34,.m 36 2,.v 37 (nV xl.length),.m 38 0,.v 39 (nV us.length)] ?_);cases hb5:((xl.length:Int) != (us.length:Int))
  ·
   have phb5:=aJ hb5;refine lB 40 hb5 (lL hs [.v 41 qF] (am (cK (cQ (ab hs [.m 42 0] (ah 43 hs (Hm A cap us W hl hls hq _ _ hs.g hs.f.q.1 hs.f.r.2.1) (fun w6 h7 hs=>?_)))))));have hb8:(Cj W)=false:=xc (fun h_=>by rcases hE with e_|e_|e_;exact e_ h_;all_goals omega);rw[hb8];exact lL hs [.v 44 qT] (ar (ab hs [.v 6 (sZ),.v 7 (iV 10)] (ae hs [] (.tuple #[sZ,iV 10]) (by rw[FC ⟨Dw aM,by omega,by omega⟩]))))
  have phb5:=aU hb5;exact lB 40 hb5 (lL hs [.v 41 qT] (ar (ab hs [.v 6 (sZ),.v 7 (iV 5)] (ae hs [] (.tuple #[sZ,iV 5]) (by rw[vn (by first|exact .inl (n4 aM)|exact .inr oM)])))))
 have phb4:=aU hb4;refine lB 33 hb4 (lL hs [.v 34 qT,.m 35 34] (lG 36 ?_));exact lG 37 (lG 38 (lG 39 (lG 40 (lL hs [.v 41 qT] (ar (ab hs [.v 6 (sZ),.v 7 (iV 5)] (ae hs [] (.tuple #[sZ,iV 5]) (by rw[vn (by first|exact .inl (n4 aM)|exact .inr oM)]))))))))
def Tw (D E:Nat)(q:Rat):Prop:=∃ N:Int,N.natAbs≤E∧q*((D:Nat):Rat)=(N:Rat)
theorem Tw.zero {D E:Nat}:Tw D E 0:=⟨0,Nat.zero_le _,by rw[Rat.zero_mul];rfl⟩
structure Dfn (n:Nat) (W:List (List Rat)):Prop where
  len:W.length=n
  wd:∀ i,(W.getD i []).length≤n
  e:∀ i j,Tw 144 262144 ((W.getD i []).getD j 0)
theorem Dfn.md {n m:Nat}{W:List (List Rat)}(h:Dfn n W):MD m 18 (mA W):=⟨144,by decide,by decide,fun i _ j _=>by
 obtain ⟨N,a,b⟩:=h.e i j;exact ⟨N,a,b⟩⟩
theorem Dfn.lq {n:Nat}{W:List (List Rat)}(h:Dfn n W)(i j:Nat):LQ 3 ((W.getD i []).getD j 0):=by
 obtain ⟨N,a,b⟩:=h.e i j;exact (SD.lq (e:=18) (k:=1) ⟨N,144,by decide,by decide,a,b⟩ kD).mono kD
theorem LQ.up8 {q:Rat}(h:LQ 1 q):LQ 100000000 q:=h.mono kD
theorem Ie (A:Option Addr)(c:Nat)(zs:List Int)(hl:zs.length≤1000)(hz:vO zs)(w:World)(h:Hp)(g:G w h)(hA:Si A zs h):CR 68 #[.slice A zs.length c] w h (fun v h1=>∃ A c,v=.slice A (zs.map (fun z:Int=>(z:Rat))).length c∧(zs.map (fun z:Int=>(z:Rat))).length≤c∧Sq A (zs.map (fun z:Int=>(z:Rat))) h1):=by
 have hs:=((sS g).aS hA);refine go Tryz.func68 [(0,qS A zs.length c)] rfl (ab hs [.v 2 (sZ)] (ay (lL hs [.v 3 (sZ)] (af (ab hs [.v 4 (iV 0)] (bd ?_))))));replace hs:=hs.nil 39 5;refine bD [(0,qS A zs.length c),(2,sZ),(4,iV 0),(3,sZ)] ?_;refine CG.loop (fun μ_ Γ w_=>∃ (k:Nat) (sA:Option Addr) (sc:Nat) (ql:List Rat) (h_:Hp),μ_=zs.length-k∧Γ=[(0,qS A zs.length c),(2,sZ),(4,nV k),(3,qS sA ((ql).length) sc)]∧SS w h w_ h_ [] [⟨39,5,sA,sc,(ql).length,(ql).flatMap qc⟩] [Si A zs]∧k≤zs.length∧ql=(zs.take k).map (fun z:Int=>(z:Rat))) _ ⟨0,none,0,[],h,rfl,rfl,hs.to _ _,Nat.zero_le _,rfl⟩ ?_;rintro _ _ w1 ⟨k,sA,sc,ql,h2,hm3,rfl,hs,hk,hql⟩;have htk:ql.length=k:=by rw[hql];simp;omega
 refine cQ (ab hs [.m 5 4,.m 6 0,.v 7 (nV zs.length)] ?_);cases hb4:(decide ((k:Int)<(zs.length:Int)))
 ·
  have phb4:=oF hb4;refine lB 8 hb4 (am (CG.exit ?_))
  show CG _ _ _ _ _ _ _ _
  refine ab hs [.m 19 3,.m 2 19] (lN (kX ?_));have hkq:ql=(zs.map (fun z:Int=>(z:Rat))):=by rw[hql,List.take_of_length_le oM]
  obtain ⟨h5,hs,hc6⟩:=hs.pubr 0 (A:=sA) (c:=sc) (l:=ql) (f:=qc) (ty:=39) (sz:=5) 0 (fun _=>rfl);exact hs.ret [] (qS sA ((ql).length) sc) (by rw[←hkq];exact ⟨_,_,rfl,hc6,hs.f.1⟩)
 have phb4:=oT hb4;refine lB 8 hb4 (ar (cK (cQ (kZ (kQ (lL hs [.m 11 3,.m 12 0,.m 13 4] (lX 14 A zs.length c 1 (k:Nat) k ((hs.f.1).ok oM) ?_)))))));refine lH 15 (iV (zs.getD k 0)) hs ((hs.f.1).el k oM) (ah 16 hs (pZ (zs.getD k 0) (hz k).1 (hz k).2 _ _ hs.g) (fun w8 h9 hs=>lR 17 39 1 (qc ((zs.getD k 0:Int):Rat)) hs (fun za _ _ hs=>lY 18 0 39 5 sc sA ql qc ((zs.getD k 0:Int):Rat) 56 za (.agg #[qF,uV 0,eS,uV 0,eS]) hs hs.f.1 (fun zb zc _ zd hs=>lL hs [.m 3 18] (lN (kQ (lL hs [.m 9 4] (bw 10 ((k:Nat)+1) (k+1) ?_))))))));refine lL hs [.m 4 10] (lD ?_);intro a_ ka;replace hs:=hs.tl;refine ⟨_,_,?_,⟨k+1,zb,zc,ql++[((zs.getD k 0:Int):Rat)],zd,rfl,rfl,hs.to _ _,oM,(by rw[jm 0 oM,List.map_append,hql];rfl)⟩,ka.to _ kR⟩
 omega
def CjR (W:List (List Rat))(bl xl:List Rat)(t:Nat)(e:Int):Prop:=(SymP W∧bl.length=W.length∧xl.length=W.length)∧CjEnd W.length (mA W) (fun i=>bl.getD i 0) (fun i=>xl.getD i 0) t e∨¬(SymP W∧bl.length=W.length∧xl.length=W.length)∧t=0∧e=Fz W bl xl
theorem CjR.uniq {W:List (List Rat)}{bl xl:List Rat}{t t':Nat}{e e':Int}(h:CjR W bl xl t e)(h':CjR W bl xl t' e'):t=t'∧e=e':=by
 rcases h with ⟨a,b⟩|⟨a,b,c⟩<;>rcases h' with ⟨a',b'⟩|⟨a',b',c'⟩
 ·exact b.uniq b'
 ·exact absurd a a'
 ·exact absurd a' a
 ·exact ⟨by rw[b,b'],by rw[c,c']⟩
theorem FD (W:List (List Rat))(bl xl:List Rat):Fz W bl xl≠0:=by unfold Fz;split<;>decide
structure Rwq (l:List Rat):Prop where
  len:l.length≤5
  cd:∀ n,CD n 8 (fun i=>l.getD i 0)
theorem Rwq.lq {l:List Rat}(h:Rwq l)(i:Nat):LQ 1 (l.getD i 0):=((h.cd (i+1)).at_ (Nat.lt_succ_self i)).lq kD
theorem IU {n:Nat}{W:List (List Rat)}(hD:Dfn n W)(hn:n≤4){bl xl:List Rat}(hb:Rwq bl)(hx:Rwq xl){t:Nat}(ht:t≤W.length):CgB W.length (mA W) (fun i=>bl.getD i 0) (fun i=>xl.getD i 0) t:=Ip (by have:=hD.len;omega) hD.md (hb.cd _) (hx.cd _) (by have:=hD.len;omega)
theorem EL (A:Option Addr)(cap:Nat)(us:List Value)(W:List (List Rat))(n:Nat)(hD:Dfn n W)(hn:n≤4)(D:Option Addr)(cD:Nat)(bl:List Rat)(X:Option Addr)(cX:Nat)(xl:List Rat)(hb:Rwq bl)(hx:Rwq xl)(w:World)(h:Hp)(g:G w h)(hA:Sv A us h)(hU:QVs h us W)(hDb:Sq D bl h)(hX:Sq X xl h)(tb:Tab h):CR 67 #[.slice A us.length cap,.slice D bl.length cD,.slice X xl.length cX] w h (fun v h1=>∃ (t:Nat) (e:Int) (A:Option Addr) (c:Nat) (al:List TV),CjR W bl xl t e∧v=.tuple #[.slice A al.length c,iV e]∧SlO 3 wx vY h1 A al∧CTr W.length (mA W) (fun i=>bl.getD i 0) (fun i=>xl.getD i 0) h1 al∧al.length=(if e=0 then t+1 else 0)):=by
  have hlW:=hD.len;have hl:W.length≤1000:=by omega
  have hls:∀ i,i<W.length→(W.getD i []).length≤1000:=fun i _=>by have:=hD.wd i;omega
  have hbl:=hb.len;have hxl:=hx.len
  by_cases hc:SymP W∧bl.length=W.length∧xl.length=W.length
  · have e1:bl=bc W.length (fun i=>bl.getD i 0):=q4 hc.2.1 (fun _ _=>rfl)
    have e2:xl=bc W.length (fun i=>xl.getD i 0):=q4 hc.2.2 (fun _ _=>rfl);rw[e1] at hDb
    rw[e2] at hX
    have x:=Ej A cap us W hl hls (fun i=>bl.getD i 0) (fun i=>xl.getD i 0) W.length oM D cD X cX hc.1 rfl (fun i j=>hD.lq i j) (fun i _=>(hb.lq i).mono kD) (fun i _=>(hx.lq i).mono kD) (fun t ht=>IU hD hn hb hx ht) w h g hA hU hDb hX tb;rw[←e1,←e2] at x
    refine x.mono ?_;rintro _ w' ⟨v,h',rfl,u,t,e,A',c',al,k1,k2,k3,k4,k5⟩;exact ⟨v,h',rfl,u,t,e,A',c',al,.inl ⟨hc,k1⟩,k2,k3,k4,k5⟩
  · have x:=D6 A cap us W hl hls D cD bl X cX xl oM oM (fun i j=>(hD.lq i j).mono kD) (by
      by_cases a:SymP W
      · by_cases b:bl.length=W.length
        · exact .inr (.inr (fun c=>hc ⟨a,b,c⟩))
        · exact .inr (.inl b)
      · exact .inl a) w h g hA hU hDb hX tb
    refine x.mono ?_;rintro _ w' ⟨v,h',rfl,u,k⟩;exact ⟨v,h',rfl,u,0,_,none,0,[],.inr ⟨hc,rfl,rfl⟩,k,SlO.nil,CTr.nil,by rw[if_neg (FD _ _ _)];rfl⟩
def knW:List (List Rat):=[[((2:Int):Rat),((0:Int):Rat)],[((0:Int):Rat),((1:Int):Rat)]]
def knb:List Rat:=[((2:Int):Rat),((1:Int):Rat)]
def knx:List Rat:=[((0:Int):Rat),((0:Int):Rat)]
theorem Gd (i j:Nat):Tw 144 262144 ((knW.getD i []).getD j 0):=by
 have h0:∀ z:Int,z.natAbs≤2→Tw 144 262144 ((z:Int):Rat):=fun z hz=>⟨z*144,by rw[Int.natAbs_mul];exact Nat.le_trans (Nat.mul_le_mul_right _ hz) kD,by rw[Rat.intCast_mul];rfl⟩
 match i,j with
 | 0,0=>exact h0 2 kD
 | 0,1=>exact h0 0 kD
 | 0,j+2=>exact Tw.zero
 | 1,0=>exact h0 0 kD
 | 1,1=>exact h0 1 kD
 | 1,j+2=>exact Tw.zero
 | i+2,j=>exact Tw.zero
theorem Ff:Dfn 2 knW:=⟨rfl,fun i=>by
 match i with
 | 0=>exact Nat.le_refl _
 | 1=>exact Nat.le_refl _
 | i+2=>exact Nat.zero_le _,Gd⟩
theorem Dq (n:Nat){a b:Int}(ha:a.natAbs≤2)(hb:b.natAbs≤2):CD n 8 (fun i=>([(a:Rat),(b:Rat)]:List Rat).getD i 0):=⟨1,by decide,by decide,fun i _=>by
 match i with
 | 0=>exact ⟨a,Nat.le_trans ha kD,by show (a:Rat)*((1:Nat):Rat)=_;rw[show ((1:Nat):Rat)=1 from rfl,Rat.mul_one]⟩
 | 1=>exact ⟨b,Nat.le_trans hb kD,by show (b:Rat)*((1:Nat):Rat)=_;rw[show ((1:Nat):Rat)=1 from rfl,Rat.mul_one]⟩
 | i+2=>exact ⟨0,Nat.zero_le _,by show (0:Rat)*_=_;rw[Rat.zero_mul];rfl⟩⟩
theorem Fl:SymP knW:=⟨⟨⟨by decide,by decide,fun i hi=>by
  match i,hi with
  | 0,_=>rfl
  | 1,_=>rfl
  | i+2,hi=>exact absurd hi (by show ¬i+2<2;omega)⟩,rfl⟩,fun i hi k hk=>by
  match i,hi with
  | 0,_=>exact absurd hk (Nat.not_lt_zero _)
  | 1,_ =>
    obtain rfl:k=0:=by omega
    rfl
  | i+2,hi=>exact absurd hi (by show ¬i+2<2;omega)⟩
abbrev sl (t:Nat):Cst:=cg 2 (mA knW) (fun i=>knb.getD i 0) (fun i=>knx.getD i 0) t
theorem IE:dt 2 (sl 0).r (sl 0).r≠0∧0<(dt 2 (sl 0).w (mv 2 (mA knW) (sl 0).w)).num:=by decide +kernel
theorem IA:dt 2 (sl 1).r (sl 1).r≠0∧0<(dt 2 (sl 1).w (mv 2 (mA knW) (sl 1).w)).num:=by decide +kernel
theorem D4:dt 2 (sl 2).r (sl 2).r=0∧(sl 2).x 0=1∧(sl 2).x 1=1:=by decide +kernel
theorem DJ:CjR knW knb knx 2 0:=.inl ⟨⟨Fl,rfl,rfl⟩,fun i hi=>by
 rcases (by omega:i=0∨i=1) with rfl|rfl
 ·exact IE
 ·exact IA,.inl ⟨rfl,D4.1⟩⟩
theorem Cp {h:Hp}{Q1 Q2:Option Addr}{c1 c2:Nat}(h1:SlO 5 qc 0 h Q1 (([2,0]:List Int).map (fun z:Int=>(z:Rat))))(h2:SlO 5 qc 0 h Q2 (([0,1]:List Int).map (fun z:Int=>(z:Rat))))(hc1:(([2,0]:List Int).map (fun z:Int=>(z:Rat))).length≤c1)(hc2:(([0,1]:List Int).map (fun z:Int=>(z:Rat))).length≤c2):∀ i,i<knW.length→∃ A cap,([.slice Q1 2 c1,.slice Q2 2 c2]:List Value).getD i undef=.slice A (knW.getD i []).length cap∧(knW.getD i []).length≤cap∧SlO 5 qc 0 h A (knW.getD i []):=fun i hi=>by
 match i,hi with
 | 0,_=>exact ⟨Q1,c1,rfl,hc1,h1⟩
 | 1,_=>exact ⟨Q2,c2,rfl,hc2,h2⟩
 | i+2,hi=>exact absurd hi (by show ¬i+2<2;omega)
theorem FN (A:Option Addr)(cap:Nat)(us:List Value)(D:Option Addr)(cD:Nat)(X:Option Addr)(cX:Nat)(w:World)(h:Hp)(g:G w h)(hA:Sv A us h)(hU:QVs h us knW)(hDb:Sq D knb h)(hX:Sq X knx h)(tb:Tab h):CR 67 #[.slice A 2 cap,.slice D 2 cD,.slice X 2 cX] w h (fun v h1=>∃ (A:Option Addr) (c:Nat) (al:List TV) (B:Option Addr) (d:Nat),v=.tuple #[.slice A 3 c,iV 0]∧al.length=3∧(al.getD 2 vY).1=.slice B 2 d∧SlO 3 wx vY h1 A al∧Sq B [1,1] h1):=by
 have x:=EL A cap us knW 2 Ff kD D cD knb X cX knx ⟨by decide,fun n=>Dq n kD kD⟩ ⟨by decide,fun n=>Dq n kD kD⟩ w h g hA hU hDb hX tb;rw[show us.length=2 from hU.len] at x
 refine x.mono ?_;rintro _ w' ⟨v,h',rfl,u,t,e,A',c',al,k1,k2,k3,k4,k5⟩;obtain ⟨rfl,rfl⟩:=k1.uniq DJ;rw[if_pos rfl] at k5
 obtain ⟨⟨B,d,e1,s1⟩,_,_⟩:=k4.at_ 2 oM;refine ⟨v,h',rfl,u,A',c',al,B,d,by rw[k2,k5],k5,?_,k3,?_⟩
 ·rw[e1,bU];rfl
 ·have e2:bc knW.length (cg knW.length (mA knW) (fun i=>knb.getD i 0) (fun i=>knx.getD i 0) 2).x=[1,1]:=by
   show [(sl 2).x 0,(sl 2).x 1]=[1,1]
   rw[D4.2.1,D4.2.2]
  rw[e2] at s1
  exact s1
theorem uU  (w:World)(h:Hp)(g:G w h)(tb:Tab h):CV 20 #[] w h (.bool true):=by
 have hs:=((sS g).aB tb);refine go Tryz.func20 [] rfl (ab hs [.v 0 qF] (ay (lR 4 2 2 ([iV 2,iV 0]) hs (fun b1 w2 h3 hs=>?_))));replace hs:=hs.aS (SlO.of_flat (sz:=1) (f:=ff) (d:=0) (b:=b1) (o:=0) (l:=([2,0]:List Int)) (fun _=>rfl) hs.f.1);refine lC 5 hs (Ie (sB b1) 2 ([2,0]:List Int) kD (by intro k_;rcases k_ with _|_|_<;>simp[List.getD]) _ _ hs.g hs.f.1) ?_;rintro _ w6 h7 hs ⟨Q1,cQ1,rfl,hcQ1,hQ1⟩;replace hs:=hs.aS hQ1;refine lR 6 2 2 ([iV 0,iV 1]) hs (fun b8 w9 _ hs=>?_);replace hs:=hs.aS (SlO.of_flat (sz:=1) (f:=ff) (d:=0) (b:=b8) (o:=0) (l:=([0,1]:List Int)) (fun _=>rfl) hs.f.1);refine lC 7 hs (Ie (sB b8) 2 ([0,1]:List Int) kD (by intro k_;rcases k_ with _|_|_<;>simp[List.getD]) _ _ hs.g hs.f.1) ?_;rintro _ _ _ hs ⟨Q2,cQ2,rfl,hcQ2,hQ2⟩;replace hs:=hs.aS hQ2;refine lR 8 51 2 ([qS Q1 2 cQ1,qS Q2 2 cQ2]) hs (fun za _ _ hs=>?_);replace hs:=hs.aS (SlO.of_flat (sz:=1) (f:=vc) (d:=undef) (b:=za) (o:=0) (l:=([qS Q1 2 cQ1,qS Q2 2 cQ2]:List Value)) (fun _=>rfl) hs.f.1);refine lR 9 2 2 ([iV 2,iV 1]) hs (fun zb _ _ hs=>?_);replace hs:=hs.aS (SlO.of_flat (sz:=1) (f:=ff) (d:=0) (b:=zb) (o:=0) (l:=([2,1]:List Int)) (fun _=>rfl) hs.f.1);refine lC 10 hs (Ie (sB zb) 2 ([2,1]:List Int) kD (by intro k_;rcases k_ with _|_|_<;>simp[List.getD]) _ _ hs.g hs.f.1) ?_;rintro _ _ _ hs ⟨Q3,cQ3,rfl,hcQ3,hQ3⟩;replace hs:=hs.aS hQ3;refine lR 11 2 2 ([iV 0,iV 0]) hs (fun zc _ _ hs=>?_);replace hs:=hs.aS (SlO.of_flat (sz:=1) (f:=ff) (d:=0) (b:=zc) (o:=0) (l:=([0,0]:List Int)) (fun _=>rfl) hs.f.1);refine lC 12 hs (Ie (sB zc) 2 ([0,0]:List Int) kD (by intro k_;rcases k_ with _|_|_<;>simp[List.getD]) _ _ hs.g hs.f.1) ?_;rintro _ _ _ hs ⟨Q4,cQ4,rfl,hcQ4,hQ4⟩;replace hs:=hs.aS hQ4;refine lC 13 hs (FN (sB za) 2 _ Q3 cQ3 Q4 cQ4 _ _ hs.g hs.f.q.r.1 ⟨rfl,Cp hs.f.q.q.r.2.1 hs.f.q.q.1 hcQ1 hcQ2⟩ hs.f.r.2.1 hs.f.1 hs.f.q.q.q.r.1) ?_;rintro _ _ _ hs ⟨Ak,ck,alk,Bk,dk,rfl,hl3,ek,hAk,hBk⟩;replace hs:=hs.aP hAk hBk;have hl2_:([1,1]:List Rat).length=2:=rfl;refine lL hs [.m 3 13,.v 14 (qS Ak 3 ck),.v 15 (iV 0),.m 1 14,.m 2 15] (ay (lL hs [.m 16 2,.v 17 qT,.m 18 17,.m 19 1,.v 20 (iV 3),.v 21 qT,.v 22 qT,.m 23 22,.m 24 1] (lX 25 Ak 3 ck 3 2 2 ((hs.f.2.1).ok oM) ?_)));refine lL hs [.v 26 (.pointer (some ⟨(aB Ak),aO Ak+2*3,none⟩))] (Ae 27 ((alk.getD 2 vY).1) hs (((hs.f.2.1).el 2 oM).part 0 1) ek ?_);refine lL hs [.v 28 (iV 2),.v 29 qT,.v 30 qT,.m 31 30,.m 32 1] (lX 33 Ak 3 ck 3 2 2 ((hs.f.2.1).ok oM) ?_);refine lL hs [.v 34 (.pointer (some ⟨(aB Ak),aO Ak+2*3,none⟩))] (Ae 35 ((alk.getD 2 vY).1) hs (((hs.f.2.1).el 2 oM).part 0 1) ek ?_);refine lX 36 Bk 2 dk 5 0 0 ((hs.f.1).ok oM) (lH 37 (qv 1) hs ((hs.f.1).el 0 kD) (ah 38 hs (wJ 1 1 1 (LQ.lit (z:=1) kD).up8 kD kD kD kD kD _ _ hs.g) (fun _ _ hs=>?_)));have zd:(jr 1 (mkR 1 1))=true:=(decide_eq_true (by decide +kernel));rw[zd];refine lL hs [.v 39 qT,.m 40 39,.m 41 1] (lX 42 Ak 3 ck 3 2 2 ((hs.f.2.1).ok oM) ?_);refine lL hs [.v 43 (.pointer (some ⟨(aB Ak),aO Ak+2*3,none⟩))] (Ae 44 ((alk.getD 2 vY).1) hs (((hs.f.2.1).el 2 oM).part 0 1) ek ?_);refine lX 45 Bk 2 dk 5 1 1 ((hs.f.1).ok oM) (lH 46 (qv 1) hs ((hs.f.1).el 1 kD) (ah 47 hs (wJ 1 1 1 (LQ.lit (z:=1) kD).up8 kD kD kD kD kD _ _ hs.g) (fun _ _ hs=>?_)));have ze:(jr 1 (mkR 1 1))=true:=(decide_eq_true (by decide +kernel));rw[ze];refine lL hs [.v 48 qT,.m 0 48] (lN (bD [(0,qT)] ?_));exact kX (hs.ret [] qT rfl)
def fb (ra ke:Rat)(sp ba bi:Int):Prop:=0<ra.num.sign∧cW ra ((16:Int):Rat)≤0∧0≤ke.num.sign∧cW ke ((1:Int):Rat)<0∧0≤sp∧sp≤200∧0≤ba∧ba≤300∧0≤bi∧bi≤256
instance (ra ke:Rat) (sp ba bi:Int):Decidable (fb ra ke sp ba bi):=by unfold fb;infer_instance
def D9 (ra ke:Rat)(sp ba bi:Int)(sd:Nat):List Value:=qc ra++(qc ke++[.int .i64 sp,.int .i64 ba,.int .i64 bi,.int .u64 (sd:Nat)])
structure PtOk (l:List Stp) (wt sg:Nat→Nat) (at_:List Rat):Prop where
  hV:∀ k,k≤l.length→∀ j,LQ 1000000 ((aZ l at_ k).getD j 0)
  hSg:∀ k,k<l.length→(l.getD k ac).op≠2→LQ (sg k) (nO (l.getD k ac).op (l.getD k ac).n ((aZ l at_ l.length).getD (l.getD k ac).a.toNat 0) ((aZ l at_ l.length).getD (l.getD k ac).b.toNat 0))∧LQ (sg k) (oL (l.getD k ac).op ((aZ l at_ l.length).getD (l.getD k ac).a.toNat 0) ((aZ l at_ l.length).getD (l.getD k ac).b.toNat 0))
theorem BL {K:Nat}{e:Int}{GL:List Rat}(hz:e≠0→GL=[])(hp:Hp)(v:Value)(h1 h2:Hp)(x:∃ Ag cg,v=.tuple #[.slice Ag GL.length cg,.int .i64 e]∧GL.length≤cg∧SlO 5 qc 0 h1 Ag GL∧(e=0→hp.size≤aB Ag))(_:K≤hp.size)(u:∀ c,hp.size≤c→h2[c]?=h1[c]?):∃ Ag cg,v=.tuple #[.slice Ag GL.length cg,.int .i64 e]∧GL.length≤cg∧SlO 5 qc 0 h2 Ag GL:=by
 obtain ⟨Ag,cg,rfl,hc,hA,hn⟩:=x;refine ⟨Ag,cg,rfl,hc,?_⟩
 by_cases h0:e=0
 ·exact hA.newer (hn h0) u
 ·obtain rfl:=hz h0
  exact ⟨fun h=>absurd h (Nat.lt_irrefl 0),fun k hk=>absurd hk (Nat.not_lt_zero k)⟩
theorem Di (ra ke:Rat)(sp ba bi:Int)(sd:Nat)(hra:LQ 100000000 ra)(hke:LQ 100000000 ke)(w:World)(h:Hp)(g:G w h):CV 38 #[uX ra ke sp ba bi sd] w h (.bool (decide (fb ra ke sp ba bi))):=by
 have hs:=sS g;refine go Tryz.func38 [(0,uX ra ke sp ba bi sd)] rfl (aD (lA 1 59 (uC ra ke sp ba bi sd) hs (fun b1 w2 h3 hs=>lL hs [.v 2 qF] (af (cR 54 [] mixed hs aq ?_)))));refine eV 0 3 (pB b1) (eO 1 4 [(0,0,5)] (qv ra) hs (ak 2 5 hs (fun _ _ hs=>eL ra (LQ.mono hra oM) _ _ hs.g) (fun w4 h5 hs=>?_)));cases hb6:(decide ((0:Int)<(ra.num.sign:Int)))
 ·
  have phb6:=oF hb6;refine eB 3 6 hb6 (eV 4 7 qF (eG 5 8 (eG 6 9 (eG 7 10 (eG 8 11 (eG 9 12 (eV 10 13 qF (eV 11 14 qF (eG 12 15 (eG 13 16 (eG 14 17 (eG 15 18 (eV 16 19 qF (eV 17 20 qF (eG 18 21 (eG 19 22 (eG 20 23 (eG 21 24 (eG 22 25 (eV 23 26 qF (eV 24 27 qF (eG 25 28 (eG 26 29 (eG 27 30 (eV 28 31 qF (eV 29 32 qF (eG 30 33 (eG 31 34 (eG 32 35 (eV 33 36 qF (eV 34 37 qF (eG 35 38 (eG 36 39 (eG 37 40 (eV 38 41 qF (eV 39 42 qF (eG 40 43 (eG 41 44 (eG 42 45 (eV 43 46 qF (eV 44 47 qF (eG 45 48 (eG 46 49 (eG 47 50 (eV 48 51 qF (eV 49 52 qF (eG 50 53 (eG 51 54 (eG 52 55 (eV 53 56 qF (bF hs (fun w7 h8 hs=>tV 54 2 qF (tN (bD [(2,qF)] ?_))))))))))))))))))))))))))))))))))))))))))))))))))))));exact kX (hs.ret [] qF (congrArg Value.bool (decide_eq_false (by unfold fb;omega)).symm))
 have phb6:=oT hb6;refine eB 3 6 hb6 (eV 4 7 qT (eV 5 8 (pB b1) (eO 6 9 [(0,0,5)] (qv ra) hs (ak 7 10 hs (fun _ _ hs=>pZ 16 oM oM _ _ hs.g) (fun w9 _ hs=>ak 8 11 hs (fun _ _ hs=>lM ra ((16:Int):Rat) (LQ.mono hra oM) (LQ.mono (LQ.lit (z:=16) kD) oM) _ _ hs.g) (fun _ _ hs=>?_))))));cases za:(decide ((cW ra ((16:Int):Rat):Int)≤(0:Int)))
 ·
  have zk:=oF za;refine eB 9 12 za (eV 10 13 qF (eV 11 14 qF (eG 12 15 (eG 13 16 (eG 14 17 (eG 15 18 (eV 16 19 qF (eV 17 20 qF (eG 18 21 (eG 19 22 (eG 20 23 (eG 21 24 (eG 22 25 (eV 23 26 qF (eV 24 27 qF (eG 25 28 (eG 26 29 (eG 27 30 (eV 28 31 qF (eV 29 32 qF (eG 30 33 (eG 31 34 (eG 32 35 (eV 33 36 qF (eV 34 37 qF (eG 35 38 (eG 36 39 (eG 37 40 (eV 38 41 qF (eV 39 42 qF (eG 40 43 (eG 41 44 (eG 42 45 (eV 43 46 qF (eV 44 47 qF (eG 45 48 (eG 46 49 (eG 47 50 (eV 48 51 qF (eV 49 52 qF (eG 50 53 (eG 51 54 (eG 52 55 (eV 53 56 qF (bF hs (fun _ _ hs=>tV 54 2 qF (tN (bD [(2,qF)] ?_))))))))))))))))))))))))))))))))))))))))))))))));exact kX (hs.ret [] qF (congrArg Value.bool (decide_eq_false (by unfold fb;omega)).symm))
 have zk:=oT za;refine eB 9 12 za (eV 10 13 qT (eV 11 14 qT (eV 12 15 (qP b1 5) (eO 13 16 [(0,5,5)] (qv ke) hs (ak 14 17 hs (fun _ _ hs=>eL ke (LQ.mono hke oM) _ _ hs.g) (fun _ _ hs=>?_))))));cases zb:(decide ((0:Int)≤(ke.num.sign:Int)))
 ·
  have zl:=oF zb;refine eB 15 18 zb (eV 16 19 qF (eV 17 20 qF (eG 18 21 (eG 19 22 (eG 20 23 (eG 21 24 (eG 22 25 (eV 23 26 qF (eV 24 27 qF (eG 25 28 (eG 26 29 (eG 27 30 (eV 28 31 qF (eV 29 32 qF (eG 30 33 (eG 31 34 (eG 32 35 (eV 33 36 qF (eV 34 37 qF (eG 35 38 (eG 36 39 (eG 37 40 (eV 38 41 qF (eV 39 42 qF (eG 40 43 (eG 41 44 (eG 42 45 (eV 43 46 qF (eV 44 47 qF (eG 45 48 (eG 46 49 (eG 47 50 (eV 48 51 qF (eV 49 52 qF (eG 50 53 (eG 51 54 (eG 52 55 (eV 53 56 qF (bF hs (fun _ _ hs=>tV 54 2 qF (tN (bD [(2,qF)] ?_))))))))))))))))))))))))))))))))))))))))));exact kX (hs.ret [] qF (congrArg Value.bool (decide_eq_false (by unfold fb;omega)).symm))
 have zl:=oT zb;refine eB 15 18 zb (eV 16 19 qT (eV 17 20 qT (eV 18 21 (qP b1 5) (eO 19 22 [(0,5,5)] (qv ke) hs (ak 20 23 hs (fun _ _ hs=>pZ 1 oM oM _ _ hs.g) (fun _ _ hs=>ak 21 24 hs (fun _ _ hs=>lM ke ((1:Int):Rat) (LQ.mono hke oM) (LQ.mono (LQ.lit (z:=1) kD) oM) _ _ hs.g) (fun _ _ hs=>?_)))))));cases zc:(decide ((cW ke ((1:Int):Rat):Int)<(0:Int)))
 ·
  have zm:=oF zc;refine eB 22 25 zc (eV 23 26 qF (eV 24 27 qF (eG 25 28 (eG 26 29 (eG 27 30 (eV 28 31 qF (eV 29 32 qF (eG 30 33 (eG 31 34 (eG 32 35 (eV 33 36 qF (eV 34 37 qF (eG 35 38 (eG 36 39 (eG 37 40 (eV 38 41 qF (eV 39 42 qF (eG 40 43 (eG 41 44 (eG 42 45 (eV 43 46 qF (eV 44 47 qF (eG 45 48 (eG 46 49 (eG 47 50 (eV 48 51 qF (eV 49 52 qF (eG 50 53 (eG 51 54 (eG 52 55 (eV 53 56 qF (bF hs (fun _ _ hs=>tV 54 2 qF (tN (bD [(2,qF)] ?_)))))))))))))))))))))))))))))))))));exact kX (hs.ret [] qF (congrArg Value.bool (decide_eq_false (by unfold fb;omega)).symm))
 have zm:=oT zc;refine eB 22 25 zc (eV 23 26 qT (eV 24 27 qT (eV 25 28 (qP b1 10) (eO 26 29 [(0,10,1)] (iV sp) hs ?_))));cases zd:(decide ((0:Int)≤(sp:Int)))
 ·
  have zn:=oF zd;refine eB 27 30 zd (eV 28 31 qF (eV 29 32 qF (eG 30 33 (eG 31 34 (eG 32 35 (eV 33 36 qF (eV 34 37 qF (eG 35 38 (eG 36 39 (eG 37 40 (eV 38 41 qF (eV 39 42 qF (eG 40 43 (eG 41 44 (eG 42 45 (eV 43 46 qF (eV 44 47 qF (eG 45 48 (eG 46 49 (eG 47 50 (eV 48 51 qF (eV 49 52 qF (eG 50 53 (eG 51 54 (eG 52 55 (eV 53 56 qF (bF hs (fun _ _ hs=>tV 54 2 qF (tN (bD [(2,qF)] ?_))))))))))))))))))))))))))))));exact kX (hs.ret [] qF (congrArg Value.bool (decide_eq_false (by unfold fb;omega)).symm))
 have zn:=oT zd;refine eB 27 30 zd (eV 28 31 qT (eV 29 32 qT (eV 30 33 (qP b1 10) (eO 31 34 [(0,10,1)] (iV sp) hs ?_))));cases ze:(decide ((sp:Int)≤(200:Int)))
 ·
  have zo:=oF ze;refine eB 32 35 ze (eV 33 36 qF (eV 34 37 qF (eG 35 38 (eG 36 39 (eG 37 40 (eV 38 41 qF (eV 39 42 qF (eG 40 43 (eG 41 44 (eG 42 45 (eV 43 46 qF (eV 44 47 qF (eG 45 48 (eG 46 49 (eG 47 50 (eV 48 51 qF (eV 49 52 qF (eG 50 53 (eG 51 54 (eG 52 55 (eV 53 56 qF (bF hs (fun _ _ hs=>tV 54 2 qF (tN (bD [(2,qF)] ?_)))))))))))))))))))))))));exact kX (hs.ret [] qF (congrArg Value.bool (decide_eq_false (by unfold fb;omega)).symm))
 have zo:=oT ze;refine eB 32 35 ze (eV 33 36 qT (eV 34 37 qT (eV 35 38 (qP b1 11) (eO 36 39 [(0,11,1)] (iV ba) hs ?_))));cases zf:(decide ((0:Int)≤(ba:Int)))
 ·
  have zp:=oF zf;refine eB 37 40 zf (eV 38 41 qF (eV 39 42 qF (eG 40 43 (eG 41 44 (eG 42 45 (eV 43 46 qF (eV 44 47 qF (eG 45 48 (eG 46 49 (eG 47 50 (eV 48 51 qF (eV 49 52 qF (eG 50 53 (eG 51 54 (eG 52 55 (eV 53 56 qF (bF hs (fun _ _ hs=>tV 54 2 qF (tN (bD [(2,qF)] ?_))))))))))))))))))));exact kX (hs.ret [] qF (congrArg Value.bool (decide_eq_false (by unfold fb;omega)).symm))
 have zp:=oT zf;refine eB 37 40 zf (eV 38 41 qT (eV 39 42 qT (eV 40 43 (qP b1 11) (eO 41 44 [(0,11,1)] (iV ba) hs ?_))));cases zg:(decide ((ba:Int)≤(300:Int)))
 ·
  have zq:=oF zg;refine eB 42 45 zg (eV 43 46 qF (eV 44 47 qF (eG 45 48 (eG 46 49 (eG 47 50 (eV 48 51 qF (eV 49 52 qF (eG 50 53 (eG 51 54 (eG 52 55 (eV 53 56 qF (bF hs (fun _ _ hs=>tV 54 2 qF (tN (bD [(2,qF)] ?_)))))))))))))));exact kX (hs.ret [] qF (congrArg Value.bool (decide_eq_false (by unfold fb;omega)).symm))
 have zq:=oT zg;refine eB 42 45 zg (eV 43 46 qT (eV 44 47 qT (eV 45 48 (qP b1 12) (eO 46 49 [(0,12,1)] (iV bi) hs ?_))));cases zi:(decide ((0:Int)≤(bi:Int)))
 ·
  have zr:=oF zi;refine eB 47 50 zi (eV 48 51 qF (eV 49 52 qF (eG 50 53 (eG 51 54 (eG 52 55 (eV 53 56 qF (bF hs (fun _ _ hs=>tV 54 2 qF (tN (bD [(2,qF)] ?_))))))))));exact kX (hs.ret [] qF (congrArg Value.bool (decide_eq_false (by unfold fb;omega)).symm))
 have zr:=oT zi;refine eB 47 50 zi (eV 48 51 qT (eV 49 52 qT (eV 50 53 (qP b1 12) (eO 51 54 [(0,12,1)] (iV bi) hs ?_))));cases zj:(decide ((bi:Int)≤(256:Int)))
 ·
  have zs:=oF zj;refine eB 52 55 zj (eV 53 56 qF (bF hs (fun _ _ hs=>tV 54 2 qF (tN (bD [(2,qF)] ?_)))));exact kX (hs.ret [] qF (congrArg Value.bool (decide_eq_false (by unfold fb;omega)).symm))
 have zs:=oT zj;refine eB 52 55 zj (eV 53 56 qT (bF hs (fun _ _ hs=>tV 54 2 qT (tN (bD [(2,qT)] ?_)))));exact kX (hs.ret [] qT (congrArg Value.bool (decide_eq_true (by unfold fb;omega)).symm))
theorem Fy (ra ke:Rat)(sp bi:Int)(sd:Nat)(hra:LQ 100000000 ra)(hke:LQ 100000000 ke)(hF:fb ra ke sp 0 bi)(k:Nat)(hk:k≤200)(w:World)(h:Hp)(g:G w h):CR 43 #[uX ra ke sp 0 bi sd,iV 1,nV k] w h (fun v h1=>∃ A c,v=.slice A ([0]:List Int).length c∧([0]:List Int).length≤c∧Si A [0] h1):=by
 have hs:=sS g;refine go Tryz.func43 [(0,uX ra ke sp 0 bi sd),(1,iV 1),(2,nV k)] rfl (aD (lA 3 59 (uC ra ke sp 0 bi sd) hs (fun b1 w2 h3 hs=>lL hs [.v 6 (sZ)] (af (ab hs [.m 11 1,.v 12 qF,.m 13 12,.m 14 1,.v 15 qF,.v 16 qF,.m 17 16,.m 18 2] ?_)))));cases hb4:(decide ((k:Int)<(0:Int)))
 ·
  have phb4:=oF hb4;refine lB 19 hb4 (lL hs [.v 20 qF,.m 21 20,.m 22 2] ?_);cases hb5:(decide ((200:Int)<(k:Int)))
  ·
   have phb5:=oF hb5;refine lB 23 hb5 (lL hs [.v 24 qF,.m 25 24,.o 26 (uX ra ke sp 0 bi sd) 0 0 14] (ah 27 hs ((by have q_:=Di ra ke sp 0 bi sd hra hke _ _ hs.g;rw[decide_eq_true hF] at q_;exact q_)) (fun w6 h7 hs=>lL hs [.v 28 qF,.v 29 qF] (am (cK (cQ (ab hs [.v 30 (qP b1 11),.o 31 (iV 0) 0 11 1,.v 32 qT,.m 33 32] (lG 34 ?_))))))));refine lG 35 (lG 36 (lG 37 (lL hs [.v 38 qT] (ar (ab hs [.m 39 1] (lK 40 3 1 1 8 (iV 0) ff (0:Int) hs (fun b8 w9 zd hs=>?_)))))));have hl11:(List.replicate 1 (0:Int)).length=1:=by simp
   refine lL hs [.m 7 40] (af (ab hs [.m 41 7,.v 42 (iV 1),.v 43 (iV 0)] (bd ?_)));refine bD _ (CG.loop (fun μ_ Γ w_=>∃ (j:Nat) (L:List Int) (h_:Hp),μ_=1-j∧Γ=[(1,iV 1),(2,nV k),(3,pB b1),(6,sZ),(7,qS (sB b8) 1 1),(42,iV 1),(43,nV j)]∧SS w h w_ h_ [⟨b8,3,(L).flatMap ff⟩,⟨b1,59,uC ra ke sp 0 bi sd⟩] [] []∧j≤1∧L.length=1∧L=[0]) _ ⟨0,List.replicate 1 (0:Int),zd,rfl,rfl,hs.to _ _,Nat.zero_le _,(by simp),rfl⟩ ?_);rintro _ _ _ ⟨j,L,ze,hm14,rfl,hs,hj,hLl,hL0⟩;refine aD ?_;cases za:(decide ((j:Int)<(1:Int)))
   ·
    have zb:=oF za;refine lB 44 za (af (dK (CG.exit ?_)))
    show CG _ _ _ _ _ _ _ _
    refine ab hs [.m 51 7,.m 6 51] (lN (kX ?_));subst hL0;replace hs:=hs.to [⟨b8,3,(([0]:List Int)).flatMap ff⟩,⟨b1,59,uC ra ke sp 0 bi sd⟩] [];obtain ⟨_,hs,sg17,lo18,bc19⟩:=hs.pub 0;replace hs:=(hs.to [⟨b1,59,uC ra ke sp 0 bi sd⟩] []).aS (SlO.of_flat (sz:=1) (f:=ff) (d:=0) (b:=b8) (o:=0) (l:=([0]:List Int)) (fun _=>rfl) sg17);exact hs.ret [] (qS (sB b8) 1 1) (⟨_,_,rfl,nR _,hs.f.1⟩)
   have zb:=oT za;refine lB 44 za (af (cI (cK (cQ (kZ (ab hs [.m 45 43,.m 8 45] (lN (kQ (lL hs [.m 46 7,.m 47 8,.m 48 8] (lX 49 (sB b8) 1 1 1 (j:Nat) j rfl ?_))))))))));refine lW 0 L ff 1 j (j:Nat) hs oM (fun _ hs=>?_);have zc:((L).set j (j:Nat)).length=1:=by rw[List.length_set];exact hLl
   replace hs:=hs.to [⟨b8,3,((L).set j (j:Nat)).flatMap ff⟩,⟨b1,59,uC ra ke sp 0 bi sd⟩] [];refine lN (kQ (bw 50 ((j:Nat)+1) (j+1) ?_));refine lL hs [.m 43 50] (lD ?_);intro a_ ka;refine ⟨_,_,?_,⟨j+1,(L).set j (j:Nat),ze,rfl,rfl,hs.to _ _,oM,zc,(by rw[hL0,show j=0 by omega];rfl)⟩,ka.to _ kR⟩
   omega
  have phb5:=oT hb5;refine lB 23 hb5 (lL hs [.v 24 qT,.m 25 24] (lG 26 ?_));refine lG 27 (lG 28 (lL hs [.v 29 qT] (ar (ab hs [.v 6 (sZ)] (lN (kX ?_))))))
  exfalso;omega
 have phb4:=oT hb4;refine lB 19 hb4 (lL hs [.v 20 qT,.m 21 20] (lG 22 ?_));refine lG 23 (lL hs [.v 24 qT,.m 25 24] (lG 26 ?_));refine lG 27 (lG 28 (lL hs [.v 29 qT] (ar (ab hs [.v 6 (sZ)] (lN (kX ?_))))))
 exfalso;omega
theorem Dk (inp:Int)(A:Option Addr)(c:Nat)(l:List Stp)(O:Option Addr)(d:Nat)(os:List Int)(at_:List Rat)(X:Option Addr)(cX:Nat)(bt:Nat)(hl:l.length≤65536)(ho:os.length≤10)(hat2:at_.length≤1000000)(hq:∀ i,LQ 1 (l.getD i ac).q)(hV:∀ k,k≤l.length→∀ j,LQ 1000000 ((aZ l at_ k).getD j 0))(w:World)(h:Hp)(g:G w h)(hA:SlO 9 fW ac h A l)(hO:Si O os h)(hX:Sq X at_ h)(hbt:Seg h bt 0 [iV inp,.slice A l.length c,.slice O os.length d])(tb:Tab h):CV 39 #[.slice X at_.length cX,pB bt] w h (.tuple #[qv (dh inp l os at_),iV (dW false inp l os at_)]):=by
 have hs:=((((((sS g).aS hA).aS hO).aS hX).a_Seg hbt).aB tb);refine go Tryz.func39 [(0,qS X at_.length cX),(1,pB bt)] rfl (aD (lA 3 39 ([qF,uV 0,eS,uV 0,eS]) hs (fun b1 w2 h3 hs=>lL hs [.v 4 (iV 0)] (ay (lH 8 (.agg #[iV inp,qS A ((l).length) c,qS O ((os).length) d]) hs ((hs.f.2.1).part 0 3) ?_)))));refine lL hs [.m 9 0] (lC 10 hs (IR inp A c l O d os at_ X cX oM oM hat2 hq (fun _ _ k hk _ j=>hV k hk j) _ _ hs.g hs.f.q.1 hs.f.r.2.1 hs.f.r.1 hs.f.1) ?_);rintro _ w4 h5 hs ⟨Ar,cr,rfl,hcr,hAr⟩;replace hs:=hs.aS hAr;exact lL hs [.m 7 10,.v 11 (qS Ar ((gt false inp l os at_).length) cr),.v 12 (iV (dW false inp l os at_)),.m 5 11,.m 6 12] (ay (lL hs [.m 13 5] (ah 14 hs (I0 Ar cr (gt false inp l os at_) 1000000 (Nat.le_trans Cu ho) (fun i=>Cc kD (fun _ j=>hV _ (nR _) j) i) kD _ _ hs.g hs.f.1 hs.f.2.1) (fun w6 h7 hs=>lL hs [.m 15 6] (lP 0 0 (qc (dh inp l os at_)) hs (fun w8 hs=>lL hs [.m 4 15] (ae hs [(0,0,5)] (.tuple #[qv (dh inp l os at_),iV (dW false inp l os at_)]) rfl)))))))
theorem GZ (inp:Int)(A:Option Addr)(c:Nat)(l:List Stp)(O:Option Addr)(d:Nat)(os:List Int)(at_:List Rat)(X:Option Addr)(cX:Nat)(ra ke:Rat)(sp ba bi:Int)(sd:Nat)(k:Nat)(bl:List Int)(hSo:∀ (w:World) (h:Hp),G w h→Calls Tryz.prog 43 #[uX ra ke sp ba bi sd,nV os.length,nV k] w (Ret w h (fun v h1=>∃ A c,v=.slice A bl.length c∧bl.length≤c∧Si A bl h1)))(hbr:∀ j,j<bl.length→0≤bl.getD j 0∧bl.getD j 0<os.length)(hbn:bl.length≤1000000)(bt br:Nat)(wt sg:Nat→Nat)(W_:Nat)(hl6:l.length≤100)(ho2:os.length≤2)(hat2:at_.length≤1000000)(hq:∀ i,LQ 1 (l.getD i ac).q)(hB:bv inp l os=0→(at_.length:Int)=inp→∀ k,k≤l.length→bW true l at_ k=0→∀ j,LQ 1000000 ((aZ l at_ k).getD j 0))(hwt:bv inp l os=0→Wt l wt)(hW:∀ j,j<l.length→wt j≤W_)(hSg:bv inp l os=0→(at_.length:Int)=inp→bW true l at_ l.length=0→∀ k,k<l.length→(l.getD k ac).op≠2→LQ (sg k) (nO (l.getD k ac).op (l.getD k ac).n ((aZ l at_ l.length).getD (l.getD k ac).a.toNat 0) ((aZ l at_ l.length).getD (l.getD k ac).b.toNat 0))∧LQ (sg k) (oL (l.getD k ac).op ((aZ l at_ l.length).getD (l.getD k ac).a.toNat 0) ((aZ l at_ l.length).getD (l.getD k ac).b.toNat 0)))(hC:bv inp l os=0→1+jo wt (fun _=>1) l.length+os.length*(2*W_)+k7 wt sg l.length≤100000000)(w:World)(h:Hp)(g:G w h)(hA:SlO 9 fW ac h A l)(hO:Si O os h)(hX:Sq X at_ h)(hbt:Seg h bt 0 [iV inp,.slice A l.length c,.slice O os.length d])(hbr_:Seg h br 0 (D9 ra ke sp ba bi sd))(tb:Tab h):CR 42 #[.slice X at_.length cX,nV k,pB bt,pB br] w h (fun v h1=>∃ Ag cg,v=.tuple #[.slice Ag (cB inp l os at_ (bQ os.length bl bl.length)).length cg,iV (bM inp l os at_ (bQ os.length bl bl.length))]∧(cB inp l os at_ (bQ os.length bl bl.length)).length≤cg∧Sq Ag (cB inp l os at_ (bQ os.length bl bl.length)) h1∧(bM inp l os at_ (bQ os.length bl bl.length)=0→h.size≤aB Ag)):=by
 have hs:=(((((((sS g).aS hA).aS hO).aS hX).a_Seg hbt).a_Seg hbr_).aB tb);refine go Tryz.func42 [(0,qS X at_.length cX),(1,nV k),(2,pB bt),(3,pB br)] rfl (ab hs [.v 6 (sZ),.v 7 (iV 0)] (ay (lL hs [.v 14 (qP bt 2)] (lH 15 (qS O ((os).length) d) hs ((hs.f.r.1).part 2 1) ?_))));refine lL hs [.v 16 (nV ((os).length))] (lK 17 39 ((os).length) 5 56 (.agg #[qF,uV 0,eS,uV 0,eS]) qc 0 hs (fun b1 w2 h3 hs=>?_));have hl4:(List.replicate ((os).length) 0).length=((os).length):=by simp
 refine lL hs [.m 8 17] (af (aD (lH 18 (uX ra ke sp ba bi sd) hs ((hs.f.2.1).part 0 14) ?_)));refine lL hs [.m 19 8,.v 20 (nV ((os).length)),.m 21 1] (lC 22 hs (hSo _ _ hs.g) ?_);rintro _ w5 h6 hs ⟨As,cs,rfl,hcs,hAs⟩;replace hs:=hs.aS hAs;refine lL hs [.v 23 (nV bl.length),.v 24 (iV 0)] (bd ?_);refine bD _ (CG.loop (fun μ_ Γ w_=>∃ (j:Nat) (L:List Rat) (h_:Hp),μ_=bl.length-j∧Γ=[(0,qS X at_.length cX),(2,pB bt),(6,sZ),(7,iV 0),(8,qS (sB b1) ((os).length) ((os).length)),(22,qS As bl.length cs),(23,nV bl.length),(24,nV j)]∧SS w h w_ h_ [⟨b1,39,(L).flatMap qc⟩] [] [Si As bl,fun h_=>Tab h_,fun h_=>Seg h_ br 0 (D9 ra ke sp ba bi sd),fun h_=>Seg h_ bt 0 [iV inp,qS A l.length c,qS O os.length d],Sq X at_,Si O os,fun h_=>SlO 9 fW ac h_ A l]∧j≤bl.length∧L.length=os.length∧L=bQ os.length bl j) _ ⟨0,List.replicate os.length (0:Rat),h6,rfl,rfl,hs.to _ _,Nat.zero_le _,(by simp),rfl⟩ ?_);rintro _ _ w7 ⟨j,L,h8,hm9,rfl,hs,hj,hLl,hLm⟩;have hbj:=fun h0=>hbr j h0
 refine aD ?_;cases za:(decide ((j:Int)<(bl.length:Int)))
 ·
  have zb:=oF za;refine lB 25 za (af (dK (CG.exit ?_)))
  show CG _ _ _ _ _ _ _ _
  refine aD ?_;have hjb:j=bl.length:=by omega
  subst hjb;subst hLm;replace hs:=hs.to [⟨b1,39,((bQ os.length bl bl.length)).flatMap qc⟩] [];obtain ⟨_,hs,sg12,lo13,bc14⟩:=hs.pub 0;replace hs:=(hs.to [] []).aS (SlO.of_flat (sz:=5) (f:=qc) (d:=0) (b:=b1) (o:=0) (l:=(bQ os.length bl bl.length)) (fun _=>rfl) sg12);refine lH 34 (.agg #[iV inp,qS A ((l).length) c,qS O ((os).length) d]) hs ((hs.f.q.1).part 0 3) (lL hs [.m 35 0,.m 36 8] ?_);have hsz:=hs.st.up.gr.size;refine lC 37 hs ((by have q_:=G1 inp A c l O d os at_ X cX (bQ os.length bl bl.length) (sB b1) os.length wt sg W_ oM oM hat2 (by rw[j4];omega) hq (Be _ _ _) hB hwt hW hSg hC _ _ hs.g hs.f.q.r.2.1 hs.f.q.r.1 hs.f.q.2.1 hs.f.1 (hs.f.r.1);rw[j4] at q_;exact q_)) ?_;rintro _ _ _ hs ⟨Ab,cb,Ag,cg,rfl,hcb,hcg,hAb,hAg,hgr,hnw⟩;replace hs:=hs.aP hAb hAg;exact lL hs [.m 33 37,.v 38 (qS Ab ((fT inp l os at_ (bQ os.length bl bl.length)).length) cb),.v 39 (qS Ag ((cB inp l os at_ (bQ os.length bl bl.length)).length) cg),.v 40 (iV (bM inp l os at_ (bQ os.length bl bl.length))),.m 11 38,.m 12 39,.m 13 40] (ay (lL hs [.m 41 12,.m 42 13,.m 6 41,.m 7 42] (ae hs [] (.tuple #[qS Ag ((cB inp l os at_ (bQ os.length bl bl.length)).length) cg,iV (bM inp l os at_ (bQ os.length bl bl.length))]) (⟨_,_,rfl,hcg,hs.f.1,fun h_=>Nat.le_trans hsz (hnw h_)⟩))))
 have zb:=oT za;refine lB 25 za (af (cI (cK (cQ (kZ (aD (lX 26 As bl.length cs 1 (j:Nat) j ((hs.f.1).ok oM) ?_)))))));refine lH 27 (iV (bl.getD j 0)) hs ((hs.f.1).el j oM) (lL hs [.m 10 27] (lN (kQ (lL hs [.m 28 8,.m 29 10] (ah 30 hs (pZ 1 oM oM _ _ hs.g) (fun _ zd hs=>lX 31 (sB b1) ((os).length) ((os).length) 5 (bl.getD j 0) ((bl.getD j 0).toNat) rfl (lW 0 L qc 5 ((bl.getD j 0).toNat) ((1:Int):Rat) hs oM (fun _ hs=>?_))))))));have zc:((L).set ((bl.getD j 0).toNat) ((1:Int):Rat)).length=((os).length):=by rw[List.length_set];exact hLl
 replace hs:=hs.to [⟨b1,39,((L).set ((bl.getD j 0).toNat) ((1:Int):Rat)).flatMap qc⟩] [];refine lN (kQ (bw 32 ((j:Nat)+1) (j+1) ?_));refine lL hs [.m 24 32] (lD ?_);intro a_ ka;refine ⟨_,_,?_,⟨j+1,(L).set ((bl.getD j 0).toNat) ((1:Int):Rat),zd,rfl,rfl,hs.to _ _,oM,zc,(by rw[hLm];rfl)⟩,ka.to _ kR⟩
 omega
theorem HE (a:Rat)(ha:LQ 100000000 a)(ra ke:Rat)(sp ba:Int)(b sd rb:Nat)(hb:b≤256)(w:World)(h:Hp)(g:G w h)(hrb:Seg h rb 0 (D9 ra ke sp ba (b:Nat) sd))(tb:Tab h):CV 94 #[qv a,pB rb] w h (qv (bR a b)):=by
 have hs:=(((sS g).a_Seg hrb).aB tb);refine go Tryz.func94 [(0,qv a),(1,pB rb)] rfl (aD (lA 2 39 (qc a) hs (fun b1 w2 h3 hs=>lA 3 39 ([qF,uV 0,eS,uV 0,eS]) hs (fun b4 w5 h6 hs=>ay (lL hs [.o 4 (qv a) 1 0 5,.v 5 (qP rb 12)] (lH 6 (nV b) hs ((hs.f.2.1).part 12 1) ?_))))));exact ah 7 hs (Hr a ha b hb _ _ hs.g hs.f.1) (fun w7 h8 hs=>lP 0 0 (qc (bR a b)) hs (fun w9 hs=>ae hs [(0,0,5)] (qv (bR a b)) rfl))
theorem xz (a:Rat)(ha:LQ 100000000 a)(ra ke:Rat)(sp ba:Int)(b sd rb:Nat)(hb:b≤256)(w:World)(h:Hp)(g:G w h)(hrb:Seg h rb 0 (D9 ra ke sp ba (b:Nat) sd))(tb:Tab h):CR 94 #[qv a,pB rb] w h (fun v _=>∃ x,v=qv x∧x=bR a b):=by
 refine (HE a ha ra ke sp ba b sd rb hb w h g hrb tb).mono ?_;rintro _ w' ⟨_,h',rfl,u,rfl⟩;exact ⟨_,h',rfl,u,_,rfl,rfl⟩
theorem GV (inp:Int)(A:Option Addr)(c:Nat)(l:List Stp)(O:Option Addr)(d:Nat)(os:List Int)(p0:List Rat)(X:Option Addr)(cX:Nat)(ra ke:Rat)(st b sd:Nat)(ba:Int)(bf:Nat→List Int)(hinp:(p0.length:Int)=inp)(hp0:0<p0.length)(hpl:p0.length≤10)(hst:st≤5)(hb:b≤256)(hsd:sd<18446744073709551616)(hl:l.length≤100)(ho:os.length≤2)(hq:∀ i,LQ 1 (l.getD i ac).q)(hra:LQ 1 ra)(hke:LQ 1 ke)(wt sg:Nat→Nat)(W_:Nat)(hwt:bv inp l os=0→Wt l wt)(hW:∀ j,j<l.length→wt j≤W_)(hC:bv inp l os=0→1+jo wt (fun _=>1) l.length+os.length*(2*W_)+k7 wt sg l.length≤100000000)(ds:Nat→DSt)(hds:ds=dst inp l os ra ke b bf p0)(hPt:∀ k,k≤st→PtOk l wt sg (ds k).at_)(hD:∀ k,k≤st→(∀ j,LQ 1000 ((ds k).at_.getD j 0))∧∀ j,LQ 1000 ((ds k).way.getD j 0))(hG:∀ k,k<st→∀ j,LQ 1000 ((cB inp l os (ds k).at_ (bQ os.length (bf k) (bf k).length)).getD j 0))(hN:∀ k,k<st→∀ j,LQ 1000 (bR (ke*(ds k).way.getD j 0-ra*(cB inp l os (ds k).at_ (bQ os.length (bf k) (bf k).length)).getD j 0) b))(hSo:∀ k:Nat,k≤200→∀ (w:World) (h:Hp),G w h→Calls Tryz.prog 43 #[uX ra ke st ba b sd,nV os.length,nV k] w (Ret w h (fun v h1=>∃ A c,v=.slice A (bf k).length c∧(bf k).length≤c∧Si A (bf k) h1)))(hbr:∀ k j,j<(bf k).length→0≤(bf k).getD j 0∧(bf k).getD j 0<os.length)(hbn:∀ k,(bf k).length≤1000000)(kt kr:Nat)(w:World)(h:Hp)(g:G w h)(hA:SlO 9 fW ac h A l)(hO:Si O os h)(hX:Sq X p0 h)(hb1:Seg h kt 0 [iV inp,.slice A l.length c,.slice O os.length d])(hb2:Seg h kr 0 (D9 ra ke (st:Nat) ba (b:Nat) sd))(tb:Tab h):CR 46 #[.agg #[.func (.func 39) #[] #[pB kt],.func (.func 42) #[] #[pB kt,pB kr]],.slice X p0.length cX,uX ra ke st ba b sd] w h (fun v h1=>∃ A1 c1 A2 c2,v=.tuple #[.agg #[.slice A1 (ds st).rat.length c1,.slice A2 (ds st).rls.length c2],iV (ds st).e]∧(ds st).rat.length≤c1∧(ds st).rls.length≤c2∧Sq A1 (ds st).rat h1∧Sq A2 (ds st).rls h1):=by
 have hs:=(((((((sS g).aS hA).aS hO).aS hX).a_Seg hb1).a_Seg hb2).aB tb);refine go Tryz.func46 [(0,.agg #[.func (.func 39) #[] #[pB kt],.func (.func 42) #[] #[pB kt,pB kr]]),(1,qS X p0.length cX),(2,uX ra ke st ba b sd)] rfl (aD (lA 3 101 ([.func (.func 39) #[] #[pB kt],.func (.func 42) #[] #[pB kt,pB kr]]) hs (fun b1 w2 h3 hs=>lA 5 59 (uC ra ke st ba b sd) hs (fun b4 w5 h6 hs=>lA 6 53 ([sZ,sZ]) hs (fun b7 w8 h9 hs=>lL hs [.v 7 (iV 0)] (ay (lL hs [.m 19 1] (IB 20 (vo X p0.length cX p0 rfl hp0 oM _ _ hs.g hs.f.r.2.1) ?_))))))));rintro _ _ _ u12 ⟨bq,cq,spq,rfl,hcq,hNq⟩;obtain ⟨_,hs,-,-⟩:=hs.take u12 hNq.1 hNq.2.2;replace hs:=hs.to [⟨bq,39,(p0).flatMap qc++spq⟩,⟨b7,53,[sZ,sZ]⟩,⟨b4,59,uC ra ke st ba b sd⟩,⟨b1,101,[.func (.func 39) #[] #[pB kt],.func (.func 42) #[] #[pB kt,pB kr]]⟩] [];refine lL hs [.m 8 20] (ay (lL hs [.m 21 8,.v 22 (nV p0.length)] (lK 23 39 p0.length 5 56 (.agg #[qF,uV 0,eS,uV 0,eS]) qc 0 hs (fun za _ _ hs=>?_))));have hl17:(List.replicate p0.length 0).length=p0.length:=by simp
 refine lL hs [.m 9 23] (ay (lL hs [.v 25 (pB b1),.o 26 (.func (.func 39) #[] #[pB kt]) 4 0 1,.m 27 8] (F9 28 1 hs (fun _ g_ f_ sg_=>(by have q_:=Dk inp A c l O d os p0 (sB bq) cq kt oM oM oM hq (by have h_:=(hPt 0 (Nat.zero_le _)).hV;rw[tj hds] at h_;exact h_) _ _ g_ (f_.2.2.2.2.2.1) (f_.2.2.2.2.1) (SlO.of_flatS (sp:=spq) (sz:=5) (f:=qc) (d:=0) (b:=bq) (o:=0) (l:=p0) (fun _=>rfl) sg_) (f_.2.2.1) (f_.1);rw[show p0.length=p0.length from rfl] at q_;exact q_)) ?_)));rintro _ _ _ hs rfl;refine lL hs [.m 24 28,.v 29 (qv (dh inp l os p0)),.v 30 (iV (dW false inp l os p0))] (lA 10 39 ([qF,uV 0,eS,uV 0,eS]) hs (fun zb _ _ hs=>lP 0 0 (qc (dh inp l os p0)) hs (fun _ hs=>lL hs [.m 11 30] (af (ab hs [.m 31 11] ?_)))));cases zc:((dW false inp l os p0:Int) != (0:Int))
 ·
  have zk:=aJ zc;refine lB 32 zc (am (cK (ab hs [.o 35 (qv (dh inp l os p0)) 0 0 5] (Iw 36 39 5 qc ([(dh inp l os p0)]:List Rat) hs (fun zq _ _ hs=>lL hs [.m 12 36] (ay ?_))))));obtain ⟨zr,hs,sg31,-,-⟩:=hs.pub 4;replace hs:=hs.to [⟨zb,39,qc (dh inp l os p0)⟩,⟨za,39,(List.replicate p0.length 0).flatMap qc⟩,⟨bq,39,(p0).flatMap qc++spq⟩,⟨b7,53,[sZ,sZ]⟩,⟨b1,101,[.func (.func 39) #[] #[pB kt],.func (.func 42) #[] #[pB kt,pB kr]]⟩] [⟨39,5,sB zq,(([(dh inp l os p0)]:List Rat)).length,(([(dh inp l os p0)]:List Rat)).length,(([(dh inp l os p0)]:List Rat)).flatMap qc⟩];have sg32:Seg zr b4 0 (uC ra ke st ba b sd):=sg31;replace hs:=hs.a_Seg sg32;refine lL hs [.v 37 (.func (.func 94) #[] #[pB b4]),.m 13 37] (af (ab hs [.v 38 (qP b4 10)] (lH 39 (nV st) hs ((hs.f.1).part 10 1) ?_)));refine lL hs [.v 40 (iV 0)] (bd ?_);refine bD _ (CG.loop (fun μ_ Γ w_=>∃ (k:Nat) (La:List Rat) (Lw:List Rat) (saA:Option Addr) (sac:Nat) (al:List Rat) (h_:Hp),μ_=st-k∧Γ=[(3,pB b1),(5,pB b4),(6,pB b7),(8,qS (sB bq) p0.length cq),(9,qS (sB za) p0.length p0.length),(13,.func (.func 94) #[] #[pB b4]),(39,nV st),(40,nV k),(12,qS saA ((al).length) sac)]∧SS w h w_ h_ [⟨zb,39,qc (dh inp l os p0)⟩,⟨za,39,(Lw).flatMap qc⟩,⟨bq,39,(La).flatMap qc++spq⟩,⟨b7,53,[sZ,sZ]⟩,⟨b1,101,[.func (.func 39) #[] #[pB kt],.func (.func 42) #[] #[pB kt,pB kr]]⟩] [⟨39,5,saA,sac,(al).length,(al).flatMap qc⟩] [fun h_=>Seg h_ b4 0 (uC ra ke st ba b sd),fun h_=>Tab h_,fun h_=>Seg h_ kr 0 (D9 ra ke (st:Nat) ba (b:Nat) sd),fun h_=>Seg h_ kt 0 [iV inp,qS A l.length c,qS O os.length d],Sq X p0,Si O os,fun h_=>SlO 9 fW ac h_ A l]∧k≤st∧La.length=p0.length∧Lw.length=p0.length∧(ds k).e=0∧La=(ds k).at_∧Lw=(ds k).way∧al=(ds k).ls) _ ⟨0,p0,List.replicate p0.length (0:Rat),sB zq,(([(dh inp l os p0)]:List Rat)).length,([(dh inp l os p0)]:List Rat),zr,rfl,rfl,hs.to _ _,Nat.zero_le _,rfl,List.length_replicate,(by rw[tj hds];show dW false inp l os p0=0;omega),(by rw[tj hds]),(by rw[tj hds]),(by rw[tj hds])⟩ ?_);rintro _ _ _ ⟨k,La,Lw,saA,sac,al,_,hm35,rfl,hs,hk,hla,hlw,hE,hLa,hLw,hal⟩;have haln:al.length=k+1:=by rw[hal,hds];exact xa k (by rw[←hds];exact hE)
  have hLq:∀ j,LQ 1000 (La.getD j 0):=by rw[hLa];exact (hD k hk).1
  have hWq:∀ j,LQ 1000 (Lw.getD j 0):=by rw[hLw];exact (hD k hk).2
  have hPk:PtOk l wt sg La:=by rw[hLa];exact hPt k hk
  refine aD ?_;cases zd:(decide ((k:Int)<(st:Int)))
  ·
   have zl:=oF zd;refine lB 41 zd (af (dK (CG.exit ?_)))
   show CG _ _ _ _ _ _ _ _
   refine aD ?_;obtain ⟨_,hs,sg38,lo39,bc40⟩:=hs.pub 2;replace hs:=(hs.to [⟨zb,39,qc (dh inp l os p0)⟩,⟨za,39,(Lw).flatMap qc⟩,⟨b7,53,[sZ,sZ]⟩,⟨b1,101,[.func (.func 39) #[] #[pB kt],.func (.func 42) #[] #[pB kt,pB kr]]⟩] [⟨39,5,saA,sac,(al).length,(al).flatMap qc⟩]).aS (SlO.of_flatS (sp:=spq) (sz:=5) (f:=qc) (d:=0) (b:=bq) (o:=0) (l:=La) (fun _=>rfl) sg38);obtain ⟨_,hs,zs⟩:=hs.pubr 0 (A:=saA) (c:=sac) (l:=al) (f:=qc) (ty:=39) (sz:=5) 0 (fun _=>rfl);refine lL hs [.m 111 8,.m 112 12,.v 113 (.agg #[qS (sB bq) p0.length cq,qS saA ((al).length) sac])] (lP 2 0 ([qS (sB bq) p0.length cq,qS saA ((al).length) sac]) hs (fun _ hs=>lL hs [.v 7 (iV 0)] (lN (kX ?_))));have hkn:k=st:=by omega
   rw[hkn] at hE hLa hal
   obtain ⟨ho1,ho2⟩:=DSt.ok hE;exact hs.ret [(2,0,2)] (.tuple #[.agg #[qS (sB bq) p0.length cq,qS saA ((al).length) sac],iV 0]) (by rw[ho1,ho2,hE,←hLa,←hal,hla];exact ⟨_,_,_,_,rfl,hcq,zs,hs.f.2.1,hs.f.1⟩)
  have zl:=oT zd;refine lB 41 zd (af (cI (cK (cQ (kZ (ab hs [.m 42 40,.m 14 42] (ay (lL hs [.v 44 (qP b1 1),.o 45 (.func (.func 42) #[] #[pB kt,pB kr]) 4 1 1,.m 46 8,.m 47 14] ?_))))))));obtain ⟨GL,hGL⟩:∃ q_,q_=(cB inp l os La (bQ os.length (bf k) (bf k).length)):=⟨_,rfl⟩;refine IP 48 2 (Ψ:=fun v h2=>∃ Ag cg,v=.tuple #[qS Ag GL.length cg,iV (bM inp l os La (bQ os.length (bf k) (bf k).length))]∧GL.length≤cg∧Sq Ag GL h2) hs (fun _ g_ f_ sg_=>(by have q_:=GZ inp A c l O d os La (sB bq) cq ra ke (st:Nat) ba (b:Nat) sd k (bf k) (hSo k oM) (fun j_ hj_=>hbr k j_ hj_) (hbn k) kt kr wt sg W_ oM oM oM hq (fun _ _ k_ hk_ _ j_=>hPk.hV k_ hk_ j_) hwt hW (fun _ _ _=>hPk.hSg) hC _ _ g_ (f_.2.2.2.2.2.2.1) (f_.2.2.2.2.2.1) (SlO.of_flatS (sp:=spq) (sz:=5) (f:=qc) (d:=0) (b:=bq) (o:=0) (l:=La) (fun _=>rfl) sg_) (f_.2.2.2.1) (f_.2.2.1) (f_.2.1);rw[hla,←hGL] at q_;exact q_)) (BL (fun h_=>by rw[hGL];exact if_neg h_)) ?_;rintro _ _ zw hs ⟨Ag,cg,rfl,hcg,hAg⟩;replace hs:=hs.aS hAg;refine lL hs [.m 43 48,.v 49 (qS Ag GL.length cg),.v 50 (iV (bM inp l os La (bQ os.length (bf k) (bf k).length))),.m 15 49,.m 16 50] (af (ab hs [.m 51 16] ?_));cases ze:((bM inp l os La (bQ os.length (bf k) (bf k).length):Int) != (0:Int))
  ·
   have zm:=aJ ze;refine lB 52 ze (am (cK (cQ (ab hs [.m 55 8,.v 56 (nV p0.length),.v 57 (iV 0)] (bd ?_)))));have hB0:bM inp l os La (bQ os.length (bf k) (bf k).length)=0:=by omega
   have hGl:GL.length=p0.length:=by rw[hGL,tK hB0];omega
   have hGq:∀ j_,LQ 1000 (GL.getD j_ 0):=by rw[hGL,hLa];exact hG k oM
   refine bD _ (CG.loop (fun μ_ Γ w_=>∃ (j:Nat) (Mw:List Rat) (Ma:List Rat) (h_:Hp),μ_=p0.length-j∧Γ=[(3,pB b1),(5,pB b4),(6,pB b7),(8,qS (sB bq) p0.length cq),(9,qS (sB za) p0.length p0.length),(13,.func (.func 94) #[] #[pB b4]),(39,nV st),(40,nV k),(12,qS saA ((al).length) sac),(15,qS Ag GL.length cg),(16,iV (bM inp l os La (bQ os.length (bf k) (bf k).length))),(56,nV p0.length),(57,nV j)]∧SS w h w_ h_ [⟨zb,39,qc (dh inp l os p0)⟩,⟨za,39,(Mw).flatMap qc⟩,⟨bq,39,(Ma).flatMap qc++spq⟩,⟨b7,53,[sZ,sZ]⟩,⟨b1,101,[.func (.func 39) #[] #[pB kt],.func (.func 42) #[] #[pB kt,pB kr]]⟩] [⟨39,5,saA,sac,(al).length,(al).flatMap qc⟩] [Sq Ag GL,fun h_=>Seg h_ b4 0 (uC ra ke st ba b sd),fun h_=>Tab h_,fun h_=>Seg h_ kr 0 (D9 ra ke (st:Nat) ba (b:Nat) sd),fun h_=>Seg h_ kt 0 [iV inp,qS A l.length c,qS O os.length d],Sq X p0,Si O os,fun h_=>SlO 9 fW ac h_ A l]∧j≤p0.length∧Ma.length=p0.length∧Mw.length=p0.length∧(∀ i_,i_<j→Mw.getD i_ 0=bR (ke*Lw.getD i_ 0-ra*GL.getD i_ 0) b)∧(∀ i_,j≤i_→Mw.getD i_ 0=Lw.getD i_ 0)∧(∀ i_,i_<j→Ma.getD i_ 0=bR (La.getD i_ 0+Mw.getD i_ 0) b)∧(∀ i_,j≤i_→Ma.getD i_ 0=La.getD i_ 0)) _ ⟨0,Lw,La,zw,rfl,rfl,hs.to _ _,Nat.zero_le _,hla,hlw,(fun i_ h_=>absurd h_ (Nat.not_lt_zero i_)),(fun _ _=>rfl),(fun i_ h_=>absurd h_ (Nat.not_lt_zero i_)),(fun _ _=>rfl)⟩ ?_);rintro _ _ _ ⟨j,Mw,Ma,_,hm51,rfl,hs,hj,hma,hmw,hw2,hw3,ha2,ha3⟩;have hq1:LQ 1000 (Mw.getD j 0):=by rw[hw3 j (nR _)];exact hWq j
   have hq2:LQ 1000 (Ma.getD j 0):=by rw[ha3 j (nR _)];exact hLq j
   have hq3:=hGq j;have hq5:LQ 1000 (bR (ke*Mw.getD j 0-ra*GL.getD j 0) b):=by rw[hw3 j (nR _),hGL,hLa,hLw];exact hN k oM j
   refine aD ?_;cases zf:(decide ((j:Int)<(p0.length:Int)))
   ·
    have zn:=oF zf;refine lB 58 zf (af (dK (CG.exit ?_)))
    show CG _ _ _ _ _ _ _ _
    refine aD ?_;have hjn:j=p0.length:=by omega
    have hS:=Gq hds hE hLa hLw hal hla hB0 hmw hma (fun i_ h_=>by rw[←hGL];exact hw2 i_ oM) (fun i_ h_=>ha2 i_ oM);have hPt1:PtOk l wt sg Ma:=by have h_:=hPt (k+1) oM;rw[hS] at h_;exact h_
    refine lL hs [.v 96 (pB b1),.o 97 (.func (.func 39) #[] #[pB kt]) 4 0 1,.m 98 8] (F9 99 2 hs (fun _ g_ f_ sg_=>(by have q_:=Dk inp A c l O d os Ma (sB bq) cq kt oM oM oM hq hPt1.hV _ _ g_ (f_.2.2.2.2.2.2.2.1) (f_.2.2.2.2.2.2.1) (SlO.of_flatS (sp:=spq) (sz:=5) (f:=qc) (d:=0) (b:=bq) (o:=0) (l:=Ma) (fun _=>rfl) sg_) (f_.2.2.2.2.1) (f_.2.2.1);rw[hma] at q_;exact q_)) ?_);rintro _ _ _ hs rfl;refine lL hs [.m 95 99,.v 100 (qv (dh inp l os Ma)),.v 101 (iV (dW false inp l os Ma))] (lA 18 39 ([qF,uV 0,eS,uV 0,eS]) hs (fun b55 _ _ hs=>lP 0 0 (qc (dh inp l os Ma)) hs (fun _ hs=>lL hs [.m 16 101] (af (ab hs [.m 102 16] ?_)))));cases zg:((dW false inp l os Ma:Int) != (0:Int))
    ·
     have zo:=aJ zg;refine lB 103 zg (am (cK (kQ (lL hs [.m 106 12,.o 107 (qv (dh inp l os Ma)) 0 0 5] (lR 108 39 1 (qc (dh inp l os Ma)) hs (fun zx _ _ hs=>lY 109 0 39 5 sac saA al qc (dh inp l os Ma) 56 zx (.agg #[qF,uV 0,eS,uV 0,eS]) hs hs.f.1 (fun zA zB _ zD hs=>lL hs [.m 12 109] (lN (kQ (bw 110 ((k:Nat)+1) (k+1) ?_))))))))));refine lL hs [.m 40 110] (lD ?_);intro a_ ka;replace hs:=hs.tl.tl;replace hs:=hs.drop 1 0;refine ⟨_,_,?_,⟨k+1,Ma,Mw,zA,zB,al++[(dh inp l os Ma)],zD,rfl,rfl,hs.to _ _,oM,hma,hmw,(by rw[hS];show dW false inp l os Ma=0;omega),(by rw[hS]),(by rw[hS]),(by rw[hS])⟩,ka.to _ kR⟩
     omega
    have zo:=aU zg;refine lB 103 zg (ar (ab hs [.v 104 (.agg #[sZ,sZ]),.m 105 16] (lP 4 0 ([sZ,sZ]) hs (fun _ hs=>lL hs [.m 7 105] (lN (kX ?_))))));have hen:=(r5 (n:=st) hds hS oM oM);obtain ⟨ho1,ho2⟩:=DSt.bad (s:=ds st) oM;exact hs.ret [(4,0,2)] (.tuple #[.agg #[sZ,sZ],iV (dW false inp l os Ma)]) (by rw[ho1,ho2,hen];exact ⟨none,0,none,0,rfl,nR _,nR _,SlO.nil,SlO.nil⟩)
   have zn:=oT zf;refine lB 58 zf (af (cI (cK (cQ (kZ (ab hs [.m 59 57,.m 17 59] (af (cR 19 [] mixed hs aq ?_))))))));refine eV 0 60 (qS (sB za) p0.length p0.length) (eV 1 61 (nV j) (eV 2 62 (.func (.func 94) #[] #[pB b4]) (eV 3 63 (qP b4 5) (eH 4 64 (qv ke) hs ((hs.f.2.1).part 5 5) (eV 5 65 (qS (sB za) p0.length p0.length) (eV 6 66 (nV j) (eX 7 67 (sB za) p0.length p0.length 5 (j:Nat) j rfl (eQ 8 68 1 Mw qc 5 0 j (qv ((Mw).getD j 0)) hs oM (eV 10 70 (pB b4) (eH 11 71 (qv ra) hs ((hs.f.2.1).part 0 5) (eV 12 72 (qS Ag GL.length cg) (eV 13 73 (nV j) (eX 14 74 Ag GL.length cg 5 (j:Nat) j ((hs.f.1).ok oM) (eH 15 75 (qv (GL.getD j 0)) hs ((hs.f.1).el j oM) ?_))))))))))))));have zi:=LQ.mul hke hq1;refine ak 9 69 hs (fun _ _ hs=>ji ke ((Mw).getD j 0) (LQ.mono hke oM) (LQ.mono hq1 oM) _ _ hs.g hs.f.r.1) (fun _ _ hs=>?_);have zj:=LQ.mul hra hq3;refine ak 16 76 hs (fun _ _ hs=>ji ra (GL.getD j 0) (LQ.mono hra oM) (LQ.mono hq3 oM) _ _ hs.g hs.f.r.1) (fun _ _ hs=>?_);have zt:=LQ.sub zi zj;refine ak 17 77 hs (fun _ _ hs=>Hi (ke*((Mw).getD j 0)) (ra*(GL.getD j 0)) (LQ.mono zi oM) (LQ.mono zj oM) _ _ hs.g hs.f.r.1) (fun _ _ hs=>eC 18 78 hs (fun _ _ hs=>xz ((ke*((Mw).getD j 0))-(ra*(GL.getD j 0))) (LQ.mono zt oM) ra ke (st:Nat) ba b sd b4 hb _ _ hs.g hs.f.2.1 hs.f.r.1) ?_);rintro _ _ _ _ _ hs ⟨xw,rfl,hxw⟩;refine bF hs (fun _ _ hs=>tX 19 79 (sB za) p0.length p0.length 5 (j:Nat) j rfl (tW 20 1 Mw qc 5 j xw hs oM (fun _ hs=>?_)));have zu:((Mw).set j xw).length=p0.length:=by rw[List.length_set];exact hmw
   replace hs:=hs.to [⟨zb,39,qc (dh inp l os p0)⟩,⟨za,39,((Mw).set j xw).flatMap qc⟩,⟨bq,39,(Ma).flatMap qc++spq⟩,⟨b7,53,[sZ,sZ]⟩,⟨b1,101,[.func (.func 39) #[] #[pB kt],.func (.func 42) #[] #[pB kt,pB kr]]⟩] [⟨39,5,saA,sac,(al).length,(al).flatMap qc⟩];refine tN (cR 13 [] mixed hs aq ?_);have hq4:LQ 1000 (((Mw).set j xw).getD j 0):=by rw[cJ oM,if_pos rfl,hxw];exact hq5
   refine eV 0 80 (qS (sB bq) p0.length cq) (eV 1 81 (nV j) (eV 2 82 (.func (.func 94) #[] #[pB b4]) (eV 3 83 (qS (sB bq) p0.length cq) (eV 4 84 (nV j) (eX 5 85 (sB bq) p0.length cq 5 (j:Nat) j rfl (Jr 6 86 2 Ma qc 5 0 j (qv ((Ma).getD j 0)) spq hs oM (eV 7 87 (qS (sB za) p0.length p0.length) (eV 8 88 (nV j) (eX 9 89 (sB za) p0.length p0.length 5 (j:Nat) j rfl (eQ 10 90 1 ((Mw).set j xw) qc 5 0 j (qv (((Mw).set j xw).getD j 0)) hs oM ?_))))))))));have zv:=LQ.add hq2 hq4;refine ak 11 91 hs (fun _ _ hs=>ki ((Ma).getD j 0) (((Mw).set j xw).getD j 0) (LQ.mono hq2 oM) (LQ.mono hq4 oM) _ _ hs.g hs.f.r.1) (fun _ _ hs=>eC 12 92 hs (fun _ _ hs=>xz (((Ma).getD j 0)+(((Mw).set j xw).getD j 0)) (LQ.mono zv oM) ra ke (st:Nat) ba b sd b4 hb _ _ hs.g hs.f.2.1 hs.f.r.1) ?_);rintro _ _ _ _ _ hs ⟨ya,rfl,hya⟩;refine bF hs (fun _ zE hs=>tX 13 93 (sB bq) p0.length cq 5 (j:Nat) j rfl (Jf 14 2 Ma qc 5 j ya spq hs oM (fun _  hs=>?_)));have zp:((Ma).set j ya).length=p0.length:=by rw[List.length_set];exact hma
   replace hs:=hs.to [⟨zb,39,qc (dh inp l os p0)⟩,⟨za,39,((Mw).set j xw).flatMap qc⟩,⟨bq,39,((Ma).set j ya).flatMap qc++spq⟩,⟨b7,53,[sZ,sZ]⟩,⟨b1,101,[.func (.func 39) #[] #[pB kt],.func (.func 42) #[] #[pB kt,pB kr]]⟩] [⟨39,5,saA,sac,(al).length,(al).flatMap qc⟩];refine tN (bD [(3,pB b1),(5,pB b4),(6,pB b7),(8,qS (sB bq) p0.length cq),(9,qS (sB za) p0.length p0.length),(13,.func (.func 94) #[] #[pB b4]),(39,nV st),(40,nV k),(12,qS saA ((al).length) sac),(15,qS Ag GL.length cg),(16,iV (bM inp l os La (bQ os.length (bf k) (bf k).length))),(56,nV p0.length),(57,nV j)] ?_);refine kQ (bw 94 ((j:Nat)+1) (j+1) ?_);refine lL hs [.m 57 94] (lD ?_);intro a_ ka;refine ⟨_,_,?_,⟨j+1,(Mw).set j xw,(Ma).set j ya,zE,rfl,rfl,hs.to _ _,oM,zp,zu,((ru oM hw2 hw3 hxw).1),((ru oM hw2 hw3 hxw).2),((rx oM oM ha2 ha3 hya).1),((rx oM oM ha2 ha3 hya).2)⟩,ka.to _ kR⟩
   omega
  have zm:=aU ze;refine lB 52 ze (ar (ab hs [.v 53 (.agg #[sZ,sZ]),.m 54 16] (lP 3 0 ([sZ,sZ]) hs (fun _ hs=>lL hs [.m 7 54] (lN (kX ?_))))));have hen:=(By (n:=st) hds hE hLa oM oM);obtain ⟨ho1,ho2⟩:=DSt.bad (s:=ds st) oM;exact hs.ret [(3,0,2)] (.tuple #[.agg #[sZ,sZ],iV (bM inp l os La (bQ os.length (bf k) (bf k).length))]) (by rw[ho1,ho2,hen];exact ⟨none,0,none,0,rfl,nR _,nR _,SlO.nil,SlO.nil⟩)
 have zk:=aU zc;refine lB 32 zc (ar (ab hs [.v 33 (.agg #[sZ,sZ]),.m 34 11] (lP 3 0 ([sZ,sZ]) hs (fun _ hs=>lL hs [.m 7 34] (lN (kX ?_))))));have hen:=(by have h_:=r5 (n:=st) hds (tj hds) oM (Nat.zero_le _);exact h_);obtain ⟨ho1,ho2⟩:=DSt.bad (s:=ds st) oM;exact hs.ret [(3,0,2)] (.tuple #[.agg #[sZ,sZ],iV (dW false inp l os p0)]) (by rw[ho1,ho2,hen];exact ⟨none,0,none,0,rfl,nR _,nR _,SlO.nil,SlO.nil⟩)
theorem G7 (inp:Int)(A:Option Addr)(c:Nat)(l:List Stp)(O:Option Addr)(d:Nat)(os:List Int)(p0:List Rat)(X:Option Addr)(cX:Nat)(ra ke:Rat)(st b sd:Nat)(ba:Int)(bf:Nat→List Int)(hinp:(p0.length:Int)=inp)(hp0:0<p0.length)(hpl:p0.length≤10)(hst:st≤5)(hb:b≤256)(hsd:sd<18446744073709551616)(hl:l.length≤100)(ho:os.length≤2)(hq:∀ i,LQ 1 (l.getD i ac).q)(hra:LQ 1 ra)(hke:LQ 1 ke)(wt sg:Nat→Nat)(W_:Nat)(hwt:bv inp l os=0→Wt l wt)(hW:∀ j,j<l.length→wt j≤W_)(hC:bv inp l os=0→1+jo wt (fun _=>1) l.length+os.length*(2*W_)+k7 wt sg l.length≤100000000)(ds:Nat→DSt)(hds:ds=dst inp l os ra ke b bf p0)(hPt:∀ k,k≤st→PtOk l wt sg (ds k).at_)(hD:∀ k,k≤st→(∀ j,LQ 1000 ((ds k).at_.getD j 0))∧∀ j,LQ 1000 ((ds k).way.getD j 0))(hG:∀ k,k<st→∀ j,LQ 1000 ((cB inp l os (ds k).at_ (bQ os.length (bf k) (bf k).length)).getD j 0))(hN:∀ k,k<st→∀ j,LQ 1000 (bR (ke*(ds k).way.getD j 0-ra*(cB inp l os (ds k).at_ (bQ os.length (bf k) (bf k).length)).getD j 0) b))(hSo:∀ k:Nat,k≤200→∀ (w:World) (h:Hp),G w h→Calls Tryz.prog 43 #[uX ra ke st ba b sd,nV os.length,nV k] w (Ret w h (fun v h1=>∃ A c,v=.slice A (bf k).length c∧(bf k).length≤c∧Si A (bf k) h1)))(hbr:∀ k j,j<(bf k).length→0≤(bf k).getD j 0∧(bf k).getD j 0<os.length)(hbn:∀ k,(bf k).length≤1000000)(hF:fb ra ke (st:Nat) ba (b:Nat))(hck:bv inp l os=0)(ho0:0<os.length)(w:World)(h:Hp)(g:G w h)(hA:SlO 9 fW ac h A l)(hO:Si O os h)(hX:Sq X p0 h)(tb:Tab h):CR 9 #[.agg #[iV inp,.slice A ((l).length) c,.slice O ((os).length) d],.slice X p0.length cX,uX ra ke st ba b sd] w h (fun v h1=>∃ A1 c1 A2 c2,v=.tuple #[.agg #[.slice A1 (ds st).rat.length c1,.slice A2 (ds st).rls.length c2],iV (ds st).e]∧(ds st).rat.length≤c1∧(ds st).rls.length≤c2∧Sq A1 (ds st).rat h1∧Sq A2 (ds st).rls h1):=by
 have hs:=(((((sS g).aS hA).aS hO).aS hX).aB tb);refine go Tryz.func9 [(0,.agg #[iV inp,qS A ((l).length) c,qS O ((os).length) d]),(1,qS X p0.length cX),(2,uX ra ke st ba b sd)] rfl (aD (lA 3 46 ([iV inp,qS A ((l).length) c,qS O ((os).length) d]) hs (fun b1 w2 h3 hs=>lA 5 59 (uC ra ke st ba b sd) hs (fun b4 w5 h6 hs=>lA 6 53 ([sZ,sZ]) hs (fun b7 w8 h9 hs=>lL hs [.v 7 (iV 0)] (af (ab hs [.o 9 (.agg #[iV inp,qS A ((l).length) c,qS O ((os).length) d]) 2 0 3] (ah 10 hs (l6 inp A c l O d os oM oM (fun i _=>hq i) _ _ hs.g hs.f.r.2.1 hs.f.r.1) (fun _ _ hs=>?_)))))))));cases za:((bv inp l os:Int) != (0:Int))
 ·
  have zd:=aJ za;refine lB 11 za (lL hs [.m 12 11,.o 13 (uX ra ke st ba b sd) 1 0 14] (ah 14 hs ((by have q_:=Di ra ke (st:Nat) ba (b:Nat) sd (hra.mono kD) (hke.mono kD) _ _ hs.g;rw[decide_eq_true hF] at q_;exact q_)) (fun _ _ hs=>lL hs [.v 15 qF,.v 16 qF] (am (cK (cQ (ab hs [.m 18 1,.v 19 (nV p0.length),.v 20 (pB b1),.o 21 (iV inp) 2 0 1] ?_)))))));cases zb:((p0.length:Int) != (inp:Int))
  ·
   have ze:=aJ zb;refine lB 22 zb (lL hs [.m 23 22,.v 24 (qP b1 2),.o 25 (qS O ((os).length) d) 2 2 1,.v 26 (nV ((os).length))] ?_);cases zc:((((os).length:Nat):Int) == (0:Int))
   ·
    have zf:=aj zc;refine lB 27 zc (lL hs [.v 28 qF] (am (cK (aD ?_))));obtain ⟨zg,hs,sg18,-,-⟩:=hs.pub 2;replace hs:=hs.to [⟨b7,53,[sZ,sZ]⟩,⟨b4,59,uC ra ke st ba b sd⟩] [];have sg19:Seg zg b1 0 ([iV inp,qS A ((l).length) c,qS O ((os).length) d]):=sg18;replace hs:=hs.a_Seg sg19;obtain ⟨zi,hs,sg21,-,-⟩:=hs.pub 1;replace hs:=hs.to [⟨b7,53,[sZ,sZ]⟩] [];have sg22:Seg zi b4 0 (uC ra ke st ba b sd):=sg21;replace hs:=hs.a_Seg sg22;refine lL hs [.v 30 (.func (.func 39) #[] #[pB b1]),.v 31 (.func (.func 42) #[] #[pB b1,pB b4]),.v 32 (.agg #[.func (.func 39) #[] #[pB b1],.func (.func 42) #[] #[pB b1,pB b4]])] (lA 8 101 ([.nilFunc,.nilFunc]) hs (fun b23 _ _ hs=>lP 0 0 ([.func (.func 39) #[] #[pB b1],.func (.func 42) #[] #[pB b1,pB b4]]) hs (fun _ hs=>ay (lL hs [.o 33 (.agg #[.func (.func 39) #[] #[pB b1],.func (.func 42) #[] #[pB b1,pB b4]]) 0 0 2,.m 34 1] (lH 35 (uX ra ke st ba b sd) hs ((hs.f.1).part 0 14) ?_)))));refine lC 36 hs (GV inp A c l O d os p0 X cX ra ke st b sd ba bf hinp hp0 hpl hst hb hsd hl ho hq hra hke wt sg W_ hwt hW hC ds hds hPt hD hG hN hSo hbr hbn b1 b4 _ _ hs.g hs.f.q.2.1 hs.f.q.1 hs.f.r.2.1 hs.f.2.1 hs.f.1 hs.f.r.1) ?_;rintro _ _ _ hs ⟨A1,c1,A2,c2,rfl,hc1,hc2,hA1,hA2⟩;replace hs:=hs.aP hA1 hA2;exact lL hs [.v 37 (.agg #[qS A1 ((ds st).rat.length) c1,qS A2 ((ds st).rls.length) c2]),.v 38 (iV ((ds st).e))] (lP 1 0 ([qS A1 ((ds st).rat.length) c1,qS A2 ((ds st).rls.length) c2]) hs (fun _ hs=>lL hs [.m 7 38] (ae hs [(1,0,2)] (.tuple #[.agg #[qS A1 ((ds st).rat.length) c1,qS A2 ((ds st).rls.length) c2],iV ((ds st).e)]) (⟨_,_,_,_,rfl,hc1,hc2,hs.f.2.1,hs.f.1⟩))))
   have zf:=eq_of_beq zc;refine lB 27 zc (lL hs [.v 28 qT] (ar (ab hs [.v 29 (.agg #[sZ,sZ])] (lP 0 0 ([sZ,sZ]) hs (fun _ hs=>lL hs [.v 7 (iV 5)] (lN (kX ?_)))))))
   exfalso;omega
  have ze:=aU zb;refine lB 22 zb (lL hs [.m 23 22] (lG 24 ?_));refine lG 25 (lG 26 (lG 27 (lL hs [.v 28 qT] (ar (ab hs [.v 29 (.agg #[sZ,sZ])] (lP 0 0 ([sZ,sZ]) hs (fun _ hs=>lL hs [.v 7 (iV 5)] (lN (kX ?_)))))))))
  exfalso;omega
 have zd:=aU za;refine lB 11 za (lL hs [.m 12 11] (lG 13 ?_));refine lG 14 (lG 15 (lL hs [.v 16 qT] (ar (ab hs [.v 17 (.agg #[sZ,sZ])] (lP 0 0 ([sZ,sZ]) hs (fun _ hs=>lL hs [.v 7 (iV 1)] (lN (kX ?_))))))))
 exfalso;omega
theorem lU (a:Rat):bp a=jw a:=by
 unfold bp jw
 have:a.num<0↔a<0:=by rw[←Rat.not_le,←Rat.num_nonneg];omega
 by_cases h:a<0
 ·rw[if_pos h,if_pos (this.2 h)]
 ·rw[if_neg h,if_neg (fun x=>h (this.1 x))]
theorem GX:mkR 1 1000000=1/1000000:=by rw[v7 _ _ kD];rfl
theorem qn {a b:Rat}(h:a≤b):cW a b≤0:=by
 have:¬cW a b>0:=fun x=>absurd (fx.1 x) (Rat.not_lt.2 h)
 omega
theorem om {m:Nat}{ra:Rat}(hm:m<7)(h:ra=mkR ((m:Int)+1) 8):LQ 1 ra∧Mg 0 ra∧0≤1-ra∧1-ra≤7/8∧∀ st:Nat,st≤200→fb ra 0 st (0:Nat) (200:Nat):=by
 subst h;refine ⟨LQ.mkR kD oM oM kD kD,?_,?_,?_,fun st h1=>?_⟩
 ·obtain rfl|rfl|rfl|rfl|rfl|rfl|rfl:m=0∨m=1∨m=2∨m=3∨m=4∨m=5∨m=6:=by omega
  all_goals exact od.2 (by decide +kernel)
 ·obtain rfl|rfl|rfl|rfl|rfl|rfl|rfl:m=0∨m=1∨m=2∨m=3∨m=4∨m=5∨m=6:=by omega
  all_goals decide +kernel
 ·obtain rfl|rfl|rfl|rfl|rfl|rfl|rfl:m=0∨m=1∨m=2∨m=3∨m=4∨m=5∨m=6:=by omega
  all_goals decide +kernel
 ·unfold fb
  refine ⟨?_,?_,by decide,by decide +kernel,by omega,by omega,by omega,by omega,by omega,by omega⟩
  ·obtain rfl|rfl|rfl|rfl|rfl|rfl|rfl:m=0∨m=1∨m=2∨m=3∨m=4∨m=5∨m=6:=by omega
   all_goals decide +kernel
  ·obtain rfl|rfl|rfl|rfl|rfl|rfl|rfl:m=0∨m=1∨m=2∨m=3∨m=4∨m=5∨m=6:=by omega
   all_goals decide +kernel
def p5 (ra c0 c1 x0 x1:Rat)(n:Nat):DSt:=⟨0,[(gx 200 ra c0 x0 n).1,(gx 200 ra c1 x1 n).1],[(gx 200 ra c0 x0 n).2,(gx 200 ra c1 x1 n).2],oK 200 ra c0 c1 x0 x1 n⟩
section
variable {ra c0 c1 x0 x1:Rat} (hk:Mg 0 ra) (h0:LQ 1 c0) (h1:LQ 1 c1) (a0:LQ 1 x0) (a1:LQ 1 x1)
theorem EU {p:List Rat}(hp:p=[x0,x1]):p5 ra c0 c1 x0 x1=dst 2 (ej c0 c1) [10] ra 0 200 (fun _=>[0]) p:=by
 subst hp;funext n;exact (Jb (fun _=>rfl) n).symm
include hk h0 h1 a0 a1
theorem nt {k:Nat}(hn:k≤5):LQ 71 (gx 200 ra c0 x0 k).1∧LQ 71 (gx 200 ra c0 x0 k).2∧LQ 71 (gx 200 ra c1 x1 k).1∧LQ 71 (gx 200 ra c1 x1 k).2:=by
 obtain ⟨e1,e2⟩:=xm (b:=200) kD hk h0 a0 k;obtain ⟨f1,f2⟩:=xm (b:=200) kD hk h1 a1 k;exact ⟨e1.mono oM,e2.mono oM,f1.mono oM,f2.mono oM⟩
theorem El {k:Nat}(hn:k≤5):PtOk (ej c0 c1) C9 F0 (p5 ra c0 c1 x0 x1 k).at_:=by
 obtain ⟨e1,e2,f1,f2⟩:=nt hk h0 h1 a0 a1 hn;exact ⟨fun j hj i=>(C5 h0 h1 e1 f1 j hj i).mono kD,fun j hj _=>HM h0 h1 e1 f1 j hj⟩
theorem G6 {k:Nat}(hn:k≤5):(∀ j,LQ 1000 ((p5 ra c0 c1 x0 x1 k).at_.getD j 0))∧∀ j,LQ 1000 ((p5 ra c0 c1 x0 x1 k).way.getD j 0):=by
 obtain ⟨e1,e2,f1,f2⟩:=nt hk h0 h1 a0 a1 hn;exact ⟨fun j=>(n9 kD e1 f1 j).mono kD,fun j=>(n9 kD e2 f2 j).mono kD⟩
theorem Hx {k:Nat}(hn:k≤5)(j:Nat):LQ 71 ((p5 ra c0 c1 x0 x1 k).at_.getD j 0):=by
 obtain ⟨e1,e2,f1,f2⟩:=nt hk h0 h1 a0 a1 hn;exact n9 kD e1 f1 j
omit hk h0 h1 a0 a1 in
theorem vX {k:Nat}:cB 2 (ej c0 c1) [10] (p5 ra c0 c1 x0 x1 k).at_ (bQ ([10]:List Int).length [0] ([0]:List Int).length)=[(gx 200 ra c0 x0 k).1-c0,(gx 200 ra c1 x1 k).1-c1]:=pK c0 c1 _ _
theorem G4 {k:Nat}(hn:k≤5)(j:Nat):LQ 1000 ((cB 2 (ej c0 c1) [10] (p5 ra c0 c1 x0 x1 k).at_ (bQ ([10]:List Int).length [0] ([0]:List Int).length)).getD j 0):=by
 obtain ⟨e1,e2,f1,f2⟩:=nt hk h0 h1 a0 a1 hn;rw[vX];exact (n9 (K:=73) kD (e1.sub h0) (f1.sub h1) j).mono kD
theorem GY {k:Nat}(hn:k<5)(j:Nat):LQ 1000 (bR (0*(p5 ra c0 c1 x0 x1 k).way.getD j 0-ra*(cB 2 (ej c0 c1) [10] (p5 ra c0 c1 x0 x1 k).at_ (bQ ([10]:List Int).length [0] ([0]:List Int).length)).getD j 0) 200):=by
  obtain ⟨e1,e2,f1,f2⟩:=nt hk h0 h1 a0 a1 (k:=k+1) oM;rw[vX]
  match j with
  | 0=>exact e2.mono kD
  | 1=>exact f2.mono kD
  | j+2 =>
    show LQ 1000 (bR (0*0-ra*0) 200)
    have:Mg 5 ((0:Rat)*0-ra*0):=by rw[Rat.mul_zero,Rat.mul_zero];exact (Mg.sub (m:=0) (Mg.zero 0) (Mg.zero 0)).mono kD
    exact (k6 this kD).mono kD
theorem Gv {k:Nat}(hn:k≤5)(j:Nat):LQ 1000 ((oK 200 ra c0 c1 x0 x1 k).getD j 0):=by
 by_cases hj:j<k+1
 ·have e:(oK 200 ra c0 c1 x0 x1 k).getD j 0=oD ((gx 200 ra c0 x0 j).1-c0) ((gx 200 ra c1 x1 j).1-c1):=by
   unfold oK;rw[List.getD_eq_getElem?_getD,List.getElem?_map,List.getElem?_range hj];rfl
  obtain ⟨e1,e2,f1,f2⟩:=nt hk h0 h1 a0 a1 (k:=j) oM;rw[e];unfold oD;have s0:LQ 73 ((gx 200 ra c0 x0 j).1-c0):=e1.sub h0;have s1:LQ 73 ((gx 200 ra c1 x1 j).1-c1):=f1.sub h1;exact (((s0.mul s0).add (s1.mul s1)).div (b:=2) (LQ.lit (z:=2) kD)).mono kD
 ·rw[cj (by unfold oK;rw[List.length_map,List.length_range];omega)];exact nh kD
end
def FH (Y C:List Rat):Nat→Rat
  | 0=>((0:Int):Rat)
  | k+1=>FH Y C k+bp (Y.getD k 0-C.getD k 0)*bp (Y.getD k 0-C.getD k 0)
theorem rB (a:Rat):bp a*bp a=a*a:=by
 unfold bp;split
 ·grind
 ·rfl
structure GoOk (P C Y LS:List Rat) (ra:Rat) (n:Nat):Prop where
  yl:Y.length=2
  yq:∀ j,LQ 71 (Y.getD j 0)
  ll:LS.length=n+1
  lq:∀ j,LQ 1000 (LS.getD j 0)
  far:∀ i,i<2→∀ d,d=bp (P.getD i 0-C.getD i 0)*iE (((1:Int):Rat)-ra) n→cW (bp (bp (Y.getD i 0-C.getD i 0)-d)) (mkR 1 1000000)≤0
  down:∀ j,j+1<LS.length→cW (LS.getD (j+1) 0) (LS.getD j 0)≤0∨cW (LS.getD (j+1) 0) (mkR 1 1000000)≤0
  last:∀ f,f=FH Y C 2→LS.getD n 0=f/((2:Int):Rat)
theorem qr {b:Nat}{k c0 c1 p0 p1:Rat}{n j:Nat}(hj:j≤n):(oK b k c0 c1 p0 p1 n).getD j 0=oD ((gx b k c0 p0 j).1-c0) ((gx b k c1 p1 j).1-c1):=by
 unfold oK;rw[List.getD_eq_getElem?_getD,List.getElem?_map,List.getElem?_range oM];rfl
theorem rC {b:Nat}{k c0 c1 p0 p1:Rat}{n:Nat}:(oK b k c0 c1 p0 p1 n).length=n+1:=by unfold oK;rw[List.length_map,List.length_range]
theorem Du {k c x r:Rat}{n:Nat}(hr:r=1-k)(h0:0≤r)(h1:r≤7/8)(hn:n≤5):cW (bp (bp ((gx 200 k c x n).1-c)-bp (x-c)*iE (1-k) n)) (mkR 1 1000000)≤0:=by
 obtain ⟨a,b⟩:=FT (c:=c) (x0:=x) hr h0 h1 n hn;refine qn ?_;rw[lU,lU,lU,GX,←hr]
 generalize jw ((gx 200 k c x n).1-c)-jw (x-c)*iE r n=z at a b ⊢
 unfold jw
 split
 ·grind
 ·exact b
theorem GU {zv zw:List Int}{m n:Nat}{ra:Rat}(hm:m<7)(hra:ra=mkR ((m:Int)+1) 8)(hn:n≤5) :
  GoOk (aF zv 2) (aF zw 2) (p5 ra ((aF zw 2).getD 0 0) ((aF zw 2).getD 1 0) ((aF zv 2).getD 0 0) ((aF zv 2).getD 1 0) n).at_ (p5 ra ((aF zw 2).getD 0 0) ((aF zw 2).getD 1 0) ((aF zv 2).getD 0 0) ((aF zv 2).getD 1 0) n).ls ra n:=by
 obtain ⟨_,hk,r0,r1,_⟩:=om hm hra;have q:=dG;refine ⟨rfl,Hx hk (q zw 2 0) (q zw 2 1) (q zv 2 0) (q zv 2 1) hn,rC,Gv hk (q zw 2 0) (q zw 2 1) (q zv 2 0) (q zv 2 1) hn,fun i hi d hd=>?_,fun j hj=>?_,fun f hf=>?_⟩
 ·subst hd
  have:i=0∨i=1:=by omega
  rcases this with rfl|rfl
  ·exact Du rfl r0 r1 hn
  ·exact Du rfl r0 r1 hn
 ·have hj2:j+1≤n:=by have:=rC (b:=200) (k:=ra) (c0:=(aF zw 2).getD 0 0) (c1:=(aF zw 2).getD 1 0) (p0:=(aF zv 2).getD 0 0) (p1:=(aF zv 2).getD 1 0) (n:=n);change j+1<(oK _ _ _ _ _ _ _).length at hj;omega
  show cW ((oK _ _ _ _ _ _ _).getD (j+1) 0) ((oK _ _ _ _ _ _ _).getD j 0)≤0∨cW ((oK _ _ _ _ _ _ _).getD (j+1) 0) (mkR 1 1000000)≤0
  rw[qr hj2,qr oM,GX]
  rcases B8 (k:=ra) (c:=(aF zw 2).getD 0 0) (x0:=(aF zv 2).getD 0 0) (c':=(aF zw 2).getD 1 0) (x0':=(aF zv 2).getD 1 0) (r:=1-ra) rfl r0 r1 j with h|h
  ·exact .inl (qn h)
  ·exact .inr (qn h)
 ·subst hf
  show (oK _ _ _ _ _ _ _).getD n 0=_
  rw[qr (Nat.le_refl _)]
  show _=(((0:Int):Rat)+bp (_-_)*bp (_-_)+bp (_-_)*bp (_-_))/((2:Int):Rat)
  rw[rB,rB,show ((0:Int):Rat)=0 from rfl,Rat.zero_add];rfl
theorem wT {α:Type}{l:List α}{i:Nat}{d:α}(h:i<l.length):l.getD i d∈l:=by
 rw[List.getD_eq_getElem?_getD,List.getElem?_eq_getElem h];exact List.getElem_mem h
theorem tA {α:Type}{l:List α}{i:Nat}{d:α}(h:l.length≤i):l.getD i d=d:=by
 rw[List.getD_eq_getElem?_getD,List.getElem?_eq_none h];rfl
def iq (s:ByteArray):List Value:=[.string s]
inductive Tm where
  | mk (op n:Int) (q:Rat) (s:ByteArray) (ks:List Tm)
def Tm.op:Tm→Int|.mk op _ _ _ _=>op
def Tm.n:Tm→Int|.mk _ n _ _ _=>n
def Tm.q:Tm→Rat|.mk _ _ q _ _=>q
def Tm.s:Tm→ByteArray|.mk _ _ _ s _=>s
def Tm.ks:Tm→List Tm|.mk _ _ _ _ ks=>ks
def be:Tm:=.mk 0 0 0 ⟨#[]⟩ []
structure PTm where
  op:Int
  n:Int
  q:Rat
  s:ByteArray
  A:Option Addr
  m:Nat
  c:Nat
abbrev pX (p:PTm):Value:=.agg #[iV p.op,iV p.n,.bool (ai p.q.num),uV (lo (aa p.q.num)),.string (hi (aa p.q.num)),uV (lo (qd p.q)),.string (hi (qd p.q)),.string p.s,.slice p.A p.m p.c]
abbrev pC (p:PTm):List Value:=[iV p.op,iV p.n,.bool (ai p.q.num),uV (lo (aa p.q.num)),.string (hi (aa p.q.num)),uV (lo (qd p.q)),.string (hi (qd p.q)),.string p.s,.slice p.A p.m p.c]
abbrev pW (o n:Int)(q:Rat)(s:ByteArray)(A:Option Addr)(m c:Nat):Value:=.agg #[iV o,iV n,.bool (ai q.num),uV (lo (aa q.num)),.string (hi (aa q.num)),uV (lo (qd q)),.string (hi (qd q)),.string s,.slice A m c]
abbrev pG (o n:Int)(q:Rat)(s:ByteArray)(A:Option Addr)(m c:Nat):List Value:=[iV o,iV n,.bool (ai q.num),uV (lo (aa q.num)),.string (hi (aa q.num)),uV (lo (qd q)),.string (hi (qd q)),.string s,.slice A m c]
def bG:PTm:=⟨0,0,0,⟨#[]⟩,none,0,0⟩
def hJ (p:PTm):List Value:=[.int .i64 p.op,.int .i64 p.n,.bool (ai p.q.num),.int .u64 (lo (aa p.q.num)),.string (hi (aa p.q.num)),.int .u64 (lo (qd p.q)),.string (hi (qd p.q)),.string p.s,.slice p.A p.m p.c]
def oq (p:PTm):Value:=.agg #[.int .i64 p.op,.int .i64 p.n,.bool (ai p.q.num),.int .u64 (lo (aa p.q.num)),.string (hi (aa p.q.num)),.int .u64 (lo (qd p.q)),.string (hi (qd p.q)),.string p.s,.slice p.A p.m p.c]
def TmH:Nat→Hp→PTm→Tm→Prop
  | 0,_,_,_=>False
  | d+1,h,p,t=>p.op=t.op∧p.n=t.n∧p.q=t.q∧p.s=t.s∧p.m=t.ks.length∧p.m≤p.c∧∃ ps:List PTm,ps.length=t.ks.length∧SlO 9 hJ bG h p.A ps∧∀ i,i<t.ks.length→TmH d h (ps.getD i bG) (t.ks.getD i be)
theorem TmH.gw:∀ {d:Nat} {h h':Hp} {p:PTm} {t:Tm},TmH d h p t→Gw h h'→TmH d h' p t
 | 0,_,_,_,_,x,_=>x
 | d+1,_,_,_,_,⟨h1,h2,h3,h4,h5,h6,ps,h7,h8,h9⟩,u=>⟨h1,h2,h3,h4,h5,h6,ps,h7,h8.gw u,fun i hi=>TmH.gw (h9 i hi) u⟩
structure RTm where
  op:Int
  n:Int
  neg:Bool
  zA:Option Addr
  zn:Nat
  zc:Nat
  dA:Option Addr
  dn:Nat
  dc:Nat
  s:ByteArray
  A:Option Addr
  m:Nat
  c:Nat
def RTm.t (r:RTm):RT:=(r.neg,.slice r.zA r.zn r.zc,.slice r.dA r.dn r.dc)
def e9:RTm:=⟨0,0,false,none,0,0,none,0,0,⟨#[]⟩,none,0,0⟩
def kA (r:RTm):List Value:=[.int .i64 r.op,.int .i64 r.n,.bool r.neg,.slice r.zA r.zn r.zc,.slice r.dA r.dn r.dc,.string r.s,.slice r.A r.m r.c]
def F4 (r:RTm):Value:=.agg #[.int .i64 r.op,.int .i64 r.n,.bool r.neg,.slice r.zA r.zn r.zc,.slice r.dA r.dn r.dc,.string r.s,.slice r.A r.m r.c]
def RZ (h:Hp)(t:RT)(q:Rat):Prop:=∃ has:Bool,RP h (HI t) q.num (if has then q.den else 0)∧(has=false→q=0)
theorem RZ.gw {h h':Hp}{t:RT}{q:Rat}(x:RZ h t q)(u:Gw h h'):RZ h' t q:=by
 obtain ⟨hs,h1,h2⟩:=x;exact ⟨hs,h1.gw u,h2⟩
def RmH:Nat→Hp→RTm→Tm→Prop
  | 0,_,_,_=>False
  | d+1,h,r,t=>r.op=t.op∧r.n=t.n∧RZ h r.t t.q∧r.s=t.s∧r.m=t.ks.length∧r.m≤r.c∧∃ rs:List RTm,rs.length=t.ks.length∧SlO 7 kA e9 h r.A rs∧∀ i,i<t.ks.length→RmH d h (rs.getD i e9) (t.ks.getD i be)
theorem Ek {h:Hp}{b:Bool}{zA dA:Option Addr}{zn zc dn dc:Nat}{q:Rat}(x:RZ h (b,.slice zA zn zc,.slice dA dn dc) q)(p:0<dn):RP h (.agg #[.bool b,.slice zA zn zc,.slice dA dn dc]) q.num q.den:=by
 obtain ⟨hs,h1,h2⟩:=x;cases hs
 ·obtain ⟨A,c,D,d,e,hc,hd,hA,hD⟩:=h1
  injection e with e
  have e3:=congrArg (fun a:Array Value=>a.toList) e
  simp at e3
  have:dn=(lim 0).length:=e3.2.2.2.1;have h0:(lim 0).length=0:=by have:=@cC 0;omega
  omega
 ·exact h1
theorem Hq {h:Hp}{b:Bool}{zA dA:Option Addr}{zn zc dc:Nat}{q:Rat}(x:RZ h (b,.slice zA zn zc,.slice dA 0 dc) q):q=0:=by
 obtain ⟨hs,h1,h2⟩:=x;cases hs
 ·exact h2 rfl
 ·obtain ⟨A,c,D,d,e,hc,hd,hA,hD⟩:=h1
  injection e with e
  have e3:=congrArg (fun a:Array Value=>a.toList) e
  simp at e3
  have h3:0=(lim q.den).length:=e3.2.2.2.1;have h4:=(@cC q.den).2 q.den_pos
  omega
theorem RmH.gw:∀ {d:Nat} {h h':Hp} {r:RTm} {t:Tm},RmH d h r t→Gw h h'→RmH d h' r t
 | 0,_,_,_,_,x,_=>x
 | d+1,_,_,_,_,⟨h1,h2,h3,h4,h5,h6,ps,h7,h8,h9⟩,u=>⟨h1,h2,h3.gw u,h4,h5,h6,ps,h7,h8.gw u,fun i hi=>RmH.gw (h9 i hi) u⟩
structure Tms (d:Nat) (h:Hp) (ps:List PTm) (ts:List Tm):Prop where
  len:ps.length=ts.length
  at_:∀ i,i<ts.length→TmH d h (ps.getD i bG) (ts.getD i be)
theorem Tms.gw {d:Nat}{h h':Hp}{ps:List PTm}{ts:List Tm}(x:Tms d h ps ts)(u:Gw h h'):Tms d h' ps ts:=⟨x.len,fun i hi=>(x.at_ i hi).gw u⟩
structure Rms (d:Nat) (h:Hp) (rs:List RTm) (ts:List Tm):Prop where
  len:rs.length=ts.length
  at_:∀ i,i<ts.length→RmH d h (rs.getD i e9) (ts.getD i be)
theorem Rms.gw {d:Nat}{h h':Hp}{rs:List RTm}{ts:List Tm}(x:Rms d h rs ts)(u:Gw h h'):Rms d h' rs ts:=⟨x.len,fun i hi=>(x.at_ i hi).gw u⟩
theorem Rms.snoc {d:Nat}{h:Hp}{rs:List RTm}{ts:List Tm}{r:RTm}{t:Tm}(x:Rms d h rs ts)(y:RmH d h r t):Rms d h (rs++[r]) (ts++[t]):=by
 refine ⟨by simp[x.len],fun i hi=>?_⟩;rw[List.length_append,List.length_singleton] at hi
 rw[bL,bL,x.len]
 by_cases e:i<ts.length
 ·rw[if_pos e,if_pos e];exact x.at_ i e
 ·rw[if_neg e,if_neg e,if_pos oM,if_pos oM];exact y
theorem Tms.nil {d:Nat}{h:Hp}:Tms d h [] []:=⟨rfl,fun i hi=>by simp at hi⟩
theorem Tms.snoc {d:Nat}{h:Hp}{rs:List PTm}{ts:List Tm}{r:PTm}{t:Tm}(x:Tms d h rs ts)(y:TmH d h r t):Tms d h (rs++[r]) (ts++[t]):=by
 refine ⟨by simp[x.len],fun i hi=>?_⟩;rw[List.length_append,List.length_singleton] at hi
 rw[bL,bL,x.len]
 by_cases e:i<ts.length
 ·rw[if_pos e,if_pos e];exact x.at_ i e
 ·rw[if_neg e,if_neg e,if_pos oM,if_pos oM];exact y
theorem TmH.mk {d:Nat}{h:Hp}{op n:Int}{q:Rat}{s:ByteArray}{A:Option Addr}{c:Nat}{ps:List PTm}{ks:List Tm}(x:Tms d h ps ks)(hc:ps.length≤c)(hA:SlO 9 hJ bG h A ps):TmH (d+1) h ⟨op,n,q,s,A,ps.length,c⟩ (.mk op n q s ks) :=
 ⟨rfl,rfl,rfl,rfl,x.len,hc,ps,x.len,hA,x.at_⟩
theorem TmH.open {d:Nat}{h:Hp}{p:PTm}{t:Tm}(x:TmH (d+1) h p t):∃ op n q s A c,∃ ps:List PTm,∃ ks:List Tm,p=⟨op,n,q,s,A,ps.length,c⟩∧t=.mk op n q s ks∧ps.length≤c∧SlO 9 hJ bG h A ps∧Tms d h ps ks:=by
  obtain ⟨op,n,q,s,A,m,c⟩:=p;cases t with
  | mk op2 n2 q2 s2 ks =>
    obtain ⟨h1,h2,h3,h4,h5,h6,ps,h7,h8,h9⟩:=x;obtain rfl:op=op2:=h1;obtain rfl:n=n2:=h2;obtain rfl:q=q2:=h3;obtain rfl:s=s2:=h4;obtain rfl:m=ps.length:=(show m=ks.length from h5).trans h7.symm;exact ⟨op,n,q,s,A,c,ps,ks,rfl,rfl,h6,h8,h7,h9⟩
theorem RmH.mono {h:Hp}{d e:Nat}{p:RTm}{t:Tm}(x:RmH d h p t)(u:d≤e):RmH e h p t:=by
  induction d generalizing e p t with
  | zero=>exact x.elim
  | succ d ih =>
    cases e with
    | zero=>omega
    | succ e =>
      obtain ⟨h1,h2,h3,h4,h5,h6,ps,h7,h8,h9⟩:=x;exact ⟨h1,h2,h3,h4,h5,h6,ps,h7,h8,fun i hi=>ih (h9 i hi) oM⟩
theorem RmH.open {d:Nat}{h:Hp}{p:RTm}{t:Tm}(x:RmH (d+1) h p t):∃ op n b zA zn zc dA dn dc q s A c,∃ ps:List RTm,∃ ks:List Tm,p=⟨op,n,b,zA,zn,zc,dA,dn,dc,s,A,ps.length,c⟩∧t=.mk op n q s ks∧RZ h (b,.slice zA zn zc,.slice dA dn dc) q∧ps.length≤c∧SlO 7 kA e9 h A ps∧Rms d h ps ks:=by
  obtain ⟨op,n,b,zA,zn,zc,dA,dn,dc,s,A,m,c⟩:=p;cases t with
  | mk op2 n2 q2 s2 ks =>
    obtain ⟨h1,h2,h3,h4,h5,h6,ps,h7,h8,h9⟩:=x;obtain rfl:op=op2:=h1;obtain rfl:n=n2:=h2;obtain rfl:s=s2:=h4;obtain rfl:m=ps.length:=(show m=ks.length from h5).trans h7.symm;exact ⟨op,n,b,zA,zn,zc,dA,dn,dc,q2,s,A,c,ps,ks,rfl,rfl,h3,h6,h8,h7,h9⟩
def de (f:Nat→Nat):Nat→Nat
  | 0=>0
  | k+1=>de f k+f k
def d9 (n:Int):Nat:=if n.natAbs≤1 then 1 else n.natAbs
def je:Nat→Tm→Nat
  | 0,_=>0
  | d+1,t=>if t.ks.length=0 then 1 else (if t.op=11 then 2 else if t.op=8 then d9 t.n else 1)*de (fun i=>je d (t.ks.getD i be)) t.ks.length
def WfT (ok:ByteArray→Prop):Nat→Tm→Prop
  | 0,_=>False
  | d+1,t=>dD t.op=t.ks.length∧(t.op≠1→t.q=0)∧LQ 1 t.q∧(t.op=2→ok t.s)∧(t.op≠2→t.s=⟨#[]⟩)∧(t.op≠8→t.n=0) ∧ -12≤t.n∧t.n≤12∧∀ i,i<t.ks.length→WfT ok d (t.ks.getD i be)
def rO (sm:ByteArray→Prop):Nat→Tm→Prop
  | 0,_=>False
  | d+1,t=>t.ks.length≤3∧(-1000≤t.op∧t.op≤1000)∧(-1000≤t.n∧t.n≤1000)∧LQ 1 t.q∧sm t.s∧∀ i,i<t.ks.length→rO sm d (t.ks.getD i be)
theorem WfT.sm {ok sm:ByteArray→Prop}(h:∀ s,ok s→sm s)(h0:sm ⟨#[]⟩):∀ {d:Nat} {t:Tm},WfT ok d t→rO sm d t
  | d+1,t,⟨h1,h2,h3,h4,h5,h6,h7,h8,h9⟩=>by
    have hc:=aG t.op;refine ⟨by omega,⟨by omega,by omega⟩,⟨by omega,by omega⟩,h3,?_,fun i hi=>WfT.sm h h0 (h9 i hi)⟩
    by_cases e:t.op=2
    · exact h _ (h4 e)
    · rw[h5 e];exact h0
def Iz (isb:ByteArray→Bool)(op n:Int)(q:Rat)(s:ByteArray)(m:Nat):Prop:=dD op=m∧(op=1∨q.num=0)∧((op=2→isb s=true)∧(op≠2→s=⟨#[]⟩))∧((op=8∨n=0) ∧ -12≤n∧n≤12)
section
variable {isb:ByteArray→Bool} {d:Nat} {op n:Int} {q:Rat} {s:ByteArray} {ks:List Tm}
theorem Ce (w:WfT (fun s=>isb s=true) (d+1) (.mk op n q s ks)):Iz isb op n q s ks.length:=by
 obtain ⟨h1,h2,h3,h4,h5,h6,h7,h8,h9⟩:=w;refine ⟨h1,?_,⟨h4,h5⟩,?_,h7,h8⟩
 ·by_cases e:op=1
  ·exact .inl e
  ·exact .inr (Rat.num_eq_zero.2 (h2 e))
 ·by_cases e:op=8
  ·exact .inl e
  ·exact .inr (h6 e)
theorem rj (h:¬Iz isb op n q s ks.length):∃ bb,Value.bool false=.bool bb∧(bb=true↔WfT (fun s=>isb s=true) (d+1) (.mk op n q s ks)):=⟨false,rfl,fun h_=>(by cases h_),fun w=>absurd (Ce w) h⟩
theorem Gj {k:Nat}(hk:k<ks.length){bk:Bool}(hb:bk=false)(h:bk=true↔WfT (fun s=>isb s=true) d (ks.getD k be)):∃ bb,Value.bool false=.bool bb∧(bb=true↔WfT (fun s=>isb s=true) (d+1) (.mk op n q s ks)):=⟨false,rfl,fun h_=>(by cases h_),fun ⟨_,_,_,_,_,_,_,_,h9⟩=>by rw[h.2 (h9 k hk)] at hb;cases hb⟩
theorem GO (h:Iz isb op n q s ks.length)(hq:LQ 1 q)(hW:∀ i,i<ks.length→WfT (fun s=>isb s=true) d (ks.getD i be)):∃ bb,Value.bool true=.bool bb∧(bb=true↔WfT (fun s=>isb s=true) (d+1) (.mk op n q s ks)):=by
 obtain ⟨h1,h2,⟨h4,h5⟩,h6,h7,h8⟩:=h;refine ⟨true,rfl,fun _=>⟨h1,fun e=>Rat.num_eq_zero.1 (h2.resolve_left e),hq,h4,h5,fun e=>h6.resolve_left e,h7,h8,hW⟩,fun _=>rfl⟩
end
def nP (nm:Int→ByteArray)(l:List Stp):Nat→Nat→Tm
  | 0,_=>be
  | f+1,i =>
    if (l.getD i ac).op=2 then .mk 2 0 0 (nm (l.getD i ac).n) []
    else if dD (l.getD i ac).op=1 then .mk (l.getD i ac).op (l.getD i ac).n 0 ⟨#[]⟩ [nP nm l f (l.getD i ac).a.toNat]
    else if dD (l.getD i ac).op=2 then .mk (l.getD i ac).op 0 0 ⟨#[]⟩ [nP nm l f (l.getD i ac).a.toNat,nP nm l f (l.getD i ac).b.toNat]
    else .mk (l.getD i ac).op 0 (l.getD i ac).q ⟨#[]⟩ []
theorem jA {nm:Int→ByteArray}{l:List Stp}{inp:Int}(hF:∀ k,k<l.length→Formed inp k (l.getD k ac)):∀ (f g i:Nat),i<f→i<g→i<l.length→nP nm l f i=nP nm l g i
  | f + 1,g+1,i,hf,hg,hi=>by
    obtain ⟨o1,o2,o3,_⟩:=(hF i hi).opr
    unfold nP
    split
    · rfl
    · split
      · rename_i h1
        have ha:=o1 oM;rw[jA hF f g _ oM oM oM]
      · split
        · rename_i h1 h2
          have ha:=o1 oM;have hb:=o2 oM;rw[jA hF f g _ oM oM oM,jA hF f g (l.getD i ac).b.toNat oM oM oM]
        · rfl
structure MapJ (h0:Hp) (B:List Bx) (w:World) (h:Hp) (b:Nat) (es:List MapEntry) (clk:Nat):Prop where
  obj:w.heap[b]?=some (.map es.toArray clk)
  jk:h[b]?=some bI
  lo:h0.size≤b
  nb:∀ x∈B,x.b≠b
def MapS (h:Hp)(b:Nat)(es:List MapEntry):Prop:=∃ clk,h[b]?=some (.map es.toArray clk)
theorem MapS.gw {h h':Hp}{b:Nat}{es:List MapEntry}(x:MapS h b es)(u:Gw h h'):MapS h' b es:=by
 obtain ⟨c,e⟩:=x;refine ⟨c,?_⟩
 rcases u.blk b (aN e) with k|k
 ·exact k.trans e
 ·rw[e] at k;cases k
theorem MapS.w {w:World}{h:Hp}{b:Nat}{es:List MapEntry}(x:MapS h b es)(g:G w h):∃ clk,w.heap[b]?=some (.map es.toArray clk):=by
 obtain ⟨c,e⟩:=x;refine ⟨c,?_⟩
 rcases g.blk b with k|k
 ·rw[←k];exact e
 ·rw[e] at k;cases k
theorem rz {P:Program}(w:World){mty kt et:TypeId}{b clk:Nat}{es:Array MapEntry}{s:ByteArray}{val:Value}(hm:P.underlying mty=some (.map kt et))(hk:P.underlying kt=some .string)(hb:w.heap[b]?=some (.map es clk))(hf:Instr.findNow .string (.string s) es.toList 0=some none) :
  (Instr.mapUpdate mty (.map (some b)) (.string s) val).run P w=.ok () { w with heap:=w.heap.setIfInBounds b (.map (es.push { key:=.string s,val:=val,born:=clk }) (clk+1)) }:=by
 have hc:(Instr.checkKey false 10000 kt (.string s)).run P w=.ok () w:=MapKept.run_checkKey (k:=.string s) hk (by simp[MapKept.IsKey]) false 9999
 simp[Instr.mapUpdate,run_underlying hm,MapKept.run_getObj_map hb,hc,MapKept.run_findKey hk hf,MapKept.run_setObj_map _ hb,Result.andThen]
theorem vM {P:Program}(w:World){mty kt et:TypeId}{b clk i:Nat}{es:Array MapEntry}{s:ByteArray}{val v0:Value}(hm:P.underlying mty=some (.map kt et))(hk:P.underlying kt=some .string)(hb:w.heap[b]?=some (.map es clk))(hf:Instr.findNow .string (.string s) es.toList 0=some (some (i,v0)))(he:((es[i]?).map (·.key)).getD (.string s)=.string s) :
  (Instr.mapUpdate mty (.map (some b)) (.string s) val).run P w=.ok () { w with heap:=w.heap.setIfInBounds b (.map (es.modify i fun e=>{ e with key:=.string s,val:=val }) clk) }:=by
 have hc:(Instr.checkKey false 10000 kt (.string s)).run P w=.ok () w:=MapKept.run_checkKey (k:=.string s) hk (by simp[MapKept.IsKey]) false 9999;have hq:(s == s)=true:=by first|exact beq_self_eq_true s|(show (s.data == s.data)=true;exact beq_self_eq_true _)|(cases s;rfl)
 have hs:Instr.sameBits 10000 (.string s) (.string s)=true:=by simp[Instr.sameBits,hq]
 simp[Instr.mapUpdate,run_underlying hm,MapKept.run_getObj_map hb,hc,MapKept.run_findKey hk hf,MapKept.run_setObj_map _ hb,Result.andThen,he,Instr.keyThatStays,hs]
theorem wV {P:Program}(w:World){mty kt et:TypeId}{b clk:Nat}{es:Array MapEntry}{s:ByteArray}(ok:Bool){v:Value}{found:Bool}(hm:P.underlying mty=some (.map kt et))(hk:P.underlying kt=some .string)(hb:w.heap[b]?=some (.map es clk))
  (hf:(∃ i,Instr.findNow .string (.string s) es.toList 0=some (some (i,v))∧found=true)∨(Instr.findNow .string (.string s) es.toList 0=some none∧found=false∧(zeroValue et).run P w=.ok v w)) :
  (Instr.lookup mty (.map (some b)) (.string s) ok).run P w=.ok (if ok then .tuple #[v,.bool found] else v) w:=by
 have hc:(Instr.checkKey es.isEmpty 10000 kt (.string s)).run P w=.ok () w:=MapKept.run_checkKey (k:=.string s) hk (by simp[MapKept.IsKey]) _ 9999
 rcases hf with ⟨i,hf,rfl⟩|⟨hf,rfl,hz⟩
 ·simp[Instr.lookup,run_underlying hm,MapKept.run_getObj_map hb,hc,MapKept.run_findKey hk hf,Result.andThen]
 ·simp[Instr.lookup,run_underlying hm,MapKept.run_getObj_map hb,hc,MapKept.run_findKey hk hf,hz,Result.andThen]
theorem B5 {w:World}{b:Nat}{o o':Obj}(hb:w.heap[b]?=some o):Put b w { w with heap:=w.heap.setIfInBounds b o' }∧({ w with heap:=w.heap.setIfInBounds b o' }:World).heap[b]?=some o':=by
 have hlt:b<w.heap.size:=(Array.getElem?_eq_some_iff.1 hb).1;refine ⟨⟨rfl,rfl,rfl,by simp,fun c hc=>by show (w.heap.setIfInBounds b o')[c]?=_;rw[Array.getElem?_setIfInBounds_ne (Ne.symm hc)]⟩,?_⟩
 show (w.heap.setIfInBounds b o')[b]?=_
 rw[Array.getElem?_setIfInBounds_self_of_lt hlt]
def vg (s t:ByteArray):Bool:=s.toList == t.toList
def oS (s t:ByteArray):Bool:=!(s.toList == t.toList)
theorem Fx {s t:ByteArray}(h:vg s t=true):s=t:=by
 have e:=eq_of_beq (show (s.toList == t.toList)=true from h);rw[Lib.toList_data,Lib.toList_data] at e
 cases s;cases t;congr 1;exact Array.toList_inj.1 e
theorem Ed {s t:ByteArray}(h:vg s t=false):¬s=t:=fun e=>by
 subst e;have:vg s s=true:=beq_self_eq_true _;rw[this] at h;cases h
theorem BY {s t:ByteArray}(h:oS s t=true):¬s=t:=Ed (by unfold oS at h;unfold vg;cases e:(s.toList == t.toList)<;>rw[e] at h<;>first|rfl|cases h)
theorem Cf {s t:ByteArray}(h:oS s t=false):s=t:=Fx (by unfold oS at h;unfold vg;cases e:(s.toList == t.toList)<;>rw[e] at h<;>first|rfl|cases h)
section laws
variable {P:Program} {n:Nat} {N R:Po} {X:Nat→Po} {ops:Array Oper} {k:Nat} {Γ:cO} {w:World} {h:Hp} {w0:World} {h0:Hp} {B:List Bx} {Rs:List Rw} {F:List (Hp→Prop)}
theorem SS.pokeJ (s:SS w0 h0 w h B [] F){b:Nat}{w':World}(hj:h[b]?=some bI)(hl:h0.size≤b)(hn:∀ x∈B,x.b≠b)(p:Put b w w'):SS w0 h0 w' h B [] F :=
 ⟨s.g0,⟨s.st.up.put p hj hl s.g0.size,fun x hx=>(p.blk _ (hn x hx)).trans (s.st.own x hx),s.st.jk,s.st.lo,s.st.nd⟩,fun _ hx=>(by cases hx),.nil,s.mo,s.f⟩
theorem I9 (t:Nat)(s:SS w0 h0 w h B Rs F)(H:∀ b w' h',SS w0 h0 w' h' B Rs F→MapJ h0 B w' h' b [] 0→LG P n N R X ops (k+1) ((t,.map (some b))::Γ) w')(hc:cL ops Γ k t n=true:=by kernel_rfl)
  (hr:(execOp (ev Γ) (av ops k)).run P w=.ok (.value (.map (some w.heap.size))) (w.alloc (.map #[] 0)):=by kernel_rfl):LG P n N R X ops k Γ w:=by
 have u:Up w h (w.alloc (.map #[] 0)) (h.push bI):=Up.allocAny s.g _ _ (.inr rfl);refine LG.val t _ _ (bT hc).1 (bT hc).2 hr (H _ _ _ (s.step u) ⟨?_,?_,?_,fun x hx e=>?_⟩)
 ·rw[heap_alloc];exact Array.getElem?_push_size
 ·rw[s.g.size];exact Array.getElem?_push_size
 ·rw[s.g.size];exact s.st.sz
 ·have:=aN (s.st.jk x hx)
  have:=s.g.size
  omega
theorem Fp {b clk:Nat}{es:List MapEntry}(mty kt et:TypeId)(ky:ByteArray)(val:Value)(s:SS w0 h0 w h B [] F)(m:MapJ h0 B w h b es clk)(H:∀ w',SS w0 h0 w' h B [] F→MapJ h0 B w' h b (es++[⟨.string ky,val,clk⟩]) (clk+1)→LG P n N R X ops (k+1) Γ w')
  (hc:cS ops Γ k=true:=by kernel_rfl)(hx:execOp (ev Γ) (av ops k)=(do Instr.mapUpdate mty (.map (some b)) (.string ky) val;pure .skip):=by kernel_rfl)(hu:P.underlying mty=some (.map kt et):=by kernel_rfl)(hk:P.underlying kt=some .string:=by kernel_rfl)(hf:Instr.findNow .string (.string ky) es 0=some none:=by kernel_rfl):LG P n N R X ops k Γ w:=by
 have hr:=rz w (val:=val) hu hk m.obj hf;obtain ⟨p,ho⟩:=B5 (o':=.map (es.toArray.push { key:=.string ky,val:=val,born:=clk }) (clk+1)) m.obj;refine LG.store _ (jI hc).1 (jI hc).2 ?_ (H _ (s.pokeJ m.jk m.lo m.nb p) ⟨?_,m.jk,m.lo,m.nb⟩)
 ·rw[hx];simp[hr,Result.andThen]
 ·rw[ho];simp
theorem Ic (t:Nat){b:Nat}{es:List MapEntry}(mty kt et:TypeId)(ky:ByteArray)(ok:Bool)(v:Value)(found:Bool)(s:SS w0 h0 w h B Rs F)(m:MapS h b es)(H:LG P n N R X ops (k+1) ((t,if ok then .tuple #[v,.bool found] else v)::Γ) w)(hc:cL ops Γ k t n=true:=by kernel_rfl)
  (hx:execOp (ev Γ) (av ops k)=(do pure (.value (←Instr.lookup mty (.map (some b)) (.string ky) ok))):=by kernel_rfl)(hu:P.underlying mty=some (.map kt et):=by kernel_rfl)(hk:P.underlying kt=some .string:=by kernel_rfl)
  (hf:(∃ i,Instr.findNow .string (.string ky) es 0=some (some (i,v))∧found=true)∨(Instr.findNow .string (.string ky) es 0=some none∧found=false∧∀ w,(zeroValue et).run P w=.ok v w)):LG P n N R X ops k Γ w:=by
 obtain ⟨clk,hm⟩:=m.w s.g;refine LG.val t _ w (bT hc).1 (bT hc).2 ?_ H;rw[hx];have hr:=wV w ok (v:=v) (found:=found) hu hk hm (hf.imp id fun h=>⟨h.1,h.2.1,h.2.2 w⟩)
 simp[hr,Result.andThen]
theorem Jh (t:Nat){b:Nat}{es:List MapEntry}(mty ty kt et:TypeId)(s:SS w0 h0 w h B Rs F)(m:MapS h b es)(H:LG P n N R X ops (k+1) ((t,.int .i64 (es.length:Nat))::Γ) w)(hc:cL ops Γ k t n=true:=by kernel_rfl)
  (hx:execOp (ev Γ) (av ops k)=(do pure (.value (←Builtin.len_ #[mty] ty #[.map (some b)]))):=by kernel_rfl)(hu:P.underlying mty=some (.map kt et):=by kernel_rfl):LG P n N R X ops k Γ w:=by
 obtain ⟨clk,hm⟩:=m.w s.g;refine LG.val t _ w (bT hc).1 (bT hc).2 ?_ H;rw[hx]
 have hr:(Builtin.len_ #[mty] ty #[.map (some b)]).run P w=.ok (goInt es.toArray.size) w:=by
  simp[Builtin.len_,run_underlying hu,MapKept.run_getObj_map hm,Result.andThen]
 simp[hr,Result.andThen,goInt]
theorem SS.pubMap {b clk:Nat}{es:List MapEntry}(s:SS w0 h0 w h B [] F)(m:MapJ h0 B w h b es clk):∃ h',SS w0 h0 w h' B [] F∧MapS h' b es:=by
 have hlt:=aN m.jk;refine ⟨h.setIfInBounds b (.map es.toArray clk),⟨s.g0,⟨⟨s.st.up.ext,⟨by simp;exact s.st.up.gr.size,fun c hc=>?_⟩,⟨by simp;exact s.st.up.g.size,fun c=>?_⟩⟩,s.st.own,fun x hx=>?_,s.st.lo,s.st.nd⟩,fun _ hx=>(by cases hx),.nil,s.mo,s.f.gw s.mo ⟨by simp,fun c _=>?_⟩⟩,clk,?_⟩
 ·have:=m.lo
  rw[Array.getElem?_setIfInBounds_ne oM];exact s.st.up.gr.blk c hc
 ·by_cases e:b=c
  ·subst e;left;rw[Array.getElem?_setIfInBounds_self_of_lt hlt];exact m.obj.symm
  ·rw[Array.getElem?_setIfInBounds_ne e];exact s.st.up.g.blk c
 ·rw[Array.getElem?_setIfInBounds_ne (Ne.symm (m.nb x hx))];exact s.st.jk x hx
 ·by_cases e:b=c
  ·subst e;exact .inr m.jk
  ·left;rw[Array.getElem?_setIfInBounds_ne e]
 ·rw[Array.getElem?_setIfInBounds_self_of_lt hlt]
end laws
theorem gC (f:Nat→Nat){a b:Nat}(h:a≤b):de f a≤de f b:=by
 induction h with
 | refl=>exact Nat.le_refl _
 | step _ ih=>exact Nat.le_trans ih (Nat.le_add_right _ _)
def tF (op n:Int):Nat:=if op=11 then 2 else if op=8 then d9 n else 1
theorem jF (op n:Int):1≤tF op n:=by
 unfold tF d9
 split
 ·omega
 ·split
  ·split<;>omega
  ·omega
theorem H7 {d:Nat}{op n:Int}{q:Rat}{s:ByteArray}{ks:List Tm}(h:ks.length=0):je (d+1) (.mk op n q s ks)=1:=if_pos h
theorem sE {d:Nat}{op n:Int}{q:Rat}{s:ByteArray}{ks:List Tm}(h:ks.length≠0):je (d+1) (.mk op n q s ks)=tF op n*de (fun i=>je d (ks.getD i be)) ks.length:=if_neg h
theorem DP {d:Nat}{op n:Int}{q:Rat}{s:ByteArray}{ks:List Tm}(h:ks.length≠0):de (fun i=>je d (ks.getD i be)) ks.length≤je (d+1) (.mk op n q s ks):=by
 rw[sE h];exact Nat.le_mul_of_pos_left _ (jF op n)
theorem lz {m s:Nat}(h:1≤m):min (m*min s 1001) 1001=min (m*s) 1001:=by
 rcases Nat.le_total s 1001 with e|e
 ·rw[Nat.min_eq_left e]
 ·rw[Nat.min_eq_right e,Nat.min_eq_right (Nat.le_trans e (Nat.le_mul_of_pos_left _ h)),Nat.min_eq_right (Nat.le_mul_of_pos_left _ h)]
theorem AI (op:Int)(w:World)(h:Hp)(g:G w h):CV 128 #[iV op] w h (iV (dD op)):=by
 have hs:=sS g;refine go Tryz.func128 [(0,iV op)] rfl (ab hs [.v 2 (iV 0)] (af (ab hs [.m 3 0] (bd (cQ (aD ?_))))));cases hb1:((op:Int) == (1:Int))
 ·
  have phb1:=aj hb1;refine lB 5 hb1 (lL hs [.m 4 5] (am (kQ ?_)));cases hb2:((op:Int) == (2:Int))
  ·
   have phb2:=aj hb2;refine lB 6 hb2 (lL hs [.m 4 6] (am (cQ (aD ?_))));cases hb3:((op:Int) == (7:Int))
   ·
    have phb3:=aj hb3;refine lB 8 hb3 (lL hs [.m 7 8] (am (aD ?_)));cases hb4:((op:Int) == (8:Int))
    ·
     have phb4:=aj hb4;refine lB 9 hb4 (lL hs [.m 7 9] (am (aD ?_)));cases hb5:((op:Int) == (9:Int))
     ·
      have phb5:=aj hb5;refine lB 10 hb5 (lL hs [.m 7 10] (am (aD ?_)));cases hb6:((op:Int) == (10:Int))
      ·
       have phb6:=aj hb6;refine lB 11 hb6 (lL hs [.m 7 11] (am (kQ ?_)));cases hb7:((op:Int) == (11:Int))
       ·
        have phb7:=aj hb7;refine lB 12 hb7 (lL hs [.m 7 12] (am (cQ (aD ?_))));cases hb8:((op:Int) == (3:Int))
        ·
         have phb8:=aj hb8;refine lB 14 hb8 (lL hs [.m 13 14] (am (aD ?_)));cases hb9:((op:Int) == (4:Int))
         ·
          have phb9:=aj hb9;refine lB 15 hb9 (lL hs [.m 13 15] (am (aD ?_)));cases za:((op:Int) == (5:Int))
          ·
           have ze:=aj za;refine lB 16 za (lL hs [.m 13 16] (am (aD ?_)));cases zb:((op:Int) == (6:Int))
           ·
            have zf:=aj zb;refine lB 17 zb (lL hs [.m 13 17] (am (aD ?_)));cases zc:((op:Int) == (12:Int))
            ·
             have zg:=aj zc;refine lB 18 zc (lL hs [.m 13 18] (am (kQ ?_)));cases zd:((op:Int) == (13:Int))
             ·
              have zi:=aj zd;exact lB 19 zd (lL hs [.m 13 19] (am (cK (ab hs [.v 2 (iV (-1))] (ae hs [] (iV (-1)) (congrArg (Value.int .i64) (by have:=aG op;omega)))))))
             have zi:=eq_of_beq zd;exact lB 19 zd (lL hs [.m 13 19] (ar (ab hs [.v 2 (iV 2)] (ae hs [] (iV 2) (congrArg (Value.int .i64) (by have:=aG op;omega))))))
            have zg:=eq_of_beq zc;exact lB 18 zc (lL hs [.m 13 18] (ar (cK (cI (ab hs [.v 2 (iV 2)] (ae hs [] (iV 2) (congrArg (Value.int .i64) (by have:=aG op;omega))))))))
           have zf:=eq_of_beq zb;exact lB 17 zb (lL hs [.m 13 17] (ar (cK (cI (ab hs [.v 2 (iV 2)] (ae hs [] (iV 2) (congrArg (Value.int .i64) (by have:=aG op;omega))))))))
          have ze:=eq_of_beq za;exact lB 16 za (lL hs [.m 13 16] (ar (cK (cI (ab hs [.v 2 (iV 2)] (ae hs [] (iV 2) (congrArg (Value.int .i64) (by have:=aG op;omega))))))))
         have phb9:=eq_of_beq hb9;exact lB 15 hb9 (lL hs [.m 13 15] (ar (cK (cI (ab hs [.v 2 (iV 2)] (ae hs [] (iV 2) (congrArg (Value.int .i64) (by have:=aG op;omega))))))))
        have phb8:=eq_of_beq hb8;exact lB 14 hb8 (lL hs [.m 13 14] (ar (cK (cI (ab hs [.v 2 (iV 2)] (ae hs [] (iV 2) (congrArg (Value.int .i64) (by have:=aG op;omega))))))))
       have phb7:=eq_of_beq hb7;exact lB 12 hb7 (lL hs [.m 7 12] (ar (ab hs [.v 2 (iV 1)] (ae hs [] (iV 1) (congrArg (Value.int .i64) (by have:=aG op;omega))))))
      have phb6:=eq_of_beq hb6;exact lB 11 hb6 (lL hs [.m 7 11] (ar (cK (cI (ab hs [.v 2 (iV 1)] (ae hs [] (iV 1) (congrArg (Value.int .i64) (by have:=aG op;omega))))))))
     have phb5:=eq_of_beq hb5;exact lB 10 hb5 (lL hs [.m 7 10] (ar (cK (cI (ab hs [.v 2 (iV 1)] (ae hs [] (iV 1) (congrArg (Value.int .i64) (by have:=aG op;omega))))))))
    have phb4:=eq_of_beq hb4;exact lB 9 hb4 (lL hs [.m 7 9] (ar (cK (cI (ab hs [.v 2 (iV 1)] (ae hs [] (iV 1) (congrArg (Value.int .i64) (by have:=aG op;omega))))))))
   have phb3:=eq_of_beq hb3;exact lB 8 hb3 (lL hs [.m 7 8] (ar (cK (cI (ab hs [.v 2 (iV 1)] (ae hs [] (iV 1) (congrArg (Value.int .i64) (by have:=aG op;omega))))))))
  have phb2:=eq_of_beq hb2;exact lB 6 hb2 (lL hs [.m 4 6] (ar (ab hs [.v 2 (iV 0)] (ae hs [] (iV 0) (congrArg (Value.int .i64) (by have:=aG op;omega))))))
 have phb1:=eq_of_beq hb1;exact lB 5 hb1 (lL hs [.m 4 5] (ar (cK (cI (ab hs [.v 2 (iV 0)] (ae hs [] (iV 0) (congrArg (Value.int .i64) (by have:=aG op;omega))))))))
theorem EF (n:Int)(h0 : -12≤n)(h1:n≤12)(w:World)(h:Hp)(g:G w h):CV 129 #[iV n] w h (nV (d9 n)):=by
 have hs:=sS g;refine go Tryz.func129 [(0,iV n)] rfl (ab hs [.v 2 (iV 0)] (af (ab hs [.m 3 0] ?_)));cases hb1:(decide ((n:Int)≤(-1073741824:Int)))
 ·
  have phb1:=oF hb1;refine lB 4 hb1 (lL hs [.m 5 4,.m 6 0] ?_);cases hb2:(decide ((1073741824:Int)≤(n:Int)))
  ·
   have phb2:=oF hb2;refine lB 7 hb2 (lL hs [.v 8 qF] (am (cK (ab hs [.m 9 0,.m 10 0] (lI 11 (0-n) ?_)))));refine lV 12 (iV (max (max (n:Int) (0-n:Int)) (1:Int))) ?_ (hr:=aW (n:=(if (1:Int)>(if (0-n:Int)>(n:Int) then (0-n:Int) else (n:Int)) then (1:Int) else (if (0-n:Int)>(n:Int) then (0-n:Int) else (n:Int)))) kR (by simp only[mO]));exact lL hs [.m 2 12] (ae hs [] (iV (max (max (n:Int) (0-n:Int)) (1:Int))) (congrArg (Value.int .i64) (by unfold d9;(repeat' split)<;>omega)))
  have phb2:=oT hb2;exact lB 7 hb2 (lL hs [.v 8 qT] (ar (ab hs [.v 2 (iV 1073741824)] (ae hs [] (iV 1073741824) (congrArg (Value.int .i64) (by unfold d9;(repeat' split)<;>omega))))))
 have phb1:=oT hb1;refine lB 4 hb1 (lL hs [.m 5 4] (lG 6 ?_));exact lG 7 (lL hs [.v 8 qT] (ar (ab hs [.v 2 (iV 1073741824)] (ae hs [] (iV 1073741824) (congrArg (Value.int .i64) (by unfold d9;(repeat' split)<;>omega))))))
theorem xb  (sm:ByteArray→Prop)(d:Nat)(ih:∀ (p:PTm) (t:Tm) (most:Int) (w:World) (h:Hp),G w h→TmH d h p t→rO sm d t→(d:Int)≤most→most≤1000→Calls Tryz.prog 74 #[oq p,iV most] w (Ret w h (fun v _=>v=.bool false)))(op n:Int)(q:Rat)(s:ByteArray)(A:Option Addr)(c:Nat)(ps:List PTm)(ks:List Tm)(hc:ps.length≤c)(hlp:ps.length≤3)(hk3:ks.length≤3)(hop : -1000≤op∧op≤1000)(hn : -1000≤n∧n≤1000)(hq:LQ 1 q)(hsm:sm s)(hW:∀ i,i<ks.length→rO sm d (ks.getD i be))(most:Int)(hm:((d+1:Nat):Int)≤most)(hm2:most≤1000)(w:World)(h:Hp)(g:G w h)(hK:SlO 9 hJ bG h A ps)(hKs:Tms d h ps ks):CV 74 #[pW op n q s A ps.length c,iV most] w h (.bool false):=by
 have hs:=(((sS g).aS hK).add (K:=fun h_=>Tms d h_ ps ks) hKs);have hln:=(hs.f.1).len;refine go Tryz.func74 [(0,pW op n q s A ps.length c),(1,iV most)] rfl (aD (lA 2 42 (pG op n q s A ps.length c) hs (fun b1 w2 h3 hs=>lL hs [.v 4 qF] (af (ab hs [.m 7 1] ?_)))));cases hb4:(decide ((most:Int)<(1:Int)))
 ·
  have phb4:=oF hb4;refine lB 8 hb4 (am (cK (cQ (ab hs [.v 9 (qP b1 8),.o 10 (qS A ps.length c) 0 8 1,.v 11 (nV ps.length),.v 12 (iV 0)] (bd ?_)))));refine bD _ (CG.loop (fun μ_ Γ w_=>∃ (k:Nat) (h_:Hp),μ_=ps.length-k∧Γ=[(1,iV most),(10,qS A ps.length c),(11,nV ps.length),(12,nV k)]∧SS w h w_ h_ [⟨b1,42,pG op n q s A ps.length c⟩] [] [fun h_=>Tms d h_ ps ks,fun h_=>SlO 9 hJ bG h_ A ps]∧k≤ps.length) _ ⟨0,h3,rfl,rfl,hs.to _ _,Nat.zero_le _⟩ ?_);rintro _ _ w5 ⟨k,h6,hm7,rfl,hs,hk⟩;refine aD ?_;cases hb8:(decide ((k:Int)<(ps.length:Int)))
  ·
   have phb8:=oF hb8;refine lB 13 hb8 (af (dK (CG.exit ?_)))
   show CG _ _ _ _ _ _ _ _
   exact ab hs [.v 4 qF] (ae hs [] qF rfl)
  have phb8:=oT hb8;refine lB 13 hb8 (af (cI (cK (cQ (kZ (aD (lX 14 A ps.length c 9 (k:Nat) k ((hs.f.2.1).ok oM) ?_)))))));refine lH 15 (pX (ps.getD k bG)) hs ((hs.f.2.1).el k oM) (lA 6 42 ([iV 0,iV 0,qF,uV 0,eS,uV 0,eS,eS,sZ]) hs (fun b9 _ _ hs=>lP 0 0 (pC (ps.getD k bG)) hs (fun _ hs=>ay (lL hs [.o 16 (pX (ps.getD k bG)) 0 0 9,.m 17 1] (lI 18 (most-1) ?_)))));refine ah 19 hs (ih (ps.getD k bG) (ks.getD k be) (most-1) _ _ hs.g ((hs.f.1).at_ k oM) (hW k oM) oM oM) (fun _ za hs=>am (cK (kQ (bw 20 ((k:Nat)+1) (k+1) ?_))));refine lL hs [.m 12 20] (lD ?_);intro a_ ka;replace hs:=hs.drop 1 0;refine ⟨_,_,?_,⟨k+1,za,rfl,rfl,hs.to _ _,oM⟩,ka.to _ kR⟩
  omega
 have phb4:=oT hb4;refine lB 8 hb4 (ar (ab hs [.v 4 qT] (lN (kX ?_))))
 exfalso;omega
theorem rn (sm:ByteArray→Prop):∀ (d:Nat) (p:PTm) (t:Tm) (most:Int) (w:World) (h:Hp),G w h→TmH d h p t→rO sm d t→(d:Int)≤most→most≤1000→Calls Tryz.prog 74 #[oq p,iV most] w (Ret w h (fun v _=>v=.bool false))
  | 0,_,_,_,_,_,_,x,_,_,_=>x.elim
  | d+1,p,t,most,w,h,g,x,wf,hm,hm2=>by
    obtain ⟨op,n,q,s,A,c,ps,ks,rfl,rfl,hc,hK,hKs⟩:=x.open;obtain ⟨s1,s2,s3,s4,s5,s6⟩:=wf;have s1_:ks.length≤3:=s1;exact xb sm d (fun p t most w h=>rn sm d p t most w h) op n q s A c ps ks hc (by have:=hKs.len;omega) s1 s2 s3 s4 s5 s6 most hm hm2 w h g hK hKs
theorem uJ  (isb:ByteArray→Bool)(sm:ByteArray→Prop)(wJ:∀ s,sm s→∀ (w:World) (h:Hp),G w h→Calls Tryz.prog 73 #[.string s] w (Ret w h (fun v _=>∃ b,v=.bool b∧b=isb s)))(d:Nat)(ih:∀ (p:PTm) (t:Tm) (w:World) (h:Hp),G w h→TmH d h p t→rO sm d t →  Calls Tryz.prog 75 #[oq p] w (Ret w h (fun v _=>∃ bb,v=.bool bb∧(bb=true↔WfT (fun s=>isb s=true) d t))))(op n:Int)(q:Rat)(s:ByteArray)(A:Option Addr)(c:Nat)(ps:List PTm)(ks:List Tm)(hc:ps.length≤c)(hlp:ps.length≤3)(hk3:ks.length≤3)(hop : -1000≤op∧op≤1000)(hn : -1000≤n∧n≤1000)(hq:LQ 1 q)(hsm:sm s)(hW:∀ i,i<ks.length→rO sm d (ks.getD i be))(w:World)(h:Hp)(g:G w h)(hK:SlO 9 hJ bG h A ps)(hKs:Tms d h ps ks):CR 75 #[pW op n q s A ps.length c] w h (fun v _=>∃ bb,v=.bool bb∧(bb=true↔WfT (fun s=>isb s=true) (d+1) (.mk op n q s ks))):=by
 have hs:=(((sS g).aS hK).add (K:=fun h_=>Tms d h_ ps ks) hKs);have hln:=(hs.f.1).len;have hsg:q.num.sign=0↔q.num=0:=Int.sign_eq_zero_iff_zero;refine go Tryz.func75 [(0,pW op n q s A ps.length c)] rfl (aD (lA 1 42 (pG op n q s A ps.length c) hs (fun b1 w2 h3 hs=>lL hs [.v 2 qF] (af (cQ (cR 7 [] mixed hs aq ?_))))));refine eV 0 5 (pB b1) (eO 1 6 [(0,0,1)] (iV op) hs (eV 3 8 (qP b1 8) (eO 4 9 [(0,8,1)] (qS A ps.length c) hs (eV 5 10 (nV ps.length) (ak 2 7 hs (fun _ _ hs=>AI op _ _ hs.g) (fun w4 h5 hs=>?_))))));cases hb6:((dD op:Int) != (ps.length:Int))
 ·
  have phb6:=aJ hb6;refine eB 6 11 hb6 (bF hs (fun w7 h8 hs=>?_));refine tN (dK (cK (cQ (CG.join (fun Γ w_=>∃ (zm:Bool) (h_:Hp),Γ=[(1,pB b1),(2,qF),(20,.bool zm)]∧SS w h w_ h_ [⟨b1,42,pG op n q s A ps.length c⟩] [] [fun h_=>Tms d h_ ps ks,fun h_=>SlO 9 hJ bG h_ A ps]∧(zm=true→¬(op=1∨q.num=0))∧(zm=false→(op=1∨q.num=0))) ?_ ?_))))
  ·
   refine kQ (lL hs [.v 12 (pB b1),.o 13 (iV op) 0 0 1] ?_);cases hb9:((op:Int) != (1:Int))
   ·
    have phb9:=aJ hb9;refine lB 14 hb9 (lL hs [.m 15 14] (lG 16 ?_));refine lG 17 (lG 18 (lG 19 (lL hs [.v 20 qF] (lD ?_))));intro a_ ka;exact ⟨_,⟨false,h8,rfl,hs.to _ _,(fun h_=>absurd h_ kD),(fun _=>by omega)⟩,ka.to _ kR⟩
   have phb9:=aU hb9;refine lB 14 hb9 (lL hs [.m 15 14,.v 16 (qP b1 2),.o 17 (qv q) 0 2 5] (ah 18 hs (eL q (hq.mono oM) _ _ hs.g) (fun _ zD hs=>?_)));cases za:((q.num.sign:Int) != (0:Int))
   ·
    have zs:=aJ za;refine lB 19 za (lL hs [.v 20 qF] (lD ?_));intro a_ ka;exact ⟨_,⟨false,zD,rfl,hs.to _ _,(fun h_=>absurd h_ kD),(fun _=>by omega)⟩,ka.to _ kR⟩
   have zs:=aU za;refine lB 19 za (lL hs [.v 20 qT] (lD ?_));intro a_ ka;exact ⟨_,⟨true,zD,rfl,hs.to _ _,(fun _=>by omega),(fun h_=>absurd h_ kD)⟩,ka.to _ kR⟩
  rintro _ _ ⟨zm,zE,rfl,hs,zG,hF20⟩;cases zb:(zm)
  ·
   try rw[zb] at hs
   try rw[zb]
   refine dK (cK (cQ (CG.join (fun Γ w_=>∃ (zn:Bool) (h_:Hp),Γ=[(1,pB b1),(2,qF),(39,.bool zn)]∧SS w h w_ h_ [⟨b1,42,pG op n q s A ps.length c⟩] [] [fun h_=>Tms d h_ ps ks,fun h_=>SlO 9 hJ bG h_ A ps]∧(zn=true→¬((op=2→isb s=true)∧(op≠2→s=⟨#[]⟩)))∧(zn=false→((op=2→isb s=true)∧(op≠2→s=⟨#[]⟩)))) ?_ ?_)))
   ·
    refine kQ (lL hs [.v 21 (pB b1),.o 22 (iV op) 0 0 1] ?_);cases zc:((op:Int) == (2:Int))
    ·
     have zt:=aj zc;refine lB 23 zc (lL hs [.m 24 23] (lG 25 ?_));refine lG 26 (lG 27 (lG 28 (lL hs [.v 29 qF,.m 30 29,.v 31 (pB b1),.o 32 (iV op) 0 0 1] ?_)));have zq:((op:Int) != (2:Int))=true:=Gz oM;have phb23:=aU zq;refine lB 33 zq (lL hs [.m 34 33,.v 35 (qP b1 7),.o 36 (.string s) 0 7 1] ?_);cases zd:(oS s (⟨#[]⟩))
     ·
      have zu:=Cf zd;refine lB 37 zd (lL hs [.v 38 qF,.v 39 qF] (lD ?_));intro a_ ka;exact ⟨_,⟨false,zE,rfl,hs.to _ _,(fun h_=>absurd h_ kD),(fun _=>⟨fun h_=>by first|exact hbi.symm.trans aM|exact absurd h_ oM,fun h_=>by first|assumption|exact absurd h_ oM⟩)⟩,ka.to _ kR⟩
     have zu:=BY zd;refine lB 37 zd (lL hs [.v 38 qT,.v 39 qT] (lD ?_));intro a_ ka;exact ⟨_,⟨true,zE,rfl,hs.to _ _,(fun _ h_=>by first|exact Bool.noConfusion ((h_.1 oM).symm.trans (hbi.symm.trans aM))|exact absurd (h_.2 oM) aM),(fun h_=>absurd h_ kD)⟩,ka.to _ kR⟩
    have zt:=eq_of_beq zc;refine lB 23 zc (lL hs [.m 24 23,.v 25 (qP b1 7),.o 26 (.string s) 0 7 1] (lC 27 hs (wJ s hsm _ _ hs.g) ?_));rintro _ _ zF hs ⟨bi,rfl,hbi⟩;cases hb31:(bi)
    ·
     refine lL hs [.v 28 qT,.v 29 qT,.m 30 29] (lG 31 ?_);refine lG 32 (lG 33 (lG 34 (lG 35 (lG 36 (lG 37 (lG 38 (lL hs [.v 39 qT] (lD ?_))))))));intro a_ ka;exact ⟨_,⟨true,zF,rfl,hs.to _ _,(fun _ h_=>by first|exact Bool.noConfusion ((h_.1 oM).symm.trans (hbi.symm.trans aM))|exact absurd (h_.2 oM) aM),(fun h_=>absurd h_ kD)⟩,ka.to _ kR⟩
    refine lL hs [.v 28 qF,.v 29 qF,.m 30 29,.v 31 (pB b1),.o 32 (iV op) 0 0 1] ?_;have zr:((op:Int) != (2:Int))=false:=tO oM;have phb34:=aJ zr;refine lB 33 zr (lL hs [.m 34 33] (lG 35 ?_));refine lG 36 (lG 37 (lL hs [.v 38 qF,.v 39 qF] (lD ?_)));intro a_ ka;exact ⟨_,⟨false,zF,rfl,hs.to _ _,(fun h_=>absurd h_ kD),(fun _=>⟨fun h_=>by first|exact hbi.symm.trans aM|exact absurd h_ oM,fun h_=>by first|assumption|exact absurd h_ oM⟩)⟩,ka.to _ kR⟩
   rintro _ _ ⟨zn,zo,rfl,hs,zH,hF39⟩;cases ze:(zn)
   ·
    try rw[ze] at hs
    try rw[ze]
    refine dK (cK (cQ (CG.join (fun Γ w_=>∃ (zp:Bool) (h_:Hp),Γ=[(1,pB b1),(2,qF),(57,.bool zp)]∧SS w h w_ h_ [⟨b1,42,pG op n q s A ps.length c⟩] [] [fun h_=>Tms d h_ ps ks,fun h_=>SlO 9 hJ bG h_ A ps]∧(zp=true→¬((op=8∨n=0) ∧ -12≤n∧n≤12))∧(zp=false→((op=8∨n=0) ∧ -12≤n∧n≤12))) ?_ ?_)))
    ·
     refine kQ (lL hs [.v 40 (pB b1),.o 41 (iV op) 0 0 1] ?_);cases zf:((op:Int) != (8:Int))
     ·
      have zv:=aJ zf;refine lB 42 zf (lL hs [.m 43 42] (lG 44 ?_));refine lG 45 (lG 46 (lL hs [.v 47 qF,.m 48 47,.v 49 (qP b1 1),.o 50 (iV n) 0 1 1] ?_));cases zg:(decide ((n:Int)<(-12:Int)))
      ·
       have zw:=oF zg;refine lB 51 zg (lL hs [.v 52 qF,.m 53 52,.v 54 (qP b1 1),.o 55 (iV n) 0 1 1] ?_);cases zi:(decide ((12:Int)<(n:Int)))
       ·
        have zx:=oF zi;refine lB 56 zi (lL hs [.v 57 qF] (lD ?_));intro a_ ka;exact ⟨_,⟨false,zo,rfl,hs.to _ _,(fun h_=>absurd h_ kD),(fun _=>by omega)⟩,ka.to _ kR⟩
       have zx:=oT zi;refine lB 56 zi (lL hs [.v 57 qT] (lD ?_));intro a_ ka;exact ⟨_,⟨true,zo,rfl,hs.to _ _,(fun _=>by omega),(fun h_=>absurd h_ kD)⟩,ka.to _ kR⟩
      have zw:=oT zg;refine lB 51 zg (lL hs [.v 52 qT,.m 53 52] (lG 54 ?_));refine lG 55 (lG 56 (lL hs [.v 57 qT] (lD ?_)));intro a_ ka;exact ⟨_,⟨true,zo,rfl,hs.to _ _,(fun _=>by omega),(fun h_=>absurd h_ kD)⟩,ka.to _ kR⟩
     have zv:=aU zf;refine lB 42 zf (lL hs [.m 43 42,.v 44 (qP b1 1),.o 45 (iV n) 0 1 1] ?_);cases zj:((n:Int) != (0:Int))
     ·
      have zA:=aJ zj;refine lB 46 zj (lL hs [.v 47 qF,.m 48 47,.v 49 (qP b1 1),.o 50 (iV n) 0 1 1] ?_);have ⟨zI,phb50⟩:=dF (p:=(n:Int)<(-12:Int)) oM;refine lB 51 zI (lL hs [.v 52 qF,.m 53 52,.v 54 (qP b1 1),.o 55 (iV n) 0 1 1] ?_);have ⟨zJ,phb51⟩:=dF (p:=(12:Int)<(n:Int)) oM;refine lB 56 zJ (lL hs [.v 57 qF] (lD ?_));intro a_ ka;exact ⟨_,⟨false,zo,rfl,hs.to _ _,(fun h_=>absurd h_ kD),(fun _=>by omega)⟩,ka.to _ kR⟩
     have zA:=aU zj;refine lB 46 zj (lL hs [.v 47 qT,.m 48 47] (lG 49 ?_));refine lG 50 (lG 51 (lL hs [.v 52 qT,.m 53 52] (lG 54 ?_)));refine lG 55 (lG 56 (lL hs [.v 57 qT] (lD ?_)));intro a_ ka;exact ⟨_,⟨true,zo,rfl,hs.to _ _,(fun _=>by omega),(fun h_=>absurd h_ kD)⟩,ka.to _ kR⟩
    rintro _ _ ⟨zp,zL,rfl,hs,zK,hF57⟩;cases zk:(zp)
    ·
     try rw[zk] at hs
     try rw[zk]
     refine dK (cK (cQ (ab hs [.v 58 (qP b1 8),.o 59 (qS A ps.length c) 0 8 1,.v 60 (nV ps.length),.v 61 (iV 0)] (bd ?_))));refine bD _ (CG.loop (fun μ_ Γ w_=>∃ (k:Nat) (h_:Hp),μ_=ps.length-k∧Γ=[(59,qS A ps.length c),(60,nV ps.length),(61,nV k)]∧SS w h w_ h_ [⟨b1,42,pG op n q s A ps.length c⟩] [] [fun h_=>Tms d h_ ps ks,fun h_=>SlO 9 hJ bG h_ A ps]∧k≤ps.length∧(∀ i,i<k→WfT (fun s=>isb s=true) d (ks.getD i be))) _ ⟨0,zL,rfl,rfl,hs.to _ _,Nat.zero_le _,(fun i hi=>absurd hi (Nat.not_lt_zero i))⟩ ?_);rintro _ _ _ ⟨k,_,hm61,rfl,hs,hk,hWk⟩;refine aD ?_;cases zl:(decide ((k:Int)<(ps.length:Int)))
     ·
      have zB:=oF zl;refine lB 62 zl (af (dK (CG.exit ?_)))
      show CG _ _ _ _ _ _ _ _
      exact ab hs [.v 2 qT] (ae hs [] qT (GO ⟨by omega,hF20 aM,hF39 aM,hF57 aM⟩ hq (fun i hi=>hWk i oM)))
     have zB:=oT zl;refine lB 62 zl (af (cI (cK (cQ (kZ (aD (lX 63 A ps.length c 9 (k:Nat) k ((hs.f.2.1).ok oM) ?_)))))));refine lH 64 (pX (ps.getD k bG)) hs ((hs.f.2.1).el k oM) (lA 4 42 ([iV 0,iV 0,qF,uV 0,eS,uV 0,eS,eS,sZ]) hs (fun b63 _ _ hs=>lP 0 0 (pC (ps.getD k bG)) hs (fun _ hs=>ay (lL hs [.o 65 (pX (ps.getD k bG)) 0 0 9] (lC 66 hs (ih (ps.getD k bG) (ks.getD k be) _ _ hs.g ((hs.f.1).at_ k oM) (hW k oM)) ?_)))));rintro _ _ zM hs ⟨bk,rfl,hbk⟩;cases hb69:(bk)
     ·
      exact lL hs [.v 67 qT] (ar (ab hs [.v 2 qF] (ae hs [] qF (Gj (k:=k) oM aM hbk))))
     refine lL hs [.v 67 qF] (am (cK (kQ (bw 68 ((k:Nat)+1) (k+1) ?_))));refine lL hs [.m 61 68] (lD ?_);intro a_ ka;replace hs:=hs.drop 1 0;refine ⟨_,_,?_,⟨k+1,zM,rfl,rfl,hs.to _ _,oM,(fun i hi=>by rcases Nat.lt_succ_iff_lt_or_eq.1 hi with h_|rfl;exact hWk i h_;exact hbk.1 aM)⟩,ka.to _ kR⟩
     omega
    try rw[zk] at hs
    try rw[zk]
    exact cI (ab hs [.v 2 qF] (ae hs [] qF (rj (fun h_=>zK aM h_.2.2.2))))
   try rw[ze] at hs
   try rw[ze]
   exact cI (ab hs [.v 2 qF] (ae hs [] qF (rj (fun h_=>zH aM h_.2.2.1))))
  try rw[zb] at hs
  try rw[zb]
  exact cI (ab hs [.v 2 qF] (ae hs [] qF (rj (fun h_=>zG aM h_.2.1))))
 have phb6:=aU hb6;exact eB 6 11 hb6 (bF hs (fun _ _ hs=>tN (cI (ab hs [.v 2 qF] (ae hs [] qF (rj (fun h_=>absurd h_.1 oM)))))))
theorem pM (isb:ByteArray→Bool)(sm:ByteArray→Prop)(wJ:∀ s,sm s→∀ (w:World) (h:Hp),G w h→Calls Tryz.prog 73 #[.string s] w (Ret w h (fun v _=>∃ b,v=.bool b∧b=isb s))):∀ (d:Nat) (p:PTm) (t:Tm) (w:World) (h:Hp),G w h→TmH d h p t→rO sm d t →  Calls Tryz.prog 75 #[oq p] w (Ret w h (fun v _=>∃ bb,v=.bool bb∧(bb=true↔WfT (fun s=>isb s=true) d t)))
  | 0,_,_,_,_,_,x,_=>x.elim
  | d+1,p,t,w,h,g,x,wf=>by
    obtain ⟨op,n,q,s,A,c,ps,ks,rfl,rfl,hc,hK,hKs⟩:=x.open;obtain ⟨s1,s2,s3,s4,s5,s6⟩:=wf;have s1_:ks.length≤3:=s1;exact uJ isb sm wJ d (fun p t w h=>pM isb sm wJ d p t w h) op n q s A c ps ks hc (by have:=hKs.len;omega) s1 s2 s3 s4 s5 s6 w h g hK hKs
theorem xZ  (ok:ByteArray→Prop)(d:Nat)(ih:∀ (p:PTm) (t:Tm) (w:World) (h:Hp),G w h→TmH d h p t→WfT ok d t →  Calls Tryz.prog 76 #[oq p,iV 1001] w (Ret w h (fun v _=>v=iV ((min (je d t) 1001:Nat):Int))))(op n:Int)(q:Rat)(s:ByteArray)(A:Option Addr)(c:Nat)(ps:List PTm)(ks:List Tm)(hc:ps.length≤c)(hlp:ps.length≤2)(hari:dD op=(ks.length:Nat))(hq0:op≠1→q=0)(hq:LQ 1 q)(hok:op=2→ok s)(hs0:op≠2→s=⟨#[]⟩)(hn0:op≠8→n=0)(hn1 : -12≤n)(hn2:n≤12)(hW:∀ i,i<ks.length→WfT ok d (ks.getD i be))(w:World)(h:Hp)(g:G w h)(hK:SlO 9 hJ bG h A ps)(hKs:Tms d h ps ks):CV 76 #[pW op n q s A ps.length c,iV 1001] w h (iV ((min (je (d+1) (.mk op n q s ks)) 1001:Nat):Int)):=by
 have hs:=(((sS g).aS hK).add (K:=fun h_=>Tms d h_ ps ks) hKs);have hln:=(hs.f.1).len;refine go Tryz.func76 [(0,pW op n q s A ps.length c),(1,iV 1001)] rfl (aD (lA 2 42 (pG op n q s A ps.length c) hs (fun b1 w2 h3 hs=>lL hs [.v 4 (iV 0)] (af (ab hs [.v 8 (qP b1 8),.o 9 (qS A ps.length c) 0 8 1,.v 10 (nV ps.length)] ?_)))));cases hb4:((ps.length:Int) == (0:Int))
 ·
  have phb4:=aj hb4;refine lB 11 hb4 (am (cK (ab hs [.v 5 (iV 0)] (af (ab hs [.v 14 (qP b1 8),.o 15 (qS A ps.length c) 0 8 1,.v 16 (nV ps.length),.v 17 (iV 0)] (bd ?_))))));refine bD _ (CG.loop (fun μ_ Γ w_=>∃ (k:Nat) (sm:Nat) (h_:Hp),μ_=ps.length-k∧Γ=[(1,iV 1001),(2,pB b1),(15,qS A ps.length c),(16,nV ps.length),(17,nV k),(5,nV sm)]∧SS w h w_ h_ [⟨b1,42,pG op n q s A ps.length c⟩] [] [fun h_=>Tms d h_ ps ks,fun h_=>SlO 9 hJ bG h_ A ps]∧k≤ps.length∧sm=min (de (fun i=>je d (ks.getD i be)) k) 1001) _ ⟨0,0,h3,rfl,rfl,hs.to _ _,Nat.zero_le _,rfl⟩ ?_);rintro _ _ w5 ⟨k,sm,h6,hm7,rfl,hs,hk,hsm⟩;have hs1:(de (fun i=>je d (ks.getD i be)) (k+1))=(de (fun i=>je d (ks.getD i be)) k)+je d (ks.getD k be):=rfl;refine aD ?_;cases hb8:(decide ((k:Int)<(ps.length:Int)))
  ·
   have phb8:=oF hb8;refine lB 18 hb8 (af (dK (CG.exit ?_)))
   show CG _ _ _ _ _ _ _ _
   refine cQ (ab hs [.v 33 (pB b1),.o 34 (iV op) 0 0 1] (bd (aD ?_)));cases hb9:((op:Int) == (11:Int))
   ·
    have phb9:=aj hb9;refine lB 36 hb9 (lL hs [.m 35 36] (am (aD ?_)));cases za:((op:Int) == (8:Int))
    ·
     have zc:=aj za;refine lB 40 za (lL hs [.m 39 40] (am (cK (ab hs [.m 46 5,.m 47 1] (lV 48 (iV (min (sm:Int) (1001:Int))) ?_ (hr:=aW (n:=(if (1001:Int)<(sm:Int) then (1001:Int) else (sm:Int))) kR (by simp only[uP])))))));refine lL hs [.m 4 48] (lN (kX ?_));have hkn:k=ks.length:=by omega
     have hw_:=sE (d:=d) (op:=op) (n:=n) (q:=q) (s:=s) (ks:=ks) oM;have hm_:=lz (s:=(de (fun i=>je d (ks.getD i be)) k)) (jF op n);rw[←hkn] at hw_
     rw[←hw_,←hsm] at hm_
     exact hs.ret [] (iV (min (sm:Int) (1001:Int))) (congrArg (Value.int .i64) (by rw[←hm_];unfold tF;first|(rw[if_pos oM];(repeat' split)<;>omega)|(rw[if_neg oM,if_pos oM,Nat.mul_comm];(repeat' split)<;>omega)|(rw[if_neg oM,if_neg oM];(repeat' split)<;>omega)))
    have zc:=eq_of_beq za;refine lB 40 za (lL hs [.m 39 40] (ar (kQ (lL hs [.m 41 5,.v 42 (qP b1 1),.o 43 (iV n) 0 1 1] (ah 44 hs (EF n oM oM _ _ hs.g) (fun _ _ hs=>?_))))));have htm:d9 n≤12∧1≤d9 n:=by unfold d9;split<;>omega
    have hmb:sm*d9 n≤1001*12:=Nat.mul_le_mul oM oM;refine lI 45 ((sm:Nat)*(d9 n:Nat)) (lL hs [.m 5 45] (ay (lL hs [.m 46 5,.m 47 1] (lV 48 (iV (min ((sm:Nat)*(d9 n:Nat):Int) (1001:Int))) ?_ (hr:=aW (n:=(if (1001:Int)<((sm:Nat)*(d9 n:Nat):Int) then (1001:Int) else ((sm:Nat)*(d9 n:Nat):Int))) kR (by simp only[uP]))))));refine lL hs [.m 4 48] (lN (kX ?_));have hkn:k=ks.length:=by omega
    have hw_:=sE (d:=d) (op:=op) (n:=n) (q:=q) (s:=s) (ks:=ks) oM;have hm_:=lz (s:=(de (fun i=>je d (ks.getD i be)) k)) (jF op n);rw[←hkn] at hw_
    rw[←hw_,←hsm] at hm_
    exact hs.ret [] (iV (min ((sm:Nat)*(d9 n:Nat):Int) (1001:Int))) (congrArg (Value.int .i64) (by rw[←hm_];unfold tF;first|(rw[if_pos oM];(repeat' split)<;>omega)|(rw[if_neg oM,if_pos oM,Nat.mul_comm];(repeat' split)<;>omega)|(rw[if_neg oM,if_neg oM];(repeat' split)<;>omega)))
   have phb9:=eq_of_beq hb9;refine lB 36 hb9 (lL hs [.m 35 36] (ar (kQ (lL hs [.m 37 5] (lI 38 ((sm:Nat)*2) ?_)))));refine lL hs [.m 5 38] (ay (lL hs [.m 46 5,.m 47 1] (lV 48 (iV (min ((sm:Nat)*2:Int) (1001:Int))) ?_ (hr:=aW (n:=(if (1001:Int)<((sm:Nat)*2:Int) then (1001:Int) else ((sm:Nat)*2:Int))) kR (by simp only[uP])))));refine lL hs [.m 4 48] (lN (kX ?_));have hkn:k=ks.length:=by omega
   have hw_:=sE (d:=d) (op:=op) (n:=n) (q:=q) (s:=s) (ks:=ks) oM;have hm_:=lz (s:=(de (fun i=>je d (ks.getD i be)) k)) (jF op n);rw[←hkn] at hw_
   rw[←hw_,←hsm] at hm_
   exact hs.ret [] (iV (min ((sm:Nat)*2:Int) (1001:Int))) (congrArg (Value.int .i64) (by rw[←hm_];unfold tF;first|(rw[if_pos oM];(repeat' split)<;>omega)|(rw[if_neg oM,if_pos oM,Nat.mul_comm];(repeat' split)<;>omega)|(rw[if_neg oM,if_neg oM];(repeat' split)<;>omega)))
  have phb8:=oT hb8;refine lB 18 hb8 (af (cI (cK (cQ (kZ (aD (lX 19 A ps.length c 9 (k:Nat) k ((hs.f.2.1).ok oM) ?_)))))));refine lH 20 (pX (ps.getD k bG)) hs ((hs.f.2.1).el k oM) (lA 7 42 ([iV 0,iV 0,qF,uV 0,eS,uV 0,eS,eS,sZ]) hs (fun b13 _ _ hs=>lP 0 0 (pC (ps.getD k bG)) hs (fun _ hs=>ay (lL hs [.m 21 5,.o 22 (pX (ps.getD k bG)) 0 0 9,.m 23 1] (ah 24 hs (ih (ps.getD k bG) (ks.getD k be) _ _ hs.g ((hs.f.1).at_ k oM) (hW k oM)) (fun _ ze hs=>lI 25 ((sm:Nat)+((min (je d (ks.getD k be)) 1001:Nat):Int)) (lL hs [.m 26 1] (lV 27 (iV ((min (de (fun i=>je d (ks.getD i be)) (k+1)) 1001:Nat):Int)) ?_ (hr:=aW (n:=if (1001:Int)<((sm:Nat)+((min (je d (ks.getD k be)) 1001:Nat):Int)) then (1001:Int) else ((sm:Nat)+((min (je d (ks.getD k be)) 1001:Nat):Int))) kR (by split<;>omega))))))))));refine lL hs [.m 5 27] (ay (lL hs [.m 28 5,.m 29 1] ?_));cases zb:((((min (de (fun i=>je d (ks.getD i be)) (k+1)) 1001:Nat):Int):Int) == (1001:Int))
  ·
   have zd:=aj zb;refine lB 30 zb (am (cK (kQ (bw 32 ((k:Nat)+1) (k+1) ?_))));refine lL hs [.m 17 32] (lD ?_);intro a_ ka;replace hs:=hs.drop 1 0;refine ⟨_,_,?_,⟨k+1,(min (de (fun i=>je d (ks.getD i be)) (k+1)) 1001),ze,rfl,rfl,hs.to _ _,oM,rfl⟩,ka.to _ kR⟩
   omega
  have zd:=eq_of_beq zb;exact lB 30 zb (ar (ab hs [.m 31 1,.m 4 31] (ae hs [] (iV 1001) (congrArg (Value.int .i64) (by have h1_:=gC (fun i=>je d (ks.getD i be)) (show k+1≤ks.length by omega);have h2_:=DP (d:=d) (op:=op) (n:=n) (q:=q) (s:=s) (ks:=ks) oM;omega)))))
 have phb4:=eq_of_beq hb4;exact lB 11 hb4 (ar (ab hs [.m 12 1,.v 13 (iV 1),.m 4 13] (ae hs [] (iV 1) (congrArg (Value.int .i64) (by rw[H7 oM];first|rfl|omega)))))
theorem pQ (ok:ByteArray→Prop):∀ (d:Nat) (p:PTm) (t:Tm) (w:World) (h:Hp),G w h→TmH d h p t→WfT ok d t →  Calls Tryz.prog 76 #[oq p,iV 1001] w (Ret w h (fun v _=>v=iV ((min (je d t) 1001:Nat):Int)))
  | 0,_,_,_,_,_,x,_=>x.elim
  | d + 1,p,t,w,h,g,x,wf=>by
    obtain ⟨op,n,q,s,A,c,ps,ks,rfl,rfl,hc,hK,hKs⟩:=x.open;obtain ⟨w1,w2,w3,w4,w5,w6,w7,w8,w9⟩:=wf
    have hl2:ps.length≤2:=by
      have e1:dD op=ks.length:=w1;have:=aG op;have:=hKs.len
      omega
    exact xZ ok d (fun p t w h=>pQ ok d p t w h) op n q s A c ps ks hc hl2 w1 w2 w3 w4 w5 w6 w7 w8 w9 w h g hK hKs
def tr (nm:Int→ByteArray)(l:List Stp)(i:Nat):Tm:=nP nm l (l.length+1) i
structure DpS (dp:Nat→Nat) (l:List Stp):Prop where
  one:∀ k,k<l.length→1≤dp k
  le:∀ k,k<l.length→dp k≤20
  a:∀ k,k<l.length→0<dD (l.getD k ac).op→dp (l.getD k ac).a.toNat<dp k
  b:∀ k,k<l.length→1<dD (l.getD k ac).op→dp (l.getD k ac).b.toNat<dp k
section
variable {nm:Int→ByteArray} {l:List Stp} {inp:Int} {dp:Nat→Nat}
end
def bH:Nat→Tm→Nat
  | 0,_=>0
  | d+1,t=>1+de (fun i=>bH d (t.ks.getD i be)) t.ks.length
def fX (f:List Stp→Tm→List Stp)(ks:List Tm)(l:List Stp):Nat→List Stp × Int × Int
  | 0=>(l,0,0)
  | k+1=>(f (fX f ks l k).1 (ks.getD k be),if k=0 then (((f (fX f ks l k).1 (ks.getD k be)).length:Nat):Int)-1 else (fX f ks l k).2.1,if k=0 then (fX f ks l k).2.2 else (((f (fX f ks l k).1 (ks.getD k be)).length:Nat):Int)-1)
def bu (pl:ByteArray→Int):Nat→List Stp→Tm→List Stp
  | 0,l,_=>l
  | d+1,l,t=>(fX (bu pl d) t.ks l t.ks.length).1++[⟨t.op,(fX (bu pl d) t.ks l t.ks.length).2.1,(fX (bu pl d) t.ks l t.ks.length).2.2,if t.op=2 then pl t.s else t.n,t.q⟩]
def jQ:Nat→Tm→ByteArray→Prop
  | 0,_,_=>False
  | d+1,t,s=>(t.op=2∧s=t.s)∨∃ i,i<t.ks.length∧jQ d (t.ks.getD i be) s
def HasK (d:Nat)(ks:List Tm)(k:Nat)(s:ByteArray):Prop:=∃ i,i<k∧jQ d (ks.getD i be) s
theorem HasK.zero {d:Nat}{ks:List Tm}{s:ByteArray}:¬HasK d ks 0 s:=fun ⟨i,h,_⟩=>absurd h (Nat.not_lt_zero i)
theorem HasK.succ {d:Nat}{ks:List Tm}{k:Nat}{s:ByteArray}:HasK d ks (k+1) s↔HasK d ks k s∨jQ d (ks.getD k be) s:=by
 constructor
 ·rintro ⟨i,hi,h⟩
  by_cases e:i=k
  ·subst e;exact .inr h
  ·exact .inl ⟨i,by omega,h⟩
 ·rintro (⟨i,hi,h⟩|h)
  ·exact ⟨i,by omega,h⟩
  ·exact ⟨k,by omega,h⟩
theorem WfT.names {ok p:ByteArray→Prop}:∀ {d:Nat} {t:Tm},WfT ok d t→(∀ s,jQ d t s→p s)→WfT (fun s=>ok s∧p s) d t
 | d+1,t,⟨h1,h2,h3,h4,h5,h6,h7,h8,h9⟩,h=>⟨h1,h2,h3,fun e=>⟨h4 e,h _ (.inl ⟨e,rfl⟩)⟩,h5,h6,h7,h8,fun i hi=>WfT.names (h9 i hi) (fun s hs=>h s (.inr ⟨i,hi,hs⟩))⟩
theorem oE {ok:ByteArray→Prop}:∀ {d:Nat} {t:Tm} {s:ByteArray},WfT ok d t→jQ d t s→ok s
 | d+1,t,s,w,.inl ⟨h1,h2⟩=>by rw[h2];exact w.2.2.2.1 h1
 | d+1,t,s,w,.inr ⟨i,hi,h⟩=>oE (w.2.2.2.2.2.2.2.2 i hi) h
theorem WfT.two {ok:ByteArray→Prop}{d:Nat}{t:Tm}(h:WfT ok (d+1) t):t.ks.length≤2:=by
 have:=h.1;have:=aG t.op
 omega
theorem kp {f:Nat→Nat}{b:Nat}:∀ n,(∀ i,i<n→f i≤b)→de f n≤n*b
  | 0,_=>by simp[de]
  | n+1,h=>by
    have h1:=kp n (fun i hi=>h i oM);have h2:=h n (Nat.lt_succ_self n)
    show de f n+f n≤_
    rw[Nat.succ_mul];omega
theorem mc {ok:ByteArray→Prop}:∀ {d:Nat} {t:Tm},WfT ok d t→bH d t+1≤2^d
  | d+1,t,w=>by
    have h2:=w.two;have hs:=kp (f:=fun i=>bH d (t.ks.getD i be)) (b:=2^d-1) t.ks.length (fun i hi=>by have:=mc (w.2.2.2.2.2.2.2.2 i hi);show bH d _≤_;omega);have hp:0<2^d:=Nat.two_pow_pos d;have hm:t.ks.length*(2^d-1)≤2*(2^d-1):=Nat.mul_le_mul_right _ h2
    show 1+de _ _+1≤2^(d+1)
    rw[Nat.pow_succ];omega
theorem fz {nm:Int→ByteArray}{l m:List Stp}{inp:Int}(hF:∀ k,k<l.length→Formed inp k (l.getD k ac)):∀ (f i:Nat),i<l.length→nP nm (l++m) f i=nP nm l f i
  | 0,i,_=>rfl
  | f + 1,i,hi=>by
    have e:(l++m).getD i ac=l.getD i ac:=by rw[List.getD_eq_getElem?_getD,List.getElem?_append_left hi,←List.getD_eq_getElem?_getD]
    obtain ⟨o1,o2,_,_⟩:=(hF i hi).opr
    unfold nP
    rw[e]
    split
    · rfl
    · split
      · rw[fz hF f _ (by have:=o1 oM;omega)]
      · split
        · rw[fz hF f _ (by have:=o1 oM;omega),fz hF f (l.getD i ac).b.toNat (by have:=o2 oM;omega)]
        · rfl
theorem mn {dp:Nat→Nat}{l:List Stp}{s:Stp}{e:Nat}(h:DpS dp l)(e1:1≤e)(e2:e≤20)(ha:0<dD s.op→s.a.toNat<l.length∧dp s.a.toNat<e)(hb:1<dD s.op→s.b.toNat<l.length∧dp s.b.toNat<e)(hF:∀ k,k<l.length→(0<dD (l.getD k ac).op→(l.getD k ac).a.toNat<k)∧(1<dD (l.getD k ac).op→(l.getD k ac).b.toNat<k)):DpS (fun k=>if k<l.length then dp k else e) (l++[s]):=by
 have hl:(l++[s]).length=l.length+1:=by simp
 refine ⟨fun k hk=>?_,fun k hk=>?_,fun k hk h1=>?_,fun k hk h1=>?_⟩
 ·show 1≤if k<l.length then dp k else e
  split
  ·rename_i c;exact h.one k c
  ·exact e1
 ·show (if k<l.length then dp k else e)≤20
  split
  ·rename_i c;exact h.le k c
  ·exact e2
 ·rw[bL] at h1 ⊢
  by_cases c:k<l.length
  ·rw[if_pos c] at h1 ⊢
   have:=(hF k c).1 h1
   show (if _<l.length then dp _ else e)<if k<l.length then dp k else e
   rw[if_pos c,if_pos oM];exact h.a k c h1
  ·obtain rfl:k=l.length:=by omega
   rw[if_neg c,if_pos rfl] at h1 ⊢
   show (if _<l.length then dp _ else e)<if l.length<l.length then dp _ else e
   rw[if_neg c,if_pos (ha h1).1];exact (ha h1).2
 ·rw[bL] at h1 ⊢
  by_cases c:k<l.length
  ·rw[if_pos c] at h1 ⊢
   have:=(hF k c).2 h1
   show (if _<l.length then dp _ else e)<if k<l.length then dp k else e
   rw[if_pos c,if_pos oM];exact h.b k c h1
  ·obtain rfl:k=l.length:=by omega
   rw[if_neg c,if_pos rfl] at h1 ⊢
   show (if _<l.length then dp _ else e)<if l.length<l.length then dp _ else e
   rw[if_neg c,if_pos (hb h1).1];exact (hb h1).2
theorem jP {inp:Int}{l:List Stp}(hF:∀ k,k<l.length→Formed inp k (l.getD k ac)):∀ k,k<l.length→(0<dD (l.getD k ac).op→(l.getD k ac).a.toNat<k)∧(1<dD (l.getD k ac).op→(l.getD k ac).b.toNat<k):=fun k hk=>⟨(hF k hk).opr.1,(hF k hk).opr.2.1⟩
theorem lp {l:List Stp}{s:Stp}(h:∀ i,LQ 1 (l.getD i ac).q)(hs:LQ 1 s.q):∀ i,LQ 1 ((l++[s]).getD i ac).q:=fun i=>by
 rw[bL]
 by_cases c:i<l.length
 ·rw[if_pos c];exact h i
 ·rw[if_neg c]
  by_cases e:i=l.length
  ·rw[if_pos e];exact hs
  ·rw[if_neg e];exact nh kD
structure RecOk (nm:Int→ByteArray) (inp:Int) (d:Nat) (l:List Stp) (l2:List Stp) (n:Nat) (t:Tm):Prop where
  lq:(∀ i,LQ 1 (l.getD i ac).q)→∀ i,LQ 1 (l2.getD i ac).q
  dps:∀ dp,DpS dp l→∃ dp',DpS dp' l2∧(∀ k,k<l.length→dp' k=dp k)∧dp' (l2.length-1)≤d
  pre:∃ m,l2=l++m
  len:l2.length=l.length+n
  pos:0<n
  fm:∀ k,k<l2.length→Formed inp k (l2.getD k ac)
  tr:∀ f,l2.length≤f→nP nm l2 f (l2.length-1)=t
def Bg (nm:Int→ByteArray)(pl:ByteArray→Int)(inp:Int)(s:ByteArray):Prop:=nm (pl s)=s∧0≤pl s∧pl s<inp
theorem nN {t:Tm}{op n:Int}{q:Rat}{s:ByteArray}{ks:List Tm}(h1:t.op=op)(h2:t.n=n)(h3:t.q=q)(h4:t.s=s)(h5:t.ks=ks):Tm.mk op n q s ks=t:=by
 cases t;subst h1 h2 h3 h4 h5;rfl
theorem wY {α:Type}{l:List α}{d:α}(h:l.length=1):l=[l.getD 0 d]:=by
 match l,h with
 | [a],_=>rfl
theorem uL {α:Type}{l:List α}{d:α}(h:l.length=2):l=[l.getD 0 d,l.getD 1 d]:=by
 match l,h with
 | [a,b],_=>rfl
theorem ia {inp:Int}{l:List Stp}{s:Stp}(hF:∀ k,k<l.length→Formed inp k (l.getD k ac))(hs:Formed inp l.length s):∀ k,k<(l++[s]).length→Formed inp k ((l++[s]).getD k ac):=fun k hk=>by
 rw[List.length_append,List.length_singleton] at hk
 rw[bL]
 by_cases e:k<l.length
 ·rw[if_pos e];exact hF k e
 ·obtain rfl:k=l.length:=by omega
  rw[if_neg e,if_pos rfl];exact hs
theorem jZ {l:List Stp}{s:Stp}:(l++[s]).getD l.length ac=s:=by rw[bL,if_neg (Nat.lt_irrefl _),if_pos rfl]
theorem ny {ok:ByteArray→Prop}{nm:Int→ByteArray}{pl:ByteArray→Int}{inp:Int}(hok:∀ s,ok s→Bg nm pl inp s):∀ (d:Nat) (t:Tm) (l:List Stp),d≤20→WfT ok d t→(∀ k,k<l.length→Formed inp k (l.getD k ac))→RecOk nm inp d l (bu pl d l t) (bH d t) t
  | d + 1,t,l,hd,w,hF=>by
    obtain ⟨w1,w2,w3,w4,w5,w6,w7,w8,w9⟩:=w;have hc:=aG t.op;have hq:t.op≠1→t.q.num=0:=fun h=>by rw[w2 h];rfl
    rcases (show t.ks.length=0∨t.ks.length=1∨t.ks.length=2 by omega) with h0|h1|h2
    · have e:bu pl (d+1) l t=l++[⟨t.op,0,0,if t.op=2 then pl t.s else t.n,t.q⟩]:=by unfold bu;rw[h0];rfl
      have a0:dD t.op=0:=by rw[w1,h0];rfl
      have hf:Formed inp l.length ⟨t.op,0,0,if t.op=2 then pl t.s else t.n,t.q⟩:=by
        refine ⟨by show 0≤dD t.op;omega,⟨fun h=>absurd (show 0<dD t.op from h) oM,fun _=>rfl⟩,⟨fun h=>absurd (show 1<dD t.op from h) oM,fun _=>rfl⟩,hq,fun h=>?_,fun h=>?_,fun h _=>?_⟩
        · show 0≤(if t.op=2 then pl t.s else t.n)∧(if t.op=2 then pl t.s else t.n)<inp
          rw[if_pos h];exact (hok _ (w4 h)).2
        · exact absurd (show t.op=8 from h) oM
        · show (if t.op=2 then pl t.s else t.n)=0
          rw[if_neg h];exact w6 oM
      have ec:bH (d+1) t=1:=by unfold bH;rw[h0];rfl
      rw[e,ec];refine ⟨fun hl=>lp hl w3,fun dp hp=>⟨_,mn (e:=d+1) hp oM oM (fun h=>absurd (show 0<dD t.op from h) oM) (fun h=>absurd (show 1<dD t.op from h) oM) (jP hF),fun k hk=>if_pos hk,by simp⟩,⟨_,rfl⟩,by simp,by omega,ia hF hf,fun f hf'=>?_⟩;obtain ⟨g,rfl⟩:∃ g,f=g+1:=⟨f-1,by simp at hf';omega⟩;rw[show (l++[(⟨t.op,0,0,if t.op=2 then pl t.s else t.n,t.q⟩:Stp)]).length-1=l.length by simp]
      unfold nP
      rw[jZ];have hks:t.ks=[]:=List.eq_nil_of_length_eq_zero h0
      by_cases e2:t.op=2
      · rw[if_pos e2]
        exact nN e2 (w6 oM) (w2 oM) (by rw[if_pos e2];exact (hok _ (w4 e2)).1.symm) hks
      · rw[if_neg e2,if_neg (show ¬dD t.op=1 by omega),if_neg (show ¬dD t.op=2 by omega)]
        exact nN rfl (w6 oM) rfl (w5 e2) hks
    · have r1:=ny hok d (t.ks.getD 0 be) l oM (w9 0 oM) hF
      have e:bu pl (d+1) l t=bu pl d l (t.ks.getD 0 be)++[⟨t.op,(((bu pl d l (t.ks.getD 0 be)).length:Nat):Int)-1,0,if t.op=2 then pl t.s else t.n,t.q⟩]:=by
        conv=>lhs;unfold bu
        rw[h1];rfl
      have a1:dD t.op=1:=by rw[w1,h1];rfl
      have hl:=r1.len;have hp:=r1.pos
      generalize bu pl d l (t.ks.getD 0 be)=m at r1 e hl
      have hf:Formed inp m.length ⟨t.op,((m.length:Nat):Int)-1,0,if t.op=2 then pl t.s else t.n,t.q⟩:=by
        refine ⟨by show 0≤dD t.op;omega,⟨fun _=>?_,fun h=>absurd (show 0<dD t.op by omega) h⟩,⟨fun h=>absurd (show 1<dD t.op from h) oM,fun _=>rfl⟩,hq,fun h=>absurd (show t.op=2 from h) oM,fun h=>?_,fun h h8=>?_⟩
        · show 0≤((m.length:Nat):Int)-1∧((m.length:Nat):Int)-1<(m.length:Nat)
          omega
        · show -12≤(if t.op=2 then pl t.s else t.n)∧(if t.op=2 then pl t.s else t.n)≤12
          rw[if_neg oM];exact ⟨w7,w8⟩
        · show (if t.op=2 then pl t.s else t.n)=0
          rw[if_neg h];exact w6 h8
      have ec:bH (d+1) t=1+(0+bH d (t.ks.getD 0 be)):=by
        conv=>lhs;unfold bH
        rw[h1];rfl
      rw[e,ec];obtain ⟨pm,rfl⟩:=r1.pre;refine ⟨fun hl=>lp (r1.lq hl) w3,fun dp hp=>?_,⟨pm++[_],by rw[List.append_assoc]⟩,by rw[List.length_append,hl];simp;omega,by omega,ia r1.fm hf,fun f hf'=>?_⟩
      · obtain ⟨dp1,q1,q2,q3⟩:=r1.dps dp hp
        refine ⟨_,mn (e:=d+1) q1 oM oM (fun _=>⟨by show ((((l++pm).length:Nat):Int)-1).toNat<_;omega,by show dp1 ((((l++pm).length:Nat):Int)-1).toNat<_;rw[show ((((l++pm).length:Nat):Int)-1).toNat=(l++pm).length-1 by omega];omega⟩) (fun h=>absurd (show 1<dD t.op from h) oM) (jP r1.fm),fun k hk=>?_,by simp⟩
        show (if k<(l++pm).length then dp1 k else d+1)=dp k
        rw[if_pos oM];exact q2 k hk
      obtain ⟨g,rfl⟩:∃ g,f=g+1:=⟨f-1,by simp at hf';omega⟩
      generalize l++pm=m at r1 e hl hf hf' ⊢
      rw[show (m++[(⟨t.op,((m.length:Nat):Int)-1,0,if t.op=2 then pl t.s else t.n,t.q⟩:Stp)]).length-1=m.length by simp];rw[List.length_append,List.length_singleton] at hf'
      conv=>lhs;unfold nP
      rw[jZ]
      show (if t.op=2 then _ else if dD t.op=1 then Tm.mk t.op (if t.op=2 then pl t.s else t.n) 0 ⟨#[]⟩ [nP nm _ g (((m.length:Nat):Int)-1).toNat] else _)=t
      rw[if_neg oM,if_pos a1,if_neg oM,show (((m.length:Nat):Int)-1).toNat=m.length-1 by omega,fz r1.fm _ _ oM,r1.tr g oM];exact nN rfl rfl (w2 oM) (w5 oM) (wY h1)
    · have r1:=ny hok d (t.ks.getD 0 be) l oM (w9 0 oM) hF
      have r2:=ny hok d (t.ks.getD 1 be) (bu pl d l (t.ks.getD 0 be)) oM (w9 1 oM) r1.fm
      have e:bu pl (d+1) l t=bu pl d (bu pl d l (t.ks.getD 0 be)) (t.ks.getD 1 be)++[⟨t.op,(((bu pl d l (t.ks.getD 0 be)).length:Nat):Int)-1,(((bu pl d (bu pl d l (t.ks.getD 0 be)) (t.ks.getD 1 be)).length:Nat):Int)-1,if t.op=2 then pl t.s else t.n,t.q⟩]:=by
        conv=>lhs;unfold bu
        rw[h2];rfl
      have a2:dD t.op=2:=by rw[w1,h2];rfl
      have hl1:=r1.len;have hp1:=r1.pos;have hl2:=r2.len;have hp2:=r2.pos
      have ec:bH (d+1) t=1+(0+bH d (t.ks.getD 0 be)+bH d (t.ks.getD 1 be)):=by
        conv=>lhs;unfold bH
        rw[h2];rfl
      rw[e,ec]
      generalize bu pl d (bu pl d l (t.ks.getD 0 be)) (t.ks.getD 1 be)=z at r2 e hl2 ⊢
      generalize bu pl d l (t.ks.getD 0 be)=m at r1 r2 e hl1 hl2 ⊢
      have hf:Formed inp z.length ⟨t.op,((m.length:Nat):Int)-1,((z.length:Nat):Int)-1,if t.op=2 then pl t.s else t.n,t.q⟩:=by
        refine ⟨by show 0≤dD t.op;omega,⟨fun _=>?_,fun h=>absurd (show 0<dD t.op by omega) h⟩,⟨fun _=>?_,fun h=>absurd (show 1<dD t.op by omega) h⟩,hq,fun h=>absurd (show t.op=2 from h) oM,fun h=>absurd (show t.op=8 from h) oM,fun h h8=>?_⟩
        · show 0≤((m.length:Nat):Int)-1∧((m.length:Nat):Int)-1<(z.length:Nat)
          omega
        · show 0≤((z.length:Nat):Int)-1∧((z.length:Nat):Int)-1<(z.length:Nat)
          omega
        · show (if t.op=2 then pl t.s else t.n)=0
          rw[if_neg h];exact w6 h8
      obtain ⟨pm,rfl⟩:=r1.pre;obtain ⟨pz,hz⟩:=r2.pre;refine ⟨fun hl=>lp (r2.lq (r1.lq hl)) w3,fun dp hp=>?_,⟨pm++(pz++[_]),by rw[hz,List.append_assoc,List.append_assoc]⟩,by rw[List.length_append,hl2,hl1];simp;omega,by omega,ia r2.fm hf,fun f hf'=>?_⟩
      · obtain ⟨dp1,q1,q2,q3⟩:=r1.dps dp hp
        obtain ⟨dp2,p1,p2,p3⟩:=r2.dps dp1 q1;have e1:((((l++pm).length:Nat):Int)-1).toNat=(l++pm).length-1:=by omega
        have e2:(((z.length:Nat):Int)-1).toNat=z.length-1:=by omega
        refine ⟨_,mn (e:=d+1) p1 oM oM (fun _=>⟨by show ((((l++pm).length:Nat):Int)-1).toNat<_;omega,by show dp2 ((((l++pm).length:Nat):Int)-1).toNat<_;rw[e1,p2 _ oM];omega⟩) (fun _=>⟨by show (((z.length:Nat):Int)-1).toNat<_;omega,by show dp2 (((z.length:Nat):Int)-1).toNat<_;rw[e2];omega⟩) (jP r2.fm),fun k hk=>?_,by simp⟩
        show (if k<z.length then dp2 k else d+1)=dp k
        rw[if_pos oM,p2 k oM];exact q2 k hk
      obtain ⟨g,rfl⟩:∃ g,f=g+1:=⟨f-1,by simp at hf';omega⟩
      generalize l++pm=m at r1 r2 e hl1 hl2 hf hf' hz ⊢
      rw[show (z++[(⟨t.op,((m.length:Nat):Int)-1,((z.length:Nat):Int)-1,if t.op=2 then pl t.s else t.n,t.q⟩:Stp)]).length-1=z.length by simp];rw[List.length_append,List.length_singleton] at hf'
      conv=>lhs;unfold nP
      rw[jZ]
      show (if t.op=2 then _ else if dD t.op=1 then _ else if dD t.op=2 then Tm.mk t.op 0 0 ⟨#[]⟩ [nP nm _ g (((m.length:Nat):Int)-1).toNat,nP nm _ g (((z.length:Nat):Int)-1).toNat] else _)=t
      have h1':nP nm z g (m.length-1)=t.ks.getD 0 be:=by rw[hz,fz r1.fm _ _ oM,r1.tr g oM]
      rw[if_neg oM,if_neg oM,if_pos a2,show (((m.length:Nat):Int)-1).toNat=m.length-1 by omega,show (((z.length:Nat):Int)-1).toNat=z.length-1 by omega,fz r2.fm _ _ oM,fz r2.fm _ _ oM,r2.tr g oM,h1'];exact nN rfl (w6 oM) (w2 oM) (w5 oM) (uL h2)
def gH (pl:ByteArray→Int)(d:Nat)(ts:List Tm):Nat→List Stp
  | 0=>[]
  | k+1=>bu pl d (gH pl d ts k) (ts.getD k be)
def ju (pl:ByteArray→Int)(d:Nat)(ts:List Tm):Nat→List Int
  | 0=>[]
  | k+1=>ju pl d ts k++[(((gH pl d ts (k+1)).length:Nat):Int)-1]
theorem lc {pl:ByteArray→Int}{d:Nat}{ts:List Tm}:∀ k,(ju pl d ts k).length=k
 | 0=>rfl
 | k+1=>by unfold ju;rw[List.length_append,lc k];rfl
structure AllOk (nm:Int→ByteArray) (inp:Int) (d:Nat) (ts:List Tm) (k:Nat) (l:List Stp) (os:List Int) (c:Nat):Prop where
  len:l.length=c
  fm:∀ k,k<l.length→Formed inp k (l.getD k ac)
  lq:∀ i,LQ 1 (l.getD i ac).q
  dps:∃ dp,DpS dp l
  out:∀ j,j<k→0≤os.getD j 0∧os.getD j 0<(l.length:Nat)∧nP nm l (l.length+1) (os.getD j 0).toNat=ts.getD j be
theorem xF {ok:ByteArray→Prop}{nm:Int→ByteArray}{pl:ByteArray→Int}{inp:Int}(hok:∀ s,ok s→Bg nm pl inp s){d:Nat}(hd:d≤20){ts:List Tm}:∀ k,k≤ts.length→(∀ i,i<k→WfT ok d (ts.getD i be))→AllOk nm inp d ts k (gH pl d ts k) (ju pl d ts k) (de (fun i=>bH d (ts.getD i be)) k)
  | 0,_,_=>⟨rfl,fun k hk=>absurd hk (Nat.not_lt_zero k),fun i=>by show LQ 1 (([]:List Stp).getD i ac).q;rw[List.getD_nil];exact nh kD,⟨fun _=>1,⟨fun k hk=>absurd hk (Nat.not_lt_zero k),fun k hk=>absurd hk (Nat.not_lt_zero k),fun k hk=>absurd hk (Nat.not_lt_zero k),fun k hk=>absurd hk (Nat.not_lt_zero k)⟩⟩,fun j hj=>absurd hj (Nat.not_lt_zero j)⟩
  | k + 1,hk,hw=>by
    have ih:=xF hok hd k oM (fun i hi=>hw i oM);have r:=ny hok d (ts.getD k be) (gH pl d ts k) hd (hw k oM) ih.fm;obtain ⟨dp,hdp⟩:=ih.dps;obtain ⟨dp',h1,_,_⟩:=r.dps dp hdp;have e:gH pl d ts (k+1)=bu pl d (gH pl d ts k) (ts.getD k be):=rfl;have ol:=lc (pl:=pl) (d:=d) (ts:=ts) k;rw[e] at *
    have hl:=r.len;have hp:=r.pos;refine ⟨by rw[hl,ih.len];rfl,r.fm,r.lq ih.lq,⟨dp',h1⟩,fun j hj=>?_⟩
    show 0≤(ju pl d ts k++[(((bu pl d (gH pl d ts k) (ts.getD k be)).length:Nat):Int)-1]).getD j 0∧_
    rw[show (ju pl d ts (k+1)).getD j 0=(ju pl d ts k++[(((bu pl d (gH pl d ts k) (ts.getD k be)).length:Nat):Int)-1]).getD j 0 from rfl];rw[bL,ol]
    by_cases c:j<k
    · rw[if_pos c]
      obtain ⟨o1,o2,o3⟩:=ih.out j c;obtain ⟨m,hm⟩:=r.pre;refine ⟨o1,by omega,?_⟩;rw[hm,fz ih.fm _ _ oM,jA ih.fm _ (gH pl d ts k).length.succ _ (by rw[List.length_append];omega) oM oM];exact o3
    · obtain rfl:j=k:=by omega
      rw[if_neg c,if_pos rfl];refine ⟨by omega,by omega,?_⟩;rw[show ((((bu pl d (gH pl d ts j) (ts.getD j be)).length:Nat):Int)-1).toNat=(bu pl d (gH pl d ts j) (ts.getD j be)).length-1 by omega];exact r.tr _ oM
theorem Et {h:Hp}{b:Bool}{zA dA:Option Addr}{zn zc dn dc:Nat}{q:Rat}(x:RZ h (b,.slice zA zn zc,.slice dA dn dc) q)(e:dn=0):q=0:=by subst e;exact Hq x
theorem xY  (sm:ByteArray→Prop)(d:Nat)(ih:∀ (r:RTm) (t:Tm) (w:World) (h:Hp),G w h→RmH d h r t→rO sm d t→Tab h→Calls Tryz.prog 29 #[F4 r] w (Ret w h (fun v h1=>∃ p,v=oq p∧TmH d h1 p t)))(op n:Int)(bq:Bool)(zA:Option Addr)(zn zc:Nat)(dA:Option Addr)(dn dc:Nat)(q:Rat)(s:ByteArray)(A:Option Addr)(c:Nat)(rs:List RTm)(ks:List Tm)(hc:rs.length≤c)(hk3:ks.length≤3)(hop : -1000≤op∧op≤1000)(hn : -1000≤n∧n≤1000)(hq:LQ 1 q)(hsm:sm s)(hW:∀ i,i<ks.length→rO sm d (ks.getD i be))(w:World)(h:Hp)(g:G w h)(hZ:RZ h (bq,.slice zA zn zc,.slice dA dn dc) q)(hK:SlO 7 kA e9 h A rs)(hKs:Rms d h rs ks)(tb:Tab h):CR 29 #[.agg #[iV op,iV n,.bool bq,.slice zA zn zc,.slice dA dn dc,.string s,.slice A rs.length c]] w h (fun v h1=>∃ p,v=oq p∧TmH (d+1) h1 p (.mk op n q s ks)):=by
 have hs:=(((((sS g).add (K:=fun h_=>RZ h_ (bq,qS zA zn zc,qS dA dn dc) q) hZ).aS hK).add (K:=fun h_=>Rms d h_ rs ks) hKs).aB tb);have hln:=(hs.f.2.1).len;refine go Tryz.func29 [(0,.agg #[iV op,iV n,.bool bq,qS zA zn zc,qS dA dn dc,.string s,qS A rs.length c])] rfl (aD (lA 1 74 ([iV op,iV n,.bool bq,qS zA zn zc,qS dA dn dc,.string s,qS A rs.length c]) hs (fun b1 w2 h3 hs=>lA 2 42 ([iV 0,iV 0,qF,uV 0,eS,uV 0,eS,eS,sZ]) hs (fun b4 w5 h6 hs=>ay (lL hs [.v 5 (pB b1),.o 6 (iV op) 1 0 1,.v 7 (qP b1 1),.o 8 (iV n) 1 1 1,.v 9 (qP b1 5),.o 10 (.string s) 1 5 1,.v 11 (.agg #[iV op,iV n,qF,uV 0,eS,uV 0,eS,.string s,sZ])] (lA 3 42 ([iV 0,iV 0,qF,uV 0,eS,uV 0,eS,eS,sZ]) hs (fun b7 w8 h9 hs=>lP 0 0 ([iV op,iV n,qF,uV 0,eS,uV 0,eS,.string s,sZ]) hs (fun _ hs=>?_))))))));refine lN (CG.join (fun Γ w_=>∃ (qq:Rat) (h_:Hp),Γ=[(1,pB b1),(2,pB b4),(3,pB b7)]∧SS w h w_ h_ [⟨b7,42,[iV op,iV n,.bool (ai qq.num),uV (lo (aa qq.num)),.string (hi (aa qq.num)),uV (lo (qd qq)),.string (hi (qd qq)),.string s,sZ]⟩,⟨b4,42,[iV 0,iV 0,qF,uV 0,eS,uV 0,eS,eS,sZ]⟩,⟨b1,74,[iV op,iV n,.bool bq,qS zA zn zc,qS dA dn dc,.string s,qS A rs.length c]⟩] [] [fun h_=>Tab h_,fun h_=>Rms d h_ rs ks,fun h_=>SlO 7 kA e9 h_ A rs,fun h_=>RZ h_ (bq,qS zA zn zc,qS dA dn dc) q]∧qq=q) ?_ ?_)
 ·
  refine ab hs [.v 12 (qP b1 2),.v 13 (qP b1 4),.o 14 (qS dA dn dc) 2 4 1,.v 15 (nV dn)] ?_;cases za:(decide ((0:Int)<(dn:Int)))
  ·
   have zd:=oF za;refine lB 16 za (am (CG.skip ?_));intro a_ ka;exact ⟨_,⟨0,h9,rfl,hs.to _ _,((Et hs.f.r.2.1 oM).symm)⟩,ka.to _ kR⟩
  have zd:=oT za;refine lB 16 za (ar (kQ (lL hs [.v 17 (qP b1 2),.o 18 (.agg #[.bool bq,qS zA zn zc,qS dA dn dc]) 2 2 3] (ah 19 hs (H6 (.agg #[.bool bq,qS zA zn zc,qS dA dn dc]) q (hq.mono oM) _ _ hs.g (Ek hs.f.r.2.1 oM) hs.f.1) (fun _ zj hs=>lL hs [.v 20 (qP b7 2)] (lP 0 2 (qc q) hs (fun _ hs=>lD ?_)))))));intro a_ ka;exact ⟨_,⟨q,zj,rfl,hs.to _ _,rfl⟩,ka.to _ kR⟩
 rintro _ _ ⟨qq,zk,rfl,hs,hqq⟩;refine cQ (ab hs [.v 4 (iV 0)] (bd ?_));replace hs:=hs.nil 42 9;refine bD [(1,pB b1),(2,pB b4),(3,pB b7),(4,iV 0)] ?_;replace hs:=hs.add (K:=fun h_=>Tms d h_ ([]) (ks.take 0)) (Tms.nil);refine CG.loop (fun μ_ Γ w_=>∃ (k:Nat) (saA:Option Addr) (sac:Nat) (al:List PTm) (h_:Hp),μ_=rs.length-k∧Γ=[(1,pB b1),(2,pB b4),(3,pB b7),(4,nV k)]∧SS w h w_ h_ [⟨b7,42,pG op n qq s saA ((al).length) sac⟩,⟨b4,42,[iV 0,iV 0,qF,uV 0,eS,uV 0,eS,eS,sZ]⟩,⟨b1,74,[iV op,iV n,.bool bq,qS zA zn zc,qS dA dn dc,.string s,qS A rs.length c]⟩] [⟨42,9,saA,sac,(al).length,(al).flatMap hJ⟩] [fun h_=>Tms d h_ al (ks.take k),fun h_=>Tab h_,fun h_=>Rms d h_ rs ks,fun h_=>SlO 7 kA e9 h_ A rs,fun h_=>RZ h_ (bq,qS zA zn zc,qS dA dn dc) q]∧k≤rs.length) _ ⟨0,none,0,[],zk,rfl,rfl,hs.to _ _,Nat.zero_le _⟩ ?_;rintro _ _ _ ⟨k,saA,sac,al,_,hm21,rfl,hs,hk⟩;have hlT:=(hs.f.1).len;rw[List.length_take] at hlT
 refine cQ (ab hs [.m 21 4,.v 22 (qP b1 6),.o 23 (qS A rs.length c) 2 6 1,.v 24 (nV rs.length)] ?_);cases zb:(decide ((k:Int)<(rs.length:Int)))
 ·
  have ze:=oF zb;refine lB 25 zb (am (CG.exit ?_))
  show CG _ _ _ _ _ _ _ _
  refine aD ?_;have hkl:k=ks.length:=by omega
  obtain ⟨_,hs,zi⟩:=hs.pubr 0 (A:=saA) (c:=sac) (l:=al) (f:=hJ) (ty:=42) (sz:=9) bG (fun _=>rfl);exact lL hs [.o 39 (pW op n qq s saA ((al).length) sac) 0 0 9] (lP 1 0 (pG op n qq s saA ((al).length) sac) hs (fun _ hs=>ae hs [(1,0,9)] (pW op n qq s saA ((al).length) sac) (⟨⟨op,n,qq,s,saA,al.length,sac⟩,rfl,by subst hqq;exact TmH.mk (by have x_:=(hs.f.2.1);rw[hkl,List.take_length] at x_;exact x_) zi hs.f.1⟩)))
 have ze:=oT zb;refine lB 25 zb (ar (cK (cQ (kZ (CG.region ⟨((Value.slice saA ((al).length) sac).ownBlock.toList),none⟩ 10 [] mixed kR hs.g aq (hs.ro_lt 0 (ty:=42) (sz:=9) (A:=saA) (c:=sac) (m:=(al).length) (cs:=(al).flatMap hJ)) ?_)))));refine eV 0 28 (qP b7 8) (eO 1 29 [(0,8,1)] (qS saA ((al).length) sac) hs ?_ (hM:=fun p hp=>by obtain rfl:=List.mem_singleton.1 hp;exact hs.ro_ne 0 0 (ty:=42) (sz:=9) (A:=saA) (c:=sac) (m:=(al).length) (cs:=(al).flatMap hJ)));refine eV 2 30 (qP b1 6) (eO 3 31 [(2,6,1)] (qS A rs.length c) hs ?_ (hM:=fun p hp=>by obtain rfl:=List.mem_singleton.1 hp;exact hs.ro_ne 2 0 (ty:=42) (sz:=9) (A:=saA) (c:=sac) (m:=(al).length) (cs:=(al).flatMap hJ)));refine eV 4 32 (nV k) (eX 5 33 A rs.length c 7 (k:Nat) k ((hs.f.r.2.1).ok oM) (eH 6 34 (.agg #[iV ((rs.getD k e9).op),iV ((rs.getD k e9).n),.bool ((rs.getD k e9).neg),qS ((rs.getD k e9).zA) ((rs.getD k e9).zn) ((rs.getD k e9).zc),qS ((rs.getD k e9).dA) ((rs.getD k e9).dn) ((rs.getD k e9).dc),.string ((rs.getD k e9).s),qS ((rs.getD k e9).A) ((rs.getD k e9).m) ((rs.getD k e9).c)]) hs ((hs.f.r.2.1).el k oM) ?_ (hM:=hs.ro_jk 0 (ty:=42) (sz:=9) (A:=saA) (c:=sac) (m:=(al).length) (cs:=(al).flatMap hJ))));refine eC 7 35 hs (fun _ _ hs=>ih (rs.getD k e9) (ks.getD k be) _ _ hs.g ((hs.f.r.1).at_ k oM) (hW k oM) hs.f.2.1) ?_;rintro _ _ _ _ _ hs ⟨pk,rfl,hpk⟩;replace hs:=(hs.add (K:=fun h_=>TmH d h_ pk (ks.getD k be)) hpk);refine eR 8 36 42 1 (pC pk) hs (fun zl _ _ hs=>eY 9 37 0 42 9 sac saA al hJ pk 112 zl (.agg #[iV 0,iV 0,qF,uV 0,eS,uV 0,eS,eS,sZ]) hs (fun _ f_=>f_.1) (fun b hb=>Option.mem_toList.2 hb) (fun zf zg _ _ hs=>bF hs (fun _ zm hs=>tV 10 38 (qP b7 8) (tP 11 0 8 ([qS zf ((al++[pk]).length) zg]) hs (fun _ hs=>tN (kQ (lL hs [.m 26 4] (bw 27 ((k:Nat)+1) (k+1) ?_))))))));refine lL hs [.m 4 27] (lD ?_);intro a_ ka;replace hs:=(hs.tl.tl.tl.add (K:=fun h_=>Tms d h_ (al++[pk]) (ks.take (k+1))) (by rw[jm be oM];exact (hs.f.r.1).snoc hs.f.2.1));refine ⟨_,_,?_,⟨k+1,zf,zg,al++[pk],zm,rfl,rfl,hs.to _ _,oM⟩,ka.to _ kR⟩
 omega
theorem rM (sm:ByteArray→Prop):∀ (d:Nat) (r:RTm) (t:Tm) (w:World) (h:Hp),G w h→RmH d h r t→rO sm d t→Tab h→Calls Tryz.prog 29 #[F4 r] w (Ret w h (fun v h1=>∃ p,v=oq p∧TmH d h1 p t))
  | 0,_,_,_,_,_,x,_,_=>x.elim
  | d+1,r,t,w,h,g,x,wf,tb=>by
    obtain ⟨op,n,b,zA,zn,zc,dA,dn,dc,q,s,A,c,rs,ks,rfl,rfl,hZ,hc,hK,hKs⟩:=x.open;obtain ⟨s1,s2,s3,s4,s5,s6⟩:=wf;exact xY sm d (fun r t w h=>rM sm d r t w h) op n b zA zn zc dA dn dc q s A c rs ks hc s1 s2 s3 s4 s5 s6 w h g hZ hK hKs tb
theorem nS (c:Nat)(b:Bool)(hb:b=decide ((97≤c∧c≤122)∨(65≤c∧c≤90)))(hc:c<256)(w:World)(h:Hp)(g:G w h):CV 125 #[.int .u8 (c:Nat)] w h (.bool b):=by
 have hs:=sS g;refine go Tryz.func125 [(0,.int .u8 (c:Nat))] rfl (ab hs [.v 2 qF] (ay (lL hs [.m 3 0] ?_)));cases hb1:(decide ((97:Int)≤(c:Int)))
 ·
  have phb1:=oF hb1;refine lB 4 hb1 (lL hs [.m 5 4] (lG 6 ?_));refine lG 7 (lL hs [.v 8 qF,.m 9 8,.m 10 0] ?_);cases hb2:(decide ((65:Int)≤(c:Int)))
  ·
   have phb2:=oF hb2;refine lB 11 hb2 (lL hs [.m 12 11] (lG 13 ?_));exact lG 14 (lL hs [.v 15 qF,.v 16 qF,.m 2 16] (ae hs [] qF (congrArg Value.bool (by rw[hb];exact (decide_eq_false oM).symm))))
  have phb2:=oT hb2;refine lB 11 hb2 (lL hs [.m 12 11,.m 13 0] ?_);cases hb3:(decide ((c:Int)≤(90:Int)))
  ·
   have phb3:=oF hb3;exact lB 14 hb3 (lL hs [.v 15 qF,.v 16 qF,.m 2 16] (ae hs [] qF (congrArg Value.bool (by rw[hb];exact (decide_eq_false oM).symm))))
  have phb3:=oT hb3;exact lB 14 hb3 (lL hs [.v 15 qT,.v 16 qT,.m 2 16] (ae hs [] qT (congrArg Value.bool (by rw[hb];exact (decide_eq_true oM).symm))))
 have phb1:=oT hb1;refine lB 4 hb1 (lL hs [.m 5 4,.m 6 0] ?_);cases hb4:(decide ((c:Int)≤(122:Int)))
 ·
  have phb4:=oF hb4;refine lB 7 hb4 (lL hs [.v 8 qF,.m 9 8,.m 10 0] ?_);have ⟨hb5,phb5⟩:=dT (p:=(65:Int)≤(c:Int)) oM;refine lB 11 hb5 (lL hs [.m 12 11,.m 13 0] ?_);have ⟨hb6,phb6⟩:=dF (p:=(c:Int)≤(90:Int)) oM;exact lB 14 hb6 (lL hs [.v 15 qF,.v 16 qF,.m 2 16] (ae hs [] qF (congrArg Value.bool (by rw[hb];exact (decide_eq_false oM).symm))))
 have phb4:=oT hb4;refine lB 7 hb4 (lL hs [.v 8 qT,.m 9 8] (lG 10 ?_));exact lG 11 (lG 12 (lG 13 (lG 14 (lG 15 (lL hs [.v 16 qT,.m 2 16] (ae hs [] qT (congrArg Value.bool (by rw[hb];exact (decide_eq_true oM).symm))))))))
theorem EZ (c:Nat)(b:Bool)(hb:b=decide (48≤c∧c≤57))(hc:c<256)(w:World)(h:Hp)(g:G w h):CV 158 #[.int .u8 (c:Nat)] w h (.bool b):=by
 have hs:=sS g;refine go Tryz.func158 [(0,.int .u8 (c:Nat))] rfl (ab hs [.v 2 qF] (ay (lL hs [.m 3 0] ?_)));cases hb1:(decide ((48:Int)≤(c:Int)))
 ·
  have phb1:=oF hb1;refine lB 4 hb1 (lL hs [.m 5 4] (lG 6 ?_));exact lG 7 (lL hs [.v 8 qF,.m 2 8] (ae hs [] qF (congrArg Value.bool (by rw[hb];exact (decide_eq_false oM).symm))))
 have phb1:=oT hb1;refine lB 4 hb1 (lL hs [.m 5 4,.m 6 0] ?_);cases hb2:(decide ((c:Int)≤(57:Int)))
 ·
  have phb2:=oF hb2;exact lB 7 hb2 (lL hs [.v 8 qF,.m 2 8] (ae hs [] qF (congrArg Value.bool (by rw[hb];exact (decide_eq_false oM).symm))))
 have phb2:=oT hb2;exact lB 7 hb2 (lL hs [.v 8 qT,.m 2 8] (ae hs [] qT (congrArg Value.bool (by rw[hb];exact (decide_eq_true oM).symm))))
theorem sO (c:Nat)(b:Bool)(hb:b=decide (((97≤c∧c≤122)∨(65≤c∧c≤90))∨(48≤c∧c≤57)∨c=95))(hc:c<256)(w:World)(h:Hp)(g:G w h):CV 126 #[.int .u8 (c:Nat)] w h (.bool b):=by
 have hs:=sS g;refine go Tryz.func126 [(0,.int .u8 (c:Nat))] rfl (ab hs [.v 2 qF] (ay (lL hs [.m 3 0] (ah 4 hs (nS c _ rfl hc _ _ hs.g) (fun w1 h2 hs=>?_)))));cases hb3:(decide ((97≤c∧c≤122)∨(65≤c∧c≤90)))
 ·
  have phb3:=oF hb3;refine lL hs [.m 5 4,.m 6 0] (ah 7 hs (EZ c _ rfl hc _ _ hs.g) (fun w4 h5 hs=>?_));cases hb6:(decide (48≤c∧c≤57))
  ·
   have phb6:=oF hb6;refine lL hs [.v 8 qF,.m 9 8,.m 10 0] ?_;cases hb7:((c:Int) == (95:Int))
   ·
    have phb7:=aj hb7;exact lB 11 hb7 (lL hs [.v 12 qF,.m 2 12] (ae hs [] qF (congrArg Value.bool (by rw[hb];exact (decide_eq_false oM).symm))))
   have phb7:=eq_of_beq hb7;exact lB 11 hb7 (lL hs [.v 12 qT,.m 2 12] (ae hs [] qT (congrArg Value.bool (by rw[hb];exact (decide_eq_true oM).symm))))
  have phb6:=oT hb6;refine lL hs [.v 8 qT,.m 9 8] (lG 10 ?_);exact lG 11 (lL hs [.v 12 qT,.m 2 12] (ae hs [] qT (congrArg Value.bool (by rw[hb];exact (decide_eq_true oM).symm))))
 have phb3:=oT hb3;refine lL hs [.m 5 4] (lG 6 ?_);refine lG 7 (lL hs [.v 8 qT,.m 9 8] (lG 10 ?_));exact lG 11 (lL hs [.v 12 qT,.m 2 12] (ae hs [] qT (congrArg Value.bool (by rw[hb];exact (decide_eq_true oM).symm))))
theorem vu  (w:World)(h:Hp)(g:G w h):CR 127 #[] w h (fun v h1=>∃ b,v=.map (some b)∧MapS h1 b [⟨.string (⟨#[97,98,115]⟩),iV 9,0⟩,⟨.string (⟨#[114,97,109,112]⟩),iV 10,1⟩,⟨.string (⟨#[98,101,110,100]⟩),iV 11,2⟩,⟨.string (⟨#[109,97,120]⟩),iV 12,3⟩,⟨.string (⟨#[109,105,110]⟩),iV 13,4⟩]):=by
 have hs:=sS g;refine go Tryz.func127 [] rfl (ab hs [.v 0 (.map none)] (ay (I9 1 hs (fun b1 w2 h3 hs hmp4=>Fp 82 9 3 (⟨#[97,98,115]⟩) (iV 9) hs hmp4 (fun w5 hs hmp6=>Fp 82 9 3 (⟨#[114,97,109,112]⟩) (iV 10) hs hmp6 (fun w7 hs hmp8=>Fp 82 9 3 (⟨#[98,101,110,100]⟩) (iV 11) hs hmp8 (fun w9 hs hmp10=>Fp 82 9 3 (⟨#[109,97,120]⟩) (iV 12) hs hmp10 (fun _ hs hmp12=>Fp 82 9 3 (⟨#[109,105,110]⟩) (iV 13) hs hmp12 (fun _ hs hmp14=>lL hs [.m 2 1] ?_)))))))));obtain ⟨_,hs,sg16⟩:=hs.pubMap hmp14;replace hs:=hs.to [] [];replace hs:=hs.add (K:=fun h_=>MapS h_ b1 [⟨.string (⟨#[97,98,115]⟩),iV 9,0⟩,⟨.string (⟨#[114,97,109,112]⟩),iV 10,1⟩,⟨.string (⟨#[98,101,110,100]⟩),iV 11,2⟩,⟨.string (⟨#[109,97,120]⟩),iV 12,3⟩,⟨.string (⟨#[109,105,110]⟩),iV 13,4⟩]) sg16;exact lL hs [.m 0 2] (ae hs [] (.map (some b1)) (⟨_,rfl,hs.f.1⟩))
theorem Dn  (w:World)(h:Hp)(g:G w h):CV 73 #[.string (⟨#[97]⟩)] w h (.bool true):=by
 have hs:=sS g;refine go Tryz.func73 [(0,.string (⟨#[97]⟩))] rfl (ab hs [.v 2 qF] (af (ab hs [.m 6 0,.v 7 (iV 1),.v 8 qF,.m 9 8,.m 10 0,.v 11 (iV 1),.v 12 qF,.v 13 qF,.m 14 13,.m 15 0,.v 16 (.int .u8 97)] (ah 17 hs (nS 97 true kD kD _ _ hs.g) (fun w1 h2 hs=>lL hs [.v 18 qF,.v 19 qF] (am (cK (cQ (ab hs [.m 20 0,.v 21 (iV 1),.v 22 (iV 0)] (bd (cU ?_)))))))))));refine cN (ab hs [.v 23 qT] (af (cI (cK (cQ (kZ (ab hs [.m 24 22,.m 3 24] (ay (lL hs [.m 25 0,.m 26 3,.v 27 (.int .u8 97)] (ah 28 hs (sO 97 true kD kD _ _ hs.g) (fun w3 h4 hs=>lL hs [.v 29 qF] (am (cK (kQ (lL hs [.v 30 (iV 1),.m 22 30] (lD (CL.to [(0,.string (⟨#[97]⟩)),(2,qF),(21,iV 1),(22,iV 1),(23,qT),(24,iV 0),(3,iV 0),(25,.string (⟨#[97]⟩)),(26,iV 0),(27,.int .u8 97),(28,qT),(29,qF),(30,iV 1)] ?_)))))))))))))))));replace hs:=hs.to [] [];refine cN (ab hs [.v 23 qF] (af (dK (CG.exit ?_))))
 show CG _ _ _ _ _ _ _ _
 refine aD (lC 32 hs (vu _ _ hs.g) ?_);rintro _ w5 h6 hs ⟨bm,rfl,hcm⟩;replace hs:=(hs.add (K:=fun h_=>MapS h_ bm [⟨.string (⟨#[97,98,115]⟩),iV 9,0⟩,⟨.string (⟨#[114,97,109,112]⟩),iV 10,1⟩,⟨.string (⟨#[98,101,110,100]⟩),iV 11,2⟩,⟨.string (⟨#[109,97,120]⟩),iV 12,3⟩,⟨.string (⟨#[109,105,110]⟩),iV 13,4⟩]) hcm);refine lL hs [.m 33 0] (Ic 34 82 9 3 (⟨#[97]⟩) true (iV 0) false hs hs.f.1 ?_ (hf:=(.inr ⟨by kernel_rfl,rfl,fun _=>by kernel_rfl⟩)));exact lL hs [.m 31 34,.v 35 (iV 0),.v 36 qF,.m 4 35,.m 5 36] (ay (lL hs [.m 37 5,.v 38 qT,.m 2 38] (ae hs [] qT rfl)))
theorem Da  (w:World)(h:Hp)(g:G w h):CV 73 #[.string (⟨#[98]⟩)] w h (.bool true):=by
 have hs:=sS g;refine go Tryz.func73 [(0,.string (⟨#[98]⟩))] rfl (ab hs [.v 2 qF] (af (ab hs [.m 6 0,.v 7 (iV 1),.v 8 qF,.m 9 8,.m 10 0,.v 11 (iV 1),.v 12 qF,.v 13 qF,.m 14 13,.m 15 0,.v 16 (.int .u8 98)] (ah 17 hs (nS 98 true kD kD _ _ hs.g) (fun w1 h2 hs=>lL hs [.v 18 qF,.v 19 qF] (am (cK (cQ (ab hs [.m 20 0,.v 21 (iV 1),.v 22 (iV 0)] (bd (cU ?_)))))))))));refine cN (ab hs [.v 23 qT] (af (cI (cK (cQ (kZ (ab hs [.m 24 22,.m 3 24] (ay (lL hs [.m 25 0,.m 26 3,.v 27 (.int .u8 98)] (ah 28 hs (sO 98 true kD kD _ _ hs.g) (fun w3 h4 hs=>lL hs [.v 29 qF] (am (cK (kQ (lL hs [.v 30 (iV 1),.m 22 30] (lD (CL.to [(0,.string (⟨#[98]⟩)),(2,qF),(21,iV 1),(22,iV 1),(23,qT),(24,iV 0),(3,iV 0),(25,.string (⟨#[98]⟩)),(26,iV 0),(27,.int .u8 98),(28,qT),(29,qF),(30,iV 1)] ?_)))))))))))))))));replace hs:=hs.to [] [];refine cN (ab hs [.v 23 qF] (af (dK (CG.exit ?_))))
 show CG _ _ _ _ _ _ _ _
 refine aD (lC 32 hs (vu _ _ hs.g) ?_);rintro _ w5 h6 hs ⟨bm,rfl,hcm⟩;replace hs:=(hs.add (K:=fun h_=>MapS h_ bm [⟨.string (⟨#[97,98,115]⟩),iV 9,0⟩,⟨.string (⟨#[114,97,109,112]⟩),iV 10,1⟩,⟨.string (⟨#[98,101,110,100]⟩),iV 11,2⟩,⟨.string (⟨#[109,97,120]⟩),iV 12,3⟩,⟨.string (⟨#[109,105,110]⟩),iV 13,4⟩]) hcm);refine lL hs [.m 33 0] (Ic 34 82 9 3 (⟨#[98]⟩) true (iV 0) false hs hs.f.1 ?_ (hf:=(.inr ⟨by kernel_rfl,rfl,fun _=>by kernel_rfl⟩)));exact lL hs [.m 31 34,.v 35 (iV 0),.v 36 qF,.m 4 35,.m 5 36] (ay (lL hs [.m 37 5,.v 38 qT,.m 2 38] (ae hs [] qT rfl)))
section
variable {d:Nat} {h:Hp}
theorem r8 {s:ByteArray}:RmH 1 h ⟨2,0,false,none,0,0,none,0,0,s,none,0,0⟩ (.mk 2 0 0 s []) :=
 ⟨rfl,rfl,⟨false,⟨none,0,none,0,rfl,Nat.le_refl _,Nat.le_refl _,SlO.nil,SlO.nil⟩,fun _=>rfl⟩,rfl,rfl,Nat.le_refl _,[],rfl,SlO.nil,fun i hi=>absurd hi (Nat.not_lt_zero i)⟩
theorem Eh {b:Bool}{zA dA:Option Addr}{zn zc dn dc:Nat}{q:Rat}(hz:RZ h (b,.slice zA zn zc,.slice dA dn dc) q):RmH 1 h ⟨1,0,b,zA,zn,zc,dA,dn,dc,⟨#[]⟩,none,0,0⟩ (.mk 1 0 q ⟨#[]⟩ []) :=
 ⟨rfl,rfl,hz,rfl,rfl,Nat.le_refl _,[],rfl,SlO.nil,fun i hi=>absurd hi (Nat.not_lt_zero i)⟩
theorem Cz:RZ h (false,.slice none 0 0,.slice none 0 0) 0:=⟨false,⟨none,0,none,0,rfl,Nat.le_refl _,Nat.le_refl _,SlO.nil,SlO.nil⟩,fun _=>rfl⟩
theorem FX {op:Int}{ra rb:RTm}{ta tb:Tm}{b:Nat}{e:Nat}(x:RmH d h ra ta)(y:RmH e h rb tb)(hA:SlO 7 kA e9 h (some ⟨b,0,none⟩) [ra,rb]):RmH (max d e+1) h ⟨op,0,false,none,0,0,none,0,0,⟨#[]⟩,some ⟨b,0,none⟩,2,2⟩ (.mk op 0 0 ⟨#[]⟩ [ta,tb]):=by
 refine ⟨rfl,rfl,Cz,rfl,rfl,Nat.le_refl _,[ra,rb],rfl,hA,fun i hi=>?_⟩;have:i=0∨i=1:=by have:i<2:=hi;omega
 rcases this with rfl|rfl
 ·exact x.mono (Nat.le_max_left _ _)
 ·exact y.mono (Nat.le_max_right _ _)
theorem E9 {n:Int}{ra:RTm}{ta:Tm}{b:Nat}(x:RmH d h ra ta)(hA:SlO 7 kA e9 h (some ⟨b,0,none⟩) [ra]):RmH (d+1) h ⟨8,n,false,none,0,0,none,0,0,⟨#[]⟩,some ⟨b,0,none⟩,1,1⟩ (.mk 8 n 0 ⟨#[]⟩ [ta]):=by
 refine ⟨rfl,rfl,Cz,rfl,rfl,Nat.le_refl _,[ra],rfl,hA,fun i hi=>?_⟩;have:i=0:=by have:i<1:=hi;omega
 subst this;exact x
end
def t7 (s:ByteArray)(c:Rat):Tm:=.mk 8 2 0 ⟨#[]⟩ [.mk 4 0 0 ⟨#[]⟩ [.mk 2 0 0 s [],.mk 1 0 c ⟨#[]⟩ []]]
def mD (c0 c1:Rat):Tm:=.mk 6 0 0 ⟨#[]⟩ [.mk 3 0 0 ⟨#[]⟩ [t7 ⟨#[97]⟩ c0,t7 ⟨#[98]⟩ c1],.mk 1 0 ((2:Int):Rat) ⟨#[]⟩ []]
def mI (s:ByteArray):Bool:=decide (s=⟨#[97]⟩∨s=⟨#[98]⟩)
def Hl (s:ByteArray):Prop:=s=⟨#[]⟩∨s=⟨#[97]⟩∨s=⟨#[98]⟩
def vR (s:ByteArray):Int:=if s=⟨#[97]⟩ then 0 else 1
theorem wG {c0 c1:Rat}(h0:LQ 1 c0)(h1:LQ 1 c1):WfT (fun s=>mI s=true) 5 (mD c0 c1):=by
 have z:LQ 1 (0:Rat):=nh kD;have leaf:∀ s,mI s=true→∀ d,WfT (fun s=>mI s=true) (d+1) (.mk 2 0 0 s []):=fun s hs d=>⟨rfl,fun _=>rfl,z,fun _=>hs,fun h=>absurd rfl h,fun _=>rfl,show (-12:Int)≤0 by decide,show (0:Int)≤12 by decide,fun i hi=>absurd hi (Nat.not_lt_zero i)⟩
 have num:∀ c,LQ 1 c→∀ d,WfT (fun s=>mI s=true) (d+1) (.mk 1 0 c ⟨#[]⟩ []):=fun c hc d=>⟨rfl,fun h=>absurd rfl h,hc,fun h=>absurd (show (1:Int)=2 from h) kD,fun _=>rfl,fun _=>rfl,show (-12:Int)≤0 by decide,show (0:Int)≤12 by decide,fun i hi=>absurd hi (Nat.not_lt_zero i)⟩
 have two:∀ (op:Int) (a b:Tm) (d:Nat),dD op=2→op≠1→op≠2→op≠8→WfT (fun s=>mI s=true) d a→WfT (fun s=>mI s=true) d b→WfT (fun s=>mI s=true) (d+1) (.mk op 0 0 ⟨#[]⟩ [a,b]):=fun op a b d e1 e2 e3 e4 x y=>⟨e1,fun _=>rfl,z,fun h=>absurd h e3,fun _=>rfl,fun _=>rfl,show (-12:Int)≤0 by decide,show (0:Int)≤12 by decide,fun i hi=>by
  have:i=0∨i=1:=by have:i<2:=hi;omega
  rcases this with rfl|rfl
  ·exact x
  ·exact y⟩
 have pw:∀ s c,mI s=true→LQ 1 c→WfT (fun s=>mI s=true) 3 (t7 s c):=fun s c hs hc=>⟨rfl,fun _=>rfl,z,fun h=>absurd (show (8:Int)=2 from h) kD,fun _=>rfl,fun h=>absurd rfl h,show (-12:Int)≤2 by decide,show (2:Int)≤12 by decide,fun i hi=>by
  have:i=0:=by have:i<1:=hi;omega
  subst this;exact two 4 _ _ 1 rfl kD kD kD (leaf s hs 0) (num c hc 0)⟩
 exact two 6 _ _ 4 rfl kD kD kD (two 3 _ _ 3 rfl kD kD kD (pw _ _ kD h0) (pw _ _ kD h1)) (num _ (LQ.lit (z:=2) kD) 3)
theorem DC (s:ByteArray)(h:mI s=true):Hl s:=.inr (oT h)
theorem vd {c0 c1:Rat}(h0:LQ 1 c0)(h1:LQ 1 c1):rO Hl 5 (mD c0 c1):=(wG h0 h1).sm DC (.inl rfl)
theorem E7 (q:Rat)(A1:Option Addr)(c1:Nat)(D1:Option Addr)(d1:Nat)(hc1:(lim (aa q.num)).length≤c1)(hd1:(lim q.den).length≤d1)(w:World)(h:Hp)(g:G w h)(hA1:S3 A1 (lim (aa q.num)) h)(hD1:S3 D1 (lim q.den) h):CR 28 #[rG q A1 c1 D1 d1] w h (fun v h1=>∃ r,v=F4 r∧RmH 1 h1 r (.mk 1 0 q ⟨#[]⟩ [])):=by
 have hs:=(((sS g).aS hA1).aS hD1);exact go Tryz.func28 [(0,rG q A1 c1 D1 d1)] rfl (aD (lA 1 28 (jn q A1 c1 D1 d1) hs (fun b1 w2 h3 hs=>lA 2 74 ([iV 0,iV 0,qF,sZ,sZ,eS,sZ]) hs (fun b4 w5 h6 hs=>ay (lL hs [.o 3 (rG q A1 c1 D1 d1) 1 0 3,.v 4 (.agg #[iV 1,iV 0,.bool (ai q.num),qS A1 ((lim (aa q.num)).length) c1,qS D1 ((lim q.den).length) d1,eS,sZ])] (lP 0 0 ([iV 1,iV 0,.bool (ai q.num),qS A1 ((lim (aa q.num)).length) c1,qS D1 ((lim q.den).length) d1,eS,sZ]) hs (fun w7 hs=>ae hs [(0,0,7)] (.agg #[iV 1,iV 0,.bool (ai q.num),qS A1 ((lim (aa q.num)).length) c1,qS D1 ((lim q.den).length) d1,eS,sZ]) (⟨(⟨1,0,ai q.num,A1,(lim (aa q.num)).length,c1,D1,(lim q.den).length,d1,⟨#[]⟩,none,0,0⟩:RTm),rfl,Eh ⟨true,⟨_,_,_,_,rfl,hc1,hd1,hs.f.2.1,hs.f.1⟩,fun h_=>(by cases h_)⟩⟩))))))))
theorem rN (op:Int)(ra rb:RTm)(ta tb:Tm)(d e:Nat)(w:World)(h:Hp)(g:G w h)(hx:RmH d h ra ta)(hy:RmH e h rb tb):CR 27 #[iV op,.agg #[iV ra.op,iV ra.n,.bool ra.neg,.slice ra.zA ra.zn ra.zc,.slice ra.dA ra.dn ra.dc,.string ra.s,.slice ra.A ra.m ra.c],.agg #[iV rb.op,iV rb.n,.bool rb.neg,.slice rb.zA rb.zn rb.zc,.slice rb.dA rb.dn rb.dc,.string rb.s,.slice rb.A rb.m rb.c]] w h (fun v h1=>∃ r,v=F4 r∧RmH (max d e+1) h1 r (.mk op 0 0 ⟨#[]⟩ [ta,tb])):=by
 have hs:=(((sS g).add (K:=fun h_=>RmH d h_ ra ta) hx).add (K:=fun h_=>RmH e h_ rb tb) hy);refine go Tryz.func27 [(0,iV op),(1,.agg #[iV ra.op,iV ra.n,.bool ra.neg,qS ra.zA ra.zn ra.zc,qS ra.dA ra.dn ra.dc,.string ra.s,qS ra.A ra.m ra.c]),(2,.agg #[iV rb.op,iV rb.n,.bool rb.neg,qS rb.zA rb.zn rb.zc,qS rb.dA rb.dn rb.dc,.string rb.s,qS rb.A rb.m rb.c])] rfl (aD (lA 4 74 ([iV ra.op,iV ra.n,.bool ra.neg,qS ra.zA ra.zn ra.zc,qS ra.dA ra.dn ra.dc,.string ra.s,qS ra.A ra.m ra.c]) hs (fun b1 w2 h3 hs=>lA 5 74 ([iV rb.op,iV rb.n,.bool rb.neg,qS rb.zA rb.zn rb.zc,qS rb.dA rb.dn rb.dc,.string rb.s,qS rb.A rb.m rb.c]) hs (fun b4 w5 h6 hs=>lA 6 74 ([iV 0,iV 0,qF,sZ,sZ,eS,sZ]) hs (fun b7 w8 h9 hs=>ay (lL hs [.m 7 0,.o 8 (.agg #[iV ra.op,iV ra.n,.bool ra.neg,qS ra.zA ra.zn ra.zc,qS ra.dA ra.dn ra.dc,.string ra.s,qS ra.A ra.m ra.c]) 2 0 7,.o 9 (.agg #[iV rb.op,iV rb.n,.bool rb.neg,qS rb.zA rb.zn rb.zc,qS rb.dA rb.dn rb.dc,.string rb.s,qS rb.A rb.m rb.c]) 1 0 7] (lR 10 74 2 ([iV ra.op,iV ra.n,.bool ra.neg,qS ra.zA ra.zn ra.zc,qS ra.dA ra.dn ra.dc,.string ra.s,qS ra.A ra.m ra.c,iV rb.op,iV rb.n,.bool rb.neg,qS rb.zA rb.zn rb.zc,qS rb.dA rb.dn rb.dc,.string rb.s,qS rb.A rb.m rb.c]) hs (fun za _ _ hs=>?_))))))));replace hs:=hs.aS (SlO.of_flat (sz:=7) (f:=kA) (d:=e9) (b:=za) (o:=0) (l:=([(⟨ra.op,ra.n,ra.neg,ra.zA,ra.zn,ra.zc,ra.dA,ra.dn,ra.dc,ra.s,ra.A,ra.m,ra.c⟩:RTm),(⟨rb.op,rb.n,rb.neg,rb.zA,rb.zn,rb.zc,rb.dA,rb.dn,rb.dc,rb.s,rb.A,rb.m,rb.c⟩:RTm)]:List RTm)) (fun _=>rfl) hs.f.1);exact lL hs [.v 11 (.agg #[iV op,iV 0,qF,sZ,sZ,eS,qS (sB za) 2 2])] (lP 0 0 ([iV op,iV 0,qF,sZ,sZ,eS,qS (sB za) 2 2]) hs (fun _ hs=>ae hs [(0,0,7)] (.agg #[iV op,iV 0,qF,sZ,sZ,eS,qS (sB za) 2 2]) (⟨(⟨op,0,false,none,0,0,none,0,0,⟨#[]⟩,sB za,2,2⟩:RTm),rfl,FX hs.f.r.2.1 hs.f.r.1 hs.f.1⟩)))
theorem Dc (ra:RTm)(n:Int)(ta:Tm)(d:Nat)(w:World)(h:Hp)(g:G w h)(hx:RmH d h ra ta):CR 26 #[.agg #[iV ra.op,iV ra.n,.bool ra.neg,.slice ra.zA ra.zn ra.zc,.slice ra.dA ra.dn ra.dc,.string ra.s,.slice ra.A ra.m ra.c],iV n] w h (fun v h1=>∃ r,v=F4 r∧RmH (d+1) h1 r (.mk 8 n 0 ⟨#[]⟩ [ta])):=by
 have hs:=((sS g).add (K:=fun h_=>RmH d h_ ra ta) hx);refine go Tryz.func26 [(0,.agg #[iV ra.op,iV ra.n,.bool ra.neg,qS ra.zA ra.zn ra.zc,qS ra.dA ra.dn ra.dc,.string ra.s,qS ra.A ra.m ra.c]),(1,iV n)] rfl (aD (lA 2 74 ([iV ra.op,iV ra.n,.bool ra.neg,qS ra.zA ra.zn ra.zc,qS ra.dA ra.dn ra.dc,.string ra.s,qS ra.A ra.m ra.c]) hs (fun b1 w2 h3 hs=>lA 4 74 ([iV 0,iV 0,qF,sZ,sZ,eS,sZ]) hs (fun b4 w5 h6 hs=>ay (lL hs [.m 5 1,.o 6 (.agg #[iV ra.op,iV ra.n,.bool ra.neg,qS ra.zA ra.zn ra.zc,qS ra.dA ra.dn ra.dc,.string ra.s,qS ra.A ra.m ra.c]) 1 0 7] (lR 7 74 1 ([iV ra.op,iV ra.n,.bool ra.neg,qS ra.zA ra.zn ra.zc,qS ra.dA ra.dn ra.dc,.string ra.s,qS ra.A ra.m ra.c]) hs (fun b7 w8 h9 hs=>?_)))))));replace hs:=hs.aS (SlO.of_flat (sz:=7) (f:=kA) (d:=e9) (b:=b7) (o:=0) (l:=([(⟨ra.op,ra.n,ra.neg,ra.zA,ra.zn,ra.zc,ra.dA,ra.dn,ra.dc,ra.s,ra.A,ra.m,ra.c⟩:RTm)]:List RTm)) (fun _=>rfl) hs.f.1);exact lL hs [.v 8 (.agg #[iV 8,iV n,qF,sZ,sZ,eS,qS (sB b7) 1 1])] (lP 0 0 ([iV 8,iV n,qF,sZ,sZ,eS,qS (sB b7) 1 1]) hs (fun _ hs=>ae hs [(0,0,7)] (.agg #[iV 8,iV n,qF,sZ,sZ,eS,qS (sB b7) 1 1]) (⟨(⟨8,n,false,none,0,0,none,0,0,⟨#[]⟩,sB b7,1,1⟩:RTm),rfl,E9 hs.f.r.1 hs.f.1⟩)))
end Go.Proofs.YtahgaogfpimkpaaGreatDoor
