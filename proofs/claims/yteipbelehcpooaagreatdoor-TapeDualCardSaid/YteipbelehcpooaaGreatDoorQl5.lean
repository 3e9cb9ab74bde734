/- Laws of this claim, part 6. -/
import Derived.Test.YteipbelehcpooaaGreatDoorQl0
import Derived.Test.YteipbelehcpooaaGreatDoorQl1
import Derived.Test.YteipbelehcpooaaGreatDoorQl2
import Derived.Test.YteipbelehcpooaaGreatDoorQl3
import Derived.Test.YteipbelehcpooaaGreatDoorQl4
set_option maxRecDepth 100000
set_option maxHeartbeats 4000000
namespace Go.Proofs.YteipbelehcpooaaGreatDoor
open _root_.Array renaming getElem?_append_left -> yh, getElem?_eq_some_iff -> na, getElem?_push_size -> gp, getElem?_setIfInBounds_ne -> oi, getElem?_setIfInBounds_self_of_lt -> zF, size_setIfInBounds -> Lr
open Bool renaming and_eq_true -> ov
open Int renaming toNat_natCast -> y6
open List renaming append_assoc -> Ls, getD_eq_getElem?_getD -> A4, getD_nil -> LC, getElem?_eq_none -> x4, length_append -> yR, length_nil -> Li, length_replicate -> Lk, length_set -> JJ, length_singleton -> K8, map_append -> Lp, mem_cons -> hP, mem_cons_of_mem -> Kg, mem_cons_self -> Kf, mem_map -> g8, mem_of_getElem? -> LD, mem_singleton -> vl, range' -> xv, range'_succ -> xw, replicate -> y2, set_eq_of_length_le -> La, toArray -> Ky
open Nat renaming add_zero -> yK, le_mul_of_pos_left -> Kv, le_of_ble_eq_true -> Am, le_refl -> ey, le_trans -> e6, lt_irrefl -> KZ, lt_or_ge -> ep, lt_succ_iff_lt_or_eq -> LA, lt_succ_self -> LB, mul_le_mul_right -> yX, not_lt_zero -> K6, pow_le_pow_right -> Ju, sub_self -> yp, succ_mul -> yP, zero_add -> yW, zero_le -> JU
open Go.RowKit
open Go.RowKit Go.Shelf
open Go.RowKit Go.WideMaps
def NsD (ns:List ByteArray):Prop:=ns=([⟨#[120]⟩,⟨#[121]⟩]:List ByteArray)\/ns=([⟨#[120]⟩,⟨#[121]⟩,⟨#[122]⟩,⟨#[120]⟩]:List ByteArray)\/ns=([⟨#[109,97,120]⟩,⟨#[120]⟩,⟨#[121]⟩,⟨#[122]⟩]:List ByteArray)\/ns=([⟨#[122]⟩,⟨#[121]⟩,⟨#[120]⟩,⟨#[119]⟩]:List ByteArray)\/ns=eb\/ns=([⟨#[120]⟩]:List ByteArray)
theorem NsD.len {a:List ByteArray}(h:NsD a):a.length<=4/\1<=a.length:=by
 rcases h with rfl|rfl|rfl|rfl|rfl|rfl<;>decide
theorem NsD.small {a:List ByteArray}(h:NsD a):∀ i,i<a.length->oh (a.getD i ⟨#[]⟩):=by
 unfold oh
 rcases h with rfl|rfl|rfl|rfl|rfl|rfl<;>decide
def wY:List MapEntry:=[⟨.string ⟨#[120]⟩,.int .i64 3,0⟩,⟨.string ⟨#[121]⟩,.int .i64 1,1⟩,⟨.string ⟨#[122]⟩,.int .i64 2,2⟩]
def pN:List ByteArray:=([⟨#[120]⟩,⟨#[121]⟩,⟨#[122]⟩,⟨#[120]⟩]:List ByteArray)
def vr (ns:List ByteArray):List MapEntry:=if ns=pN then wY else ru ns 0
def vN (ns:List ByteArray)(s:ByteArray):Int:=if ns=pN then (if s=⟨#[120]⟩ then 3 else if s=⟨#[121]⟩ then 1 else if s=⟨#[122]⟩ then 2 else 0) else rO ns s
theorem E4 (s:ByteArray):(∃ i,Instr.findNow .string (.string s) wY 0=some (some (i,.int .i64 (vN pN s)))/\decide (s∈pN)=true)\/(Instr.findNow .string (.string s) wY 0=some none/\decide (s∈pN)=false/\vN pN s=0):=by
 by_cases h1:s=⟨#[120]⟩
 ·subst h1;exact .inl ⟨0,by kernel_rfl,by decide⟩
 by_cases h2:s=⟨#[121]⟩
 ·subst h2;exact .inl ⟨1,by kernel_rfl,by decide⟩
 by_cases h3:s=⟨#[122]⟩
 ·subst h3;exact .inl ⟨2,by kernel_rfl,by decide⟩
 refine .inr ⟨?_,decide_eq_false (fun h=>?_),by unfold vN;rw[if_pos rfl,if_neg h1,if_neg h2,if_neg h3]⟩
 ·rcases MapKept.findNow_spec (d:=.string) (k:=.string s) (by simp[MapKept.IsKey]) wY 0 (fun x f=>by
   simp only[wY,hP,List.not_mem_nil,or_false] at f
   rcases f with rfl|rfl|rfl<;>simp[MapKept.IsKey]) with ⟨a,_⟩|⟨j,e,a,b,c⟩
  ·exact a
  ·exfalso
   match j,b with
   | 0,b=>injection b with b;subst b;injection c with c;exact h1 c.symm
   | 1,b=>injection b with b;subst b;injection c with c;exact h2 c.symm
   | 2,b=>injection b with b;subst b;injection c with c;exact h3 c.symm
   | n+3,b=>cases b
 ·simp only[pN,hP,List.not_mem_nil,or_false] at h
  rcases h with h|h|h|h
  ·exact h1 h
  ·exact h2 h
  ·exact h3 h
  ·exact h1 h
theorem Jr {a:List ByteArray}(b:NsD a)(_:∀ i,i<a.length->ez (a.getD i ⟨#[]⟩)=true)(s:ByteArray):(∃ i,Instr.findNow .string (.string s) (vr a) 0=some (some (i,.int .i64 (vN a s)))/\decide (s∈a)=true)\/(Instr.findNow .string (.string s) (vr a) 0=some none/\decide (s∈a)=false/\vN a s=0):=by
 by_cases hd:a=pN
 ·subst hd;unfold vr;rw[if_pos rfl];exact E4 s
 ·unfold vr vN;rw[if_neg hd,if_neg hd]
  refine vQ ?_ s
  rcases b with rfl|rfl|rfl|rfl|rfl|rfl
  ·decide
  ·exact absurd rfl hd
  ·decide
  ·decide
  ·decide
  ·decide
theorem xx {a:List ByteArray}(b:NsD a):a.Nodup↔(vr a).length=a.length:=by
 rcases b with rfl|rfl|rfl|rfl|rfl|rfl<;>decide
theorem pV {a:List ByteArray}(f:NsD a)(d:∀ i,i<a.length->ez (a.getD i ⟨#[]⟩)=true)(A:Z9)(c:Nat)(w:World)(h:Hp)(g:G w h)(e:SlO 1 eo ⟨#[]⟩ h A a):Calls Tryz.prog 39 #[.slice A a.length c] w (Ret w h (fun v h1=>∃ b,v=.map (some b)/\MapS h1 b (vr a))):=by
 rcases f with rfl|rfl|rfl|rfl|rfl|rfl
 ·exact vR A c w h g e
 ·exact xJ A c w h g e
 ·exact absurd (d 0 kD) kD
 ·exact wm A c w h g e
 ·exact xO A c w h g e
 ·exact vw A c w h g e
def DckR (d:Nat)(t:Tm)(ns:List ByteArray)(M:Prop)(e:Int):Prop :=
  (¬jb ez d t/\e=1)\/(jb ez d t/\((¬M/\e=5)\/(M/\((¬(∀ i,i<ns.length->ez (ns.getD i ⟨#[]⟩)=true)/\e=11)\/((∀ i,i<ns.length->ez (ns.getD i ⟨#[]⟩)=true)/\((¬(∀ s,ir d t s->s∈ns)/\e=11)\/((∀ s,ir d t s->s∈ns)/\((¬ns.Nodup/\e=8)\/(ns.Nodup/\e=0)))))))))
theorem DckR.uniq {d:Nat}{t:Tm}{j:List ByteArray}{M:Prop}{e h:Int}(x:DckR d t j M e)(y:DckR d t j M h):e=h:=by
 rcases x with ⟨a,rfl⟩|⟨a,⟨b,rfl⟩|⟨b,⟨c,rfl⟩|⟨c,⟨f,rfl⟩|⟨f,⟨i,rfl⟩|⟨i,rfl⟩⟩⟩⟩⟩ <;>
 rcases y with ⟨a',rfl⟩|⟨a',⟨b',rfl⟩|⟨b',⟨c',rfl⟩|⟨c',⟨f',rfl⟩|⟨f',⟨i',rfl⟩|⟨i',rfl⟩⟩⟩⟩⟩ <;>
 first
 | rfl
 | exact absurd a' a
 | exact absurd a a'
 | exact absurd b' b
 | exact absurd b b'
 | exact absurd c' c
 | exact absurd c c'
 | exact absurd f' f
 | exact absurd f f'
 | exact absurd i' i
 | exact absurd i i'
theorem DckR.ok {d:Nat}{t:Tm}{j:List ByteArray}{M:Prop}{e:Int}(x:DckR d t j M e)(h:e=0):jb ez d t/\M/\(∀ i,i<j.length->ez (j.getD i ⟨#[]⟩)=true)/\(∀ s,ir d t s->s∈j)/\j.Nodup:=by
 rcases x with ⟨a,rfl⟩|⟨a,⟨b,rfl⟩|⟨b,⟨c,rfl⟩|⟨c,⟨f,rfl⟩|⟨f,⟨i,rfl⟩|⟨i,rfl⟩⟩⟩⟩⟩
 ·cases h
 ·cases h
 ·cases h
 ·cases h
 ·cases h
 ·exact ⟨a,b,c,f,i⟩
theorem BN (d:Nat)(p:PTm)(t:Tm)(hd:d<=20)(D:Z9)(z:Nat)(l:List ByteArray)(B:NsD l)(S:Z9)(cu:Nat)(us:List Value)(V:List Nat)(bt:us.length<=10)(hus:∀ j,j<us.length->∃ A c,us.getD j undef=.slice A (V.getD j 0) c/\V.getD j 0<=1000000)(w:World)(h:Hp)(g:G w h)(hT:TmH d h p t)(hS:SmT1 oh d t)(hN:SlO 1 eo ⟨#[]⟩ h D l)(hU:Sv S us h):CR 38 #[dl p,.slice D l.length z,.slice S us.length cu] w h (fun v _=>∃ e:Int,v=iV e/\DckR d t l (∀ j,j<us.length->V.getD j 0=l.length) e):=by
 have a:=((((sS g).add (K:=fun b=>TmH d b p t) hT).aS hN).aS hU);have bq:=B.len;refine go Tryz.func38 [(0,dl p),(1,qS D l.length z),(2,qS S us.length cu)] rfl (aD (lA 3 32 (dr p) a (fun b1 w2 h3 a=>lL a ae (ag (ab a [.o (dl p) 0 0 9] (lC 17 a (DW ez oh Gd d p t oM _ _ a.g a.f.r.1 hS.sm) ?_))))));rintro _ w4 h5 a ⟨ec,rfl,L⟩;cases M:((ec:Int) != (0:Int))
 .
  have Z:=aJ M;refine lB 18 M (ai (cK (cQ (ab a [.c,.v (nV us.length),.c] (be ?_)))));refine bU _ (CG.loop (fun H Γ w_=>∃ (u:Nat)(b:Hp),H=us.length-u/\Γ=[(1,qS D l.length z),(3,pB b1),(19,qS S us.length cu),(20,nV us.length),(21,nV u)]/\SS w h w_ b [⟨b1,32,dr p⟩] [] [Sv S us,fun b=>SlO 1 eo ⟨#[]⟩ b D l,fun b=>TmH d b p t]/\u<=us.length/\(∀ i,i<u->V.getD i 0=l.length)) _ ⟨0,h5,rfl,rfl,a.to _ _,JU _,(fun i hi=>absurd hi (K6 i))⟩ ?_);rintro _ _ w7 ⟨u,h8,hm9,rfl,a,hu,I⟩;refine aD ?_;cases za:(decide ((u:Int)<(us.length:Int)))
  .
   have zi:=oF za;refine lB 22 za (ag (dv (CG.exit ?_)))
   show CG _ _ _ _ _ _ _ _
   refine cQ (ab a [.c,.v (nV l.length)] ?_);cases zb:(decide ((20:Int)<(l.length:Int)))
   .
    have zj:=oF zb;refine lB 33 zb (ai (cK (cQ (ab a [.c,.v (nV l.length),.c] (be ?_)))));refine bU _ (CG.loop (fun H Γ w_=>∃ (k:Nat)(b:Hp),H=l.length-k/\Γ=[(1,qS D l.length z),(3,pB b1),(34,qS D l.length z),(35,nV l.length),(36,nV k)]/\SS w h w_ b [⟨b1,32,dr p⟩] [] [Sv S us,fun b=>SlO 1 eo ⟨#[]⟩ b D l,fun b=>TmH d b p t]/\k<=l.length/\(∀ i,i<k->ez (l.getD i ⟨#[]⟩)=true)) _ ⟨0,h8,rfl,rfl,a.to _ _,JU _,(fun i hi=>absurd hi (K6 i))⟩ ?_);rintro _ _ _ ⟨k,_,bl,rfl,a,hk,hal⟩;refine aD ?_;cases zc:(decide ((k:Int)<(l.length:Int)))
    .
     have zk:=oF zc;refine lB 37 zc (ag (dv (CG.exit ?_)))
     show CG _ _ _ _ _ _ _ _
     have y:∀ i,i<l.length->ez (l.getD i ⟨#[]⟩)=true:=fun i hi=>hal i oM
     refine ab a ae (lC 45 a (pV B y D z _ _ a.g a.f.2.1) ?_);rintro _ _ _ a ⟨bm,rfl,hM⟩;replace a:=(a.add (K:=fun b=>MapS b bm (vr l)) hM);refine lL a ae (ag ?_);have C:=th hS L oM;have bb:=C.1;refine ab a [.o (dl p) 0 0 9] (lC 47 a (xT (fun s=>ez s=true) (fun s_ b=>by have q_:=AX b;unfold oh at q_;omega) d hd p t _ _ a.g a.f.r.2.1 bb) ?_);rintro _ _ zo a ⟨nA,nc,x,rfl,hnc,hnl,hnS,O⟩;replace a:=a.aS hnS;refine lL a [.v (nV x.length),.c] (be ?_);refine bU _ (CG.loop (fun H Γ w_=>∃ (j:Nat)(b:Hp),H=x.length-j/\Γ=[(1,qS D l.length z),(11,.map (some bm)),(47,qS nA x.length nc),(48,nV x.length),(49,nV j)]/\SS w h w_ b [⟨b1,32,dr p⟩] [] [fun b=>SlO 1 eo ⟨#[]⟩ b nA x,fun b=>MapS b bm (vr l),Sv S us,fun b=>SlO 1 eo ⟨#[]⟩ b D l,fun b=>TmH d b p t]/\j<=x.length/\(∀ i,i<j->x.getD i ⟨#[]⟩∈l)) _ ⟨0,zo,rfl,rfl,a.to _ _,JU _,(fun i hi=>absurd hi (K6 i))⟩ ?_);rintro _ _ _ ⟨j,zp,bn,rfl,a,hj,Q⟩;refine aD ?_;cases zd:(decide ((j:Int)<(x.length:Int)))
     .
      have zl:=oF zd;refine lB 50 zd (ag (dv (CG.exit ?_)))
      show CG _ _ _ _ _ _ _ _
      refine cQ ?_;have U:∀ s,ir d t s->s∈l:=fun s_ b=>by obtain ⟨F,J,e_⟩:=un ((O s_).2 b);rw[<-e_];exact Q F oM
      refine ab a ae (IR 63 76 0 9 3 a a.f.2.1 ?_);refine lL a [.c,.v (nV l.length)] ?_;cases ze:((((vr l).length:Nat):Int) != (l.length:Int))
      .
       have zm:=aJ ze;exact lB 66 ze (ai (cK (ab a ae (af a [] (iV 0) (⟨_,rfl,.inr ⟨C,.inr ⟨(fun F J=>I F oM),.inr ⟨y,.inr ⟨U,.inr ⟨(xx B).2 oM,rfl⟩⟩⟩⟩⟩⟩)))))
      have zm:=aU ze;exact lB 66 ze (au (ab a ae (af a [] (iV 8) (⟨_,rfl,.inr ⟨C,.inr ⟨(fun F J=>I F oM),.inr ⟨y,.inr ⟨U,.inl ⟨fun b=>by have:=(xx B).1 b;omega,rfl⟩⟩⟩⟩⟩⟩))))
     have zl:=oT zd;refine lB 50 zd (ag (bT (cK (cQ (kZ (aD (lX 51 nA x.length nc 1 (j:Nat) j ((a.f.1).ok oM) ?_)))))));refine lH 52 (.string (x.getD j ⟨#[]⟩)) a ((a.f.1).el j oM) (lL a ae (a7 (lL a aN (Hw 56 76 9 3 (x.getD j ⟨#[]⟩) true (iV (vN l (x.getD j ⟨#[]⟩))) ((decide (x.getD j ⟨#[]⟩∈l))) a a.f.2.1 ?_ (hf:=(by rcases Jr B y (x.getD j ⟨#[]⟩) with ⟨F,e1_,e2_⟩|⟨e1_,e2_,e3_⟩;exact .inl ⟨F,e1_,e2_⟩;exact .inr ⟨e1_,e2_,fun _=>by rw[e3_];kernel_rfl⟩))))));refine lL a [.c,.v (iV (vN l (x.getD j ⟨#[]⟩))),.v (.bool (decide (x.getD j ⟨#[]⟩∈l))),.c,.c] (a7 (lL a ae ?_));cases zg:(!(decide (x.getD j ⟨#[]⟩∈l)))
     .
      refine lB 60 zg (ai (cK (kQ (bM 61 ((j:Nat)+1) (j+1) ?_))));refine lL a ae (lD ?_);intro a_ X;refine ⟨_,_,?_,⟨j+1,zp,rfl,rfl,a.to _ _,oM,(fun i hi=>by rcases LA.1 hi with b|rfl;exact Q i b;exact oT (by first|assumption|exact E7 aM))⟩,X.to _ kR⟩
      omega
     exact lB 60 zg (au (ab a ae (af a [] (iV 11) (⟨_,rfl,.inr ⟨C,.inr ⟨(fun F J=>I F oM),.inr ⟨y,.inl ⟨fun b=>oF (by first|assumption|exact GQ aM) (b _ ((O _).1 (sf oM))),rfl⟩⟩⟩⟩⟩))))
    have zk:=oT zc;refine lB 37 zc (ag (bT (cK (cQ (kZ (aD (lX 38 D l.length z 1 (k:Nat) k ((a.f.2.1).ok oM) ?_)))))));refine lH 39 (.string (l.getD k ⟨#[]⟩)) a ((a.f.2.1).el k oM) (lL a ae (a7 (lL a ae (lC 41 a (Gd (l.getD k ⟨#[]⟩) (B.small k oM) _ _ a.g) ?_))));rintro _ _ zq a ⟨bi,rfl,Y⟩;cases bf:(bi)
    .
     exact lL a [.v qT] (au (ab a ae (af a [] (iV 11) (⟨_,rfl,.inr ⟨th hS L oM,.inr ⟨(fun F J=>I F oM),.inl ⟨(fun b=>by have q_:=b k oM;rw[<-Y] at q_;have W:bi=false:=aM;rw[q_] at W;cases W),rfl⟩⟩⟩⟩))))
    refine lL a [.v qF] (ai (cK (kQ (bM 43 ((k:Nat)+1) (k+1) ?_))));refine lL a ae (lD ?_);intro a_ X;refine ⟨_,_,?_,⟨k+1,zq,rfl,rfl,a.to _ _,oM,(fun i hi=>by rcases LA.1 hi with b|rfl;exact hal i b;rw[<-Y];first|assumption|exact E7 aM)⟩,X.to _ kR⟩
    omega
   have zj:=oT zb;refine lB 33 zb (au (ab a ae (lN (kX ?_))))
   exfalso;have:=B.len;omega
  have zi:=oT za;refine lB 22 za (ag (bT (cK (cQ (kZ (aD (lX 23 S us.length cu 1 (u:Nat) u ((a.f.1).ok oM) ?_)))))));obtain ⟨Uj,uj,huj,hmj⟩:=hus u oM;refine Jo 24 ((us.getD u undef)) a ((a.f.1).el u oM) huj (lL a ae (a7 (lL a [.c,.v (nV (V.getD u 0)),.c,.v (nV l.length)] ?_)));cases zf:((((V.getD u 0):Nat):Int) != (l.length:Int))
  .
   have zn:=aJ zf;refine lB 29 zf (ai (cK (kQ (bM 30 ((u:Nat)+1) (u+1) ?_))));refine lL a ae (lD ?_);intro a_ X;refine ⟨_,_,?_,⟨u+1,h8,rfl,rfl,a.to _ _,oM,(fun i hi=>by rcases LA.1 hi with b|rfl;exact I i b;omega)⟩,X.to _ kR⟩
   omega
  have zn:=aU zf;exact lB 29 zf (au (ab a ae (af a [] (iV 5) (⟨_,rfl,.inr ⟨th hS L oM,.inl ⟨fun b=>by have:=b u oM;omega,rfl⟩⟩⟩))))
 have Z:=aU M;exact lB 18 M (au (ab a ae (af a [] (iV 1) (⟨_,rfl,.inl ⟨fun b=>by have:=DL L ⟨b.1,b.2⟩;omega,rfl⟩⟩))))
theorem DckR.cg {d:Nat}{t:Tm}{b:List ByteArray}{M a:Prop}{e:Int}(x:DckR d t b M e)(h:M↔a):DckR d t b a e:=propext h▸x
theorem Cd (d:Nat)(p:PTm)(t:Tm)(hd:d<=20)(o:Z9)(b:Nat)(a:List ByteArray)(y:NsD a)(f:Z9)(B:Nat)(C:Z9)(c z:Nat)(l:c<=1000000)(w:World)(h:Hp)(g:G w h)(I:TmH d h p t)(H:SmT1 oh d t)(D:SlO 1 eo ⟨#[]⟩ h o a)(F:Sv (f) ([.slice C c z]:List Value) h):Calls Tryz.prog 38 #[dl p,.slice o a.length b,.slice f 1 B] w (Ret w h (fun v _=>∃ e:Int,v=iV e/\DckR d t a (c=a.length) e)) :=
 (BN d p t hd o b a y f B [.slice C c z] [c] (Am rfl) (fun j i=>by match j,i with|0,_=>exact ⟨_,_,rfl,l⟩) w h g I H D F).mono fun e w' ⟨v,h',e1,u,x,e2,k⟩=>⟨v,h',e1,u,x,e2,k.cg ⟨fun h=>h 0 (Nat.succ_pos _),fun h j i=>by match j,i with|0,_=>exact h⟩⟩
section
variable {X:Type}(F:Stp->X->X->X)(z:X)
def fD (l:List Stp):Nat->List X
  | 0=>[]
  | k+1=>fD l k++[F (l.getD k aa) ((fD l k).getD (l.getD k aa).a.toNat z) ((fD l k).getD (l.getD k aa).b.toNat z)]
theorem g9 (l:List Stp):∀ k,(fD F z l k).length=k
 | 0=>rfl
 | k+1=>by show (fD F z l k++[_]).length=_;rw[yR,g9 l k];rfl
theorem eL (l:List Stp)(k:Nat):∀ n,k<=n->∀ j,j<k->(fD F z l n).getD j z=(fD F z l k).getD j z:=fun n a=>by
  induction a with
  | refl=>intro j _;rfl
  | @step n a ih =>
    intro j b;have c:k<=n:=a
    show (fD F z l n++[_]).getD j z=_
    rw[bj,g9,if_pos oM];exact ih j b
structure OwnF:Prop where
  u:∀ (s:Stp) u v u' v',0<=aK s.op->(0<aK s.op->u=u')->(1<aK s.op->v=v')->F s u v=F s u' v'
  p:∀ (s t:Stp) u v,t.op=s.op->t.n=s.n->t.q=s.q->F t u v=F s u v
def mg (l:List Stp):Prop:=∀ k,k<l.length->0<=aK (l.getD k aa).op/\(0<aK (l.getD k aa).op->(l.getD k aa).a.toNat<k)/\(1<aK (l.getD k aa).op->(l.getD k aa).b.toNat<k)
variable {F z}
theorem hJ (o:OwnF F){l:List Stp}(h:mg l){k:Nat}(hk:k<l.length):(fD F z l l.length).getD k z=F (l.getD k aa) ((fD F z l l.length).getD (l.getD k aa).a.toNat z) ((fD F z l l.length).getD (l.getD k aa).b.toNat z):=by
 obtain ⟨h0,h1,c⟩:=h k hk;rw[eL F z l (k+1) _ hk k (LB k)]
 show (fD F z l k++[_]).getD k z=_
 rw[bj,g9,if_neg (KZ k),if_pos rfl];exact o.u _ _ _ _ _ h0 (fun x=>(eL F z l k _ oM _ (h1 x)).symm) (fun x=>(eL F z l k _ oM _ (c x)).symm)
structure LnR (l al:List Stp) (D:Nat->Prop) (m:Nat->Nat):Prop where
  st:∀ i,i<l.length->D i->m i<al.length/\(al.getD (m i) aa).op=(l.getD i aa).op/\(al.getD (m i) aa).n=(l.getD i aa).n/\(al.getD (m i) aa).q=(l.getD i aa).q
  a:∀ i,i<l.length->D i->0<aK (l.getD i aa).op->D (l.getD i aa).a.toNat/\(al.getD (m i) aa).a=(m (l.getD i aa).a.toNat:Nat)/\m (l.getD i aa).a.toNat<m i
  b:∀ i,i<l.length->D i->1<aK (l.getD i aa).op->D (l.getD i aa).b.toNat/\(al.getD (m i) aa).b=(m (l.getD i aa).b.toNat:Nat)/\m (l.getD i aa).b.toNat<m i
  no:∀ i,i<l.length->D i->(¬0<aK (l.getD i aa).op->(al.getD (m i) aa).a=0)/\(¬1<aK (l.getD i aa).op->(al.getD (m i) aa).b=0)
  all:∀ t,t<al.length->∃ i,i<l.length/\D i/\m i=t
theorem LnR.pre {l al:List Stp}{D:Nat->Prop}{m:Nat->Nat}(R:LnR l al D m)(h:mg l):mg al:=fun t d=>by
 obtain ⟨i,hi,c,rfl⟩:=R.all t d;obtain ⟨h0,_,_⟩:=h i hi;obtain ⟨_,e,_,_⟩:=R.st i hi c;rw[e];exact ⟨h0,fun x=>by obtain ⟨_,y,w⟩:=R.a i hi c x;rw[y];exact w,fun x=>by obtain ⟨_,y,w⟩:=R.b i hi c x;rw[y];exact w⟩
theorem LnR.ev (o:OwnF F){l al:List Stp}{D:Nat->Prop}{m:Nat->Nat}(R:LnR l al D m)(h:mg l):∀ k i,i<k->i<l.length->D i->(fD F z al al.length).getD (m i) z=(fD F z l l.length).getD i z
  | k + 1,i,hk,hi,hD=>by
    obtain ⟨h0,h1,e⟩:=h i hi;obtain ⟨f,y,j,d⟩:=R.st i hi hD;rw[hJ o (R.pre h) f,hJ o h hi,o.p (l.getD i aa) _ _ _ y j d];refine o.u _ _ _ _ _ h0 (fun x=>?_) (fun x=>?_)
    . obtain ⟨y1,c,_⟩:=R.a i hi hD x
      have:=h1 x;rw[c];exact LnR.ev o R h k _ oM oM y1
    . obtain ⟨y1,c,_⟩:=R.b i hi hD x
      have:=e x;rw[c];exact LnR.ev o R h k _ oM oM y1
structure BlR (l sl:List Stp) (bl:Nat->Nat):Prop where
  len:sl.length=l.length
  st:∀ i,i<l.length->(sl.getD i aa).op=(l.getD i aa).op/\(sl.getD i aa).n=(l.getD i aa).n/\(sl.getD i aa).q=(l.getD i aa).q
  a:∀ i,i<l.length->0<aK (l.getD i aa).op->(sl.getD i aa).a=(bl (l.getD i aa).a.toNat:Nat)
  b:∀ i,i<l.length->1<aK (l.getD i aa).op->(sl.getD i aa).b=(bl (l.getD i aa).b.toNat:Nat)
  no:∀ i,i<l.length->(¬0<aK (l.getD i aa).op->(sl.getD i aa).a=(l.getD i aa).a)/\(¬1<aK (l.getD i aa).op->(sl.getD i aa).b=(l.getD i aa).b)
  le:∀ i,i<l.length->bl i<=i
  eq:∀ i,i<l.length->sl.getD (bl i) aa=sl.getD i aa
theorem BlR.pre {l sl:List Stp}{d:Nat->Nat}(R:BlR l sl d)(h:mg l):mg sl:=fun i hi=>by
 rw[R.len] at hi
 obtain ⟨h0,h1,c⟩:=h i hi;rw[(R.st i hi).1];refine ⟨h0,fun x=>?_,fun x=>?_⟩
 ·rw[R.a i hi x];have:=h1 x;have:=R.le (l.getD i aa).a.toNat oM;omega
 ·rw[R.b i hi x];have:=c x;have:=R.le (l.getD i aa).b.toNat oM;omega
theorem BlR.ev (o:OwnF F){l sl:List Stp}{d:Nat->Nat}(R:BlR l sl d)(h:mg l):∀ k i,i<k->i<l.length->(fD F z sl sl.length).getD i z=(fD F z l l.length).getD i z
  | k + 1,i,hk,hi=>by
    obtain ⟨h0,h1,j⟩:=h i hi;obtain ⟨B,y,f⟩:=R.st i hi;have c:=R.pre h
    have same:∀ x,x<l.length->(fD F z sl sl.length).getD (d x) z=(fD F z sl sl.length).getD x z:=fun x e=>by
      have:=R.le x e;have e1:=hJ (z:=z) o c (k:=d x) (by rw[R.len];omega);have e2:=hJ (z:=z) o c (k:=x) (by rw[R.len];exact e);rw[R.eq x e] at e1
      exact e1.trans e2.symm
    rw[hJ o c (by rw[R.len];exact hi),hJ o h hi,o.p (l.getD i aa) _ _ _ B y f];refine o.u _ _ _ _ _ h0 (fun x=>?_) (fun x=>?_)
    . have:=h1 x
      rw[R.a i hi x,y6,same _ oM];exact BlR.ev o R h k _ oM oM
    . have:=j x
      rw[R.b i hi x,y6,same _ oM];exact BlR.ev o R h k _ oM oM
end
structure Xs where
  v:Rat
  d:Rat
  e:Int
  w:Nat
  c:Nat
def fQ:Xs:=⟨0,0,0,0,0⟩
def kY (s:Stp)(a b:Rat):Int:=if s.op=2 then 0 else if i8 s.op s.n a b then (if jh s.op a b then 7 else 0) else 6
def Fx (at_ way:List Rat)(s:Stp)(x y:Xs):Xs :=
  ⟨if s.op=2 then at_.getD s.n.toNat 0 else jX s.op s.n s.q x.v y.v,
   if s.op=2 then way.getD s.n.toNat 0 else (if 0<aK s.op then j9 s.op s.n x.v y.v*x.d else 0)+(if 1<aK s.op then kL s.op x.v y.v*y.d else 0),
   kY s x.v y.v,
   if aK s.op=0 then 1 else dk s.op s.n*(x.w+(if 1<aK s.op then y.w else 0)),
   1+(if 0<aK s.op then x.c else 0)+(if 1<aK s.op then y.c else 0)⟩
theorem wn {x y:Xs}(h1:x.v=y.v)(f:x.d=y.d)(h:x.e=y.e)(b:x.w=y.w)(a:x.c=y.c):x=y:=by
 cases x;cases y;subst h1 f h b a;rfl
theorem pD {op n:Int}{q a b a' b':Rat}(h0:0<=aK op)(i:op≠2)(d:0<aK op->a=a')(f:1<aK op->b=b'):jX op n q a b=jX op n q a' b'/\(i8 op n a b↔i8 op n a' b')/\(jh op a b↔jh op a' b')/\(0<aK op->j9 op n a b=j9 op n a' b')/\(1<aK op->kL op a b=kL op a' b'):=by
 rcases aA op with ⟨e,c⟩|⟨e,c⟩|⟨e,c⟩|⟨e,c⟩
 ·have h1:op=1:=by omega
  subst h1;exact ⟨rfl,by simp[i8],by simp[jh],fun h=>absurd h kD,fun h=>absurd h kD⟩
 ·have:=d oM;subst this
  refine ⟨?_,?_,?_,fun _=>?_,fun h=>by omega⟩<;>rcases c with c|c|c|c|c<;>subst c<;>first|rfl|simp[i8]|simp[jh]
 ·have:=d oM;subst this
  have:=f oM;subst this;exact ⟨rfl,Iff.rfl,Iff.rfl,fun _=>rfl,fun _=>rfl⟩
 ·omega
theorem ox (at_ way:List Rat):OwnF (Fx at_ way):=by
  refine ⟨fun s u v k v' h0 f hv=>?_,fun s t u v h1 d i=>?_⟩
  . have l:(if aK s.op=0 then 1 else dk s.op s.n*(u.w+(if 1<aK s.op then v.w else 0)))=(if aK s.op=0 then 1 else dk s.op s.n*(k.w+(if 1<aK s.op then v'.w else 0))):=by
      by_cases e:aK s.op=0
      . rw[if_pos e,if_pos e]
      . rw[if_neg e,if_neg e,f oM]
        by_cases e2:1<aK s.op
        . rw[if_pos e2,if_pos e2,hv e2]
        . rw[if_neg e2,if_neg e2]
    have y:1+(if 0<aK s.op then u.c else 0)+(if 1<aK s.op then v.c else 0)=1+(if 0<aK s.op then k.c else 0)+(if 1<aK s.op then v'.c else 0):=by
      by_cases e:0<aK s.op
      . rw[if_pos e,if_pos e,f e]
        by_cases e2:1<aK s.op
        . rw[if_pos e2,if_pos e2,hv e2]
        . rw[if_neg e2,if_neg e2]
      . rw[if_neg e,if_neg e,if_neg oM,if_neg oM]
    by_cases d:s.op=2
    . refine wn ?_ ?_ ?_ l y
      . show (if s.op=2 then _ else _)=(if s.op=2 then _ else _);rw[if_pos d,if_pos d]
      . show (if s.op=2 then _ else _)=(if s.op=2 then _ else _);rw[if_pos d,if_pos d]
      . show (if s.op=2 then _ else _)=(if s.op=2 then _ else _);rw[if_pos d,if_pos d]
    . obtain ⟨B,z,j,p,D⟩:=pD (n:=s.n) (q:=s.q) h0 d (fun x=>congrArg Xs.v (f x)) (fun x=>congrArg Xs.v (hv x))
      refine wn ?_ ?_ ?_ l y
      . show (if s.op=2 then _ else _)=(if s.op=2 then _ else _);rw[if_neg d,if_neg d,B]
      . show (if s.op=2 then _ else _)=(if s.op=2 then _ else _);rw[if_neg d,if_neg d]
        by_cases e:0<aK s.op
        . by_cases e2:1<aK s.op
          . rw[if_pos e,if_pos e,if_pos e2,if_pos e2,p e,D e2,f e,hv e2]
          . rw[if_pos e,if_pos e,if_neg e2,if_neg e2,p e,f e]
        . rw[if_neg e,if_neg e,if_neg oM,if_neg oM]
      . show (if s.op=2 then _ else _)=(if s.op=2 then _ else _);rw[if_neg d,if_neg d]
        by_cases o:i8 s.op s.n u.v v.v
        . rw[if_pos o,if_pos (z.1 o)]
          by_cases kk:jh s.op u.v v.v
          . rw[if_pos kk,if_pos (j.1 kk)]
          . rw[if_neg kk,if_neg (fun x=>kk (j.2 x))]
        . rw[if_neg o,if_neg (fun x=>o (z.2 x))]
  . obtain ⟨op,a,b,n,q⟩:=s
    obtain ⟨h,a',b',F,C⟩:=t;replace h1:h=op:=h1;replace d:F=n:=d;replace i:C=q:=i;subst h1 d i;rfl
section
variable {at_ way:List Rat}{l:List Stp}
theorem fS {α β:Type}(f:α->β)(l:List α)(i:Nat)(d:α):(l.map f).getD i (f d)=f (l.getD i d):=by
 simp only[A4,List.getElem?_map]
 cases l[i]?<;>rfl
theorem jL:∀ k,aR l at_ k=(fD (Fx at_ way) fQ l k).map Xs.v
  | 0=>rfl
  | k+1=>by
    show aR l at_ k++[nG _ _ _]=(fD (Fx at_ way) fQ l k++[_]).map Xs.v
    rw[Lp,jL k]
    unfold nG
    rw[show (0:Rat)=Xs.v fQ from rfl,fS,fS];rfl
theorem uk:∀ k,dO l at_ way k=(fD (Fx at_ way) fQ l k).map Xs.d
  | 0=>rfl
  | k+1=>by
    show dO l at_ way k++[np _ _ _ _]=(fD (Fx at_ way) fQ l k++[_]).map Xs.d
    rw[Lp,uk k,jL (way:=way) k]
    unfold np
    have e1:∀ i,((fD (Fx at_ way) fQ l k).map Xs.v).getD i 0=((fD (Fx at_ way) fQ l k).getD i fQ).v:=fun i=>fS Xs.v _ i fQ
    have e2:∀ i,((fD (Fx at_ way) fQ l k).map Xs.d).getD i 0=((fD (Fx at_ way) fQ l k).getD i fQ).d:=fun i=>fS Xs.d _ i fQ
    rw[e1,e1,e2,e2];rfl
theorem jP (k i:Nat):(aR l at_ k).getD i 0=((fD (Fx at_ way) fQ l k).getD i fQ).v:=by rw[jL (way:=way) k];exact fS Xs.v _ i fQ
theorem CZ (k i:Nat):(dO l at_ way k).getD i 0=((fD (Fx at_ way) fQ l k).getD i fQ).d:=by rw[uk k];exact fS Xs.d _ i fQ
theorem uw (k:Nat):eW true (l.getD k aa) (aR l at_ k)=((fD (Fx at_ way) fQ l (k+1)).getD k fQ).e:=by
 show _=((fD (Fx at_ way) fQ l k++[_]).getD k fQ).e
 rw[bj,g9,if_neg (KZ k),if_pos rfl]
 unfold eW
 rw[jP (way:=way),jP (way:=way)]
 show _=kY _ _ _
 unfold kY
 simp only[true_and]
theorem m9:∀ n,terr true l at_ n=0↔∀ k,k<n->((fD (Fx at_ way) fQ l n).getD k fQ).e=0
  | 0=>⟨fun _ k hk=>absurd hk (K6 k),fun _=>rfl⟩
  | n + 1=>by
    have e:terr true l at_ (n+1)=if terr true l at_ n=0 then eW true (l.getD n aa) (aR l at_ n) else terr true l at_ n:=rfl
    constructor
    . intro h k hk
      by_cases h0:terr true l at_ n=0
      . rw[e,if_pos h0,uw (way:=way)] at h
        by_cases ek:k=n
        . subst ek;exact h
        . rw[eL _ _ l n (n+1) oM k oM];exact (m9 n).1 h0 k oM
      . rw[e,if_neg h0] at h;exact absurd h h0
    . intro h
      have h0:terr true l at_ n=0:=(m9 n).2 fun k hk=>by
        have:=h k oM;rw[eL _ _ l n (n+1) oM k hk] at this;exact this
      rw[e,if_pos h0,uw (way:=way)];exact h n (LB n)
end
section
variable {at_ way:List Rat}{l m:List Stp}{s:Stp}{inp:Int}
def di (at_ way:List Rat)(l:List Stp)(k:Nat):Xs:=(fD (Fx at_ way) fQ l l.length).getD k fQ
theorem fR (h:∀ k,k<l.length->Formed inp k (l.getD k aa)):mg l:=fun k hk=>by
 obtain ⟨b,a,_,_⟩:=(h k hk).opr;exact ⟨(h k hk).1,b,a⟩
theorem AY {k:Nat}(hf:Formed inp k s)(L:List Xs):bB s (L.map fun x=>(x.w:Int))=((Fx at_ way s (L.getD s.a.toNat fQ) (L.getD s.b.toNat fQ)).w:Nat):=by
  have g:∀ i,(L.map fun x=>(x.w:Int)).getD i 0=((L.getD i fQ).w:Nat):=fun i=>fS (fun x:Xs=>(x.w:Int)) L i fQ
  unfold bB
  rw[g,g]
  show _=(((if aK s.op=0 then 1 else dk s.op s.n*((L.getD s.a.toNat fQ).w+(if 1<aK s.op then (L.getD s.b.toNat fQ).w else 0))):Nat):Int)
  rcases aA s.op with ⟨e,c⟩|⟨e,c⟩|⟨e,c⟩|⟨e,c⟩
  . rw[if_pos e,if_pos e];rfl
  . have d:¬aK s.op=0:=by omega
    have l:¬aK s.op=2:=by omega
    have f:¬1<aK s.op:=by omega
    rw[if_neg d,if_neg l,if_neg d,if_neg f,yK]
    unfold dk
    by_cases h11:s.op=11
    . rw[if_pos h11,if_pos h11];simp
    . rw[if_neg h11,if_neg h11]
      by_cases h8:s.op=8
      . rw[if_pos h8,if_pos h8]
        have e2:max (max s.n (0-s.n)) 1=(bD s.n:Nat):=by unfold bD;split<;>omega
        rw[e2];simp
      . rw[if_neg h8,if_neg h8];simp
  . have d:¬aK s.op=0:=by omega
    have f:1<aK s.op:=by omega
    have j:¬s.op=11:=by omega
    have h:¬s.op=8:=by omega
    rw[if_neg d,if_pos e,if_neg d,if_pos f]
    unfold dk
    rw[if_neg j,if_neg h];simp
  . have:=hf.1;omega
theorem Hq (f:∀ k,k<l.length->Formed inp k (l.getD k aa))(i:∀ k,k<l.length->(di at_ way l k).w<=65536):∀ j,j<=l.length->oy inp (l.drop (l.length-j)) ((fD (Fx at_ way) fQ l (l.length-j)).map fun x=>(x.w:Int))=0
  | 0,_=>by rw[Nat.sub_zero,List.drop_length];rfl
  | j + 1,hj=>by
    have d:=Hq f i j oM;have hk:l.length-(j+1)<l.length:=by omega
    have e:l.length-j=l.length-(j+1)+1:=by omega
    rw[e] at d
    generalize l.length-(j+1)=k at d hk ⊢
    have c:=AY (at_:=at_) (way:=way) (f k hk) (fD (Fx at_ way) fQ l k)
    have e1:(fD (Fx at_ way) fQ l (k+1)).map (fun x=>(x.w:Int))=(fD (Fx at_ way) fQ l k).map (fun x=>(x.w:Int))++[bB (l.getD k aa) ((fD (Fx at_ way) fQ l k).map fun x=>(x.w:Int))]:=by
      rw[c]
      show (fD (Fx at_ way) fQ l k++[_]).map _=_
      rw[Lp];rfl
    rw[e1] at d
    refine (pU hk (by rw[List.length_map,g9]) (f k hk) ?_).trans d;have h:=i k hk
    unfold di at h
    rw[eL _ _ l (k+1) _ hk k (LB k)] at h
    rw[c]
    have o:((fD (Fx at_ way) fQ l (k+1)).getD k fQ)=Fx at_ way (l.getD k aa) ((fD (Fx at_ way) fQ l k).getD (l.getD k aa).a.toNat fQ) ((fD (Fx at_ way) fQ l k).getD (l.getD k aa).b.toNat fQ):=by
      show (fD (Fx at_ way) fQ l k++[_]).getD k fQ=_
      rw[bj,g9,if_neg (KZ k),if_pos rfl]
    rw[o] at h
    omega
theorem D8 {os:List Int}(hi:0<=inp/\inp<=1000)(d:l.length<=65536)(a:os.length<=300)(c:∀ k,k<l.length->Formed inp k (l.getD k aa))(e:∀ k,k<l.length->(di at_ way l k).w<=65536)(b:fr l.length os):bZ inp l os=0:=by
 have:=Hq c e l.length (ey _);rw[yp] at this
 exact qk ⟨hi.1,hi.2,d,a⟩ this b
theorem ub (h:mg l){k:Nat}(hk:k<l.length):di at_ way l k=Fx at_ way (l.getD k aa) (di at_ way l (l.getD k aa).a.toNat) (di at_ way l (l.getD k aa).b.toNat):=hJ (ox at_ way) h hk
theorem FV (p:∀ k,k<l.length->Formed inp k (l.getD k aa))(B:∀ i,LQ 1 (l.getD i aa).q)(u:∀ j,LQ 1 (at_.getD j 0)):∀ n k,k<n->k<l.length->(∀ j,j<=k->(di at_ way l j).e=0)->1<=(di at_ way l k).w/\LQ (3*(di at_ way l k).w-2) (di at_ way l k).v
  | n + 1,k,hn,hk,he=>by
    have C:=fR p;obtain ⟨h0,h1,I⟩:=C k hk;have M:=p k hk;have e0:=he k (ey k);rw[ub C hk] at e0 ⊢
    have L:0<aK (l.getD k aa).op->1<=(di at_ way l (l.getD k aa).a.toNat).w/\LQ (3*(di at_ way l (l.getD k aa).a.toNat).w-2) (di at_ way l (l.getD k aa).a.toNat).v:=fun x=>by
      have:=h1 x;exact FV p B u n _ oM oM (fun j J=>he j oM)
    have F:1<aK (l.getD k aa).op->1<=(di at_ way l (l.getD k aa).b.toNat).w/\LQ (3*(di at_ way l (l.getD k aa).b.toNat).w-2) (di at_ way l (l.getD k aa).b.toNat).v:=fun x=>by
      have:=I x;exact FV p B u n _ oM oM (fun j J=>he j oM)
    generalize di at_ way l (l.getD k aa).a.toNat=x at *
    generalize di at_ way l (l.getD k aa).b.toNat=y at *
    have f:=B k
    generalize l.getD k aa=s at *
    show 1<=(if aK s.op=0 then 1 else dk s.op s.n*(x.w+(if 1<aK s.op then y.w else 0)))/\LQ (3*(if aK s.op=0 then 1 else dk s.op s.n*(x.w+(if 1<aK s.op then y.w else 0)))-2) (if s.op=2 then at_.getD s.n.toNat 0 else jX s.op s.n s.q x.v y.v)
    by_cases c0:aK s.op=0
    . rw[if_pos c0]
      refine ⟨ey _,?_⟩
      by_cases o:s.op=2
      . rw[if_pos o];exact u _
      . have d:s.op=1:=by have:=aA s.op;omega
        rw[if_neg o,d];exact f
    . have o:s.op≠2:=fun h=>c0 (by rw[h];decide)
      rw[if_neg c0,if_neg o];obtain ⟨H,K⟩:=L oM;have w1:=dC s.op s.n;refine ⟨e6 (e6 H (Nat.le_add_right _ _)) (Kv _ w1),?_⟩
      have D:i8 s.op s.n x.v y.v:=by
        replace e0:(if s.op=2 then (0:Int) else if i8 s.op s.n x.v y.v then (if jh s.op x.v y.v then 7 else 0) else 6)=0:=e0;rw[if_neg o] at e0
        exact Classical.byContradiction fun h=>by rw[if_neg h] at e0;exact absurd e0 kD
      have hr:3<=s.op/\s.op<=13:=by have:=aA s.op;omega
      have q:=xt (op:=s.op) (n:=s.n) (q:=s.q) (a:=x.v) (b:=y.v) (e1:=0) (e2:=0) (wa:=x.w) (wb:=if 1<aK s.op then y.w else 0) (c:=3) oM H K (fun z=>by
        by_cases d:1<aK s.op
        . rw[if_pos d];exact (F d).2
        . rw[if_neg d] at z;exact absurd z kD) (fun z=>by rw[if_pos oM];exact (F oM).1) f hr
      rw[x9 rfl rfl D] at q
      unfold me at q
      rw[if_pos D] at q;exact q
structure Lite (at_ way:List Rat) (inp:Int) (l:List Stp):Prop where
  len:l.length<=31
  fm:∀ k,k<l.length->Formed inp k (l.getD k aa)
  lq:∀ i,LQ 1 (l.getD i aa).q
  w:∀ k,k<l.length->(di at_ way l k).w<=81
  c:∀ k,k<l.length->(di at_ way l k).c<=31
theorem uf (n k:Nat)(hk:k<n)(a:n<=l.length):(aR l at_ n).getD k 0=(di at_ way l k).v:=by
 rw[jP (way:=way)];unfold di;rw[eL _ _ l n _ a k hk]
theorem xP (n k:Nat)(hk:k<n)(a:n<=l.length):(dO l at_ way n).getD k 0=(di at_ way l k).d:=by
 rw[CZ];unfold di;rw[eL _ _ l n _ a k hk]
theorem sJ {n:Nat}(a:n<=l.length):terr true l at_ n=0↔∀ k,k<n->(di at_ way l k).e=0:=by
 rw[m9 (way:=way)];unfold di
 constructor
 ·intro h k hk;rw[eL _ _ l n _ a k hk];exact h k hk
 ·intro h k hk;rw[<-eL _ _ l n _ a k hk];exact h k hk
variable (T:Lite at_ way inp l)
include T
theorem Lite.vals (b:∀ j,LQ 1 (at_.getD j 0))(n:Nat)(a:n<=l.length)(h:terr true l at_ n=0)(j:Nat):LQ 241 ((aR l at_ n).getD j 0):=by
 by_cases hj:j<n
 ·rw[uf (way:=way) n j hj a]
  have:=FV (at_:=at_) (way:=way) T.fm T.lq b (j+1) j (LB j) oM (fun i hi=>(sJ a).1 h i oM);have c:=T.w j oM;exact this.2.mono oM
 ·rw[bG (by rw[eN];omega)];exact jd kD
theorem Lite.slopes (d:∀ j,LQ 1 (at_.getD j 0))(h:terr true l at_ l.length=0)(k:Nat)(hk:k<l.length):LQ 3200 (j9 (l.getD k aa).op (l.getD k aa).n ((aR l at_ l.length).getD (l.getD k aa).a.toNat 0) ((aR l at_ l.length).getD (l.getD k aa).b.toNat 0))/\LQ 3200 (kL (l.getD k aa).op ((aR l at_ l.length).getD (l.getD k aa).a.toNat 0) ((aR l at_ l.length).getD (l.getD k aa).b.toNat 0)):=by
 have v:=T.vals d l.length (ey _) h;exact ⟨(CN (K:=241) (M:=12) kD kD kD (v _) (v _) (fun c=>by have:=(T.fm k hk).2.2.2.2.2.1 c;omega)).mono kD,(C0 (K:=241) (M:=12) kD kD (v _) (v _)).mono kD⟩
theorem Lite.wt:Wt l (fun k=>(di at_ way l k).c):=fun k hk=>by
 have d:=fR T.fm
 show 1<=(di at_ way l k).c/\_
 rw[show (fun k=>(di at_ way l k).c)=fun k=>(di at_ way l k).c from rfl]
 show 1<=(di at_ way l k).c/\(0<aK (l.getD k aa).op->(di at_ way l (l.getD k aa).a.toNat).c<=(di at_ way l k).c)/\(1<aK (l.getD k aa).op->(di at_ way l (l.getD k aa).a.toNat).c+(di at_ way l (l.getD k aa).b.toNat).c<=(di at_ way l k).c)
 rw[ub d hk]
 show 1<=1+(if 0<aK (l.getD k aa).op then (di at_ way l (l.getD k aa).a.toNat).c else 0)+(if 1<aK (l.getD k aa).op then (di at_ way l (l.getD k aa).b.toNat).c else 0)/\(_->_<=1+(if 0<aK (l.getD k aa).op then (di at_ way l (l.getD k aa).a.toNat).c else 0)+(if 1<aK (l.getD k aa).op then (di at_ way l (l.getD k aa).b.toNat).c else 0))/\(_->_<=1+(if 0<aK (l.getD k aa).op then (di at_ way l (l.getD k aa).a.toNat).c else 0)+(if 1<aK (l.getD k aa).op then (di at_ way l (l.getD k aa).b.toNat).c else 0))
 refine ⟨by omega,fun x=>by rw[if_pos x];omega,fun x=>by rw[if_pos x,if_pos oM];omega⟩
omit T in
theorem oQ {wt f:Nat->Nat}{A B:Nat}:∀ n,(∀ j,j<n->f j<=A)->(∀ j,j<n->wt j<=B)->jV wt f n<=n*(A*B)
  | 0,_,_=>JU _
  | n+1,h1,h2=>by
    have b:=oQ n (fun j a=>h1 j oM) (fun j a=>h2 j oM);have:=Nat.mul_le_mul (h1 n (LB n)) (h2 n (LB n))
    show jV wt f n+f n*wt n<=_
    rw[yP];omega
theorem Lite.room {no:Nat}(b:no<=3):1+jV (fun k=>(di at_ way l k).c) (fun _=>1) l.length+no*(2*31)+qJ (fun k=>(di at_ way l k).c) (fun _=>3200) l.length<=100000000:=by
 have h1:=oQ (f:=fun _=>1) (A:=1) l.length (fun _ _=>ey 1) T.c;have e:=oQ (f:=fun _=>3202) (A:=3202) l.length (fun _ _=>ey _) T.c;have a:=T.len
 unfold qJ
 have h:=yX (3202*31) a;have d:=yX (1*31) a
 show 1+_+_+jV _ (fun _=>3202) _<=_
 omega
end
section
variable {at_ way:List Rat}{l m:List Stp}{s:Stp}
theorem qW {k:Nat}(h:k<l.length):(l++m).getD k aa=l.getD k aa:=by
 rw[A4,List.getElem?_append_left h,<-A4]
theorem li {X:Type}(F:Stp->X->X->X)(z:X):∀ k,k<=l.length->fD F z (l++m) k=fD F z l k
  | 0,_=>rfl
  | k+1,h=>by
    show fD F z (l++m) k++[F ((l++m).getD k aa) _ _]=fD F z l k++[_]
    rw[li F z k oM,qW oM]
theorem pM {k:Nat}(h:k<l.length):di at_ way (l++m) k=di at_ way l k:=by
 unfold di
 rw[eL _ _ (l++m) l.length _ (by rw[yR];omega) k h,li _ _ _ (ey _)]
theorem iG:di at_ way (l++[s]) l.length=Fx at_ way s (di at_ way l s.a.toNat) (di at_ way l s.b.toNat):=by
 unfold di
 rw[yR,K8]
 show (fD _ _ (l++[s]) l.length++[Fx at_ way ((l++[s]).getD l.length aa) _ _]).getD l.length fQ=_
 rw[bj,g9,if_neg (KZ _),if_pos rfl,li _ _ _ (ey _),gX]
theorem oD (k:Nat)(h:k<=l.length):aR (l++m) at_ k=aR l at_ k:=by
 rw[jL (way:=[]) k,jL (way:=[]) k,li _ _ _ h]
theorem nq:∀ k,k<=l.length->terr true (l++m) at_ k=terr true l at_ k
  | 0,_=>rfl
  | k+1,h=>by
    show (if terr true (l++m) at_ k=0 then eW true ((l++m).getD k aa) (aR (l++m) at_ k) else terr true (l++m) at_ k)=_
    rw[nq k oM,qW oM,oD k oM];rfl
theorem kH (h:terr true l at_ l.length≠0):terr true (l++m) at_ (l++m).length=terr true l at_ l.length:=by
 have e:=nq (at_:=at_) (l:=l) (m:=m) l.length (ey _);rw[yR,jD (by rw[e];exact h),e]
theorem kF (h:terr true l at_ l.length=0):terr true (l++[s]) at_ (l++[s]).length=kY s (di at_ way l s.a.toNat).v (di at_ way l s.b.toNat).v:=by
 rw[yR,K8]
 show (if terr true (l++[s]) at_ l.length=0 then eW true ((l++[s]).getD l.length aa) (aR (l++[s]) at_ l.length) else _)=_
 rw[nq _ (ey _),if_pos h,gX,oD _ (ey _)]
 unfold eW
 rw[jP (way:=way),jP (way:=way)]
 show _=kY _ _ _
 unfold kY
 simp only[true_and];rfl
theorem oH {n i j:Nat}:(bh n j).getD i 0=if i=j/\j<n then ((1:Int):Rat) else 0:=by
 unfold bh
 by_cases h:j<n
 ·rw[dL (by rw[Lk];exact h)]
  by_cases e:i=j
  ·rw[if_pos e,if_pos ⟨e,h⟩]
  ·rw[if_neg e,if_neg (fun x=>e x.1),eD]
 ·rw[La (by rw[Lk];omega),eD,if_neg (fun x=>h x.2)]
end
section
variable {pl:ByteArray->Int}{d:Nat}{l:List Stp}{t:Tm}
theorem DK (h:t.ks.length=0):az pl (d+1) l t=l++[⟨t.op,0,0,if t.op=2 then pl t.s else t.n,t.q⟩]:=by unfold az;rw[h];rfl
theorem DD (h:t.ks.length=1):az pl (d+1) l t=az pl d l (t.ks.getD 0 aG)++[⟨t.op,(((az pl d l (t.ks.getD 0 aG)).length:Nat):Int)-1,0,if t.op=2 then pl t.s else t.n,t.q⟩]:=by
 conv=>lhs;unfold az
 rw[h];rfl
theorem D7 (h:t.ks.length=2):az pl (d+1) l t=az pl d (az pl d l (t.ks.getD 0 aG)) (t.ks.getD 1 aG)++[⟨t.op,(((az pl d l (t.ks.getD 0 aG)).length:Nat):Int)-1,(((az pl d (az pl d l (t.ks.getD 0 aG)) (t.ks.getD 1 aG)).length:Nat):Int)-1,if t.op=2 then pl t.s else t.n,t.q⟩]:=by
 conv=>lhs;unfold az
 rw[h];rfl
end
structure RecX (at_:List Rat) (j:Nat) (pl:ByteArray->Int) (d:Nat) (l z:List Stp) (t:Tm):Prop where
  pre:∃ m,z=l++m
  pos:l.length<z.length
  w:∀ k,l.length<=k->k<z.length->(di at_ (bh at_.length j) z k).w<=dd d t/\(di at_ (bh at_.length j) z k).c<=bu d t
  last:(di at_ (bh at_.length j) z (z.length-1)).w=dd d t/\(di at_ (bh at_.length j) z (z.length-1)).c=bu d t
  er:terr true l at_ l.length=0->terr true z at_ z.length=(ay (fun s=>(pl s).toNat) at_ d t).1
  va:terr true l at_ l.length=0->(ay (fun s=>(pl s).toNat) at_ d t).1=0->(di at_ (bh at_.length j) z (z.length-1)).v=(ay (fun s=>(pl s).toNat) at_ d t).2.1/\(di at_ (bh at_.length j) z (z.length-1)).d=(ay (fun s=>(pl s).toNat) at_ d t).2.2.getD j 0
theorem oO {f:Nat->Rat}{m j:Nat}(h:j<m):((List.range m).map f).getD j 0=f j:=by simp[h]
theorem qM {s:Stp}{a b:Rat}(h:s.op≠2):kY s a b=cG s.op s.n a b:=if_neg h
theorem ti {ok:ByteArray->Prop}{at_:List Rat}{j:Nat}(W:j<at_.length)(pl:ByteArray->Int):∀ (d:Nat) (t:Tm) (l:List Stp),WfT1 ok d t->RecX at_ j pl d l (az pl d l t) t
  | d + 1, t, l,w=>by
    have w':=w;obtain ⟨w1,w2,w3,w4,w5,w6,w7,w8,w9⟩:=w;have hc:=aA t.op
    rcases (show t.ks.length=0\/t.ks.length=1\/t.ks.length=2 by omega) with h0|h1|h2
    . have a0:aK t.op=0:=by rw[w1,h0];rfl
      have e:=DK (pl:=pl) (d:=d) (l:=l) h0;have J:dd (d+1) t=1:=if_pos h0;have C:bu (d+1) t=1:=by unfold bu;rw[h0];rfl
      have hx:∀ x y:Xs,((Fx at_ (bh at_.length j) ⟨t.op,0,0,if t.op=2 then pl t.s else t.n,t.q⟩ x y).w=1)/\(Fx at_ (bh at_.length j) ⟨t.op,0,0,if t.op=2 then pl t.s else t.n,t.q⟩ x y).c=1:=fun x y=>⟨if_pos a0,by
        show 1+(if 0<aK t.op then _ else 0)+(if 1<aK t.op then _ else 0)=1
        rw[if_neg oM,if_neg oM]⟩
      have Z:t.op=1->ay (fun s=>(pl s).toNat) at_ (d+1) t=(0,t.q,y2 at_.length 0):=fun o=>if_pos o
      have ed2:t.op=2->ay (fun s=>(pl s).toNat) at_ (d+1) t=(0,at_.getD (pl t.s).toNat 0,bh at_.length (pl t.s).toNat):=fun o=>(if_neg (show ¬t.op=1 by omega)).trans (if_pos o)
      rw[e];have hl:(l++[(⟨t.op,0,0,if t.op=2 then pl t.s else t.n,t.q⟩:Stp)]).length=l.length+1:=by simp
      have f:(l++[(⟨t.op,0,0,if t.op=2 then pl t.s else t.n,t.q⟩:Stp)]).length-1=l.length:=by omega
      refine ⟨⟨_,rfl⟩,by omega,fun k D hk2=>?_,?_,fun h=>?_,fun h hd=>?_⟩
      . obtain rfl:k=l.length:=by omega
        rw[iG,(hx _ _).1,(hx _ _).2,J,C];exact ⟨ey _,ey _⟩
      . rw[f,iG,(hx _ _).1,(hx _ _).2,J,C];exact ⟨rfl,rfl⟩
      . rw[kF (way:=[]) h]
        rcases (show t.op=1\/t.op=2 by omega) with o|o
        . rw[Z o]
          show kY _ _ _=0
          unfold kY i8 jh
          simp[o]
        . rw[ed2 o]
          show kY _ _ _=0
          exact if_pos o
      . rw[f,iG]
        rcases (show t.op=1\/t.op=2 by omega) with o|o
        . rw[Z o]
          have p:¬t.op=2:=by omega
          have b0:¬0<aK t.op:=by omega
          have b1:¬1<aK t.op:=by omega
          refine ⟨?_,?_⟩
          . show (if t.op=2 then _ else jX t.op _ t.q _ _)=t.q
            rw[if_neg p,o];rfl
          . show (if t.op=2 then _ else (if 0<aK t.op then _ else (0:Rat))+(if 1<aK t.op then _ else 0))=(y2 _ (0:Rat)).getD j 0
            rw[if_neg p,if_neg b0,if_neg b1,eD];grind
        . rw[ed2 o]
          refine ⟨?_,?_⟩
          . show (if t.op=2 then at_.getD (if t.op=2 then pl t.s else t.n).toNat 0 else _)=at_.getD (pl t.s).toNat 0
            rw[if_pos o,if_pos o]
          . show (if t.op=2 then (bh at_.length j).getD (if t.op=2 then pl t.s else t.n).toNat 0 else _)=(bh at_.length (pl t.s).toNat).getD j 0
            rw[if_pos o,if_pos o,oH,oH]
            by_cases q:(pl t.s).toNat=j
            . rw[if_pos ⟨q,W⟩,if_pos ⟨q.symm,by omega⟩]
            . rw[if_neg (fun x=>q x.1),if_neg (fun x=>q x.1.symm)]
    . have z := ti W pl d (t.ks.getD 0 aG) l (w9 0 oM)
      have a1:aK t.op=1:=by rw[w1,h1];rfl
      have p:t.op≠2:=by omega
      have e:=DD (pl:=pl) (d:=d) (l:=l) h1
      have J:dd (d+1) t=dk t.op t.n*(0+dd d (t.ks.getD 0 aG)):=by
        have q:dd (d+1) t=dk t.op t.n*cw (fun i=>dd d (t.ks.getD i aG)) t.ks.length:=if_neg (show ¬t.ks.length=0 by omega);rw[q,h1];rfl
      have C:bu (d+1) t=1+(0+bu d (t.ks.getD 0 aG)):=by
        conv=>lhs;unfold bu
        rw[h1];rfl
      have ed:ay (fun s=>(pl s).toNat) at_ (d+1) t=rF at_.length t.op t.n (ay (fun s=>(pl s).toNat) at_ d (t.ks.getD 0 aG)) (0,0,[]):=by
        conv=>lhs;unfold ay
        rw[if_neg oM,if_neg p,if_pos oM,if_neg oM]
      obtain ⟨m1,S⟩:=z.pre;have p1:=z.pos;have hw:=z.w;have hla:=z.last;have V:=z.er;have Y:=z.va;rw[e]
      generalize az pl d l (t.ks.getD 0 aG)=z1 at *
      obtain ⟨s,hs⟩:∃ s:Stp,s=⟨t.op,((z1.length:Nat):Int)-1,0,if t.op=2 then pl t.s else t.n,t.q⟩:=⟨_,rfl⟩;rw[<-hs];have so:s.op=t.op:=by rw[hs]
      have H:s.n=t.n:=by rw[hs];exact if_neg p
      have sq:s.q=0:=by rw[hs];exact w2 oM
      have sa:s.a.toNat=z1.length-1:=by rw[hs];show (((z1.length:Nat):Int)-1).toNat=_;omega
      have sb:s.b.toNat=0:=by rw[hs];rfl
      have hl:(z1++[s]).length=z1.length+1:=by simp
      have f:(z1++[s]).length-1=z1.length:=by omega
      have xl:di at_ (bh at_.length j) (z1++[s]) z1.length=Fx at_ (bh at_.length j) s (di at_ (bh at_.length j) z1 (z1.length-1)) (di at_ (bh at_.length j) z1 0):=by rw[iG,sa,sb]
      have w0:=dC t.op t.n
      have Q:(di at_ (bh at_.length j) (z1++[s]) z1.length).w=dd (d+1) t/\(di at_ (bh at_.length j) (z1++[s]) z1.length).c=bu (d+1) t:=by
        rw[xl];refine ⟨?_,?_⟩
        . show (if aK s.op=0 then 1 else dk s.op s.n*(_+(if 1<aK s.op then _ else 0)))=_
          rw[so,H,if_neg oM,if_neg oM,hla.1,J,yW,yK]
        . show 1+(if 0<aK s.op then _ else 0)+(if 1<aK s.op then _ else 0)=_
          rw[so,if_pos oM,if_neg oM,hla.2,C,yW,yK]
      refine ⟨⟨m1++[s],by rw[S,Ls]⟩,by omega,fun k D hk2=>?_,by rw[f];exact Q,fun h=>?_,fun h hd=>?_⟩
      . by_cases hk:k<z1.length
        . rw[pM hk]
          have q:=hw k D hk;refine ⟨e6 q.1 ?_,by rw[C];omega⟩;rw[J,yW];exact Kv _ w0
        . obtain rfl:k=z1.length:=by omega
          rw[Q.1,Q.2];exact ⟨ey _,ey _⟩
      . rw[ed]
        by_cases x0:(ay (fun s=>(pl s).toNat) at_ d (t.ks.getD 0 aG)).1=0
        . have M:=(V h).trans x0
          obtain ⟨F,_⟩:=Y h x0
          have q:kY s (di at_ (bh at_.length j) z1 (z1.length-1)).v (di at_ (bh at_.length j) z1 0).v=cG t.op t.n (ay (fun s=>(pl s).toNat) at_ d (t.ks.getD 0 aG)).2.1 0:=by
            rw[qM (by rw[so];exact p),so,H,F];obtain ⟨_,k2,k3,_,_⟩:=pD (op:=t.op) (n:=t.n) (q:=0) (a:=(ay (fun s=>(pl s).toNat) at_ d (t.ks.getD 0 aG)).2.1) (a':=(ay (fun s=>(pl s).toNat) at_ d (t.ks.getD 0 aG)).2.1) (b:=(di at_ (bh at_.length j) z1 0).v) (b':=0) oM p (fun _=>rfl) (fun x=>by omega)
            unfold cG
            simp only[k2,k3]
          rw[kF (way:=bh at_.length j) M,sa,sb,q]
          by_cases x3:cG t.op t.n (ay (fun s=>(pl s).toNat) at_ d (t.ks.getD 0 aG)).2.1 0=0
          . rw[kM x0 rfl x3];exact x3
          . rw[kN x0 rfl x3]
        . rw[kP x0,kH (by rw[V h];exact x0),V h]
      . rw[ed] at hd ⊢
        by_cases x0:(ay (fun s=>(pl s).toNat) at_ d (t.ks.getD 0 aG)).1=0
        . obtain ⟨F,d1⟩:=Y h x0
          by_cases x3:cG t.op t.n (ay (fun s=>(pl s).toNat) at_ d (t.ks.getD 0 aG)).2.1 0=0
          . rw[kM x0 rfl x3,f,xl]
            obtain ⟨k1,_,_,k4,_⟩:=pD (op:=t.op) (n:=t.n) (q:=0) (a:=(ay (fun s=>(pl s).toNat) at_ d (t.ks.getD 0 aG)).2.1) (a':=(ay (fun s=>(pl s).toNat) at_ d (t.ks.getD 0 aG)).2.1) (b:=(di at_ (bh at_.length j) z1 0).v) (b':=0) oM p (fun _=>rfl) (fun x=>by omega);refine ⟨?_,?_⟩
            . show (if s.op=2 then _ else jX s.op s.n s.q _ _)=_
              rw[so,if_neg p,H,sq,F];exact k1
            . show (if s.op=2 then _ else (if 0<aK s.op then j9 s.op s.n _ _*_ else (0:Rat))+(if 1<aK s.op then _ else 0))=(kb _ _ _ _ _ _ _).getD j 0
              rw[so,if_neg p,if_pos oM,if_neg oM,H,F,d1,k4 oM]
              unfold kb
              rw[oO W,LC];grind
          . rw[kN x0 rfl x3] at hd;exact absurd hd x3
        . rw[kP x0] at hd;exact absurd hd x0
    . have z := ti W pl d (t.ks.getD 0 aG) l (w9 0 oM)
      have X:=ti W pl d (t.ks.getD 1 aG) (az pl d l (t.ks.getD 0 aG)) (w9 1 oM);have a2:aK t.op=2:=by rw[w1,h2];rfl
      have p:t.op≠2:=by omega
      have e:=D7 (pl:=pl) (d:=d) (l:=l) h2
      have J:dd (d+1) t=dk t.op t.n*(0+dd d (t.ks.getD 0 aG)+dd d (t.ks.getD 1 aG)):=by
        have q:dd (d+1) t=dk t.op t.n*cw (fun i=>dd d (t.ks.getD i aG)) t.ks.length:=if_neg (show ¬t.ks.length=0 by omega);rw[q,h2];rfl
      have C:bu (d+1) t=1+(0+bu d (t.ks.getD 0 aG)+bu d (t.ks.getD 1 aG)):=by
        conv=>lhs;unfold bu
        rw[h2];rfl
      have ed:ay (fun s=>(pl s).toNat) at_ (d+1) t=rF at_.length t.op t.n (ay (fun s=>(pl s).toNat) at_ d (t.ks.getD 0 aG)) (ay (fun s=>(pl s).toNat) at_ d (t.ks.getD 1 aG)):=by
        conv=>lhs;unfold ay
        rw[if_neg oM,if_neg p,if_pos oM,if_pos oM]
      obtain ⟨m1,S⟩:=z.pre;obtain ⟨m2,U⟩:=X.pre;have p1:=z.pos;have p2:=X.pos;have hw1:=z.w;have I:=z.last;have u:=z.er;have O:=z.va;have hw2:=X.w;have L:=X.last;have B:=X.er;have K:=X.va;rw[e]
      generalize az pl d (az pl d l (t.ks.getD 0 aG)) (t.ks.getD 1 aG)=z2 at *
      generalize az pl d l (t.ks.getD 0 aG)=z1 at *
      obtain ⟨s,hs⟩:∃ s:Stp,s=⟨t.op,((z1.length:Nat):Int)-1,((z2.length:Nat):Int)-1,if t.op=2 then pl t.s else t.n,t.q⟩:=⟨_,rfl⟩;rw[<-hs];have so:s.op=t.op:=by rw[hs]
      have H:s.n=t.n:=by rw[hs];exact if_neg p
      have sq:s.q=0:=by rw[hs];exact w2 oM
      have sa:s.a.toNat=z1.length-1:=by rw[hs];show (((z1.length:Nat):Int)-1).toNat=_;omega
      have sb:s.b.toNat=z2.length-1:=by rw[hs];show (((z2.length:Nat):Int)-1).toNat=_;omega
      have hl:(z2++[s]).length=z2.length+1:=by simp
      have f:(z2++[s]).length-1=z2.length:=by omega
      have x1:∀ k,k<z1.length->di at_ (bh at_.length j) z2 k=di at_ (bh at_.length j) z1 k:=fun k hk=>by rw[U];exact pM hk
      have xl:di at_ (bh at_.length j) (z2++[s]) z2.length=Fx at_ (bh at_.length j) s (di at_ (bh at_.length j) z1 (z1.length-1)) (di at_ (bh at_.length j) z2 (z2.length-1)):=by rw[iG,sa,sb,x1 _ oM]
      have w0:=dC t.op t.n
      have Q:(di at_ (bh at_.length j) (z2++[s]) z2.length).w=dd (d+1) t/\(di at_ (bh at_.length j) (z2++[s]) z2.length).c=bu (d+1) t:=by
        rw[xl];refine ⟨?_,?_⟩
        . show (if aK s.op=0 then 1 else dk s.op s.n*(_+(if 1<aK s.op then _ else 0)))=_
          rw[so,H,if_neg oM,if_pos oM,I.1,L.1,J,yW]
        . show 1+(if 0<aK s.op then _ else 0)+(if 1<aK s.op then _ else 0)=_
          rw[so,if_pos oM,if_pos oM,I.2,L.2,C,yW,Nat.add_assoc]
      have wl:dd d (t.ks.getD 0 aG)<=dd (d+1) t/\dd d (t.ks.getD 1 aG)<=dd (d+1) t:=by
        have q:=Kv (0+dd d (t.ks.getD 0 aG)+dd d (t.ks.getD 1 aG)) w0;rw[<-J] at q;omega
      refine ⟨⟨m1++(m2++[s]),by rw[U,S,Ls,Ls]⟩,by omega,fun k D hk2=>?_,by rw[f];exact Q,fun h=>?_,fun h hd=>?_⟩
      . by_cases hk:k<z2.length
        . rw[pM hk]
          by_cases hk0:k<z1.length
          . rw[x1 k hk0]
            have q:=hw1 k D hk0;exact ⟨e6 q.1 wl.1,by rw[C];omega⟩
          . have q:=hw2 k oM hk
            exact ⟨e6 q.1 wl.2,by rw[C];omega⟩
        . obtain rfl:k=z2.length:=by omega
          rw[Q.1,Q.2];exact ⟨ey _,ey _⟩
      . rw[ed]
        by_cases x0:(ay (fun s=>(pl s).toNat) at_ d (t.ks.getD 0 aG)).1=0
        . have M:=(u h).trans x0
          obtain ⟨F,_⟩:=O h x0
          by_cases y0:(ay (fun s=>(pl s).toNat) at_ d (t.ks.getD 1 aG)).1=0
          . have t2:=(B M).trans y0
            obtain ⟨v2,_⟩:=K M y0
            have q:kY s (di at_ (bh at_.length j) z2 (z1.length-1)).v (di at_ (bh at_.length j) z2 (z2.length-1)).v=cG t.op t.n (ay (fun s=>(pl s).toNat) at_ d (t.ks.getD 0 aG)).2.1 (ay (fun s=>(pl s).toNat) at_ d (t.ks.getD 1 aG)).2.1:=by
             rw[qM (by rw[so];exact p),so,H,x1 _ oM,F,v2]
            rw[kF (way:=bh at_.length j) t2,sa,sb,q]
            by_cases x3:cG t.op t.n (ay (fun s=>(pl s).toNat) at_ d (t.ks.getD 0 aG)).2.1 (ay (fun s=>(pl s).toNat) at_ d (t.ks.getD 1 aG)).2.1=0
            . rw[kM x0 y0 x3];exact x3
            . rw[kN x0 y0 x3]
          . rw[qL x0 y0,kH (by rw[B M];exact y0),B M]
        . have q:terr true (z2++[s]) at_ (z2++[s]).length=terr true z1 at_ z1.length:=by
            rw[U,Ls];exact kH (by rw[u h];exact x0)
          rw[kP x0,q,u h]
      . rw [ed] at hd ⊢
        by_cases x0:(ay (fun s=>(pl s).toNat) at_ d (t.ks.getD 0 aG)).1=0
        . have M:=(u h).trans x0
          obtain ⟨F,d1⟩:=O h x0
          by_cases y0:(ay (fun s=>(pl s).toNat) at_ d (t.ks.getD 1 aG)).1=0
          . obtain ⟨v2,d2⟩:=K M y0
            by_cases x3:cG t.op t.n (ay (fun s=>(pl s).toNat) at_ d (t.ks.getD 0 aG)).2.1 (ay (fun s=>(pl s).toNat) at_ d (t.ks.getD 1 aG)).2.1=0
            . rw[kM x0 y0 x3,f,xl]
              refine ⟨?_,?_⟩
              . show (if s.op=2 then _ else jX s.op s.n s.q _ _)=_
                rw[so,if_neg p,H,sq,F,v2]
              . show (if s.op=2 then _ else (if 0<aK s.op then j9 s.op s.n _ _*_ else (0:Rat))+(if 1<aK s.op then kL s.op _ _*_ else 0))=(kb _ _ _ _ _ _ _).getD j 0
                rw[so,if_neg p,if_pos oM,if_pos oM,H,F,d1,v2,d2]
                unfold kb
                rw[oO W]
            . rw[kN x0 y0 x3] at hd;exact absurd hd x3
          . rw[qL x0 y0] at hd;exact absurd hd y0
        . rw[kP x0] at hd;exact absurd hd x0
def j8 (n:Nat):ByteArray:=⟨(Lib.decDigits n).toArray⟩
def oL (z:Int):ByteArray:=if av z=true then (⟨#[45]⟩:ByteArray)++j8 (ac z) else j8 (ac z)
def fv (q:Rat):ByteArray:=if q.den=1 then oL q.num else oL q.num++(⟨#[47]⟩:ByteArray)++j8 (qd q)
theorem mm {n:Nat}(h:n<100):(j8 n).size<=3:=(show ∀ n,n<100->(⟨(Lib.decDigits n).toArray⟩:ByteArray).size<=3 by decide +kernel) n h
theorem rX {z:Int}(h:ac z<100):(oL z).size<=4:=by
 have:=mm h
 unfold oL
 split
 ·rw[ByteArray.size_append];have:(⟨#[45]⟩:ByteArray).size=1:=rfl;omega
 ·omega
theorem sx {q:Rat}(h:q.den<100):qd q<100:=by
 unfold qd;split<;>omega
theorem fq {q:Rat}(h:ac q.num<100)(a:q.den<100):(fv q).size<=100:=by
 have c:=rX h;have b:=mm (sx a)
 unfold fv
 split
 ·omega
 ·rw[ByteArray.size_append,ByteArray.size_append];have:(⟨#[47]⟩:ByteArray).size=1:=rfl;omega
theorem td:∀ n,n<100->(∀ x∈Lib.decDigits n,48<=x.toNat)/\Lib.decDigits n≠[]:=by decide +kernel
theorem pa:∀ a,a<100->∀ b,b<100->Lib.decDigits a=Lib.decDigits b->a=b:=by decide +kernel
theorem tC {x:UInt8}:∀ {l1 l2 r1 r2:List UInt8},x ∉ l1->x ∉ l2->l1++x::r1=l2++x::r2->l1=l2/\r1=r2
  | [],[],_,_,_,_,e=>by injection e with _ e;exact ⟨rfl,e⟩
  | [],b::l2,_,_,_,h2,e=>by injection e with e _;exact absurd (e▸Kf) h2
  | a::l1,[],_,_,h1,_,e=>by injection e with e _;exact absurd (e▸Kf) h1
  | a::l1,b::l2,_,_,h1,h2,e=>by
    injection e with e1 e2
    obtain ⟨p,q⟩:=tC (fun h=>h1 (Kg _ h)) (fun h=>h2 (Kg _ h)) e2;rw[e1,p];exact ⟨rfl,q⟩
def vF (z:Int):List UInt8:=if av z=true then 45::Lib.decDigits (ac z) else Lib.decDigits (ac z)
theorem D5 (z:Int):(oL z).data.toList=vF z:=by
 unfold oL vF j8
 split
 ·rw[ByteArray.data_append];simp
 ·simp
theorem oU {z:Int}(h:ac z<100):(47:UInt8) ∉ vF z:=by
 have q:=(td _ h).1;have a:(47:UInt8) ∉ Lib.decDigits (ac z):=fun x=>absurd (q _ x) kD
 unfold vF
 split
 ·intro x
  rcases hP.1 x with x|x
  ·exact absurd x kD
  ·exact a x
 ·exact a
theorem ut {a b:Int}(d:ac a<100)(c:ac b<100)(e:vF a=vF b):a=b:=by
 have f:=td _ d;have h:=td _ c
 unfold vF at e
 by_cases h1:av a=true
 ·rw[if_pos h1] at e
  by_cases h2:av b=true
  ·rw[if_pos h2] at e
   injection e with _ e
   have:=pa _ d _ c e
   unfold av at h1 h2;unfold ac at this
   simp only[decide_eq_true_eq] at h1 h2
   omega
  ·rw[if_neg h2] at e
   exact absurd (h.1 45 (e▸Kf)) kD
 ·rw[if_neg h1] at e
  by_cases h2:av b=true
  ·rw[if_pos h2] at e
   exact absurd (f.1 45 (e▸Kf)) kD
  ·rw[if_neg h2] at e
   have:=pa _ d _ c e
   unfold av at h1 h2;unfold ac at this
   simp only[decide_eq_true_eq] at h1 h2
   omega
theorem Bf {a b:Rat}(h:ac a.num<100)(k:a.den<100)(d:ac b.num<100)(l:b.den<100)(e:fv a=fv b):a=b:=by
 have c:(fv a).data.toList=(fv b).data.toList:=by rw[e]
 have j:∀ q:Rat,¬q.den=1->(fv q).data.toList=vF q.num++47::Lib.decDigits q.den:=fun q f=>by
  have e1:fv q=oL q.num++(⟨#[47]⟩:ByteArray)++j8 (qd q):=if_neg f;rw[e1,ByteArray.data_append,ByteArray.data_append];have e2:qd q=q.den:=by unfold qd;rw[if_neg f]
  rw[e2]
  simp only[Array.toList_append,D5]
  unfold j8;simp
 have i:∀ q:Rat,q.den=1->(fv q).data.toList=vF q.num:=fun q f=>by
  have e1:fv q=oL q.num:=if_pos f;rw[e1,D5]
 by_cases h1:a.den=1
 ·rw[i a h1] at c
  by_cases h2:b.den=1
  ·rw[i b h2] at c
   exact Rat.ext (ut h d c) (h1.trans h2.symm)
  ·rw[j b h2] at c
   exact absurd (c▸(by simp:(47:UInt8)∈vF b.num++47::Lib.decDigits b.den)) (oU h)
 ·rw[j a h1] at c
  by_cases h2:b.den=1
  ·rw[i b h2] at c
   exact absurd (c.symm▸(by simp:(47:UInt8)∈vF a.num++47::Lib.decDigits a.den)) (oU d)
  ·rw[j b h2] at c
   obtain ⟨p,q⟩:=tC (oU h) (oU d) c;exact Rat.ext (ut h d p) (pa _ k _ l q)
theorem sT {P:Program}{Γ:cH}{o:Oper}{w:World}{a b:ByteArray}(h:execOp (ev Γ) o=(do pure (.value (<-Op.stringOp .add a b))))(c:a.size+b.size<=9223372036854775807):(execOp (ev Γ) o).run P w=.ok (.value (.string (a++b))) w:=by
 rw[h];simp[run_string_add_sum w a b c,Result.andThen]
theorem BK (n:Nat)(a:n<100)(w:World)(h:Hp)(g:G w h):Calls Tryz.prog 175 #[nV n] w (Ret w h (fun v _=>v=.string (j8 n))) :=
 (Tryz.internal_strconv_small n a w).mono (by rintro e w' ⟨rfl,rfl⟩;exact ⟨_,h,rfl,Up.refl g,rfl⟩)
theorem EQ (n:Nat)(e:n<100)(w:World)(h:Hp)(g:G w h):CV 141 #[mV n,iV 10] w h (.string (j8 n)):=by
 have a:=sS g;refine go Tryz.func141 [(0,mV n),(1,iV 10)] rfl (ab a ae (ag (ab a [.c,.v qT] (au (cQ (ab a ae ?_))))));have ⟨b,d⟩:=dT (p:=(n:Int)<(100:Int)) oM;refine lB 12 b (au (ab a ae (lV 14 (nV n) ?_ (hr:=rS ((n:Int)) kR (l6 oM oM)))));exact ak 15 a (BK n e _ _ a.g) (fun w2 f a=>lL a ae (af a [] (.string (j8 n)) rfl))
theorem HC (n:Nat)(b:n<100)(w:World)(h:Hp)(g:G w h):CV 111 #[mV n,iV 10] w h (.string (j8 n)):=by
 have a:=sS g;exact go Tryz.func111 [(0,mV n),(1,iV 10)] rfl (ab a ae (a7 (lL a aN (ak 7 a (EQ n b _ _ a.g) (fun w1 c a=>lL a ae (af a [] (.string (j8 n)) rfl))))))
theorem AT (z:Int)(n:Nat)(hz:z=(n:Nat))(a:n<100)(w:World)(h:Hp)(g:G w h):Calls Tryz.prog 111 #[uV z,iV 10] w (Ret w h (fun v _=>v=.string (j8 n))):=by
 subst hz;exact HC n a w h g
theorem Cc (n:Nat)(h0:0<n)(u:n<100)(w:World)(h:Hp)(g:G w h):CV 71 #[nv n] w h (.string (j8 n)):=by
 have a:=sS g;have b:=jC (show n<18446744073709551616 by omega);have f:=congrArg List.length (kj h0 (show n<18446744073709551616 by omega))
 simp only[K8] at f
 refine go Tryz.func71 [(0,nv n)] rfl (aD (lA 1 25 (nc n) a (fun l w2 C a=>lL a ae (a7 (lL a [.o (nv n) 0 0 2] (lC 10 a (fu n oM oM _ _ a.g) ?_))))));rintro _ z x a ⟨B,rfl,k,j,d⟩;replace a:=a.aS d;refine lL a ae (ag (ab a [.c,.v (nV ((wds n).length))] ?_));have ⟨e,i⟩:=dT (p:=(((wds n).length:Nat):Int)<=(1:Int)) oM;exact lB 13 e (au (ab a [.v (pB l),.o (mV (n%18446744073709551616)) 0 0 1] (ak 16 a (AT _ n b u _ _ a.g) (fun D y a=>lL a ae (af a [] (.string (j8 n)) rfl)))))
theorem CQ (n:Nat)(d:n<100)(b:(0:Int)=(n:Nat))(w:World)(h:Hp)(g:G w h):CV 71 #[nv 0] w h (.string (j8 n)):=by
 have a:=sS g;exact go Tryz.func71 [(0,nv 0)] rfl (aD (lA 1 25 ([uV 0,eS]) a (fun e w2 j a=>lL a ae (a7 (lL a [.o (.agg #[uV 0,eS]) 0 0 2] (ak 10 a (j6 _ _ a.g) (fun k f a=>lL a ae (ag (ab a [.c,.v (iV 0),.v qT] (au (ab a [.v (pB e),.o (uV 0) 0 0 1] (ak 16 a (AT _ n b d _ _ a.g) (fun i l a=>lL a ae (af a [] (.string (j8 n)) rfl))))))))))))))
theorem sO (n:Nat)(a:n<100)(w:World)(h:Hp)(g:G w h):Calls Tryz.prog 71 #[nv n] w (Ret w h (fun v _=>v=.string (j8 n))):=by
 rcases Nat.eq_zero_or_pos n with rfl|h0
 ·exact CQ 0 a rfl w h g
 ·exact Cc n h0 a w h g
theorem wo (z:Int)(hz:ac z<100)(w:World)(h:Hp)(g:G w h):CV 70 #[iv z] w h (.string (oL z)):=by
 have c:=sS g;refine go Tryz.func70 [(0,iv z)] rfl (aD (lA 1 27 (ic z) c (fun f w2 x c=>lL c ae (ag (ab c [.v (pB f),.o (.bool (av z)) 0 0 1] (lN ?_))))));cases d:(av z)
 .
  try rw[d] at c
  try rw[d]
  refine dv (cK (ab c [.v (qP f 1),.o (nv (ac z)) 0 1 2] (ak 11 c (sO (ac z) hz _ _ c.g) (fun u p c=>?_))));have e:=mm hz;exact lL c ae (af c [] (.string (j8 (ac z))) (congrArg Value.string (by unfold oL;cases i:av z<;>simp_all)))
 try rw[d] at c
 try rw[d]
 refine bT (ab c [.v (qP f 1),.o (nv (ac z)) 0 1 2] (ak 7 c (sO (ac z) hz _ _ c.g) (fun y l c=>?_)));have e:=mm hz;refine lV 8 (.string ((⟨#[45]⟩:ByteArray)++(j8 (ac z)))) ?_ (hr:=sT (a:=⟨#[45]⟩) (b:=(j8 (ac z))) kR (by have j:(⟨#[45]⟩:ByteArray).size<=100:=(by first|assumption|decide|omega|(rw[ByteArray.size_append];first|omega|(have:(⟨#[45]⟩:ByteArray).size=1:=rfl;omega)|(have:(⟨#[47]⟩:ByteArray).size=1:=rfl;omega)));have k:((j8 (ac z)):ByteArray).size<=100:=(by first|assumption|decide|omega|(rw[ByteArray.size_append];first|omega|(have:(⟨#[45]⟩:ByteArray).size=1:=rfl;omega)|(have:(⟨#[47]⟩:ByteArray).size=1:=rfl;omega)));omega));exact lL c ae (af c [] (.string ((⟨#[45]⟩:ByteArray)++(j8 (ac z)))) (congrArg Value.string (by unfold oL;cases i:av z<;>simp_all)))
theorem rZ (q:Rat)(u:LQ 100000000 q)(i:ac q.num<100)(hd:q.den<100)(w:World)(h:Hp)(g:G w h):CV 29 #[qv q] w h (.string (fv q)):=by
 have c:=sS g;refine go Tryz.func29 [(0,qv q)] rfl (aD (lA 1 29 (qc q) c (fun j w2 D c=>lL c ae (ag (ab c [.o (qv q) 0 0 5] (ak 4 c (jM q u _ _ c.g) (fun C x c=>?_)))))));cases e:(decide (q.den=1))
 .
  have d:=oF e;refine ai (cK (cQ (cR 8 [] mixed c ao ?_)));refine eV 0 8 (pB j) (eO 1 9 [(0,0,3)] (iv q.num) c (eV 4 12 (qP j 3) (eO 5 13 [(0,3,2)] (nv (qd q)) c (aj 2 10 c (fun _ _ c=>wo q.num i _ _ c.g) (fun y z c=>?_)))));have f:=rX i;refine eV 3 11 (.string (((oL q.num):ByteArray)++(⟨#[47]⟩))) ?_ (hv:=fun _=>sT (a:=(oL q.num)) (b:=⟨#[47]⟩) kR (by have k:((oL q.num):ByteArray).size<=100:=(by first|assumption|decide|omega|(rw[ByteArray.size_append];first|omega|(have:(⟨#[45]⟩:ByteArray).size=1:=rfl;omega)|(have:(⟨#[47]⟩:ByteArray).size=1:=rfl;omega)));have l:(⟨#[47]⟩:ByteArray).size<=100:=(by first|assumption|decide|omega|(rw[ByteArray.size_append];first|omega|(have:(⟨#[45]⟩:ByteArray).size=1:=rfl;omega)|(have:(⟨#[47]⟩:ByteArray).size=1:=rfl;omega)));omega));refine aj 6 14 c (fun _ _ c=>sO (qd q) (sx hd) _ _ c.g) (fun B _ c=>?_);have p:=mm (sx hd);refine eV 7 15 (.string ((((oL q.num):ByteArray)++(⟨#[47]⟩):ByteArray)++(j8 (qd q)))) ?_ (hv:=fun _=>sT (a:=((oL q.num):ByteArray)++(⟨#[47]⟩)) (b:=(j8 (qd q))) kR (by have k:(((oL q.num):ByteArray)++(⟨#[47]⟩):ByteArray).size<=100:=(by first|assumption|decide|omega|(rw[ByteArray.size_append];first|omega|(have:(⟨#[45]⟩:ByteArray).size=1:=rfl;omega)|(have:(⟨#[47]⟩:ByteArray).size=1:=rfl;omega)));have l:((j8 (qd q)):ByteArray).size<=100:=(by first|assumption|decide|omega|(rw[ByteArray.size_append];first|omega|(have:(⟨#[45]⟩:ByteArray).size=1:=rfl;omega)|(have:(⟨#[47]⟩:ByteArray).size=1:=rfl;omega)));omega));exact ce c (fun _ _ c=>tV 8 2 (.string ((((oL q.num):ByteArray)++(⟨#[47]⟩):ByteArray)++(j8 (qd q)))) (tN (kX (c.ret [] (.string ((((oL q.num):ByteArray)++(⟨#[47]⟩):ByteArray)++(j8 (qd q)))) (congrArg Value.string (by unfold fv;first|rw[if_pos aM]|rw[if_neg aM]))))))
 have d:=oT e;refine au (ab c [.v (pB j),.o (iv q.num) 0 0 3] (ak 7 c (wo q.num i _ _ c.g) (fun _ _ c=>?_)));have f:=rX i;exact lL c ae (af c [] (.string (oL q.num)) (congrArg Value.string (by unfold fv;first|rw[if_pos aM]|rw[if_neg aM])))
def ByOk (k:Nat)(bl:List Int):Prop:=∀ j,j<k->0<=bl.getD j 0/\bl.getD j 0<=(j:Int)
def StOk (k:Nat)(sl:List Stp):Prop:=∀ j,j<k->(0<aK (sl.getD j aa).op->0<=(sl.getD j aa).a/\(sl.getD j aa).a<(j:Int))/\(1<aK (sl.getD j aa).op->0<=(sl.getD j aa).b/\(sl.getD j aa).b<(j:Int))
theorem ByOk.fin {k n:Nat}{a:List Int}(x:ByOk k a)(h:n<=k):ByOk n a:=fun j b=>x j oM
theorem StOk.fin {k n:Nat}{sl:List Stp}(x:StOk k sl)(h:n<=k):StOk n sl:=fun j a=>x j oM
theorem aY {α:Type}{l:List α}{d x:α}{k i:Nat}(hk:k<l.length):(l.set k x).getD i d=if i=k then x else l.getD i d:=by
 rw[A4,List.getElem?_set]
 by_cases e:k=i
 ·subst e;rw[if_pos rfl,if_pos hk,if_pos rfl];rfl
 ·rw[if_neg e,if_neg (fun h=>e h.symm),<-A4]
theorem ByOk.set {k:Nat}{a:List Int}{v:Int}(x:ByOk k a)(hk:k<a.length)(h0:0<=v)(h1:v<=(k:Int)):ByOk (k+1) (a.set k v):=fun j b=>by
 rw[aY hk]
 by_cases e:j=k
 ·subst e;rw[if_pos rfl];exact ⟨h0,h1⟩
 ·rw[if_neg e];exact x j oM
theorem StOk.set {k:Nat}{sl:List Stp}{s:Stp}(x:StOk k sl)(hk:k<sl.length)(y:(0<aK s.op->0<=s.a/\s.a<(k:Int))/\(1<aK s.op->0<=s.b/\s.b<(k:Int))):StOk (k+1) (sl.set k s):=fun j c=>by
 rw[aY hk]
 by_cases e:j=k
 ·subst e;rw[if_pos rfl];exact y
 ·rw[if_neg e];exact x j oM
def gH (m:List Int)(s:Stp):Stp:=⟨s.op,if 0<aK s.op then m.getD s.a.toNat 0 else s.a,if 1<aK s.op then m.getD s.b.toNat 0 else s.b,s.n,s.q⟩
theorem tL {m c:List Int}{s:Stp}(e:0<aK s.op->m.getD s.a.toNat 0=c.getD s.a.toNat 0)(d:1<aK s.op->m.getD s.b.toNat 0=c.getD s.b.toNat 0):gH m s=gH c s:=by
 unfold gH
 by_cases h1:0<aK s.op
 ·rw[if_pos h1,if_pos h1,e h1]
  by_cases h2:1<aK s.op
  ·rw[if_pos h2,if_pos h2,d h2]
  ·rw[if_neg h2,if_neg h2]
 ·rw[if_neg h1,if_neg h1]
  by_cases h2:1<aK s.op
  ·omega
  ·rw[if_neg h2,if_neg h2]
def ny (s:Stp):Value:=.agg #[.int .i64 s.op,.int .i64 s.n,.int .i64 s.a,.int .i64 s.b,.string (fv s.q)]
theorem vI {s t:Stp}(h1:ac s.q.num<100/\s.q.den<100)(h:ac t.q.num<100/\t.q.den<100)(e:ny s=ny t):s=t:=by
 obtain ⟨op,a,b,n,q⟩:=s;obtain ⟨k,a',b',l,i⟩:=t
 unfold ny at e
 injection e with e
 simp only[Array.mk.injEq,List.cons.injEq,and_true] at e
 obtain ⟨e1,e2,d,c,f⟩:=e
 injection e1 with _ e1
 injection e2 with _ e2
 injection d with _ d
 injection c with _ c
 injection f with f
 have j:q=i:=Bf h1.1 h1.2 h.1 h.2 f;subst e1 e2 d c j;rfl
def Qd (sl:List Stp)(k:Nat)(key v:Value):Prop:=∃ j:Nat,j<k/\v=.int .i64 (j:Nat)/\key=ny (sl.getD j aa)
theorem sh {sl:List Stp}{k:Nat}{key v:Value}{s:Stp}(hk:k<sl.length)(q:Qd sl k key v):Qd (sl.set k s) (k+1) key v:=by
 obtain ⟨j,h1,a,b⟩:=q;exact ⟨j,by omega,a,by rw[aY hk,if_neg oM];exact b⟩
def EqI (l:List Stp)(k:Nat)(sl:List Stp)(bl:List Int):Prop:=∀ i,i<k->sl.getD i aa=gH bl (l.getD i aa)/\sl.getD (bl.getD i 0).toNat aa=sl.getD i aa
theorem EqI.step {inp:Int}{l sl:List Stp}{a:List Int}{k j:Nat}{s:Stp}(E:EqI l k sl a)(y:∀ i,i<l.length->Formed inp i (l.getD i aa))(d:∀ i,ac (l.getD i aa).q.num<100/\(l.getD i aa).q.den<100)(hB:ByOk k a)(hk:k<l.length)(h:k<sl.length)(o:k<a.length)(e:s=gH a (l.getD k aa))(F:j<k+1)(f:ny s=ny ((sl.set k s).getD j aa)):EqI l (k+1) (sl.set k s) (a.set k ((j:Nat):Int)):=by
 have C:∀ i,i<k->(sl.getD i aa).q=(l.getD i aa).q:=fun i hi=>by rw[(E i hi).1];rfl
 have p:(sl.set k s).getD j aa=s:=by
  by_cases q:j=k
  ·rw[aY h,if_pos q]
  ·rw[aY h,if_neg q] at f ⊢
   exact (vI (by rw[e];exact d k) (by rw[C j oM];exact d j) f).symm
 intro i hi;have u:=(y i oM).opr;have D:gH (a.set k ((j:Nat):Int)) (l.getD i aa)=gH a (l.getD i aa):=tL (fun x=>by rw[aY o,if_neg (by have:=u.1 x;omega)]) (fun x=>by rw[aY o,if_neg (by have:=u.2.1 x;omega)]);rw[D]
 by_cases c:i=k
 ·subst c
  have e1:(sl.set i s).getD i aa=s:=by rw[aY h,if_pos rfl]
  have e2:((a.set i ((j:Nat):Int)).getD i 0).toNat=j:=by rw[aY o,if_pos rfl];rfl
  rw[e1,e2];exact ⟨e,p⟩
 ·obtain ⟨B,z⟩:=E i oM
  have b:=hB i oM;rw[aY o,if_neg c,aY h,if_neg c,aY h,if_neg oM];exact ⟨B,z⟩
theorem EqI.blr {l sl:List Stp}{c:List Int}(E:EqI l l.length sl c)(hB:ByOk l.length c)(e:sl.length=l.length)(d:∀ i,i<l.length->mg l):BlR l sl (fun i=>(c.getD i 0).toNat):=by
 refine ⟨e,fun i hi=>?_,fun i hi x=>?_,fun i hi x=>?_,fun i hi=>?_,fun i hi=>?_,fun i hi=>(E i hi).2⟩
 ·rw[(E i hi).1];exact ⟨rfl,rfl,rfl⟩
 ·rw[(E i hi).1]
  show (if 0<aK _ then _ else _)=_
  rw[if_pos x];have:=(d i hi i hi).2.1 x;have:=hB (l.getD i aa).a.toNat oM
  omega
 ·rw[(E i hi).1]
  show (if 1<aK _ then _ else _)=_
  rw[if_pos x];have:=(d i hi i hi).2.2 x;have:=hB (l.getD i aa).b.toNat oM
  omega
 ·rw[(E i hi).1]
  exact ⟨fun x=>if_neg x,fun x=>if_neg x⟩
 ·have:=hB i hi
  show (c.getD i 0).toNat<=i
  omega
def NdO (nl:List Bool)(os bl:List Int)(i:Nat):Prop:=∀ t,t<i->nl.getD (bl.getD (os.getD t 0).toNat 0).toNat false=true
theorem NdO.step {nl:List Bool}{os a:List Int}{i:Nat}(x:NdO nl os a i)(h:(a.getD (os.getD i 0).toNat 0).toNat<nl.length):NdO (nl.set (a.getD (os.getD i 0).toNat 0).toNat true) os a (i+1):=fun t b=>by
 rw[aY h]
 by_cases e:(a.getD (os.getD t 0).toNat 0).toNat=(a.getD (os.getD i 0).toNat 0).toNat
 ·rw[if_pos e]
 ·rw[if_neg e];exact x t (by
  have:t≠i:=fun q=>e (by rw[q])
  omega)
def Ops (sl:List Stp)(nl:List Bool)(j:Nat):Prop:=(0<aK (sl.getD j aa).op->nl.getD (sl.getD j aa).a.toNat false=true)/\(1<aK (sl.getD j aa).op->nl.getD (sl.getD j aa).b.toNat false=true)
theorem Ops.up {sl:List Stp}{nl a:List Bool}{j:Nat}(x:Ops sl nl j)(h:∀ i,nl.getD i false=true->a.getD i false=true):Ops sl a j:=⟨fun y=>h _ (x.1 y),fun y=>h _ (x.2 y)⟩
def Mor (nl nl':List Bool)(x:Nat):Prop:=nl'.length=nl.length/\(∀ i,nl.getD i false=true->nl'.getD i false=true)/\∀ j,x<=j->nl'.getD j false=nl.getD j false
theorem Mor.refl (nl:List Bool)(x:Nat):Mor nl nl x:=⟨rfl,fun _ h=>h,fun _ _=>rfl⟩
theorem Mor.set {nl b:List Bool}{x a:Nat}(m:Mor nl b x)(l:a<x)(k:a<nl.length):Mor nl (b.set a true) x:=by
 obtain ⟨c,m2,f⟩:=m;have h:a<b.length:=by omega
 refine ⟨by rw[JJ];exact c,fun i hi=>?_,fun j d=>?_⟩
 ·rw[aY h]
  by_cases e:i=a
  ·rw[if_pos e]
  ·rw[if_neg e];exact m2 i hi
 ·rw[aY h,if_neg oM];exact f j d
structure CmI (sl:List Stp) (nl:List Bool) (k:Nat) (tl:List Int) (al:List Stp):Prop where
  st:∀ j,j<k->nl.getD j false=true->0<=tl.getD j 0/\tl.getD j 0<al.length/\al.getD (tl.getD j 0).toNat aa=gH tl (sl.getD j aa)/\(0<aK (sl.getD j aa).op->tl.getD (sl.getD j aa).a.toNat 0<tl.getD j 0)/\(1<aK (sl.getD j aa).op->tl.getD (sl.getD j aa).b.toNat 0<tl.getD j 0)
  all:∀ t,t<al.length->∃ j,j<k/\nl.getD j false=true/\tl.getD j 0=(t:Nat)
section
variable {sl al:List Stp}{nl:List Bool}{tl:List Int}{k:Nat}
theorem CmI.zero {tl:List Int}:CmI sl nl 0 tl []:=⟨fun j a=>absurd a (K6 j),fun t b=>absurd b (K6 t)⟩
theorem CmI.skip (C:CmI sl nl k tl al)(h:nl.getD k false=false):CmI sl nl (k+1) tl al:=by
 refine ⟨fun j d a=>C.st j ?_ a,fun t c=>?_⟩
 ·have:j≠k:=fun e=>by rw[e,h] at a;cases a
  omega
 ·obtain ⟨j,h1,b⟩:=C.all t c
  exact ⟨j,by omega,b⟩
theorem CmI.step (C:CmI sl nl k tl al)(S:StOk (k+1) sl)(h:nl.getD k false=true)(o:Ops sl nl k)(hk:k<tl.length){s:Stp}(e:s=gH tl (sl.getD k aa)):CmI sl nl (k+1) (tl.set k ((al.length:Nat):Int)) (al++[s]):=by
  have z:∀ j,j<=k->gH (tl.set k ((al.length:Nat):Int)) (sl.getD j aa)=gH tl (sl.getD j aa):=fun j b=>tL (fun x=>by rw[aY hk,if_neg (by have:=(S j oM).1 x;omega)]) (fun x=>by rw[aY hk,if_neg (by have:=(S j oM).2 x;omega)])
  refine ⟨fun j b l=>?_,fun t B=>?_⟩
  . have a:=S j b
    rw[z j oM,aY hk]
    by_cases c:j=k
    . subst c
      rw[if_pos rfl];refine ⟨by omega,by rw[yR,K8];omega,?_,fun x=>?_,fun x=>?_⟩
      . rw[y6,bj,if_neg (KZ _),if_pos rfl];exact e
      . rw[aY hk,if_neg (by have:=a.1 x;omega)]
        exact (C.st _ (by have:=a.1 x;omega) (o.1 x)).2.1
      . rw[aY hk,if_neg (by have:=a.2 x;omega)]
        exact (C.st _ (by have:=a.2 x;omega) (o.2 x)).2.1
    . rw[if_neg c]
      obtain ⟨i,D,u,f,p⟩:=C.st j oM l;refine ⟨i,by rw[yR,K8];omega,?_,fun x=>?_,fun x=>?_⟩
      . rw[bj,if_pos oM];exact u
      . rw[aY hk,if_neg (by have:=a.1 x;omega)];exact f x
      . rw[aY hk,if_neg (by have:=a.2 x;omega)];exact p x
  . rw[yR,K8] at B
    by_cases c:t<al.length
    . obtain ⟨j,h1,d,y⟩:=C.all t c
      exact ⟨j,by omega,d,by rw[aY hk,if_neg oM];exact y⟩
    . exact ⟨k,LB k,h,by rw[aY hk,if_pos rfl];omega⟩
end
def IT (sl:List Stp)(bl os:List Int)(al:List Stp)(ol:List Int):Prop :=
  ∃ (nl:List Bool)(tl:List Int),CmI sl nl sl.length tl al/\(∀ j,j<sl.length->nl.getD j false=true->Ops sl nl j)/\NdO nl os bl os.length/\ol.length=os.length/\(∀ t,t<os.length->ol.getD t 0=tl.getD (bl.getD (os.getD t 0).toNat 0).toNat 0)/\al.length<=sl.length
def LeanF (l:List Stp)(os:List Int)(al:List Stp)(ol:List Int):Prop :=
  ∃ (sl:List Stp)(bl m:Nat->Nat)(D:Nat->Prop),BlR l sl bl/\LnR sl al D m/\(∀ t,t<os.length->D (bl (os.getD t 0).toNat)/\ol.getD t 0=(m (bl (os.getD t 0).toNat):Nat))/\ol.length=os.length/\al.length<=l.length
theorem Gn {inp:Int}{l sl al:List Stp}{h os ol:List Int}(M:∀ i,i<l.length->Formed inp i (l.getD i aa))(S:sl.length=l.length)(E:EqI l l.length sl h)(hB:ByOk l.length h)(O:StOk l.length sl)(X:fr l.length os)(K:IT sl h os al ol):LeanF l os al ol:=by
  obtain ⟨nl,tl,C,o,k,D,H,U⟩:=K
  have hz:∀ j,j<l.length->(¬0<aK (sl.getD j aa).op->(sl.getD j aa).a=0)/\(¬1<aK (sl.getD j aa).op->(sl.getD j aa).b=0):=fun j L=>by
    obtain ⟨_,⟨_,f1⟩,⟨_,f2⟩,_⟩:=M j L;rw[(E j L).1];refine ⟨fun x=>?_,fun x=>?_⟩
    . show (if 0<aK _ then _ else _)=_
      rw[if_neg (show ¬0<aK (l.getD j aa).op from x)];exact f1 x
    . show (if 1<aK _ then _ else _)=_
      rw[if_neg (show ¬1<aK (l.getD j aa).op from x)];exact f2 x
  have B:∀ t,t<os.length->(h.getD (os.getD t 0).toNat 0).toNat<sl.length:=fun t e=>by
    have h1:=X t e;have J:=hB (os.getD t 0).toNat oM
    omega
  refine ⟨sl,fun i=>(h.getD i 0).toNat,fun j=>(tl.getD j 0).toNat,fun j=>j<sl.length/\nl.getD j false=true,E.blr hB S (fun i hi=>fR M),?_,fun t e=>?_,D,by omega⟩
  . refine ⟨fun i hi d=>?_,fun i hi d x=>?_,fun i hi d x=>?_,fun i hi d=>?_,fun t e=>?_⟩
    . obtain ⟨F,I,f,u,y⟩:=C.st i hi d.2
      show (tl.getD i 0).toNat<_/\_
      rw[f];exact ⟨by omega,rfl,rfl,rfl⟩
    . obtain ⟨F,I,f,u,y⟩:=C.st i hi d.2
      have V:=(O i oM).1 x;have p:=(o i hi d.2).1 x;have W:=(C.st _ (show (sl.getD i aa).a.toNat<sl.length by omega) p).1;refine ⟨⟨by omega,p⟩,?_,?_⟩
      . show (al.getD (tl.getD i 0).toNat aa).a=_
        rw[f]
        show (if 0<aK _ then _ else _)=_
        rw[if_pos x];omega
      . have:=u x
        show (tl.getD _ 0).toNat<(tl.getD i 0).toNat
        omega
    . obtain ⟨F,I,f,u,y⟩:=C.st i hi d.2
      have V:=(O i oM).2 x;have p:=(o i hi d.2).2 x;have W:=(C.st _ (show (sl.getD i aa).b.toNat<sl.length by omega) p).1;refine ⟨⟨by omega,p⟩,?_,?_⟩
      . show (al.getD (tl.getD i 0).toNat aa).b=_
        rw[f]
        show (if 1<aK _ then _ else _)=_
        rw[if_pos x];omega
      . have:=y x
        show (tl.getD _ 0).toNat<(tl.getD i 0).toNat
        omega
    . obtain ⟨F,I,f,u,y⟩:=C.st i hi d.2
      have z:=hz i oM
      show (_->(al.getD (tl.getD i 0).toNat aa).a=0)/\(_->(al.getD (tl.getD i 0).toNat aa).b=0)
      rw[f];refine ⟨fun x=>?_,fun x=>?_⟩
      . show (if 0<aK _ then _ else _)=_
        rw[if_neg x];exact z.1 x
      . show (if 1<aK _ then _ else _)=_
        rw[if_neg x];exact z.2 x
    . obtain ⟨j,h1,J,Y⟩:=C.all t e
      exact ⟨j,h1,⟨h1,J⟩,by show (tl.getD j 0).toNat=t;omega⟩
  . have Q:=B t e
    refine ⟨⟨Q,k t e⟩,?_⟩;have c:=(C.st _ Q (k t e)).1;rw[H t e]
    show _=(((tl.getD (h.getD (os.getD t 0).toNat 0).toNat 0).toNat:Nat):Int)
    omega
def nmX:List ByteArray:=[⟨#[120]⟩,⟨#[121]⟩,⟨#[122]⟩]
theorem lv {s:ByteArray}(h:Bc s):s∈nmX:=by
 rcases h with rfl|rfl|rfl
 ·exact Kf
 ·exact Kg _ Kf
 ·exact Kg _ (Kg _ Kf)
theorem oZ {ok:ByteArray->Prop}{ix a:ByteArray->Nat}(h:∀ s,ok s->ix s=a s)(at_:List Rat):∀ {d:Nat} {t:Tm},WfT1 ok d t->ay ix at_ d t=ay a at_ d t
  | d + 1,t,⟨h1,h2,h3,h4,h5,h6,h7,h8,h9⟩=>by
    unfold ay
    by_cases c1:t.op=1
    . rw[if_pos c1,if_pos c1]
    . rw[if_neg c1,if_neg c1]
      by_cases c2:t.op=2
      . rw[if_pos c2,if_pos c2,h _ (h4 c2)]
      . rw[if_neg c2,if_neg c2]
        have e0:(if 0<t.ks.length then ay ix at_ d (t.ks.getD 0 aG) else (0,0,[]))=if 0<t.ks.length then ay a at_ d (t.ks.getD 0 aG) else (0,0,[]):=by
          by_cases k:0<t.ks.length
          . rw[if_pos k,if_pos k,oZ h at_ (h9 0 k)]
          . rw[if_neg k,if_neg k]
        have e1:(if 1<t.ks.length then ay ix at_ d (t.ks.getD 1 aG) else (0,0,[]))=if 1<t.ks.length then ay a at_ d (t.ks.getD 1 aG) else (0,0,[]):=by
          by_cases k:1<t.ks.length
          . rw[if_pos k,if_pos k,oZ h at_ (h9 1 k)]
          . rw[if_neg k,if_neg k]
        rw[e0,e1]
def dm (t:Tm):List Stp:=az (rO nmX) 5 [] t
def fK (t:Tm):List Int:=[((dm t).length:Int)-1]
section
variable {t:Tm}(hG:GrT 5 t){fs:List Rat}
include hG
theorem vA:RecOk (fun z=>nmX.getD z.toNat ⟨#[]⟩) 3 5 [] (dm t) (bu 5 t) t:=mY (ok:=Bc) (fun s h=>DI (lv h)) 5 t [] kD hG.1 (fun k hk=>absurd hk (K6 k))
theorem js:0<(dm t).length/\(dm t).length<=31:=by
 have r:=vA hG;have h1:=r.len;have h2:=r.pos;have h3:=jp hG.1
 simp only[Li] at h1
 omega
theorem Ec {j:Nat}(a:j<fs.length):RecX fs j (rO nmX) 5 [] (dm t) t:=ti a _ 5 t [] hG.1
theorem lw {j:Nat}(a:j<fs.length):Lite fs (bh fs.length j) 3 (dm t):=by
 have r:=vA hG;have x:=Ec (fs:=fs) hG a;have c:=jp hG.1;have b:=hG.2.1;refine ⟨(js hG).2,r.fm,r.lq (fun i=>by rw[LC];exact jd kD),fun k hk=>?_,fun k hk=>?_⟩
 ·have:=(x.w k (JU _) hk).1
  omega
 ·have:=(x.w k (JU _) hk).2
  omega
theorem pE:fr (dm t).length (fK t):=fun i hi=>by
 have h:=js hG;have e:i=0:=by have:i<1:=hi;omega
 subst e
 show 0<=((dm t).length:Int)-1/\((dm t).length:Int)-1<_
 omega
theorem tc:bZ 3 (dm t) (fK t)=0:=by
 have L:=lw (fs:=[0]) (j:=0) hG kD;have h:=js hG;exact D8 (at_:=[0]) (way:=bh 1 0) kD oM (by show 1<=300;decide) L.fm (fun k hk=>by have:=L.w k hk;exact e6 this kD) (pE hG)
theorem wU:ay (fun s=>(rO nmX s).toNat) fs 5 t=ay (bE nmX) fs 5 t:=oZ (ok:=Bc) (fun s h=>by rw[pb (lv h)];rfl) fs hG.1
theorem xn (hf:0<fs.length):terr true (dm t) fs (dm t).length=(ay (bE nmX) fs 5 t).1:=by
 rw[<-wU hG];exact (Ec (fs:=fs) hG hf).er rfl
theorem nr (hf:fs.length=3):du 3 (dm t) (fK t) fs [((1:Int):Rat)]=(ay (bE nmX) fs 5 t).1:=by
 unfold du
 rw[if_pos (tc hG),if_pos ⟨by rw[hf];rfl,rfl⟩];exact xn hG oM
end
theorem o9 (l:List Stp)(o:Int)(at_ way:List Rat):rH l [o] at_ [((1:Int):Rat)] way=(dO l at_ way l.length).getD o.toNat 0:=by
 unfold rH
 show (0:Rat)+((1:Int):Rat)*(dO l at_ way l.length).getD o.toNat 0=_
 rw[show ((1:Int):Rat)=1 from rfl];grind
theorem kc {inp:Nat}{l:List Stp}{os:List Int}{at_ by_:List Rat}{j:Nat}(h:j<inp):(fY inp l os at_ by_).getD j 0=rH l os at_ by_ (bh inp j):=by unfold fY;simp[h]
theorem fP {inp:Nat}{l:List Stp}{os:List Int}{at_ by_:List Rat}:(fY inp l os at_ by_).length=inp:=by unfold fY;simp
theorem CO {t:Tm}(hG:GrT 5 t){fs:List Rat}(hf:fs.length=3)(h0:(ay (bE nmX) fs 5 t).1=0):bI 3 (dm t) (fK t) fs [((1:Int):Rat)]=[(ay (bE nmX) fs 5 t).2.1]/\bR 3 (dm t) (fK t) fs [((1:Int):Rat)]=(ay (bE nmX) fs 5 t).2.2:=by
 have e:=(nr hG hf).trans h0;have f:=js hG
 have c:∀ j,j<3->(di fs (bh 3 j) (dm t) ((dm t).length-1)).v=(ay (bE nmX) fs 5 t).2.1/\(di fs (bh 3 j) (dm t) ((dm t).length-1)).d=(ay (bE nmX) fs 5 t).2.2.getD j 0:=fun j a=>by
  have q:=(Ec (fs:=fs) (j:=j) hG oM).va rfl (by rw[wU hG];exact h0);rw[wU hG,hf] at q
  exact q
 have b:(((dm t).length:Int)-1).toNat=(dm t).length-1:=by omega
 refine ⟨?_,?_⟩
 ·unfold bI
  rw[if_pos e]
  show [(aR (dm t) fs (dm t).length).getD (((dm t).length:Int)-1).toNat 0]=_
  rw[b,uf (way:=bh 3 0) _ _ oM (ey _),(c 0 kD).1]
 ·unfold bR
  rw[if_pos e];have hd:=jN (ix:=bE nmX) (at_:=fs) hG.1 h0;refine fp (by rw[fP,hd,hf];rfl) fun j=>?_
  by_cases a:j<3
  ·rw[kc (show j<(3:Int).toNat from a)]
   show rH _ [_] _ _ (bh 3 j)=_
   rw[o9,b,xP _ _ oM (ey _),(c j a).2]
  ·rw[bG (by rw[fP];show 3<=j;omega),bG (by rw[hd,hf];omega)]
section
variable {z al:List Stp}{os ol:List Int}{fs way:List Rat}
theorem BlR.same {X:Type}{F:Stp->X->X->X}{d:X}(o:OwnF F){l sl:List Stp}{a:Nat->Nat}(R:BlR l sl a)(h:mg l){x:Nat}(b:x<l.length):(fD F d sl sl.length).getD (a x) d=(fD F d sl sl.length).getD x d:=by
 have:=R.le x b;have e1:=hJ (z:=d) o (R.pre h) (k:=a x) (by rw[R.len];omega);have e2:=hJ (z:=d) o (R.pre h) (k:=x) (by rw[R.len];exact b);rw[R.eq x b] at e1
 exact e1.trans e2.symm
theorem LeanF.one (h:LeanF z os al ol)(L:Lite fs way 3 z)(j:fr z.length os)(h1:os.length=1) :
    ∃ o:Int,ol=[o]/\0<=o/\o<al.length/\∀ a,di fs a al o.toNat=di fs a z (os.getD 0 0).toNat:=by
  obtain ⟨sl,e,m,D,B,R,f,i,_⟩:=h;have b:=fR L.fm;obtain ⟨d,c⟩:=f 0 oM;have l:=j 0 oM;have k:=B.le (os.getD 0 0).toNat oM;have p:=B.len;have q:=R.st _ (show e (os.getD 0 0).toNat<sl.length by omega) d
  match ol,(show ol.length=1 by omega) with
  | [o],_ =>
    replace c:o=(m (e (os.getD 0 0).toNat):Nat):=c;refine ⟨o,rfl,by omega,by omega,fun a=>?_⟩;rw[c,y6]
    unfold di
    rw[R.ev (ox fs a) (B.pre b) _ _ (LB _) oM d,B.same (ox fs a) b oM,B.ev (ox fs a) b _ _ (LB _) oM]
theorem LeanF.ev (h:LeanF z os al ol)(L:Lite fs way 3 z):al.length<=z.length/\∀ t,t<al.length->∃ i,i<z.length/\(al.getD t aa).op=(z.getD i aa).op/\(al.getD t aa).n=(z.getD i aa).n/\(al.getD t aa).q=(z.getD i aa).q/\(0<aK (z.getD i aa).op->0<=(al.getD t aa).a/\(al.getD t aa).a<(t:Nat))/\(1<aK (z.getD i aa).op->0<=(al.getD t aa).b/\(al.getD t aa).b<(t:Nat))/\(¬0<aK (z.getD i aa).op->(al.getD t aa).a=0)/\(¬1<aK (z.getD i aa).op->(al.getD t aa).b=0)/\∀ c,di fs c al t=di fs c z i:=by
 obtain ⟨sl,J,m,D,B,R,_,_,u⟩:=h;have k:=fR L.fm;refine ⟨u,fun t o=>?_⟩;obtain ⟨i,hi,e,rfl⟩:=R.all t o;have d:i<z.length:=by rw[<-B.len];exact hi
 obtain ⟨_,I,H,p⟩:=R.st i hi e;obtain ⟨f,F,C⟩:=B.st i d;obtain ⟨j,l⟩:=R.no i hi e;rw[f] at j l
 refine ⟨i,d,I.trans f,H.trans F,p.trans C,fun x=>?_,fun x=>?_,j,l,fun c=>?_⟩
 ·obtain ⟨_,y,w⟩:=R.a i hi e (by rw[f];exact x);omega
 ·obtain ⟨_,y,w⟩:=R.b i hi e (by rw[f];exact x);omega
 ·unfold di
  rw[R.ev (ox fs c) (B.pre k) _ _ (LB _) hi e,B.ev (ox fs c) k _ _ (LB _) d]
theorem LeanF.lite (h:LeanF z os al ol)(L:Lite fs way 3 z):Lite fs way 3 al:=by
 obtain ⟨d,hv⟩:=h.ev L;refine ⟨e6 d L.len,fun t a=>?_,fun t=>?_,fun t a=>?_,fun t a=>?_⟩
 ·obtain ⟨i,hi,e1,e2,b,k,o,l,p,_⟩:=hv t a
  obtain ⟨j,_,_,f3,f4,f5,f⟩:=L.fm i hi
  unfold Formed dS
  rw[e1,e2,b];exact ⟨j,⟨k,l⟩,⟨o,p⟩,f3,f4,f5,f⟩
 ·by_cases a:t<al.length
  ·obtain ⟨i,hi,_,_,b,_⟩:=hv t a
   rw[b];exact L.lq i
  ·rw[bG oM];exact jd kD
 ·obtain ⟨i,hi,_,_,_,_,_,_,_,e⟩:=hv t a
  rw[e];exact L.w i hi
 ·obtain ⟨i,hi,_,_,_,_,_,_,_,e⟩:=hv t a
  rw[e];exact L.c i hi
theorem LeanF.terr (h:LeanF z os al ol)(L:Lite fs way 3 z)(h0:terr true z fs z.length=0):terr true al fs al.length=0:=by
 obtain ⟨b,hv⟩:=h.ev L;refine (sJ (way:=way) (ey _)).2 fun t a=>?_
 obtain ⟨i,hi,_,_,_,_,_,_,_,e⟩:=hv t a;rw[e];exact (sJ (ey _)).1 h0 i hi
end
theorem xY {t:Tm}(hG:GrT 5 t){al:List Stp}{ol:List Int}(h:LeanF (dm t) (fK t) al ol):bZ 3 al ol=0:=by
 have L:=lw (fs:=[0]) (j:=0) hG kD;have a:=h.lite L;obtain ⟨o,rfl,c,b,_⟩:=h.one L (pE hG) rfl;have d:=a.len
 exact D8 (at_:=[0]) (way:=bh 1 0) kD oM (by show 1<=300;decide) a.fm (fun k hk=>e6 (a.w k hk) kD) (fun i hi=>by
  have e:i=0:=by have:i<1:=hi;omega
  subst e;exact ⟨c,b⟩)
theorem uQ {t:Tm}(hG:GrT 5 t){fs:List Rat}(hf:fs.length=3){al:List Stp}{ol:List Int}(h:LeanF (dm t) (fK t) al ol)(h0:(ay (bE nmX) fs 5 t).1=0):du 3 al ol fs [((1:Int):Rat)]=0/\bI 3 al ol fs [((1:Int):Rat)]=bI 3 (dm t) (fK t) fs [((1:Int):Rat)]/\bR 3 al ol fs [((1:Int):Rat)]=bR 3 (dm t) (fK t) fs [((1:Int):Rat)]:=by
 have L:=lw (fs:=fs) (j:=0) hG oM;have f:=js hG;have hz:=(xn (fs:=fs) hG oM).trans h0;have d:=xY hG h;obtain ⟨o,rfl,k,i,e⟩:=h.one L (pE hG) rfl
 have e1:du 3 al [o] fs [((1:Int):Rat)]=0:=by
  unfold du
  rw[if_pos d,if_pos ⟨by rw[hf];rfl,rfl⟩];exact h.terr L hz
 have e2:=(nr hG hf).trans h0;have b:(((dm t).length:Int)-1).toNat=(dm t).length-1:=by omega
 have c:∀ a,di fs a al o.toNat=di fs a (dm t) ((dm t).length-1):=fun a=>by
  have:=e a;rw[show ((fK t).getD 0 0)=((dm t).length:Int)-1 from rfl,b] at this;exact this
 refine ⟨e1,?_,?_⟩
 ·unfold bI
  rw[if_pos e1,if_pos e2]
  show [(aR al fs al.length).getD o.toNat 0]=[(aR (dm t) fs (dm t).length).getD (((dm t).length:Int)-1).toNat 0]
  rw[b,uf (way:=[]) _ _ oM (ey _),uf (way:=[]) _ _ oM (ey _),c]
 ·unfold bR
  rw[if_pos e1,if_pos e2];refine fp (by rw[fP,fP]) fun j=>?_
  by_cases hj:j<3
  ·rw[kc (show j<(3:Int).toNat from hj),kc (show j<(3:Int).toNat from hj)]
   show rH _ [o] _ _ (bh 3 j)=rH _ [_] _ _ (bh 3 j)
   rw[o9,o9,b,xP _ _ oM (ey _),xP _ _ oM (ey _),c]
  ·rw[bG (by rw[fP];show 3<=j;omega),bG (by rw[fP];show 3<=j;omega)]
theorem lJ:∀ (d:Nat) (t:Tm) (pl:ByteArray->Int) (l:List Stp),WfT1 Bc d t->Io d t->(∀ i,ac (l.getD i aa).q.num<100/\(l.getD i aa).q.den<100)->∀ i,ac ((az pl d l t).getD i aa).q.num<100/\((az pl d l t).getD i aa).q.den<100
  | 0,t,pl,l,w,q,h=>h
  | d + 1,t,pl,l,w,q,h=>by
    have sn:∀ (m:List Stp) (s:Stp),(∀ i,ac (m.getD i aa).q.num<100/\(m.getD i aa).q.den<100)->s.q=t.q->∀ i,ac ((m++[s]).getD i aa).q.num<100/\((m++[s]).getD i aa).q.den<100:=fun m s b e i=>by
      rw[bj]
      by_cases c:i<m.length
      . rw[if_pos c];exact b i
      . rw[if_neg c]
        by_cases c2:i=m.length
        . rw[if_pos c2,e];exact q.1
        . rw[if_neg c2];exact xS
    have w1:=w.1;have a:=w.2.2.2.2.2.2.2.2;have f:=aA t.op
    rcases (show t.ks.length=0\/t.ks.length=1\/t.ks.length=2 by omega) with h0|h1|h2
    . rw[DK h0];exact sn _ _ h rfl
    . rw[DD h1];exact sn _ _ (lJ d _ pl l (a 0 oM) (q.2 0 oM) h) rfl
    . rw[D7 h2];exact sn _ _ (lJ d _ pl _ (a 1 oM) (q.2 1 oM) (lJ d _ pl l (a 0 oM) (q.2 0 oM) h)) rfl
theorem Em {t:Tm}(hG:GrT 5 t)(i:Nat):ac ((dm t).getD i aa).q.num<100/\((dm t).getD i aa).q.den<100:=lJ 5 t _ [] hG.1 hG.2.2.2 (fun i=>by rw[LC];exact xS) i
theorem FP {t:Tm}(hG:GrT 5 t)(i:Nat):(-1000<=((dm t).getD i aa).op/\((dm t).getD i aa).op<=1000)/\(-1000<=((dm t).getD i aa).n/\((dm t).getD i aa).n<=1000)/\(-1000<=((dm t).getD i aa).a/\((dm t).getD i aa).a<=1000) /\ -1000<=((dm t).getD i aa).b/\((dm t).getD i aa).b<=1000:=by
 by_cases h:i<(dm t).length
 ·have f:=(vA hG).fm i h
  have e:=js hG;obtain ⟨o,k,d,p⟩:=f.ix;obtain ⟨l,_,_,_,f4,f5,c⟩:=f;have j:=aA ((dm t).getD i aa).op;refine ⟨by omega,?_,by omega,by omega⟩
  by_cases c2:((dm t).getD i aa).op=2
  ·have:=f4 c2;omega
  ·by_cases c8:((dm t).getD i aa).op=8
   ·have:=f5 c8;omega
   ·have:=c c2 c8;omega
 ·rw[bG oM];decide
def pK (dec:ByteArray->Bool)(d:Nat)(t:Tm):Prop:=∀ s,ir d t s->dec s=true
structure OfR (isb dec:ByteArray->Bool) (pl:ByteArray->Int) (d n:Nat) (e0:Int) (ts:List Tm) (e inp:Int) (l:List Stp) (os:List Int):Prop where
  how:(e0≠0/\e=e0)\/(e0=0/\∃ k,k<ts.length/\(∀ i,i<k->jb isb d (ts.getD i aG)/\pK dec d (ts.getD i aG))/\((¬jb isb d (ts.getD k aG)/\e=1)\/(jb isb d (ts.getD k aG)/\¬pK dec d (ts.getD k aG)/\e=11)))\/(e0=0/\(∀ i,i<ts.length->jb isb d (ts.getD i aG)/\pK dec d (ts.getD i aG))/\e=bZ (n:Nat) (it pl d ts ts.length) (jA pl d ts ts.length))
  bad:e≠0->inp=0/\l=[]/\os=[]
  ok:e=0->inp=(n:Nat)/\l=it pl d ts ts.length/\os=jA pl d ts ts.length
section
variable {isb dec:ByteArray->Bool}{pl:ByteArray->Int}{d n:Nat}{e0:Int}{ts:List Tm}{e inp:Int}{l:List Stp}{os:List Int}
theorem OfR.call (h:e0≠0)(h1:inp=0)(a:l=[])(b:os=[]):OfR isb dec pl d n e0 ts e0 inp l os:=⟨.inl ⟨h,rfl⟩,fun _=>⟨h1,a,b⟩,fun x=>absurd x h⟩
theorem OfR.no {k:Nat}(h:e0=0)(hk:k<ts.length)(b:∀ i,i<k->jb isb d (ts.getD i aG)/\pK dec d (ts.getD i aG))(a:(¬jb isb d (ts.getD k aG)/\e=1)\/(jb isb d (ts.getD k aG)/\¬pK dec d (ts.getD k aG)/\e=11))(h1:inp=0)(c:l=[])(f:os=[]):OfR isb dec pl d n e0 ts e inp l os :=
 ⟨.inr (.inl ⟨h,k,hk,b,a⟩),fun _=>⟨h1,c,f⟩,fun x=>by rcases a with ⟨_,y⟩|⟨_,_,y⟩<;>omega⟩
theorem OfR.chk {N:Nat}(h:e0=0)(j:N=ts.length)(a:∀ i,i<N->jb isb d (ts.getD i aG)/\pK dec d (ts.getD i aG))(f:e=bZ (n:Nat) (it pl d ts ts.length) (jA pl d ts ts.length))(hz:e≠0)(h1:inp=0)(b:l=[])(c:os=[]):OfR isb dec pl d n e0 ts e inp l os :=
 ⟨.inr (.inr ⟨h,fun i hi=>a i oM,f⟩),fun _=>⟨h1,b,c⟩,fun x=>absurd x hz⟩
theorem OfR.fine {N:Nat}(h:e0=0)(f:N=ts.length)(a:∀ i,i<N->jb isb d (ts.getD i aG)/\pK dec d (ts.getD i aG))(e:bZ (n:Nat) (it pl d ts ts.length) (jA pl d ts ts.length)=0)(h1:inp=(n:Nat))(b:l=it pl d ts ts.length)(c:os=jA pl d ts ts.length):OfR isb dec pl d n e0 ts 0 inp l os :=
 ⟨.inr (.inr ⟨h,fun i hi=>a i oM,e.symm⟩),fun x=>absurd rfl x,fun _=>⟨h1,b,c⟩⟩
end
theorem Fc {s:ByteArray}{a:List MapEntry}{v:Value}{b:Bool}{z:Prop}(h:(∃ i,Instr.findNow .string (.string s) a 0=some (some (i,v))/\b=true)\/(Instr.findNow .string (.string s) a 0=some none/\b=false/\z))(c:b=true):∃ i,Instr.findNow .string (.string s) a 0=some (some (i,v)):=by
 rcases h with ⟨i,h,_⟩|⟨_,h,_⟩
 ·exact ⟨i,h⟩
 ·rw[c] at h;cases h
theorem pf {ok:ByteArray->Prop}{d:Nat}(hd:d<=12){ts:List Tm}{k:Nat}(hk:k<=10)(a:∀ i,i<k->WfT1 ok d (ts.getD i aG)):cw (fun i=>bu d (ts.getD i aG)) k<=40960:=by
 have c:2^d<=4096:=e6 (Ju oM hd) kD;have:=lr (f:=fun i=>bu d (ts.getD i aG)) (b:=4096) k (fun i hi=>by have:=jp (a i hi);show bu d _<=_;omega)
 omega
theorem Jk  (A:Z9)(c:Nat)(u:List PTm)(ts:List Tm)(L:Z9)(cN:Nat)(C:List ByteArray)(d:Nat)(hd:d<=12)(hlt:u.length<=10)(hln:C.length<=10)(isb:ByteArray->Bool)(sm:ByteArray->Prop)(v6:∀ s,sm s->∀ (w:World) (h:Hp),G w h->Calls Tryz.prog 61 #[.string s] w (Ret w h (fun v _=>∃ b,v=.bool b/\b=isb s)))(hsm:∀ s,isb s=true->s.size<=1000)(hS:∀ i,i<ts.length->SmT1 sm d (ts.getD i aG))(pl:ByteArray->Int)(dec:ByteArray->Bool)(W:List MapEntry)(hpl:∀ s,isb s=true->0<=pl s/\pl s<=1000)(hlk:∀ s,isb s=true->(∃ i,Instr.findNow .string (.string s) W 0=some (some (i,iV (pl s)))/\dec s=true)\/(Instr.findNow .string (.string s) W 0=some none/\dec s=false/\pl s=0))(nm:Int->ByteArray)(hnm:∀ s,isb s=true->dec s=true->AN nm pl (C.length:Nat) s)(e0:Int)(bb:∀ (w:World) (h:Hp),G w h->SlO 1 eo ⟨#[]⟩ h L C->Calls Tryz.prog 21 #[.slice L C.length cN] w (Ret w h (fun v _=>v=iV e0)))(hPl:e0=0->∀ (w:World) (h:Hp),G w h->SlO 1 eo ⟨#[]⟩ h L C->Calls Tryz.prog 22 #[.slice L C.length cN] w (Ret w h (fun v h1=>∃ b,v=.map (some b)/\MapS h1 b W)))(w:World)(h:Hp)(g:G w h)(hA:SlO 9 dr bA h A u)(hT:Tms d h u ts)(hN:SlO 1 eo ⟨#[]⟩ h L C):CR 8 #[.slice A u.length c,.slice L C.length cN] w h (fun v h1=>∃ (e inp:Int)(A:Z9)(c:Nat)(l:List Stp)(O:Z9)(c2:Nat)(os:List Int),v=.tuple #[.agg #[iV inp,.slice A l.length c,.slice O os.length c2],iV e]/\SlO 9 dw aa h1 A l/\Si O os h1/\OfR isb dec pl d C.length e0 ts e inp l os):=by
 have a:=((((sS g).aS hA).add (K:=fun p=>Tms d p u ts) hT).aS hN);have b6:=(a.f.2.1).len;have hd2:2^d<=4096:=e6 (Ju oM hd) kD;refine go Tryz.func8 [(0,qS A u.length c),(1,qS L C.length cN)] rfl (aD (lA 4 50 ([iV 0,sZ,sZ]) a (fun b1 w2 h3 a=>lL a ae (ag (ab a [.c,.v (nV u.length)] ?_)))));cases U:(decide ((300:Int)<(u.length:Int)))
 .
  have bn:=oF U;refine lB 21 U (lL a [.c,.c,.v (nV C.length)] ?_);cases S:(decide ((300:Int)<(C.length:Int)))
  .
   have bl:=oF S;refine lB 25 S (lL a [.v qF] (ai (cK (cQ (ab a ae (ak 29 a (bb _ _ a.g a.f.1) (fun w6 h7 a=>lL a ae (a7 (lL a ae ?_)))))))));cases V:((e0:Int) != (0:Int))
   .
    have bq:=aJ V;refine lB 31 V (ai (cK (ab a ae (lC 35 a (hPl oM _ _ a.g a.f.1) ?_))));rintro _ w9 zu a ⟨Z,rfl,hM⟩;replace a:=(a.add (K:=fun p=>MapS p Z W) hM);refine lL a ae (a7 (lL a ae (ag (ab a [.c,.v (nV u.length),.c] (be ?_)))));refine bU _ (CG.loop (fun M Γ w_=>∃ (k:Nat)(p:Hp),M=u.length-k/\Γ=[(0,qS A u.length c),(1,qS L C.length cN),(4,pB b1),(7,.map (some Z)),(36,qS A u.length c),(37,nV u.length),(38,nV k),(8,nV (cw (fun i=>bu d (ts.getD i aG)) k))]/\SS w h w_ p [⟨b1,50,[iV 0,sZ,sZ]⟩] [] [fun p=>MapS p Z W,fun p=>SlO 1 eo ⟨#[]⟩ p L C,fun p=>Tms d p u ts,fun p=>SlO 9 dr bA p A u]/\k<=u.length/\(∀ i,i<k->jb isb d (ts.getD i aG)/\pK dec d (ts.getD i aG))) _ ⟨0,zu,rfl,rfl,a.to _ _,JU _,(fun i hi=>absurd hi (K6 i))⟩ ?_);rintro _ _ _ ⟨k,_,b2,rfl,a,hk,x⟩;have hsb:=pf (d:=d) (hd:=hd) (ts:=ts) (k:=k) oM (fun i hi=>(x i hi).1.1);have bt:(cw (fun i=>bu d (ts.getD i aG)) (k+1))=(cw (fun i=>bu d (ts.getD i aG)) k)+bu d (ts.getD k aG):=rfl;refine aD ?_;cases zb:(decide ((k:Int)<(u.length:Int)))
    .
     have zl:=oF zb;refine lB 39 zb (ag (dv (CG.exit ?_)))
     show CG _ _ _ _ _ _ _ _
     refine cQ (ab a ae ?_);cases zc:(decide ((65536:Int)<(((cw (fun i=>bu d (ts.getD i aG)) k):Nat):Int)))
     .
      have zm:=oF zc;refine lB 69 zc (ai (cK (ab a [.c,.v (nV C.length),.v (.agg #[nV C.length,sZ,sZ])] (lA 15 50 ([iV 0,sZ,sZ]) a (fun za _ zv a=>lP 0 0 ([nV C.length,sZ,sZ]) a (fun _ a=>ag (ab a [.c,.v (nV u.length),.c] (be ?_))))))));replace a:=a.nil 3 1;replace a:=a.nil 86 9;refine bU _ (CG.loop (fun M Γ w_=>∃ (k:Nat)(F:Z9)(D:Nat)(tl:List Stp)(B:Z9)(z:Nat)(ol:List Int)(p:Hp),M=u.length-k/\Γ=[(4,pB b1),(7,.map (some Z)),(15,pB za),(74,qS A u.length c),(75,nV u.length),(76,nV k)]/\SS w h w_ p [⟨za,50,[nV C.length,qS F ((tl).length) D,qS B ((ol).length) z]⟩,⟨b1,50,[iV 0,sZ,sZ]⟩] [⟨86,9,F,D,(tl).length,(tl).flatMap dw⟩,⟨3,1,B,z,(ol).length,(ol).flatMap cj⟩] [fun p=>MapS p Z W,fun p=>SlO 1 eo ⟨#[]⟩ p L C,fun p=>Tms d p u ts,fun p=>SlO 9 dr bA p A u]/\k<=u.length/\tl=(it pl d ts k)/\ol=(jA pl d ts k)/\tl.length=(cw (fun i=>bu d (ts.getD i aG)) k)) _ ⟨0,none,0,[],none,0,[],zv,rfl,rfl,a.to _ _,JU _,rfl,rfl,rfl⟩ ?_);rintro _ _ _ ⟨k,F,D,tl,B,z,ol,_,b9,rfl,a,hk,I,J,hll⟩;have bt:(cw (fun i=>bu d (ts.getD i aG)) (k+1))=(cw (fun i=>bu d (ts.getD i aG)) k)+bu d (ts.getD k aG):=rfl;have b7:=gT (fun i=>bu d (ts.getD i aG)) (show k<=u.length by omega);have bw:=pf (d:=d) (hd:=hd) (ts:=ts) (k:=u.length) oM (fun i hi=>(x i oM).1.1);have b3:ol.length=k:=by rw[J];exact mJ k
      refine aD ?_;cases zd:(decide ((k:Int)<(u.length:Int)))
      .
       have zn:=oF zd;refine lB 77 zd (ag (dv (CG.exit ?_)))
       show CG _ _ _ _ _ _ _ _
       refine cQ (aD ?_);have hkn:k=ts.length:=by omega
       have cb:=pf (d:=d) (hd:=hd) (ts:=ts) (k:=ts.length) oM (fun i hi=>(x i oM).1.1);rw[hkn] at I J hll
       have Y:=x6 (ok:=fun s=>isb s=true/\dec s=true) (nm:=nm) (pl:=pl) (inp:=(C.length:Nat)) (fun s p=>hnm s p.1 p.2) (show d<=20 by omega) ts.length (nR _) (fun i hi=>(x i oM).1.1.names (fun s p=>(x i oM).2 s p));rw[<-I] at Y
       obtain ⟨_,a,b4⟩:=a.pubr 0 (A:=F) (c:=D) (l:=tl) (f:=dw) (ty:=86) (sz:=9) aa (fun _=>rfl);obtain ⟨_,a,b0⟩:=a.pubr 0 (A:=B) (c:=z) (l:=ol) (f:=cj) (ty:=3) (sz:=1) 0 (fun _=>rfl);refine lL a [.o (.agg #[nV C.length,qS F ((tl).length) D,qS B ((ol).length) z]) 0 0 3] (ak 97 a (ne (C.length:Nat) F D tl B z ol oM oM (fun i _=>Y.lq i) _ _ a.g a.f.2.1 a.f.1) (fun _ _ a=>lL a ae (a7 (lL a ae ?_))));cases ze:((bZ (C.length:Nat) tl ol:Int) != (0:Int))
       .
        have zo:=aJ ze;exact lB 99 ze (ai (cK (ab a [.o (.agg #[nV C.length,qS F ((tl).length) D,qS B ((ol).length) z]) 0 0 3] (lP 1 0 ([nV C.length,qS F ((tl).length) D,qS B ((ol).length) z]) a (fun _ a=>lL a ae (af a [(1,0,3)] (.tuple #[.agg #[nV C.length,qS F ((tl).length) D,qS B ((ol).length) z],iV 0]) (⟨0,(C.length:Nat),F,D,tl,B,z,ol,rfl,a.f.2.1,a.f.1,OfR.fine oM oM x (by rw[<-I,<-J];omega) rfl (by rw[I]) (by rw[J])⟩)))))))
       have zo:=aU ze;exact lB 99 ze (au (ab a [.v (.agg #[iV 0,sZ,sZ]),.c] (lP 1 0 ([iV 0,sZ,sZ]) a (fun _ a=>lL a ae (af a [(1,0,3)] (.tuple #[.agg #[iV 0,sZ,sZ],iV (bZ (C.length:Nat) tl ol)]) (⟨_,0,none,0,[],none,0,[],rfl,SlO.nil,SlO.nil,OfR.chk oM oM x (by rw[<-I,<-J]) oM rfl rfl rfl⟩))))))
      have zn:=oT zd;refine lB 77 zd (ag (bT (cK (cQ (kZ (aD (lX 78 A u.length c 9 (k:Nat) k ((a.f.r.2.1).ok oM) ?_)))))));refine lH 79 (dl (u.getD k bA)) a ((a.f.r.2.1).el k oM) (lA 17 32 cV a (fun zw _ _ a=>lP 0 0 (dr (u.getD k bA)) a (fun _ a=>a7 (lL a [.v (qP za 1),.o (qS F ((tl).length) D) 1 1 1,.o (dl (u.getD k bA)) 0 0 9,.c] ?_))));have bv:=gT (fun i=>bu d (ts.getD i aG)) (show k+1<=u.length by omega);refine Iz 84 (tB (fun s=>isb s=true/\dec s=true) pl Z W (fun s p=>hpl s p.1) (fun s p=>Fc (hlk s p.1) p.2) d (u.getD k bA) (ts.getD k aG) F D tl _ _ a.g ((a.f.r.1).at_ k oM) a.f.1 (a.frontR [] [⟨3,1,B,z,(ol).length,(ol).flatMap cj⟩] ⟨86,9,F,D,(tl).length,(tl).flatMap dw⟩) ((x k oM).1.1.names (fun s p=>(x k oM).2 s p)) oM) ?_;rintro _ _ _ ⟨zi,zj,rfl,a⟩;replace a:=(SS.backR [] [⟨3,1,B,z,(ol).length,(ol).flatMap cj⟩] ⟨86,9,zi,zj,(az pl d tl (ts.getD k aG)).length,(az pl d tl (ts.getD k aG)).flatMap dw⟩ a).to [⟨zw,32,dr (u.getD k bA)⟩,⟨za,50,[nV C.length,qS F ((tl).length) D,qS B ((ol).length) z]⟩,⟨b1,50,[iV 0,sZ,sZ]⟩] [⟨86,9,zi,zj,(az pl d tl (ts.getD k aG)).length,(az pl d tl (ts.getD k aG)).flatMap dw⟩,⟨3,1,B,z,(ol).length,(ol).flatMap cj⟩];have hrl:=pc (pl:=pl) (x k oM).1.1 tl;refine lL a [.v (qP za 1)] (lP 1 1 ([qS zi ((az pl d tl (ts.getD k aG)).length) zj]) a (fun _ a=>lN (kQ (lL a [.v (qP za 2),.o (qS B ((ol).length) z) 1 2 1,.v (qP za 1),.o (qS zi ((az pl d tl (ts.getD k aG)).length) zj) 1 1 1,.v (nV ((az pl d tl (ts.getD k aG)).length))] (lI 91 (((az pl d tl (ts.getD k aG)).length:Nat)-1) ?_)))));refine lR 92 3 1 ([iV (((az pl d tl (ts.getD k aG)).length:Nat)-1)]) a (fun zx _ _ a=>lY 93 1 3 1 z B ol cj (((az pl d tl (ts.getD k aG)).length:Nat)-1:Int) 8 zx (iV 0) a a.f.1 (fun zr zs _ zA a=>lL a [.v (qP za 2)] (lP 1 2 ([qS zr ((ol++[(((az pl d tl (ts.getD k aG)).length:Nat)-1:Int)]).length) zs]) a (fun _ a=>lN (kQ (bM 95 ((k:Nat)+1) (k+1) ?_))))));refine lL a ae (lD ?_);intro a_ ka;replace a:=a.tl;replace a:=a.drop 1 0;refine ⟨_,_,?_,⟨k+1,zi,zj,az pl d tl (ts.getD k aG),zr,zs,ol++[(((az pl d tl (ts.getD k aG)).length:Nat)-1:Int)],zA,rfl,rfl,a.to _ _,oM,(by rw[I];rfl),(by rw[J,I];rfl),oM⟩,ka.to _ kR⟩
      omega
     have zm:=oT zc;refine lB 69 zc (au (ab a [.v (.agg #[iV 0,sZ,sZ])] (lP 0 0 ([iV 0,sZ,sZ]) a (fun _ a=>lL a ae (lN (kX ?_))))))
     exfalso;omega
    have zl:=oT zb;refine lB 39 zb (ag (bT (cK (cQ (kZ (aD (lX 40 A u.length c 9 (k:Nat) k ((a.f.r.2.1).ok oM) ?_)))))));refine lH 41 (dl (u.getD k bA)) a ((a.f.r.2.1).el k oM) (lA 10 32 cV a (fun zt _ _ a=>lP 0 0 (dr (u.getD k bA)) a (fun _ a=>ag (ab a [.o (dl (u.getD k bA)) 0 0 9] (lC 43 a (DW isb sm v6 d (u.getD k bA) (ts.getD k aG) oM _ _ a.g ((a.f.r.1).at_ k oM) (hS k oM).sm) ?_)))));rintro _ _ _ a ⟨ek,rfl,hek⟩;cases zf:((ek:Int) != (0:Int))
    .
     have zp:=aJ zf;refine lB 44 zf (ai (cK (cQ (aD ?_))));have H:WfT1 (fun s=>isb s=true) d (ts.getD k aG)/\dd d (ts.getD k aG)<=1000:=th (hS k oM) hek oM;have hwg:=H.2;replace H:=H.1;refine lL a [.o (dl (u.getD k bA)) 0 0 9] (lC 47 a (xT (fun s=>isb s=true) hsm d oM (u.getD k bA) (ts.getD k aG) _ _ a.g ((a.f.r.1).at_ k oM) H) ?_);rintro _ _ zB a ⟨nA,nc,y,rfl,hnc,hnl,hnS,Q⟩;replace a:=a.aS hnS;have bf:∀ s,s∈y->isb s=true:=fun s hs_=>ng H ((Q s).1 hs_)
     refine lL a [.v (nV y.length),.c] (be ?_);refine bU _ (CG.loop (fun M Γ w_=>∃ (j:Nat)(p:Hp),M=y.length-j/\Γ=[(0,qS A u.length c),(1,qS L C.length cN),(4,pB b1),(7,.map (some Z)),(36,qS A u.length c),(37,nV u.length),(38,nV k),(8,nV (cw (fun i=>bu d (ts.getD i aG)) k)),(10,pB zt),(47,qS nA y.length nc),(48,nV y.length),(49,nV j)]/\SS w h w_ p [⟨zt,32,dr (u.getD k bA)⟩,⟨b1,50,[iV 0,sZ,sZ]⟩] [] [fun p=>SlO 1 eo ⟨#[]⟩ p nA y,fun p=>MapS p Z W,fun p=>SlO 1 eo ⟨#[]⟩ p L C,fun p=>Tms d p u ts,fun p=>SlO 9 dr bA p A u]/\j<=y.length/\(∀ i,i<j->dec (y.getD i ⟨#[]⟩)=true)) _ ⟨0,zB,rfl,rfl,a.to _ _,JU _,(fun i hi=>absurd hi (K6 i))⟩ ?_);rintro _ _ _ ⟨j,zD,b5,rfl,a,hj,X⟩;refine aD ?_;cases zg:(decide ((j:Int)<(y.length:Int)))
     .
      have zq:=oF zg;refine lB 50 zg (ag (dv (CG.exit ?_)))
      show CG _ _ _ _ _ _ _ _
      refine kQ (lL a [.c,.o (dl (u.getD k bA)) 0 0 9] (ak 65 a (AB (fun s=>isb s=true) d (u.getD k bA) (ts.getD k aG) _ _ a.g ((a.f.r.2.1).at_ k oM) H oM) (fun _ zE a=>?_)));have hcb:=jp H;refine bM 66 (((cw (fun i=>bu d (ts.getD i aG)) k):Nat)+(bu d (ts.getD k aG):Nat)) (((cw (fun i=>bu d (ts.getD i aG)) k):Nat)+(bu d (ts.getD k aG))) (lL a ae (lN (kQ (bM 67 ((k:Nat)+1) (k+1) ?_))));refine lL a ae (lD ?_);intro a_ ka;replace a:=a.tl;replace a:=a.drop 1 0;refine ⟨_,_,?_,⟨k+1,zE,rfl,rfl,a.to _ _,oM,(fun i hi=>by rcases LA.1 hi with p|rfl;exact x i p;exact ⟨⟨H,hwg⟩,fun s hs_=>by obtain ⟨j_,hj_,e_⟩:=un ((Q s).2 hs_);rw[<-e_];exact X j_ oM⟩)⟩,ka.to _ kR⟩
      omega
     have zq:=oT zg;refine lB 50 zg (ag (bT (cK (cQ (kZ (aD (lX 51 nA y.length nc 1 (j:Nat) j ((a.f.1).ok oM) ?_)))))));refine lH 52 (.string (y.getD j ⟨#[]⟩)) a ((a.f.1).el j oM) (lL a ae (a7 (lL a aN (Hw 56 76 9 3 (y.getD j ⟨#[]⟩) true (iV (pl (y.getD j ⟨#[]⟩))) ((dec (y.getD j ⟨#[]⟩))) a a.f.2.1 ?_ (hf:=(by rcases hlk (y.getD j ⟨#[]⟩) (bf (y.getD j ⟨#[]⟩) (sf oM)) with ⟨i_,e1_,e2_⟩|⟨e1_,e2_,e3_⟩;exact .inl ⟨i_,e1_,e2_⟩;exact .inr ⟨e1_,e2_,fun _=>by rw[e3_];kernel_rfl⟩))))));refine lL a [.c,.v (iV (pl (y.getD j ⟨#[]⟩))),.v (.bool (dec (y.getD j ⟨#[]⟩))),.c,.c] (a7 (lL a ae ?_));cases zk:(!(dec (y.getD j ⟨#[]⟩)))
     .
      refine lB 60 zk (ai (cK (kQ (bM 62 ((j:Nat)+1) (j+1) ?_))));refine lL a ae (lD ?_);intro a_ ka;refine ⟨_,_,?_,⟨j+1,zD,rfl,rfl,a.to _ _,oM,(fun i hi=>by rcases LA.1 hi with p|rfl;exact X i p;exact E7 aM)⟩,ka.to _ kR⟩
      omega
     exact lB 60 zk (au (ab a [.v (.agg #[iV 0,sZ,sZ])] (lP 1 0 ([iV 0,sZ,sZ]) a (fun _ a=>lL a ae (af a [(1,0,3)] (.tuple #[.agg #[iV 0,sZ,sZ],iV 11]) (⟨_,0,none,0,[],none,0,[],rfl,SlO.nil,SlO.nil,OfR.no oM (k:=k) oM x (.inr ⟨⟨H,hwg⟩,fun p=>Bool.noConfusion ((p _ ((Q _).1 (sf (by omega:j<y.length)))).symm.trans (GQ aM)),rfl⟩) rfl rfl rfl⟩))))))
    have zp:=aU zf;exact lB 44 zf (au (ab a [.v (.agg #[iV 0,sZ,sZ])] (lP 1 0 ([iV 0,sZ,sZ]) a (fun _ a=>lL a ae (af a [(1,0,3)] (.tuple #[.agg #[iV 0,sZ,sZ],iV 1]) (⟨_,0,none,0,[],none,0,[],rfl,SlO.nil,SlO.nil,OfR.no oM (k:=k) oM x (.inl ⟨fun p=>by have:=DL hek p;omega,rfl⟩) rfl rfl rfl⟩))))))
   have bq:=aU V;exact lB 31 V (au (ab a [.v (.agg #[iV 0,sZ,sZ]),.c] (lP 0 0 ([iV 0,sZ,sZ]) a (fun _ a=>lL a ae (af a [(0,0,3)] (.tuple #[.agg #[iV 0,sZ,sZ],iV e0]) (⟨_,0,none,0,[],none,0,[],rfl,SlO.nil,SlO.nil,OfR.call oM rfl rfl rfl⟩))))))
  have bl:=oT S;refine lB 25 S (lL a [.v qT] (au (ab a [.v (.agg #[iV 0,sZ,sZ])] (lP 0 0 ([iV 0,sZ,sZ]) a (fun _ a=>lL a ae (lN (kX ?_)))))))
  exfalso;omega
 have bn:=oT U;refine lB 21 U (lL a ae (lG 23 ?_));refine lG 24 (lG 25 (lL a [.v qT] (au (ab a [.v (.agg #[iV 0,sZ,sZ])] (lP 0 0 ([iV 0,sZ,sZ]) a (fun _ a=>lL a ae (lN (kX ?_))))))))
 exfalso;omega
theorem qO (A:Z9)(c:Nat)(w:World)(h:Hp)(g:G w h)(o:SlO 1 eo ⟨#[]⟩ h A eb):CR 22 #[.slice A 3 c] w h (fun v h1=>∃ b,v=.map (some b)/\MapS h1 b [⟨.string (⟨#[120]⟩),iV 0,0⟩,⟨.string (⟨#[121]⟩),iV 1,1⟩,⟨.string (⟨#[122]⟩),iV 2,2⟩]):=by
 have a:=((sS g).aS o);have p:eb.length=3:=rfl;refine go Tryz.func22 [(0,qS A 3 c)] rfl (ab a ae (a7 (Ge 6 a (fun d w2 z a l=>lL a ae (ag (ab a [.c,.v (iV 3),.c] (be (cU ?_))))))));refine cN (ab a [.v qT] (ag (bT (cK (cQ (kZ (ab a ae (lX 12 A 3 c 1 0 0 ((a.f.1).ok (Am rfl)) ?_))))))));refine lH 13 (.string (⟨#[120]⟩)) a ((a.f.1).el 0 (Am rfl)) (lL a aN (lN (kQ (lL a ff (nE 76 9 3 (⟨#[120]⟩) (iV 0) a l (fun x a j=>lN (kQ (lL a [.v (iV 1),.c] (lD (CL.to [(2,.map none),(3,.map (some d)),(7,qS A 3 c),(8,iV 3),(9,iV 1),(10,qT),(11,iV 0),(12,.pointer (some ⟨(aB A),aO A+0*1,none⟩)),(13,.string (⟨#[120]⟩)),(4,iV 0),(5,.string (⟨#[120]⟩)),(14,.map (some d)),(15,.string (⟨#[120]⟩)),(16,iV 0),(17,iV 1)] ?_))))))))));replace a:=a.to [] [];refine cN (ab a [.v qT] (ag (bT (cK (cQ (kZ (ab a ae (lX 12 A 3 c 1 1 1 ((a.f.1).ok (Am rfl)) ?_))))))));refine lH 13 (.string (⟨#[121]⟩)) a ((a.f.1).el 1 (Am rfl)) (lL a aN (lN (kQ (lL a ff (nE 76 9 3 (⟨#[121]⟩) (iV 1) a j (fun B a k=>lN (kQ (lL a [.v (iV 2),.c] (lD (CL.to [(2,.map none),(3,.map (some d)),(7,qS A 3 c),(8,iV 3),(9,iV 2),(10,qT),(11,iV 1),(12,.pointer (some ⟨(aB A),aO A+1*1,none⟩)),(13,.string (⟨#[121]⟩)),(4,iV 1),(5,.string (⟨#[121]⟩)),(14,.map (some d)),(15,.string (⟨#[121]⟩)),(16,iV 1),(17,iV 2)] ?_))))))))));replace a:=a.to [] [];refine cN (ab a [.v qT] (ag (bT (cK (cQ (kZ (ab a ae (lX 12 A 3 c 1 2 2 ((a.f.1).ok (Am rfl)) ?_))))))));refine lH 13 (.string (⟨#[122]⟩)) a ((a.f.1).el 2 (Am rfl)) (lL a aN (lN (kQ (lL a ff (nE 76 9 3 (⟨#[122]⟩) (iV 2) a k (fun y a e=>lN (kQ (lL a [.v (iV 3),.c] (lD (CL.to [(2,.map none),(3,.map (some d)),(7,qS A 3 c),(8,iV 3),(9,iV 3),(10,qT),(11,iV 2),(12,.pointer (some ⟨(aB A),aO A+2*1,none⟩)),(13,.string (⟨#[122]⟩)),(4,iV 2),(5,.string (⟨#[122]⟩)),(14,.map (some d)),(15,.string (⟨#[122]⟩)),(16,iV 2),(17,iV 3)] ?_))))))))));replace a:=a.to [] [];refine cN (ab a [.v qF] (ag (dv (CG.exit ?_))))
 show CG _ _ _ _ _ _ _ _
 refine ab a ae ?_;obtain ⟨_,a,i⟩:=a.pubMap e;replace a:=a.to [] [];replace a:=a.add (K:=fun u=>MapS u d [⟨.string (⟨#[120]⟩),iV 0,0⟩,⟨.string (⟨#[121]⟩),iV 1,1⟩,⟨.string (⟨#[122]⟩),iV 2,2⟩]) i;exact lL a ae (af a [] (.map (some d)) (⟨_,rfl,a.f.1⟩))
theorem vC (A:Z9)(c:Nat)(w:World)(h:Hp)(g:G w h)(e:SlO 1 eo ⟨#[]⟩ h A eb):CV 21 #[.slice A 3 c] w h (iV 0):=by
 have a:=((sS g).aS e);have j:eb.length=3:=rfl;refine go Tryz.func21 [(0,qS A 3 c)] rfl (ab a ae (ag (ab a [.c,.v (iV 3),.c] (be (cU ?_)))));refine cN (ab a [.v qT] (ag (bT (cK (cQ (kZ (aD (lX 9 A 3 c 1 0 0 ((a.f.1).ok (Am rfl)) ?_))))))));refine lH 10 (.string (⟨#[120]⟩)) a ((a.f.1).el 0 (Am rfl)) (lL a ae (a7 (lL a ae (ak 12 a ((by have b:=Bi (⟨#[120]⟩) kD _ _ a.g;rw[show ez (⟨#[120]⟩)=true by decide] at b;exact b)) (fun w1 l a=>lL a [.v qF] (ai (cK (kQ (lL a [.v (iV 1),.c] (lD (CL.to [(0,qS A 3 c),(2,iV 0),(5,qS A 3 c),(6,iV 3),(7,iV 1),(8,qT),(9,.pointer (some ⟨(aB A),aO A+0*1,none⟩)),(10,.string (⟨#[120]⟩)),(4,.string (⟨#[120]⟩)),(11,.string (⟨#[120]⟩)),(12,qT),(13,qF),(14,iV 1)] ?_)))))))))));replace a:=a.to [] [];refine cN (ab a [.v qT] (ag (bT (cK (cQ (kZ (aD (lX 9 A 3 c 1 1 1 ((a.f.1).ok (Am rfl)) ?_))))))));refine lH 10 (.string (⟨#[121]⟩)) a ((a.f.1).el 1 (Am rfl)) (lL a ae (a7 (lL a ae (ak 12 a ((by have b:=Bi (⟨#[121]⟩) kD _ _ a.g;rw[show ez (⟨#[121]⟩)=true by decide] at b;exact b)) (fun w3 p a=>lL a [.v qF] (ai (cK (kQ (lL a [.v (iV 2),.c] (lD (CL.to [(0,qS A 3 c),(2,iV 0),(5,qS A 3 c),(6,iV 3),(7,iV 2),(8,qT),(9,.pointer (some ⟨(aB A),aO A+1*1,none⟩)),(10,.string (⟨#[121]⟩)),(4,.string (⟨#[121]⟩)),(11,.string (⟨#[121]⟩)),(12,qT),(13,qF),(14,iV 2)] ?_)))))))))));replace a:=a.to [] [];refine cN (ab a [.v qT] (ag (bT (cK (cQ (kZ (aD (lX 9 A 3 c 1 2 2 ((a.f.1).ok (Am rfl)) ?_))))))));refine lH 10 (.string (⟨#[122]⟩)) a ((a.f.1).el 2 (Am rfl)) (lL a ae (a7 (lL a ae (ak 12 a ((by have b:=Bi (⟨#[122]⟩) kD _ _ a.g;rw[show ez (⟨#[122]⟩)=true by decide] at b;exact b)) (fun u x a=>lL a [.v qF] (ai (cK (kQ (lL a [.v (iV 3),.c] (lD (CL.to [(0,qS A 3 c),(2,iV 0),(5,qS A 3 c),(6,iV 3),(7,iV 3),(8,qT),(9,.pointer (some ⟨(aB A),aO A+2*1,none⟩)),(10,.string (⟨#[122]⟩)),(4,.string (⟨#[122]⟩)),(11,.string (⟨#[122]⟩)),(12,qT),(13,qF),(14,iV 3)] ?_)))))))))));replace a:=a.to [] [];refine cN (ab a [.v qF] (ag (dv (CG.exit ?_))))
 show CG _ _ _ _ _ _ _ _
 refine cQ (ab a ae (lC 16 a (qO A c _ _ a.g a.f.1) ?_));rintro _ y o a ⟨i,rfl,d⟩;replace a:=(a.add (K:=fun k=>MapS k i [⟨.string (⟨#[120]⟩),iV 0,0⟩,⟨.string (⟨#[121]⟩),iV 1,1⟩,⟨.string (⟨#[122]⟩),iV 2,2⟩]) d);exact IR 17 76 0 9 3 a a.f.1 (lL a [.c,.v (iV 3),.v qF] (ai (cK (ab a ae (af a [] (iV 0) rfl)))))
theorem qD {s:ByteArray}(h:Bc s):ez s=true:=by
 rcases h with rfl|rfl|rfl<;>decide
theorem F5 (s:ByteArray):0<=rO nmX s/\rO nmX s<=1000:=by
 unfold rO
 split
 ·rename_i h;have a:=(lc h).1;have:nmX.length=3:=rfl;omega
 ·decide
theorem Ip (A:Z9)(c:Nat)(p:PTm)(t:Tm)(f:Z9)(cN:Nat)(hG:GrT 5 t)(w:World)(h:Hp)(g:G w h)(U:SlO 9 dr bA h A [p])(Q:TmH 5 h p t)(j:SlO 1 eo ⟨#[]⟩ h f nmX):CR 8 #[.slice A 1 c,.slice f 3 cN] w h (fun v h1=>∃ o J x y,v=.tuple #[.agg #[iV 3,.slice o (dm t).length J,.slice x (fK t).length y],iV 0]/\SlO 9 dw aa h1 o (dm t)/\Si x (fK t) h1):=by
 have one:∀ i:Nat,i<1->i=0:=fun i hi=>by omega
 have C:Tms 5 h [p] [t]:=⟨rfl,fun i hi=>by obtain rfl:=one i hi;exact Q⟩;refine (Jk A c [p] [t] f cN nmX 5 kD (by show 1<=10;decide) kD ez oh Gd (fun s F=>by have V:=AX F;unfold oh at V;omega) (fun i hi=>by obtain rfl:=one i hi;exact r6 hG.1) (rO nmX) (fun s=>decide (s∈nmX)) (ru nmX 0) (fun s _=>F5 s) (fun s _=>vQ kD s) (fun z=>nmX.getD z.toNat ⟨#[]⟩) (fun s _ I=>DI (oT I)) 0 (fun w h g j=>vC f cN w h g j) (fun _ w h g j=>qO f cN w h g j) w h g U C j).mono ?_;rintro e w' ⟨v,h',e1,u,E,inp,o,X,l,x,y,os,rfl,B,D,R⟩;have H:dd 5 t<=1000:=by have:=hG.2.1;omega
 have d:∀ i:Nat,i<[t].length->jb ez 5 ([t].getD i aG)/\pK (fun s=>decide (s∈nmX)) 5 ([t].getD i aG):=fun i hi=>by
  obtain rfl:=one i hi;exact ⟨⟨WfT1.imp (fun s I=>qD I) hG.1,H⟩,fun s F=>decide_eq_true (lv (ng hG.1 F))⟩
 have K:it (rO nmX) 5 [t] [t].length=dm t:=rfl;have L:jA (rO nmX) 5 [t] [t].length=fK t:=rfl
 have S:E=0:=by
  rcases R.how with ⟨a,_⟩|⟨_,k,hk,_,b⟩|⟨_,_,b⟩
  ·exact absurd rfl a
  ·rcases b with ⟨b,_⟩|⟨_,b,_⟩
   ·exact absurd (d k hk).1 b
   ·exact absurd (d k hk).2 b
  ·rw[b,K,L];exact tc hG
 subst S;obtain ⟨W,O,M⟩:=R.ok rfl;rw[K] at O
 rw[L] at M
 subst W O M;exact ⟨_,h',e1,u,o,X,x,y,rfl,B,D⟩
section code
variable {P:Program}{n:Nat}{N R:Po}{X:Nat->Po}{Γ:cH}{w:World}{l:Nat}
def CGr (l:Nat)(P:Program)(n:Nat)(N R:Po)(X:Nat->Po)(c:Code)(Γ:cH)(w:World):Prop:=∀ a,Kn n a Γ->c.wpIn (Fence.wide.inRound l) 6 P (gK N R X) a w
theorem CGr.seq {x y:Code}(H:CGr l P n (fun a w=>y.wpIn (Fence.wide.inRound l) 6 P (gK N R X) a w) R X x Γ w):CGr l P n N R X (.seq x y) Γ w:=by
 intro a b;refine wpIn_seq (wpIn_mono (H a b) ?_);intro e a w c;cases e<;>exact c
theorem CGr.cond {c:Operand}{x y:Code}(t:Bool)(d:fg Γ c=true)(hv:ev Γ c=.bool t)(f:t=true->CGr l P n N R X x Γ w)(hf:t=false->CGr l P n N R X y Γ w):CGr l P n N R X (.cond c x y) Γ w :=
 fun a b=>wpIn_cond_split (by rw[b.eval d];exact hv) (fun e=>f e a b) (fun e=>hf e a b)
theorem CGr.condT {c:Operand}{x y:Code}(a:fg Γ c=true)(hv:ev Γ c=.bool true)(b:CGr l P n N R X x Γ w):CGr l P n N R X (.cond c x y) Γ w:=CGr.cond true a hv (fun _=>b) (fun e=>by cases e)
theorem CGr.condF {c:Operand}{x y:Code}(a:fg Γ c=true)(hv:ev Γ c=.bool false)(b:CGr l P n N R X y Γ w):CGr l P n N R X (.cond c x y) Γ w:=CGr.cond false a hv (fun e=>by cases e) (fun _=>b)
theorem CGr.skip (H:∀ a,Kn n a Γ->N a w):CGr l P n N R X .skip Γ w:=fun a b=>wpIn_skip (H a b)
theorem CGr.block {id:Nat}{c:Code}(H:CGr l P n N R (fun i=>if i=id then N else X i) c Γ w):CGr l P n N R X (.block id c) Γ w:=by
 intro a f;refine wpIn_block (wpIn_mono (H a f) ?_);intro e a w d;cases e<;>try exact d
 rename_i i
 simp only[gK] at d
 simp only[Exit.inBlock,gK]
 split
 ·rename_i b;rw[if_pos b] at d;exact d
 ·rename_i b;rw[if_neg b] at d;exact d
def pp (o:Oper):Bool:=match o.op with|.defer _=>true|_=>false
def BX (ops:Array Oper):Bool:=(List.range ops.size).all fun i=>!(pp (am ops i))
def LGr (l:Nat)(P:Program)(n:Nat)(N R:Po)(X:Nat->Po)(ops:Array Oper)(k:Nat)(Γ:cH)(w:World):Prop :=
  BX ops=true->∀ a,Kn n a Γ->wpOpsIn (Fence.wide.inRound l) 6 P ops (gK N R X) (xv k (ops.size-k)) a w
theorem CGr.listed {id:Nat}{ops:Array Oper}(H:LGr l P n N R X ops 0 Γ w)(c:BX ops=true:=by kernel_rfl):CGr l P n N R X (.region id ops false) Γ w :=
 fun a b=>wpIn_region (by rw[List.range_eq_range'];exact H c a b)
theorem OpR.wpOpIn {Q:Exit->Act->World->Prop}{ops:Array Oper}{i:Nat}{o:Oper}{a:Act}{w:World}{R:Value->World->Prop}{K:Act->World->Prop}(hi:ops[i]?=some o)(hd:pp o=false)(h:OpR P ops o a w R)
  (b:∀ v w',R v w'->K (a.put o.dst v) w'):wpOpIn (Fence.wide.inRound l) 6 P ops Q i K a w:=by
 obtain ⟨j,h⟩:=h
 unfold Go.wpOpIn
 simp only[hi,j,if_true]
 refine ⟨fun _ _=>trivial,?_⟩
 have e:(o.semAt (Fence.wide.inRound l).round a.eval)=execOp a.eval o:=by
  show o.semAt (some l) a.eval=_
  refine Oper.semAt_some l _ _ (fun c d=>?_)
  unfold pp at hd;rw[d] at hd;cases hd
 rw[e]
 rcases h with ⟨v,w',hr,hR⟩|⟨w',hr,hR⟩|⟨f,args,hr,d⟩
 ·rw[hr];exact b _ _ hR
 ·rw[hr];exact b _ _ hR
 ·rw[hr]
  refine ⟨fun h=>(by cases h),(CallsIn.inRound l (callsIn_wide.2 d)).mono fun e w' k=>?_⟩;obtain ⟨v,rfl,hR⟩:=k;exact b _ _ hR
section listed
variable {ops:Array Oper}{k:Nat}
theorem LGr.op (b:d5 ops Γ k=true)(f:bp ops Γ (am ops k)=some true){R':Value->World->Prop}
  (h:∀ a,Kn n a Γ->OpR P ops (am ops k) a w R')(e:∀ a v w',Kn n a Γ->R' v w'->BX ops=true->wpOpsIn (Fence.wide.inRound l) 6 P ops (gK N R X) (xv (k+1) (ops.size-(k+1))) (a.put (am ops k).dst v) w'):LGr l P n N R X ops k Γ w:=by
 unfold d5 at b
 simp only[ov,decide_eq_true_eq] at b
 intro c a d;obtain ⟨m,hm⟩:∃ m,ops.size-k=m+1:=⟨ops.size-k-1,by omega⟩;rw[hm,xw,wpOpsIn_cons];refine OpR.wpOpIn (bH b.1.1) (by have q:=(List.all_eq_true.1 c) k (List.mem_range.2 b.1.1);simpa using q) (h a d) (fun v w' hr=>?_);have:=e a v w' d hr c;rw[show ops.size-(k+1)=m by omega] at this
 exact this
theorem LGr.out (t:Nat)(c:(decide (k<ops.size) && ((am ops k).dst == some t) && decide (t<n))=true)(f:bp ops Γ (am ops k)=some false)
  (H:LGr l P n N R X ops (k+1) ((t,undef)::Γ) w):LGr l P n N R X ops k Γ w:=by
 simp only[ov,decide_eq_true_eq,beq_iff_eq] at c
 obtain ⟨⟨h1,e⟩,h⟩:=c;intro d a b;obtain ⟨m,hm⟩:∃ m,ops.size-k=m+1:=⟨ops.size-k-1,by omega⟩;rw[hm,xw,wpOpsIn_cons]
 unfold wpOpIn
 simp only[bH h1,b.want f,Bool.false_eq_true,if_false]
 have:=H d _ (b.put h undef);rw[show ops.size-(k+1)=m by omega] at this
 rw[e];exact ⟨fun _ _=>trivial,this⟩
theorem LGr.done (c:(k == ops.size)=true)(H:∀ a,Kn n a Γ->N a w):LGr l P n N R X ops k Γ w:=by
 intro _ a b;have:ops.size-k=0:=by have:=beq_iff_eq.1 c;omega
 rw[this];exact H a b
theorem LGr.next {y:Code}{N' R':Po}{X':Nat->Po}(c:(k == ops.size)=true)(H:CGr l P n N' R' X' y Γ w):LGr l P n (fun a w=>y.wpIn (Fence.wide.inRound l) 6 P (gK N' R' X') a w) R X ops k Γ w:=LGr.done c (fun a b=>H a b)
theorem CGr.skipN {y:Code}{N' R':Po}{X':Nat->Po}(H:CGr l P n N' R' X' y Γ w):CGr l P n (fun a w=>y.wpIn (Fence.wide.inRound l) 6 P (gK N' R' X') a w) R X .skip Γ w:=fun a b=>wpIn_skip (H a b)
end listed
end code
section laws
variable {l_:Nat}{P:Program}{n:Nat}{N R:Po}{X:Nat->Po}{ops:Array Oper}{k:Nat}{Γ:cH}{w:World}{h:Hp}{w0:World}{h0:Hp}{B:List Bx}{Rs:List Rw}{F:List (Hp->Prop)}
theorem LGr.val (t:Nat)(v:Value)(w':World)(e:(d5 ops Γ k && ((am ops k).dst == some t) && decide (t<n))=true)(f:bp ops Γ (am ops k)=some true)
  (hr:(execOp (ev Γ) (am ops k)).run P w=.ok (.value v) w')(H:LGr l_ P n N R X ops (k+1) ((t,v)::Γ) w'):LGr l_ P n N R X ops k Γ w:=by
 simp only[ov,decide_eq_true_eq,beq_iff_eq] at e
 obtain ⟨⟨h1,h⟩,i⟩:=e;have b:=h1
 unfold d5 at b
 simp only[ov,decide_eq_true_eq] at b
 refine LGr.op h1 f (R':=fun u w1=>u=v/\w1=w') (fun a c=>⟨c.want f,.inl ⟨v,w',?_,rfl,rfl⟩⟩) ?_
 ·rw[c.exec (Region.noSelect_spec b.1.2 k _ · · (bH b.1.1)) b.2];exact hr
 ·rintro a _ _ c ⟨rfl,rfl⟩
  rw[h];exact fun d=>H d _ (c.put i _)
theorem LGr.store (w':World)(e:(d5 ops Γ k && ((am ops k).dst == none))=true)(f:bp ops Γ (am ops k)=some true)
  (hr:(execOp (ev Γ) (am ops k)).run P w=.ok .skip w')(H:LGr l_ P n N R X ops (k+1) Γ w'):LGr l_ P n N R X ops k Γ w:=by
 simp only[ov,beq_iff_eq] at e
 obtain ⟨h1,h⟩:=e;have b:=h1
 unfold d5 at b
 simp only[ov,decide_eq_true_eq] at b
 refine LGr.op h1 f (R':=fun u w1=>w1=w') (fun a c=>⟨c.want f,.inr (.inl ⟨w',?_,rfl⟩)⟩) ?_
 ·rw[c.exec (Region.noSelect_spec b.1.2 k _ · · (bH b.1.1)) b.2];exact hr
 ·rintro a _ _ c rfl
  rw[h];exact fun d=>H d _ c
theorem LGr.call (t f:Nat)(args:Array Value)(i:(d5 ops Γ k && ((am ops k).dst == some t) && decide (t<n))=true)(j:bp ops Γ (am ops k)=some true)
  (hr:(execOp (ev Γ) (am ops k)).run P w=.ok (.enter f args) w)(H:Calls P f args w (fun e w'=>∃ v,e=.returned v/\LGr l_ P n N R X ops (k+1) ((t,v)::Γ) w')):LGr l_ P n N R X ops k Γ w:=by
 simp only[ov,decide_eq_true_eq,beq_iff_eq] at i
 obtain ⟨⟨h1,l⟩,o⟩:=i;have b:=h1
 unfold d5 at b
 simp only[ov,decide_eq_true_eq] at b
 refine LGr.op h1 j (R':=fun v w'=>LGr l_ P n N R X ops (k+1) ((t,v)::Γ) w') (fun a c=>⟨c.want j,.inr (.inr ⟨f,args,?_,H⟩)⟩) ?_
 ·rw[c.exec (Region.noSelect_spec b.1.2 k _ · · (bH b.1.1)) b.2];exact hr
 ·rintro a v w' c h
  rw[l];exact fun d=>h d _ (c.put o _)
theorem LGr.own {k:Nat}(t:Nat)(a:List (Nat × Nat × Nat))(v:Value)(s:St w0 h0 w h B)(c:(d5 ops Γ k && ((am ops k).dst == some t) && decide (t<n))=true)(d:bp ops Γ (am ops k)=some true)
  (b:cB B a=true)(e:bW P (execOp (ev Γ) (am ops k)) (dq B a)=some (.value v,bS B a))
  (H:LGr l_ P n N R X ops (k+1) ((t,v)::Γ) w):LGr l_ P n N R X ops k Γ w :=
 LGr.val t v w c d (bY _ _ _ _ e (dE s.own a b)) H
theorem LGr.put {k:Nat}(j o:Nat)(cs:List Value)(s:St w0 h0 w h B)(f:G w0 h0)(i:(d5 ops Γ k && ((am ops k).dst == none))=true)(l:bp ops Γ (am ops k)=some true)
  (e:(decide (j<B.length) && decide (o+cs.length<=(aw B j).vs.length))=true)(p:dU P (execOp (ev Γ) (am ops k))=some (.skip,nL (aw B j).b o cs))
  (H:∀ w',Put (aw B j).b w w'->St w0 h0 w' h (gE B j o cs)->LGr l_ P n N R X ops (k+1) Γ w'):LGr l_ P n N R X ops k Γ w:=by
 simp only[ov,decide_eq_true_eq] at e
 obtain ⟨w',d,a,c⟩:=fO _ _ _ _ _ w p (s.own _ (br e.1)) e.2;exact LGr.store w' i l d (H w' a (s.put f e.1 a c))
theorem LGr.var {k:Nat}(t:Nat)(ty:TypeId)(vs:List Value)(s:St w0 h0 w h B)(a:(d5 ops Γ k && ((am ops k).dst == some t) && decide (t<n))=true)(c:bp ops Γ (am ops k)=some true)
  (hr:(execOp (ev Γ) (am ops k)).run P w=.ok (.value (.pointer (some ⟨w.heap.size,0,none⟩))) (w.alloc (.cells vs.toArray ty (0,0))))
  (H:∀ b w' h',h.size<=b->Up w h w' h'->St w0 h0 w' h' (⟨b,ty,vs⟩::B)->LGr l_ P n N R X ops (k+1) ((t,.pointer (some ⟨b,0,none⟩))::Γ) w'):LGr l_ P n N R X ops k Γ w:=by
 have u:Up w h (w.alloc (.cells vs.toArray ty (0,0))) (h.push bc):=Up.allocAny s.g _ _ (.inr rfl);refine LGr.val t _ _ a c hr (H _ _ _ (by rw[s.g.size];exact ey _) u (St.new1 (x:=⟨0,0,.cells vs.toArray ty (0,0)⟩) s (s.step u) ⟨?_,?_,?_⟩ ty vs rfl))
 ·rw[heap_alloc];exact gp
 ·rw[s.g.size];exact gp
 ·show h.size<=w.heap.size;rw[s.g.size];exact ey _
theorem LGr.ownA {w0:World}{h0:Hp}{B:List Bx}{α:Type}{k:Nat}(t j:Nat)(l:List α)(f:α->List Value)(sz:Nat)(d:α)(e:Nat)(v:Value)(s:St w0 h0 w h B)(p:(d5 ops Γ k && ((am ops k).dst == some t) && decide (t<n))=true)(o:bp ops Γ (am ops k)=some true)
  (i:decide (j<B.length)=true)(hB:(aw B j).vs=l.flatMap f)(hf:∀ x,(f x).length=sz)(hk:e<l.length)
  (C:bW P (execOp (ev Γ) (am ops k)) (f (l.getD e d))=some (.value v,lj (aw B j).b (0+e*sz) (f (l.getD e d)).length))
  (H:LGr l_ P n N R X ops (k+1) ((t,v)::Γ) w):LGr l_ P n N R X ops k Γ w :=
 LGr.val t v w p o (bY _ _ _ _ C (fun q a u y c=>by
  rw[eE _ _ _ _ _ y,(s.own _ (br (oT i))).cell,hB];rw[<-eP hf d l e hk] at c
  have z:q<sz:=by
   rcases ep q sz with hl|hl
   ·exact hl
   ·rw[x4 (by simp;omega)] at c;cases c
  rw[List.getElem?_take_of_lt z,List.getElem?_drop] at c
  rw[yW];exact c)) H
theorem LGr.putA {w0:World}{h0:Hp}{B:List Bx}{α:Type}{k:Nat}(j:Nat)(l:List α)(f:α->List Value)(sz e:Nat)(x:α)(s:St w0 h0 w h B)(u:G w0 h0)(C:(d5 ops Γ k && ((am ops k).dst == none))=true)(z:bp ops Γ (am ops k)=some true)
  (y:decide (j<B.length)=true)(hB:(aw B j).vs=l.flatMap f)(hf:∀ x,(f x).length=sz)(hk:e<l.length)
  (D:dU P (execOp (ev Γ) (am ops k))=some (.skip,nL (aw B j).b (0+e*sz) (f x)))
  (H:∀ w',Put (aw B j).b w w'->St w0 h0 w' h (gL B j ((l.set e x).flatMap f))->LGr l_ P n N R X ops (k+1) Γ w'):LGr l_ P n N R X ops k Γ w:=by
 have d:=oT y
 have p:(0+e*sz)+(f x).length<=(aw B j).vs.length:=by
  rw[hB,eJ hf,hf,yW,<-yP];exact yX _ hk
 obtain ⟨w',o,a,i⟩:=fO _ _ _ _ _ w D (s.own _ (br d)) p;have c:=s.put u d a i;refine LGr.store w' C z o (H w' a ?_)
 unfold gE at c
 rw[hB,yW,il hf l e x hk] at c
 exact c
theorem sY (t:Nat){e b:Bool}(c:e=b)(H:LGr l_ P n N R X ops (k+1) ((t,.bool b)::Γ) w)(a:cL ops Γ k t n=true:=by kernel_rfl)(hr:(execOp (ev Γ) (am ops k)).run P w=.ok (.value (.bool e)) w:=by kernel_rfl):LGr l_ P n N R X ops k Γ w :=
 LGr.val t _ w (bF a).1 (bF a).2 (c▸hr) H
theorem Ji (t:Nat)(a:List (Nat × Nat × Nat))(v:Value)(s:SS w0 h0 w h B Rs F)(H:LGr l_ P n N R X ops (k+1) ((t,v)::Γ) w)(b:cL ops Γ k t n=true:=by kernel_rfl)(c:cB B a=true:=by kernel_rfl)(d:bW P (execOp (ev Γ) (am ops k)) (dq B a)=some (.value v,bS B a):=by kernel_rfl):LGr l_ P n N R X ops k Γ w :=
 LGr.own t a v s.st (bF b).1 (bF b).2 c d H
theorem I6 (s:SS w0 h0 w h B Rs F)(l:List (Nat × Value × List (Nat × Nat × Nat)))(H:LGr l_ P n N R X ops (k+l.length) (oB Γ l) w)(a:DH n ops B Γ k l=true:=by kernel_rfl)(b:Du P ops B Γ k l=l.map (fun x=>some (.value x.2.1,bS B x.2.2)):=by kernel_rfl):LGr l_ P n N R X ops k Γ w:=by
  induction l generalizing Γ k with
  | nil=>exact H
  | cons x l ih =>
    unfold DH at a
    simp only[ov] at a
    unfold Du at b
    rw[List.map_cons] at b
    injection b with e1 e2
    refine Ji x.1 x.2.2 x.2.1 s (ih ?_ a.2 e2) a.1.1 a.1.2 e1;have:k+1+l.length=k+(x::l).length:=by simp;omega
    rw[this];exact H
theorem nf (s:SS w0 h0 w h B Rs F)(l:List It)(H:LGr l_ P n N R X ops (k+l.length) (oB Γ (rq ops k Γ l)) w)(a:DH n ops B Γ k (rq ops k Γ l)=true:=by kernel_rfl)(b:Du P ops B Γ k (rq ops k Γ l)=(rq ops k Γ l).map (fun x=>some (.value x.2.1,bS B x.2.2)):=by kernel_rfl):LGr l_ P n N R X ops k Γ w :=
 I6 s (rq ops k Γ l) (by rw[ue];exact H) a b
theorem Jh (j o:Nat)(cs:List Value)(s:SS w0 h0 w h B Rs F)(H:∀ w',SS w0 h0 w' h (gE B j o cs) Rs F->LGr l_ P n N R X ops (k+1) Γ w')(c:cS ops Γ k=true:=by kernel_rfl)
  (a:(decide (j<B.length) && decide (o+cs.length<=(aw B j).vs.length))=true:=by kernel_rfl)(e:dU P (execOp (ev Γ) (am ops k))=some (.skip,nL (aw B j).b o cs):=by kernel_rfl):LGr l_ P n N R X ops k Γ w :=
 LGr.put j o cs s.st s.g0 (gi c).1 (gi c).2 a e (fun w' p d=>H w' (s.put0 (oT (ov _ _▸a).1) p d (pA (oT (ov _ _▸a).1))))
theorem HV (t:Nat){f:FuncId}{args:Array Value}{Φ:Value->Hp->Prop}(s:SS w0 h0 w h B Rs F)(c:Calls P f args w (Ret w h Φ))(H:∀ v w' h',SS w0 h0 w' h' B Rs F->Φ v h'->LGr l_ P n N R X ops (k+1) ((t,v)::Γ) w')(b:cL ops Γ k t n=true:=by kernel_rfl)(hr:(execOp (ev Γ) (am ops k)).run P w=.ok (.enter f args) w:=by kernel_rfl):LGr l_ P n N R X ops k Γ w :=
 LGr.call t f args (bF b).1 (bF b).2 hr (c.mono fun e w' ⟨v,h',d,u,a⟩=>⟨v,d,H v w' h' (s.step u) a⟩)
theorem F8 (t:Nat)(A:Z9)(len b sz:Nat)(i:Int)(j:Nat)(d:A=some ⟨aB A,aO A,none⟩)(H:LGr l_ P n N R X ops (k+1) ((t,.pointer (some ⟨aB A,aO A+j*sz,none⟩))::Γ) w)(c:cL ops Γ k t n=true:=by kernel_rfl)(e:Ba P (ev Γ) (am ops k)=some (.slice A len b,.int .i64 i,sz):=by kernel_rfl)(hk:i=j:=by omega)(a:j<len:=by omega):LGr l_ P n N R X ops k Γ w :=
 LGr.val t _ w (bF c).1 (bF c).2 (gq e d hk a w) H
theorem HX {α:Type}(t j:Nat)(l:List α)(f:α->List Value)(sz:Nat)(d:α)(e:Nat)(v:Value)(s:SS w0 h0 w h B Rs F)(hk:e<l.length)(H:LGr l_ P n N R X ops (k+1) ((t,v)::Γ) w)(a:cL ops Γ k t n=true:=by kernel_rfl)
  (c:decide (j<B.length)=true:=by kernel_rfl)(hB:(aw B j).vs=l.flatMap f:=by kernel_rfl)(hf:∀ x,(f x).length=sz:=by intro _;rfl)
  (i:bW P (execOp (ev Γ) (am ops k)) (f (l.getD e d))=some (.value v,lj (aw B j).b (0+e*sz) (f (l.getD e d)).length):=by kernel_rfl):LGr l_ P n N R X ops k Γ w :=
 LGr.ownA t j l f sz d e v s.st (bF a).1 (bF a).2 c hB hf hk i H
theorem II {α:Type}(j:Nat)(l:List α)(f:α->List Value)(sz e:Nat)(x:α)(s:SS w0 h0 w h B Rs F)(hk:e<l.length)(H:∀ w',SS w0 h0 w' h (gL B j ((l.set e x).flatMap f)) Rs F->LGr l_ P n N R X ops (k+1) Γ w')(c:cS ops Γ k=true:=by kernel_rfl)
  (a:decide (j<B.length)=true:=by kernel_rfl)(hB:(aw B j).vs=l.flatMap f:=by kernel_rfl)(hf:∀ x,(f x).length=sz:=by intro _;rfl)
  (i:dU P (execOp (ev Γ) (am ops k))=some (.skip,nL (aw B j).b (0+e*sz) (f x)):=by kernel_rfl):LGr l_ P n N R X ops k Γ w :=
 LGr.putA j l f sz e x s.st s.g0 (gi c).1 (gi c).2 a hB hf hk i (fun w' p d=>H w' (s.put0 (oT a) p d (jr (oT a))))
theorem vL {id:Nat}{ops:Array Oper}{y:Code}(H:LGr l_ P n (fun a w=>y.wpIn (Fence.wide.inRound l_) 6 P (gK N R X) a w) R X ops 0 Γ w)(b:BX ops=true:=by kernel_rfl):CGr l_ P n N R X (.seq (.region id ops false) y) Γ w:=CGr.seq (CGr.listed H b)
theorem E5 {c:Operand}{x y:Code}(b:CGr l_ P n N R X x Γ w)(a:fg Γ c=true:=by kernel_rfl)(hv:ev Γ c=.bool true:=by kernel_rfl):CGr l_ P n N R X (.cond c x y) Γ w:=CGr.condT a hv b
theorem qK {c:Operand}{x y:Code}(b:CGr l_ P n N R X y Γ w)(a:fg Γ c=true:=by kernel_rfl)(hv:ev Γ c=.bool false:=by kernel_rfl):CGr l_ P n N R X (.cond c x y) Γ w:=CGr.condF a hv b
theorem vp {ops:Array Oper}{k:Nat}{y:Code}{N' R':Po}{X':Nat->Po}(H:CGr l_ P n N' R' X' y Γ w)(b:(k == ops.size)=true:=by kernel_rfl):LGr l_ P n (fun a w=>y.wpIn (Fence.wide.inRound l_) 6 P (gK N' R' X') a w) R X ops k Γ w:=LGr.next b H
theorem IP {ops:Array Oper}{k:Nat}(H:∀ a,Kn n a Γ->N a w)(b:(k == ops.size)=true:=by kernel_rfl):LGr l_ P n N R X ops k Γ w:=LGr.done b H
theorem rE {ops:Array Oper}{k:Nat}(t:Nat)(H:LGr l_ P n N R X ops (k+1) ((t,undef)::Γ) w)(a:(decide (k<ops.size) && ((am ops k).dst == some t) && decide (t<n))=true:=by kernel_rfl)(b:bp ops Γ (am ops k)=some false:=by kernel_rfl):LGr l_ P n N R X ops k Γ w:=LGr.out t a b H
theorem Is (t:Nat)(ty:TypeId)(vs:List Value)(s:SS w0 h0 w h B Rs F)(H:∀ b w' h',Up w h w' h'->h.size<=b->SS w0 h0 w' h' (⟨b,ty,vs⟩::B) Rs F->LGr l_ P n N R X ops (k+1) ((t,.pointer (some ⟨b,0,none⟩))::Γ) w')(a:cL ops Γ k t n=true:=by kernel_rfl)
  (hr:(execOp (ev Γ) (am ops k)).run P w=.ok (.value (.pointer (some ⟨w.heap.size,0,none⟩))) (w.alloc (.cells vs.toArray ty (0,0))):=by kernel_rfl):LGr l_ P n N R X ops k Γ w :=
 LGr.var t ty vs s.st (bF a).1 (bF a).2 hr (fun b w' h' c u d=>H b w' h' u c (s.new u c d))
end laws
def tz (P:Program)(fn:Func)(Ro:Ending->World->Prop):Po:=fun a w=>LeavesInM Fence.wide 9 P fn a.tmps Ro a.defers .returning w
section
variable {P:Program}{n:Nat}{Γ:cH}{w:World}{h:Hp}{w0:World}{h0:Hp}{B:List Bx}{Rs:List Rw}{F:List (Hp->Prop)}
theorem AO {args:Array Value}{Γ0:cH}(a:Γ0=envOf args.toList)(d:args.size<=n)(c:n<=1000000):Kn n { tmps:=args++Array.replicate (n-args.size) undef,defers:=[] } Γ0:=by
  refine ⟨?_,?_,c,?_⟩
  . show []=fe Γ0
    unfold fe
    cases e:Γ0.lookup 1000000 with
    | none=>rfl
    | some v =>
      rw[a] at e
      have h1:=fA e;rw[x4 (by simp;omega)] at h1
      cases h1
  . simp;omega
  . intro t v _ hv
    rw[a] at hv
    have h1:=fA hv
    have b:t<args.size:=by
      rcases ep t args.size with hl|hl
      . exact hl
      . rw[x4 (by simpa using hl)] at h1;cases h1
    show (args++Array.replicate (n-args.size) undef)[t]?=some v
    rw[yh b]
    simpa using h1
theorem Jc {f:FuncId}{b:Func}{c:Code}{args:Array Value}{k:Ending->World->Prop}(hf:P.funcs[f]?=some b)(Γ0:cH)(p:b.body=some c)(H:CG P b.ntmps (tz P b k) (tz P b k) (fun _ _ _=>False) c Γ0 w)(o:Nat.ble args.size b.ntmps=true:=by kernel_rfl)(h:Γ0=envOf args.toList:=by kernel_rfl)(j:Nat.ble b.ntmps 1000000=true:=by kernel_rfl):Calls P f args w k:=by
 refine callsIn_wide.1 (callsIn_of_wp_marks (n:=9) hf p trivial (wpIn_wide.2 (wp_mono (H _ (AO h (Am o) (Am j))) ?_)));intro e a w d;cases e with
 | normal=>exact d
 | ret=>exact d
 | exit i=>exact d.elim
 | goto l=>exact d.elim
 | panic ch=>exact d.elim
 | outgrown=>exact d.elim
theorem SS.retT {p:Func}{Φ:Value->Hp->Prop}(s:SS w0 h0 w h B Rs F)(D:Nat)(H:h0.size<=D)(i:h[D]?=some (.deferred (some [])))(j:List (Nat × Nat × Nat))(v:Value)(o:Φ v (h.setIfInBounds D bc))(hd:fe Γ=[{ target:=.collected D,args:=#[] }]:=by rfl)(hk:(EI p Γ && cB B j)=true:=by kernel_rfl)(C:bW P (nF p Γ) (dq B j)=some (v,bS B j):=by kernel_rfl):∀ a,Kn n a Γ->tz P p (Ret w0 h0 Φ) a w:=by
 intro a u;rw[ov] at hk
 have y:w.heap[D]?=some (.deferred (some [])):=by
  rcases s.g.blk D with e|e
  ·exact e.symm.trans i
  ·rw[i] at e;injection e with e;cases e
 have z:∀ x∈B,x.b≠D:=fun x k e=>by have q:=s.st.jk x k;rw[e,i] at q;injection q with q;cases q
 have l:=aF i
 unfold tz
 rw[u.df,hd];refine ⟨by simp,.inl ⟨D,_,rfl,run_takeDeferred y,?_⟩⟩;have d:∀ c,c≠D->(w.putObj D (.deferred none)).heap[c]?=w.heap[c]?:=fun c f=>World.putObj_heap_other f
 refine ⟨v,?_,v,_,rfl,⟨⟨s.st.up.ext.os,s.st.up.ext.tape,s.st.up.ext.output,?_,fun c f=>?_⟩,⟨by rw[Lr];exact s.st.up.gr.size,fun c f=>by rw[oi oM];exact s.st.up.gr.blk c f⟩,⟨?_,fun c=>?_⟩⟩,o⟩
 ·rw[jZ u hk.1]
  exact bY _ _ _ _ C (dE (fun x k=>(d x.b (z x k)).trans (s.st.own x k)) j hk.2)
 ·rw[World.putObj_size];exact s.st.up.ext.size
 ·rw[d c (by have:=s.g0.size;omega)];exact s.st.up.ext.block c f
 ·rw[World.putObj_size,Lr];exact s.g.size
 ·by_cases e:c=D
  ·subst e;right;rw[zF l]
  ·rw[d c e,oi (Ne.symm e)];exact s.g.blk c
end
structure KpL (ks:List Nat) (W W':World):Prop where
  size:W.heap.size<=W'.heap.size
  blk:∀ c∈ks,W'.heap[c]?=W.heap[c]?
theorem KpL.refl (ks:List Nat)(W:World):KpL ks W W:=⟨ey _,fun _ _=>rfl⟩
theorem KpL.trans {ks:List Nat}{A B C:World}(h:KpL ks A B)(k:KpL ks B C):KpL ks A C:=⟨e6 h.size k.size,fun c h1=>(k.blk c h1).trans (h.blk c h1)⟩
theorem KpL.cell {ks:List Nat}{A B:World}(h:KpL ks A B){p:Addr}(a:p.block∈ks):B.cell? p=A.cell? p:=by
 unfold World.cell?;rw[h.blk _ a]
theorem KpL.put {ks:List Nat}(W:World)(l:Nat)(o:Obj)(h:∀ c∈ks,c<l):KpL ks W (W.putObj l o):=⟨by simp,fun c h1=>World.putObj_heap_other (by have:=h c h1;omega)⟩
def k6 (h:Hp)(W:World):Hp:=h++W.heap.extract h.size W.heap.size
theorem gV {h:Hp}{W:World}(a:h.size<=W.heap.size):(k6 h W).size=W.heap.size:=by unfold k6;simp;omega
theorem j0 {h:Hp}{W:World}{c:Nat}(a:c<h.size):(k6 h W)[c]?=h[c]?:=by unfold k6;rw[yh a]
theorem jO {h:Hp}{W:World}{c:Nat}(a:h.size<=c):(k6 h W)[c]?=W.heap[c]?:=by
 unfold k6
 rw[Array.getElem?_append_right a,Array.getElem?_extract]
 by_cases e:c<W.heap.size
 ·rw[if_pos oM];congr 1;omega
 ·rw[if_neg oM,Array.getElem?_eq_none oM]
theorem i6 {h:Hp}{W:World}(a:h.size<=W.heap.size):Gr h (k6 h W):=⟨by rw[gV a];exact a,fun _ b=>j0 b⟩
section ss
variable {w0 w W W':World}{h0 h h':Hp}{B B':List Bx}{F F':List (Hp->Prop)}
theorem SS.reset (s:SS w0 h0 w h B [] F)(a:SS w0 h0 W h' B' [] F')(g:Gw h h')(l:∀ x∈B',x.b<h.size)(same:∀ c,c<w.heap.size->W'.heap[c]?=W.heap[c]?)(sz:W.heap.size<=W'.heap.size)(e1:W'.os=W.os)(e2:W'.tape=W.tape)(o:W'.output=W.output):SS w0 h0 W' (k6 h W') B' [] F:=by
 have k:=s.g.size;have i:h.size<=W'.heap.size:=by have:=a.g.size;have:=g.size;omega
 have p:=s.st.up.ext.size;refine ⟨s.g0,⟨⟨⟨e1.trans a.st.up.ext.os,e2.trans a.st.up.ext.tape,o.trans a.st.up.ext.output,e6 a.st.up.ext.size sz,fun c j=>(same c oM).trans (a.st.up.ext.block c j)⟩,s.st.up.gr.trans (i6 i),⟨(gV i).symm,fun c=>?_⟩⟩,fun x d=>(same x.b (by rw[k];exact l x d)).trans (a.st.own x d),fun x d=>?_,a.st.lo,a.st.nd⟩,fun _ d=>(by cases d),.nil,s.mo,s.f.gw s.mo (i6 i).gw⟩
 ·rcases ep c h.size with j|j
  ·rw[j0 j,same c oM]
   rcases g.blk c j with e|e
   ·rw[<-e];exact a.g.blk c
   ·exact .inr e
  ·exact .inl (jO j)
 ·rw[j0 (l x d)]
  rcases g.blk x.b (l x d) with e|e
  ·rw[<-e];exact a.st.jk x d
  ·exact e
theorem mU (s:SS w0 h0 W h B [] F)(e:SS w0 h0 W' h' B' [] F')(g:Gw h h'){c:Nat}(d:c<h.size)(a:h[c]?≠some bc):W'.heap[c]?=W.heap[c]?:=by
 have h1:h[c]?=W.heap[c]?:=(s.g.blk c).resolve_right a;have b:=e.g.blk c;rw[(g.blk c d).resolve_right a] at b
 exact (b.resolve_right a).symm.trans h1
end ss
section law
variable {P:Program}{n:Nat}{N R:Po}{X:Nat->Po}{Γ:cH}{w w0:World}{h h0:Hp}{B:List Bx}{F:List (Hp->Prop)}{α β:Type}
def RgI (w0:World)(h0:Hp)(w:World)(h:Hp)(Bof:β->List Bx)(Fx:List α->β->Prop)(pre:List α)(W:World):Prop :=
  w.heap.size<=W.heap.size/\∃ v h',SS w0 h0 W h' (Bof v) [] []/\Gw h h'/\(∀ x∈Bof v,x.b<h.size)/\Fx pre v
theorem RgI.from {f:β->List Bx}{Fx:List α->β->Prop}(s:SS w0 h0 w h B [] F):OwnFrom w.heap.size (RgI w0 h0 w h f Fx):=by
 rintro pre W W' row ⟨b,v,h',i,g,j,k⟩ a hr;have same:∀ c,c<w.heap.size->W'.heap[c]?=W.heap[c]?:=fun c l=>a.block c oM (fun e=>by have:=(hr c e.symm).1;omega)
 have d:h.size<=W'.heap.size:=by have:=i.g.size;have:=g.size;have:=a.size;omega
 exact ⟨e6 b a.size,v,k6 h W',(s.reset i g j same a.size a.os a.tape a.output).bare,(i6 d).gw,j,k⟩
theorem l5 {W h:World}{f b:Hp}{z B:List Bx}{F1 y:List (Hp->Prop)}{K:Nat}{ks:List Nat}(j:SS w0 h0 W f z [] F1)(i:SS w0 h0 h b B [] y)(g:Gw f b)(x:∀ k o,K<=k->W.heap[k]?=some o->o.isCells=false->f[k]?=some o)(d:∀ c∈ks,c<f.size/\f[c]?≠some bc):KeepsFrom K W h/\KpL ks W h:=by
 have a:W.heap.size<=h.heap.size:=by have:=j.g.size;have:=i.g.size;have:=g.size;omega
 refine ⟨⟨a,fun k o hk u l=>?_⟩,⟨a,fun c p=>mU j i g (d c p).1 (d c p).2⟩⟩;have e1:=x k o hk u l;rw[mU j i g (aF e1) (fun e=>by rw[e1] at e;injection e with e;subst e;cases l),u]
theorem Eu {a:Act}{c b:Nat}{u1 f:Value}(l:Kn n a Γ)(i:fe Γ=[])(j:c<n)(h:b<n):Kn n { tmps:=((#[c,b]:Array Nat).zip #[u1,f]).foldl (fun t (p,v)=>t.setIfInBounds p v) a.tmps,defers:=[] } ((b,f)::(c,u1)::Γ):=by
 have k:=(l.put j u1).put h f
 have e:({ tmps:=((#[c,b]:Array Nat).zip #[u1,f]).foldl (fun t (p,v)=>t.setIfInBounds p v) a.tmps,defers:=[] }:Act)=(a.put (some c) u1).put (some b) f:=by
  have hd:a.defers=[]:=l.df.trans i;cases a with
  | mk t d=>simp only at hd;subst hd;simp[Act.put]
 rw[e];exact k
theorem CG.rangeF {g:Operand}{p1 p2:Tmp}{j I:Code}(s:SS w0 h0 w h B [] F){gf:Nat}{lb:Array Value}(eg:∀ args w,(callFunc gf args).run P w=.ok (.enter gf args) w)(hdf:fe Γ=[])
    {e1 e2:α->Value}{ks:List Nat}{S Sp:List α->Prop}{Nn:Nat}(bb:SeqStopsK Fence.wide 7 P gf lb (fun x=>#[e1 x,e2 x]) (KpL ks) S Sp Nn w)(C:∀ c∈ks,c<h.size/\h[c]?≠some bc)
    (p:β->List Bx)(Fx:List α->β->Prop)(v0:β)(hB0:p v0=B)(hF0:Fx [] v0)(hlt:∀ v,(p v).map (·.b)=B.map (·.b))(V:TypeId)(hTX:(V == 0)=false)(cs:α->List Value)(Γa:α->Nat->cH)
    (hA:∀ l pre x v W hh,Fx pre v->SS w0 h0 W hh (p v) [] F->CGr l P n (fun a1 W1=>∃ z Bx,hh.size<=Bx/\SS w0 h0 W1 z (⟨Bx,V,cs x⟩::p v) [] F/\Gr hh z/\Kn n a1 (Γa x Bx)) (fun _ _=>False) (fun _ _ _=>False) j ((p2,e2 x)::(p1,e1 x)::Γ) W)
    (hBd:∀ l pre x v W hh Bx,Fx pre v->pre.length<Nn->SS w0 h0 W hh (⟨Bx,V,cs x⟩::p v) [] F->CGr l P n (fun _ W1=>∃ z v1 B1 F1,SS w0 h0 W1 z (B1++p v1) [] F1/\Gw hh z/\Fx (pre++[x]) v1) (fun _ _=>False) (fun _ _ _=>False) I (Γa x Bx) W)
    (H:∀ D xs v W hh,h.size<=D->S xs->Fx xs v->SS w0 h0 W hh (p v) [] F->Gr h hh->hh[D]?=some (.deferred (some []))->∀ a,Kn n a ((1000000,.int .i64 (D:Nat))::Γ)->N a W)
    (hin:fg Γ g=true:=by kernel_rfl)(hg:ev Γ g=.func (.func gf) #[] lb:=by kernel_rfl)(hp1:p1<n:=by decide)(hp2:p2<n:=by decide):CG P n N R X (.rangeFunc g #[p1,p2] j I) Γ w:=by
  intro a ka;have hsz:=s.g.size
  have hbl:∀ v,∀ x∈p v,x.b<h.size:=fun v x hx=>by
    have:x.b∈(p v).map (·.b):=g8.2 ⟨x,hx,rfl⟩;rw[hlt v] at this
    obtain ⟨y,hy,e⟩:=g8.1 this;rw[<-e];exact aF (s.st.jk y hy)
  refine (wpIn_wide (n:=8)).1 (wpIn_rangeFunc_ownH (F:=Fence.wide) rfl oM (gf:=gf) (lb:=lb) (by rw[ka.eval hin];exact hg) trivial eg bb (fun h k=>h.trans k) (fun W l o o' hl _ _ _=>KpL.put W l o' (fun c J=>by have:=(C c J).1;omega)) (Below.refl _ _) (fun _=>rfl)
    (RgI w0 h0 w h p Fx) (fun _ _ _=>False) (RgI.from s) (fun _ _ _ _ _ hs _ _=>hs) ⟨ey _,v0,h,by rw[hB0];exact s.bare,Gw.refl h,hbl v0,hF0⟩
    (fun x a' W=>∃ Bx,w.heap.size<=Bx/\W.heap[Bx]?=some (.cells (cs x).toArray V (0,0))/\Kn n a' (Γa x Bx)) ?hax ?j ?I ?done ?stop)
  case hax =>
    rintro x a' _ W W' row ⟨Bx,hx,hw,hk⟩ gr hr;refine ⟨Bx,hx,(gr.block Bx (na.1 hw).1 (fun e=>?_)).trans hw,hk⟩;obtain ⟨_,o,Z,J⟩:=hr Bx e.symm;rw[hw] at Z;injection Z with Z;subst Z;cases J
  case j =>
    rintro l pre x W K ⟨O,v,h',s',g',hb,fx⟩ hK;have d:h.size<=W.heap.size:=by omega
    have s1:=s.reset s' g' hb (fun _ _=>rfl) (ey _) rfl rfl rfl;refine wpIn_mono (hA l pre x v W _ fx s1 _ (Eu ka hdf hp1 hp2)) ?_;intro e a1 W1 L;cases e with
    | normal =>
      obtain ⟨z,Bx,U,Q,g2,kn⟩:=L;obtain ⟨k1,k2⟩:=l5 (K:=w.heap.size) (ks:=ks) s1 Q g2.gw (fun k o hk Y _=>by rw[jO oM];exact Y) (fun c J=>⟨by rw[gV d];have:=(C c J).1;omega,by rw[j0 (C c J).1];exact (C c J).2⟩);refine hK a1 W1 k1 k2 ⟨e6 O k1.size,v,z,(Q.drop 1 0).bare,((i6 d).trans g2).gw,hb,fx⟩ ⟨Bx,by rw[gV d] at U;omega,Q.st.own _ (Kf),kn⟩
    | ret=>exact L.elim
    | exit i=>exact L.elim
    | goto i=>exact L.elim
    | panic c=>exact L.elim
    | outgrown=>exact L.elim
  case I =>
    rintro l pre x a' W hl bl ⟨O,v,h',s',g',hb,fx⟩ ⟨Bx,hx,hw,hk⟩ bf;have d:h.size<=W.heap.size:=by omega
    have s1:=s.reset s' g' hb (fun _ _=>rfl) (ey _) rfl rfl rfl;have U:(k6 h W)[Bx]?=some (.cells (cs x).toArray V (0,0)):=by rw[jO oM];exact hw
    have hh0:=s.st.up.gr.size;have Q:=s1.grab (b:=Bx) (ty:=V) (vs:=cs x) ⟨by omega,hTX,U⟩;have M:Gr h ((k6 h W).setIfInBounds Bx bc):=⟨by rw[Lr];exact (i6 d).size,fun c J=>by rw[oi oM];exact j0 J⟩;have s3:SS w0 h0 W ((k6 h W).setIfInBounds Bx bc) (⟨Bx,V,cs x⟩::p v) [] F:=⟨Q.g0,Q.st,Q.ro,Q.ap,s.mo,s.f.gw s.mo M.gw⟩;refine wpIn_mono (hBd l pre x v W _ Bx fx bf s3 a' hk) ?_;intro e a1 W1 L;cases e with
    | normal =>
      obtain ⟨z,v1,B1,F1,s4,g4,fx1⟩:=L
      obtain ⟨k1,k2⟩:=l5 (K:=w.heap.size) (ks:=ks) s3 s4 g4 (fun k o hk Y Z=>by
        have hne:k≠Bx:=fun e=>by subst e;rw[hw] at Y;injection Y with Y;subst Y;cases Z
        rw[oi (Ne.symm hne),jO oM];exact Y) (fun c J=>⟨by rw[Lr,gV d];have:=(C c J).1;omega,by rw[M.blk c (C c J).1];exact (C c J).2⟩)
      have s5:=s4.drop B1.length 0;rw[List.drop_left] at s5
      exact ⟨k1,k2,e6 O k1.size,v1,z,s5.bare,M.gw.trans g4,hbl v1,fx1⟩
    | ret=>exact L.elim
    | exit i=>exact L.elim
    | goto i=>exact L.elim
    | panic c=>exact L.elim
    | outgrown=>exact L.elim
  case done =>
    rintro D xs W hD hS ⟨O,v,h',s',g',hb,fx⟩ hK;have d:h.size<=W.heap.size:=by omega
    have s1:=s.reset s' g' hb (fun _ _=>rfl) (ey _) rfl rfl rfl;refine H D xs v W _ oM hS fx s1 (i6 d) (by rw[jO oM];exact hK) _ ⟨?_,ka.sz,ka.nb,fun t u ht hu=>?_⟩
    . show _::a.defers=fe _
      rw[ka.df,hdf];rfl
    . rw[List.lookup_cons,show (t == 1000000)=false by simpa using ht] at hu
      exact ka.has t u ht hu
  case stop =>
    rintro D c pre W _ _ hx _;exact hx.elim
theorem CG.run {c:Code}(H:CG P n N R X c Γ w):∀ a,Kn n a Γ->(fun a w=>c.wp P (gK N R X) a w) a w:=H
end law
attribute [local go_sem] Oper.semAt_some
def xh (n:Nat):Nat->List (Fin n)
  | 0=>[]
  | k+1=>xh n k++(if h:n-1-k<n then [⟨n-1-k,h⟩] else [])
def jS (n r:Nat):List (Fin n):=xh n (n-r)
theorem i4 {n r:Nat}(h:r<n):jS n r=jS n (r+1)++[⟨r,h⟩]:=by
 have e:n-1-(n-(r+1))=r:=by omega
 unfold jS
 rw[show n-r=(n-(r+1))+1 by omega]
 show xh n _++_=_
 rw[dif_pos oM]
 simp only[e]
theorem pZ (n:Nat):∀ k,(xh n k).length<=k
  | 0=>ey _
  | k+1=>by
    have:=pZ n k
    unfold xh
    rw[yR]
    split<;>simp<;>omega
theorem xp (n r:Nat):(jS n r).length<=n-r:=pZ n _
theorem Dn (n:Nat)(hn:1<=n)(l o b len h:Nat)(ks:List Nat)(L M H g3 K I g6 g7 V:Nat->Value)(F:len<=1000)(c:0<len->b∈ks)(D:o∈ks)(J U:List (Fin len)->World->Prop)
    (hY:∀ pre x W,J pre W->pre.length<len->YieldAt Fence.wide (n-1) Tryz.prog l #[.int .i64 (x.1:Nat),.agg #[L x.1,M x.1,H x.1,g3 x.1,K x.1,I x.1,g6 x.1,g7 x.1,V x.1]] W fun e W' =>
      (e=.returned (.bool true)/\J (pre++[x]) W'/\KpL ks W W')\/(e=.returned (.bool false)/\U (pre++[x]) W'))
    (W:World)(y:W.cell? ⟨o,0,none⟩=some (.slice (some ⟨b,0,none⟩) len h))(hc:∀ j,j<len->W.cell? ⟨b,j*9,none⟩=some (L j)/\W.cell? ⟨b,j*9+1,none⟩=some (M j)/\W.cell? ⟨b,j*9+2,none⟩=some (H j)/\W.cell? ⟨b,j*9+3,none⟩=some (g3 j)/\W.cell? ⟨b,j*9+4,none⟩=some (K j)/\W.cell? ⟨b,j*9+5,none⟩=some (I j)/\W.cell? ⟨b,j*9+6,none⟩=some (g6 j)/\W.cell? ⟨b,j*9+7,none⟩=some (g7 j)/\W.cell? ⟨b,j*9+8,none⟩=some (V j))(h0:J [] W) :
    CallsIn Fence.wide n Tryz.prog 116 #[.func (.yield l) #[] #[],.pointer (some ⟨o,0,none⟩)] W fun e W'=>(∃ v,e=.returned v) /\
      ((∃ ys,ys=jS len 0/\J ys W')\/(∃ pre,(∃ k,k<=len/\pre=jS len k)/\U pre W')):=by
  refine callsIn_of_wp Tryz.func116 rfl trivial ?_ rfl
  simp only[Tryz.ntmps116,List.size_toArray,List.length_cons,Li,Nat.reduceAdd,Nat.reduceSub,Array.replicate_succ,Array.replicate_zero,List.push_toArray,List.append_toArray,List.nil_append,List.cons_append]
  gi_wp2
  gi_loopw [3] (fun i wr=>∃ k:Nat,k<=len/\i=.int .i64 ((k:Int)-1)/\J (jS len k) wr/\KpL ks W wr)
    (fun i _=>(intOf i+1).toNat)
  case atStart=>exact ⟨len,ey _,by first|rfl|(simp;omega),by rw[show jS len len=[] by unfold jS;rw[yp];rfl];exact h0,KpL.refl _ _⟩
  case round =>
    obtain ⟨k,hk,rfl,f,a⟩:=hrel
    rcases k with _|k
    . gi_wp2
      go_end0
      exact ⟨⟨_,rfl⟩,.inl ⟨_,rfl,f⟩⟩
    . have z:=hc k oM
      obtain ⟨fn,tmps,u,bb,hy,hR⟩:=hY _ ⟨k,by omega⟩ wr f (by have:=xp len (k+1);omega);have hBx:wr.cell? ⟨o,0,none⟩=some (.slice (some ⟨b,0,none⟩) len h):=(a.cell (p:=⟨o,0,none⟩) D).trans y;have e_:((k+1:Nat):Int)-1=(k:Nat):=by omega
      rw[e_];obtain ⟨X,Q,c2,c3,O,Z,Y,c7,S⟩:=z;replace X:=(a.cell (p:=⟨b,k*9,none⟩) (c oM)).trans X;replace Q:=(a.cell (p:=⟨b,k*9+1,none⟩) (c oM)).trans Q;replace c2:=(a.cell (p:=⟨b,k*9+2,none⟩) (c oM)).trans c2;replace c3:=(a.cell (p:=⟨b,k*9+3,none⟩) (c oM)).trans c3;replace O:=(a.cell (p:=⟨b,k*9+4,none⟩) (c oM)).trans O;replace Z:=(a.cell (p:=⟨b,k*9+5,none⟩) (c oM)).trans Z;replace Y:=(a.cell (p:=⟨b,k*9+6,none⟩) (c oM)).trans Y;replace c7:=(a.cell (p:=⟨b,k*9+7,none⟩) (c oM)).trans c7;replace S:=(a.cell (p:=⟨b,k*9+8,none⟩) (c oM)).trans S
      gi_wp2
      refine hR.mono ?_;rintro e W3 (⟨rfl,B,C⟩|⟨rfl,d⟩)
      . gi_wp2
        go_roundw
        case rel=>exact ⟨k,by omega,by simp,by rw[i4 oM];exact B,a.trans C⟩
        case measure=>simp[intOf]
      . gi_wp2
        refine bodyPost_ret (results_none rfl _ _ _) rfl ?_;exact ⟨⟨_,rfl⟩,.inr ⟨_,⟨k,by omega,(i4 oM).symm⟩,d⟩⟩
theorem sD (n:Nat)(V:1<=n)(i b len h:Nat)(ks:List Nat)(B D u I z y K H F:Nat->Value)(o:len<=1000)(e:0<len->b∈ks)(f:i∈ks)(w:World)(a:∀ c∈ks,c<w.heap.size)
  (C:w.cell? ⟨i,0,none⟩=some (.slice (some ⟨b,0,none⟩) len h))(X:∀ j,j<len->w.cell? ⟨b,j*9,none⟩=some (B j)/\w.cell? ⟨b,j*9+1,none⟩=some (D j)/\w.cell? ⟨b,j*9+2,none⟩=some (u j)/\w.cell? ⟨b,j*9+3,none⟩=some (I j)/\w.cell? ⟨b,j*9+4,none⟩=some (z j)/\w.cell? ⟨b,j*9+5,none⟩=some (y j)/\w.cell? ⟨b,j*9+6,none⟩=some (K j)/\w.cell? ⟨b,j*9+7,none⟩=some (H j)/\w.cell? ⟨b,j*9+8,none⟩=some (F j)) :
  SeqStopsK Fence.wide n Tryz.prog 116 #[.pointer (some ⟨i,0,none⟩)] (fun x:Fin len=>#[.int .i64 (x.1:Nat),.agg #[B x.1,D x.1,u x.1,I x.1,z x.1,y x.1,K x.1,H x.1,F x.1]]) (KpL ks) (fun ys=>ys=jS len 0) (fun pre=>∃ k,k<=len/\pre=jS len k) len w:=fun l J U W d _ _ S h0 =>
 Dn n V l i b len h ks B D u I z y K H F o e f J U S W ((d.cell (p:=⟨i,0,none⟩) (a _ f)).trans C) (fun j L=>by
  obtain ⟨Y,O,c2,c3,M,c5,Z,c7,Q⟩:=X j L;exact ⟨(d.cell (p:=⟨b,j*9,none⟩) (a _ (e oM))).trans Y,(d.cell (p:=⟨b,j*9+1,none⟩) (a _ (e oM))).trans O,(d.cell (p:=⟨b,j*9+2,none⟩) (a _ (e oM))).trans c2,(d.cell (p:=⟨b,j*9+3,none⟩) (a _ (e oM))).trans c3,(d.cell (p:=⟨b,j*9+4,none⟩) (a _ (e oM))).trans M,(d.cell (p:=⟨b,j*9+5,none⟩) (a _ (e oM))).trans c5,(d.cell (p:=⟨b,j*9+6,none⟩) (a _ (e oM))).trans Z,(d.cell (p:=⟨b,j*9+7,none⟩) (a _ (e oM))).trans c7,(d.cell (p:=⟨b,j*9+8,none⟩) (a _ (e oM))).trans Q⟩) h0
theorem rQ {h:Hp}{w:World}{sl:List Stp}{c:Nat}(g:G w h)(d:SlO 9 dw aa h (some ⟨c,0,none⟩) sl)(j:Nat)(f:j<sl.length):w.cell? ⟨c,j*9,none⟩=some (.int .i64 (sl.getD j aa).op)/\w.cell? ⟨c,j*9+1,none⟩=some (.int .i64 (sl.getD j aa).a)/\w.cell? ⟨c,j*9+2,none⟩=some (.int .i64 (sl.getD j aa).b)/\w.cell? ⟨c,j*9+3,none⟩=some (.int .i64 (sl.getD j aa).n)/\w.cell? ⟨c,j*9+4,none⟩=some (.bool (av (sl.getD j aa).q.num))/\w.cell? ⟨c,j*9+5,none⟩=some (.int .u64 (lo (ac (sl.getD j aa).q.num)))/\w.cell? ⟨c,j*9+6,none⟩=some (.string (hi (ac (sl.getD j aa).q.num)))/\w.cell? ⟨c,j*9+7,none⟩=some (.int .u64 (lo (qd (sl.getD j aa).q)))/\w.cell? ⟨c,j*9+8,none⟩=some (.string (hi (qd (sl.getD j aa).q))):=by
 have e:∀ i v,(dw (sl.getD j aa))[i]?=some v->w.cell? ⟨c,j*9+i,none⟩=some v:=fun i v hv=>by
  have q:=iW g (d.el j f i v hv)
  simpa [aO,aB] using q
 exact ⟨e 0 _ rfl,e 1 _ rfl,e 2 _ rfl,e 3 _ rfl,e 4 _ rfl,e 5 _ rfl,e 6 _ rfl,e 7 _ rfl,e 8 _ rfl⟩
theorem uT (A:Z9)(m c:Nat)(w:World)(h:Hp)(g:G w h):CR 72 #[.slice A m c] w h (fun v h1=>∃ i,v=.func (.func 116) #[] #[pB i]/\Seg h1 i 0 [.slice A m c]):=by
 have a:=sS g;refine go Tryz.func72 [(0,qS A m c)] rfl (aD (lA 1 48 ([qS A m c]) a (fun d w2 k a=>lL a ae (a7 ?_))));obtain ⟨j,a,e,-,-⟩:=a.pub 0;replace a:=a.to [] [];have b:Seg j d 0 ([qS A m c]):=e;replace a:=a.a_Seg b;exact lL a [.v (.func (.func 116) #[] #[pB d]),.c] (af a [] (.func (.func 116) #[] #[pB d]) (⟨_,rfl,a.f.1⟩))
theorem AQ {h:Hp}{b:Nat}{v:Value}{l:List Value}(x:Seg h b 0 (v::l)):b<h.size/\h[b]?≠some bc:=by
 have q:=x 0 v rfl;obtain ⟨c,t,g,e,_⟩:=ju q;exact ⟨aF e,fun j=>by rw[mD j] at q;cases q⟩
theorem wI {h:Hp}{a:Nat}{sl:List Stp}(x:SlO 9 dw aa h (some ⟨a,0,none⟩) sl)(h0:0<sl.length):a<h.size/\h[a]?≠some bc:=by
 have q:=x.el 0 h0 0 _ rfl;obtain ⟨c,t,g,e,_⟩:=ju q;exact ⟨aF e,fun j=>by rw[show aB (some (⟨a,0,none⟩:Addr))=a from rfl,mD j] at q;cases q⟩
theorem wc {h:Hp}{w:World}{sl:List Stp}{e f len:Nat}(g:G w h)(o:SlO 9 dw aa h (some ⟨e,0,none⟩) sl)(hv:Seg h f 0 [.slice (some ⟨e,0,none⟩) len len])(z:sl.length=len)(d:len<=1000)(ks:List Nat)(p:0<len->e∈ks)(i:f∈ks)(l:∀ c∈ks,c<h.size) :
  SeqStopsK Fence.wide 7 Tryz.prog 116 #[.pointer (some ⟨f,0,none⟩)] (fun x:Fin len=>#[.int .i64 (x.1:Nat),HY (sl.getD x.1 aa)]) (KpL ks) (fun y=>y=jS len 0) (fun pre=>∃ k,k<=len/\pre=jS len k) len w :=
 sD 7 oM f e len len ks (fun j=>.int .i64 (sl.getD j aa).op) (fun j=>.int .i64 (sl.getD j aa).a) (fun j=>.int .i64 (sl.getD j aa).b) (fun j=>.int .i64 (sl.getD j aa).n) (fun j=>.bool (av (sl.getD j aa).q.num)) (fun j=>.int .u64 (lo (ac (sl.getD j aa).q.num))) (fun j=>.string (hi (ac (sl.getD j aa).q.num))) (fun j=>.int .u64 (lo (qd (sl.getD j aa).q))) (fun j=>.string (hi (qd (sl.getD j aa).q))) d p i w (fun c u=>by rw[g.size];exact l c u) (iW g (hv 0 _ rfl)) (fun j B=>rQ g o j oM)
def dN (b:Bool):List Value:=[.bool b]
theorem Cf {b:Bool}(h:(!b)=true):b=false:=by cases b<;>first|rfl|cases h
theorem mE {b:Bool}(h:(!b)=false):b=true:=by cases b<;>first|rfl|cases h
theorem cI {l:List Bool}{a:Nat}(h:a<l.length):(l.set a true).getD a false=true:=by rw[aY h,if_pos rfl]
theorem kI {l:List Bool}{a i:Nat}(h:l.getD i false=true):(l.set a true).getD i false=true:=by
 by_cases e:a<l.length
 ·rw[aY e]
  by_cases c:i=a
  ·rw[if_pos c]
  ·rw[if_neg c];exact h
 ·rw[La oM];exact h
theorem Cp {ol os b tl:List Int}{m:Nat}(h:ol.length=m)(a:∀ t,t<m->ol.getD t 0=tl.getD (b.getD (os.getD t 0).toNat 0).toNat 0):∀ t,t<m+1->(ol++[tl.getD (b.getD (os.getD m 0).toNat 0).toNat 0]).getD t 0=tl.getD (b.getD (os.getD t 0).toNat 0).toNat 0:=fun t d=>by
 rw[bj]
 by_cases c:t<ol.length
 ·rw[if_pos c];exact a t oM
 ·obtain rfl:t=m:=by omega
  rw[if_neg c,if_pos h.symm]
def NdB {n:Nat}(sl:List Stp)(os bl:List Int)(pre:List (Fin n))(nl:List Bool):Prop:=NdO nl os bl os.length/\∀ r,pre=jS n r->∀ j,r<=j->j<n->nl.getD j false=true->Ops sl nl j
theorem NdB.zero {n:Nat}{sl:List Stp}{os a:List Int}{nl:List Bool}(h:NdO nl os a os.length):NdB (n:=n) sl os a [] nl:=⟨h,fun r e j h1 b _=>by
 have:=i4 (show r<n by omega);rw[<-e] at this;simp at this⟩
theorem NdB.step {n:Nat}{sl:List Stp}{os f:List Int}{pre:List (Fin n)}{nl a:List Bool}{x:Fin n}(B:NdB sl os f pre nl)(m:Mor nl a x.1)(o:a.getD x.1 false=true->Ops sl a x.1):NdB sl os f (pre++[x]) a:=⟨fun t l=>m.2.1 _ (B.1 t l),fun r e j h1 h b=>by
 have e2:=i4 (show r<n by omega);rw[<-e] at e2
 obtain ⟨i,d⟩:=List.append_inj' e2 rfl
 injection d with d _
 have k:x.1=r:=congrArg Fin.val d
 by_cases c:j=r
 ·rw[c,<-k] at b ⊢;exact o b
 ·rw[m.2.2 j oM] at b
  exact (B.2 (r+1) i j oM h b).up m.2.1⟩
theorem SlO.setD {α:Type}{sz:Nat}{f:α->List Value}{d:α}{h:Hp}{A:Z9}{l:List α}{D:Nat}(x:SlO sz f d h A l)(a:h[D]?=some (.deferred (some []))):SlO sz f d (h.setIfInBounds D bc) A l:=⟨x.ok,fun k hk i v hv=>by
 have q:=x.el k hk i v hv;obtain ⟨c,t,g,e1,e2⟩:=ju q
 unfold dG
 rw[oi (fun e=>by rw[<-e,a] at e1;injection e1 with e1;cases e1),e1];exact e2⟩
theorem Fj {h h':Hp}{D:Nat}(u:Gw h h')(x:h[D]?=some (.deferred (some []))):h'[D]?=some (.deferred (some [])):=by
 rcases u.blk D (aF x) with e|e
 ·exact e.trans x
 ·rw[x] at e;injection e with e;cases e
theorem Eg (inp:Int)(A:Z9)(c:Nat)(l:List Stp)(O:Z9)(d:Nat)(os:List Int)(hl:l.length<=40)(ho:os.length<=10)(hOk:fr l.length os)(U:Nat)(sl:List Stp)(X:Z9)(M:List Int)(hsl:sl.length=l.length)(hbl:M.length=l.length)(hSt:StOk l.length sl)(hBy:ByOk l.length M)(w:World)(h:Hp)(g:G w h)(hA:SlO 9 dw aa h A l)(hO:Si O os h)(hS:SlO 9 dw aa h (sB U) sl)(hB:Si X M h):CR 30 #[.agg #[iV inp,.slice A ((l).length) c,.slice O ((os).length) d],.slice (sB U) l.length l.length,.slice X l.length l.length] w h (fun v h1=>∃ (S_:Z9)(sc_:Nat)(al:List Stp)(O_:Z9)(oc_:Nat)(ol:List Int),v=.agg #[iV inp,.slice S_ al.length sc_,.slice O_ ol.length oc_]/\SlO 9 dw aa h1 S_ al/\Si O_ ol h1/\IT sl M os al ol):=by
 have e:=(((((sS g).aS hA).aS hO).aS hS).aS hB);refine Jc Tryz.func30 [(0,.agg #[iV inp,qS A ((l).length) c,qS O ((os).length) d]),(1,qS (sB U) l.length l.length),(2,qS X l.length l.length)] rfl (aD (lA 3 50 ([iV inp,qS A ((l).length) c,qS O ((os).length) d]) e (fun Q w2 h3 e=>lA 6 50 ([iV 0,sZ,sZ]) e (fun V w5 h6 e=>a7 (lL e [.c,.v (nV l.length)] (lK 20 4 l.length 1 1 qF dN false e (fun F w8 h9 e=>?_)))))));have cr:(y2 l.length false).length=l.length:=by simp
 refine lA 7 141 ([sZ]) e (fun za _ yg e=>lP 0 0 ([qS (sB F) l.length l.length]) e (fun _ e=>ag (ab e [.v (qP Q 2),.o (qS O ((os).length) d) 3 2 1,.v (nV ((os).length)),.v (iV 0)] (be ?_))));refine bU _ (CG.loop (fun μ_ Γ w_=>∃ (i:Nat)(nl:List Bool)(B:Hp),μ_=os.length-i/\Γ=[(1,qS (sB U) l.length l.length),(2,qS X l.length l.length),(3,pB Q),(6,pB V),(7,pB za),(22,qS O ((os).length) d),(23,nV ((os).length)),(24,nV i)]/\SS w h w_ B [⟨za,141,[qS (sB F) l.length l.length]⟩,⟨F,4,(nl).flatMap dN⟩,⟨V,50,[iV 0,sZ,sZ]⟩,⟨Q,50,[iV inp,qS A ((l).length) c,qS O ((os).length) d]⟩] [] [Si X M,fun B=>SlO 9 dw aa B (sB U) sl,Si O os,fun B=>SlO 9 dw aa B A l]/\i<=os.length/\nl.length=l.length/\NdO nl os M i) _ ⟨0,y2 l.length false,yg,rfl,rfl,e.to _ _,JU _,(by simp),(fun t ht=>absurd ht (K6 t))⟩ ?_);rintro _ _ _ ⟨i,nl,_,c1,rfl,e,cv,hnl,hno⟩;refine aD ?_;cases zf:(decide ((i:Int)<(((os).length:Nat):Int)))
 .
  have zA:=oF zf;refine lB 25 zf (ag (dv (CG.exit ?_)))
  show CG _ _ _ _ _ _ _ _
  refine cQ (ab e ae (lC 36 e (uT (sB U) l.length l.length _ _ e.g) ?_));rintro _ _ zM e ⟨bv,rfl,hbv⟩;replace e:=(e.a_Seg hbv);refine be ?_;have b6:i=os.length:=by omega
  have bn:=hno;rw[b6] at bn
  have b5:=e.st.up.gr.size;refine bU [(1,qS (sB U) l.length l.length),(2,qS X l.length l.length),(3,pB Q),(6,pB V),(7,pB za),(22,qS O ((os).length) d),(23,nV ((os).length)),(24,nV i),(25,qF),(35,qS (sB U) l.length l.length),(36,.func (.func 116) #[] #[pB bv])] ?_;obtain ⟨ks_,hkd_⟩:∃ ks_:List Nat,ks_=if 0<l.length then [bv,U] else [bv]:=⟨_,rfl⟩
  have b9:bv∈ks_:=by rw[hkd_];split<;>simp
  have b0:0<l.length->U∈ks_:=fun B=>by rw[hkd_,if_pos B];simp
  have bq:∀ c∈ks_,c<zM.size/\zM[c]?≠some bc:=by
    have t1_:=AQ e.f.1;have t2_:=wI e.f.r.1;intro c hc;rw[hkd_] at hc
    split at hc
    . rcases hP.1 hc with rfl|hc
      . exact t1_
      . rcases hP.1 hc with rfl|hc
        . exact t2_ oM
        . cases hc
    . rcases hP.1 hc with rfl|hc
      . exact t1_
      . cases hc
  refine CG.rangeF (α:=Fin l.length) (β:=List Bool) (e1:=fun x=>nV x.1) (e2:=fun x=>HY (sl.getD x.1 aa)) (ks:=ks_) e (enters_of Tryz.func116 kR rfl) (by rfl) (wc e.g e.f.r.1 e.f.1 hsl oM ks_ b0 b9 (fun c hc=>(bq c hc).1)) bq (fun j=>[⟨za,141,[qS (sB F) l.length l.length]⟩,⟨F,4,(j).flatMap dN⟩,⟨V,50,[iV 0,sZ,sZ]⟩,⟨Q,50,[iV inp,qS A ((l).length) c,qS O ((os).length) d]⟩]) (fun bb j=>j.length=l.length/\NdB sl os M bb j) nl rfl ⟨hnl,NdB.zero bn⟩ (fun _=>rfl) 86 rfl (fun x=>dw (sl.getD x.1 aa)) (fun x Bx=>(11,pB Bx)::(10,nV x.1)::[(1,qS (sB U) l.length l.length),(2,qS X l.length l.length),(3,pB Q),(6,pB V),(7,pB za),(22,qS O ((os).length) d),(23,nV ((os).length)),(24,nV i),(25,qF),(35,qS (sB U) l.length l.length),(36,.func (.func 116) #[] #[pB bv])]) ?asg_ ?bdy_ ?beh_
  case asg_ =>
    intro l_ bb x j W_ hh_ S e;refine vL (nf e ae (vp (CGr.listed (Is 11 86 [iV 0,iV 0,iV 0,iV 0,qF,uV 0,eS,uV 0,eS] e (fun Bx W1 h1_ u_ bm e=>Jh 0 0 (sC (sl.getD x.1 aa)) e (fun W2 e=>?_))))));replace e:=e.to (⟨Bx,86,dw (sl.getD x.1 aa)⟩::[⟨za,141,[qS (sB F) l.length l.length]⟩,⟨F,4,(j).flatMap dN⟩,⟨V,50,[iV 0,sZ,sZ]⟩,⟨Q,50,[iV inp,qS A ((l).length) c,qS O ((os).length) d]⟩]) [];refine IP ?_;intro a_ W;exact ⟨h1_,Bx,bm,e,u_.gr,W.to _ kR⟩
  case bdy_ =>
    intro l_ bb x j W_ hh_ Bx S cm e;obtain ⟨S,H⟩:=S;have c0:=x.2;have cy:=hSt x.1 x.2;replace e:=e.add (K:=fun B=>Gw hh_ B) (Gw.refl _) (fun _ _ u x=>x.trans u);replace e:=e.to [⟨Bx,86,sC (sl.getD x.1 aa)⟩,⟨za,141,[qS (sB F) l.length l.length]⟩,⟨F,4,(j).flatMap dN⟩,⟨V,50,[iV 0,sZ,sZ]⟩,⟨Q,50,[iV inp,qS A ((l).length) c,qS O ((os).length) d]⟩] [];refine CGr.block (CGr.seq (vL (nf e [.o (qS (sB F) l.length l.length) 1 0 1,.c] (F8 41 (sB F) l.length l.length 1 (x.1:Nat) x.1 rfl (HX 42 2 j dN 1 false x.1 (.bool ((j).getD x.1 false)) e oM ?_)))))
    rcases qh ((j).getD x.1 false) with zn|zn
    .
     refine sY 43 zn (rE 44 (rE 45 (rE 46 (rE 47 (nf e [.v qF] (vp (qK (CGr.skipN (vL (nf e [.o (qS (sB F) l.length l.length) 1 0 1,.c] (F8 55 (sB F) l.length l.length 1 (x.1:Nat) x.1 rfl (HX 56 2 j dN 1 false x.1 (.bool ((j).getD x.1 false)) e oM ?_))))))))))))
     rcases qh ((j).getD x.1 false) with zo|zo
     .
      refine sY 57 zo (rE 58 (rE 59 (rE 60 (rE 61 (nf e [.v qF] (vp (qK (CGr.skip ?_))))))));intro a_ W;have C:Mor j j x.1:=by first|exact Mor.refl _ _|exact (Mor.refl _ _).set oM oM|exact ((Mor.refl _ _).set oM oM).set oM oM
      exact ⟨_,j,[⟨Bx,86,sC (sl.getD x.1 aa)⟩],_,e,e.f.1,S,H.step C (fun B=>by first|exact absurd (B.symm.trans (show _=false by assumption)) kD|exact ⟨fun I=>by first|exact absurd I oM|(refine cI ?_;omega)|(refine kI (cI ?_);omega),fun I=>by first|exact absurd I oM|(refine cI ?_;omega)|(refine cI ?_;rw[JJ];omega)⟩|(exfalso;simp_all;done))⟩
     refine sY 57 zo (nf e [.v (pB Bx),.o (iV ((sl.getD x.1 aa).op)) 0 0 1] (HV 60 e (d8 ((sl.getD x.1 aa).op) _ _ e.g) ?_));rintro _ _ _ e rfl;cases zg:(decide ((1:Int)<(aK ((sl.getD x.1 aa).op):Int)))
     .
      have zB:=oF zg;refine sY 61 zg (nf e [.v qF] (vp (qK (CGr.skip ?_))));intro a_ W;have C:Mor j j x.1:=by first|exact Mor.refl _ _|exact (Mor.refl _ _).set oM oM|exact ((Mor.refl _ _).set oM oM).set oM oM
      exact ⟨_,j,[⟨Bx,86,sC (sl.getD x.1 aa)⟩],_,e,e.f.1,S,H.step C (fun B=>by first|exact absurd (B.symm.trans (show _=false by assumption)) kD|exact ⟨fun I=>by first|exact absurd I oM|(refine cI ?_;omega)|(refine kI (cI ?_);omega),fun I=>by first|exact absurd I oM|(refine cI ?_;omega)|(refine cI ?_;rw[JJ];omega)⟩|(exfalso;simp_all;done))⟩
     have zB:=oT zg;refine sY 61 zg (nf e [.v qT] (vp (E5 (CGr.listed (nf e [.o (qS (sB F) l.length l.length) 1 0 1,.v (qP Bx 2),.o (iV ((sl.getD x.1 aa).b)) 0 2 1] (F8 66 (sB F) l.length l.length 1 ((sl.getD x.1 aa).b) ((sl.getD x.1 aa).b.toNat) rfl (II 2 j dN 1 ((sl.getD x.1 aa).b.toNat) true e oM (fun _ e=>?_))))))));have zS:((j).set ((sl.getD x.1 aa).b.toNat) true).length=l.length:=by rw[JJ];exact S
     replace e:=e.to [⟨Bx,86,sC (sl.getD x.1 aa)⟩,⟨za,141,[qS (sB F) l.length l.length]⟩,⟨F,4,((j).set ((sl.getD x.1 aa).b.toNat) true).flatMap dN⟩,⟨V,50,[iV 0,sZ,sZ]⟩,⟨Q,50,[iV inp,qS A ((l).length) c,qS O ((os).length) d]⟩] [];refine IP ?_;intro a_ W;have C:Mor j ((j).set ((sl.getD x.1 aa).b.toNat) true) x.1:=by first|exact Mor.refl _ _|exact (Mor.refl _ _).set oM oM|exact ((Mor.refl _ _).set oM oM).set oM oM
     exact ⟨_,((j).set ((sl.getD x.1 aa).b.toNat) true),[⟨Bx,86,sC (sl.getD x.1 aa)⟩],_,e,e.f.1,zS,H.step C (fun B=>by first|exact absurd (B.symm.trans (show _=false by assumption)) kD|exact ⟨fun I=>by first|exact absurd I oM|(refine cI ?_;omega)|(refine kI (cI ?_);omega),fun I=>by first|exact absurd I oM|(refine cI ?_;omega)|(refine cI ?_;rw[JJ];omega)⟩|(exfalso;simp_all;done))⟩
    refine sY 43 zn (nf e [.v (pB Bx),.o (iV ((sl.getD x.1 aa).op)) 0 0 1] (HV 46 e (d8 ((sl.getD x.1 aa).op) _ _ e.g) ?_));rintro _ _ _ e rfl;cases zi:(decide ((0:Int)<(aK ((sl.getD x.1 aa).op):Int)))
    .
     have zD:=oF zi;refine sY 47 zi (nf e [.v qF] (vp (qK (CGr.skipN (vL (nf e [.o (qS (sB F) l.length l.length) 1 0 1,.c] (F8 55 (sB F) l.length l.length 1 (x.1:Nat) x.1 rfl (HX 56 2 j dN 1 false x.1 (.bool ((j).getD x.1 false)) e oM ?_))))))))
     rcases qh ((j).getD x.1 false) with zp|zp
     .
      refine sY 57 zp (rE 58 (rE 59 (rE 60 (rE 61 (nf e [.v qF] (vp (qK (CGr.skip ?_))))))));intro a_ W;have C:Mor j j x.1:=by first|exact Mor.refl _ _|exact (Mor.refl _ _).set oM oM|exact ((Mor.refl _ _).set oM oM).set oM oM
      exact ⟨_,j,[⟨Bx,86,sC (sl.getD x.1 aa)⟩],_,e,e.f.1,S,H.step C (fun B=>by first|exact absurd (B.symm.trans (show _=false by assumption)) kD|exact ⟨fun I=>by first|exact absurd I oM|(refine cI ?_;omega)|(refine kI (cI ?_);omega),fun I=>by first|exact absurd I oM|(refine cI ?_;omega)|(refine cI ?_;rw[JJ];omega)⟩|(exfalso;simp_all;done))⟩
     refine sY 57 zp (nf e [.v (pB Bx),.o (iV ((sl.getD x.1 aa).op)) 0 0 1] (HV 60 e (d8 ((sl.getD x.1 aa).op) _ _ e.g) ?_));rintro _ _ _ e rfl;have ⟨zU,ck⟩:=dF (p:=(1:Int)<(aK ((sl.getD x.1 aa).op):Int)) oM;refine sY 61 zU (nf e [.v qF] (vp (qK (CGr.skip ?_))));intro a_ W;have C:Mor j j x.1:=by first|exact Mor.refl _ _|exact (Mor.refl _ _).set oM oM|exact ((Mor.refl _ _).set oM oM).set oM oM
     exact ⟨_,j,[⟨Bx,86,sC (sl.getD x.1 aa)⟩],_,e,e.f.1,S,H.step C (fun B=>by first|exact absurd (B.symm.trans (show _=false by assumption)) kD|exact ⟨fun I=>by first|exact absurd I oM|(refine cI ?_;omega)|(refine kI (cI ?_);omega),fun I=>by first|exact absurd I oM|(refine cI ?_;omega)|(refine cI ?_;rw[JJ];omega)⟩|(exfalso;simp_all;done))⟩
    have zD:=oT zi;refine sY 47 zi (nf e [.v qT] (vp (E5 (CGr.listed (nf e [.o (qS (sB F) l.length l.length) 1 0 1,.v (qP Bx 1),.o (iV ((sl.getD x.1 aa).a)) 0 1 1] (F8 52 (sB F) l.length l.length 1 ((sl.getD x.1 aa).a) ((sl.getD x.1 aa).a.toNat) rfl (II 2 j dN 1 ((sl.getD x.1 aa).a.toNat) true e oM (fun _ e=>?_))))))));have zq:((j).set ((sl.getD x.1 aa).a.toNat) true).length=l.length:=by rw[JJ];exact S
    replace e:=e.to [⟨Bx,86,sC (sl.getD x.1 aa)⟩,⟨za,141,[qS (sB F) l.length l.length]⟩,⟨F,4,((j).set ((sl.getD x.1 aa).a.toNat) true).flatMap dN⟩,⟨V,50,[iV 0,sZ,sZ]⟩,⟨Q,50,[iV inp,qS A ((l).length) c,qS O ((os).length) d]⟩] [];refine vp (vL (nf e [.o (qS (sB F) l.length l.length) 1 0 1,.c] (F8 55 (sB F) l.length l.length 1 (x.1:Nat) x.1 rfl (HX 56 2 ((j).set ((sl.getD x.1 aa).a.toNat) true) dN 1 false x.1 (.bool (((j).set ((sl.getD x.1 aa).a.toNat) true).getD x.1 false)) e oM ?_))))
    rcases qh (((j).set ((sl.getD x.1 aa).a.toNat) true).getD x.1 false) with zr|zr
    .
     refine sY 57 zr (rE 58 (rE 59 (rE 60 (rE 61 (nf e [.v qF] (vp (qK (CGr.skip ?_))))))));intro a_ W;have C:Mor j ((j).set ((sl.getD x.1 aa).a.toNat) true) x.1:=by first|exact Mor.refl _ _|exact (Mor.refl _ _).set oM oM|exact ((Mor.refl _ _).set oM oM).set oM oM
     exact ⟨_,((j).set ((sl.getD x.1 aa).a.toNat) true),[⟨Bx,86,sC (sl.getD x.1 aa)⟩],_,e,e.f.1,zq,H.step C (fun B=>by first|exact absurd (B.symm.trans (show _=false by assumption)) kD|exact ⟨fun I=>by first|exact absurd I oM|(refine cI ?_;omega)|(refine kI (cI ?_);omega),fun I=>by first|exact absurd I oM|(refine cI ?_;omega)|(refine cI ?_;rw[JJ];omega)⟩|(exfalso;simp_all;done))⟩
    refine sY 57 zr (nf e [.v (pB Bx),.o (iV ((sl.getD x.1 aa).op)) 0 0 1] (HV 60 e (d8 ((sl.getD x.1 aa).op) _ _ e.g) ?_));rintro _ _ _ e rfl;cases zj:(decide ((1:Int)<(aK ((sl.getD x.1 aa).op):Int)))
    .
     have zE:=oF zj;refine sY 61 zj (nf e [.v qF] (vp (qK (CGr.skip ?_))));intro a_ W;have C:Mor j ((j).set ((sl.getD x.1 aa).a.toNat) true) x.1:=by first|exact Mor.refl _ _|exact (Mor.refl _ _).set oM oM|exact ((Mor.refl _ _).set oM oM).set oM oM
     exact ⟨_,((j).set ((sl.getD x.1 aa).a.toNat) true),[⟨Bx,86,sC (sl.getD x.1 aa)⟩],_,e,e.f.1,zq,H.step C (fun B=>by first|exact absurd (B.symm.trans (show _=false by assumption)) kD|exact ⟨fun I=>by first|exact absurd I oM|(refine cI ?_;omega)|(refine kI (cI ?_);omega),fun I=>by first|exact absurd I oM|(refine cI ?_;omega)|(refine cI ?_;rw[JJ];omega)⟩|(exfalso;simp_all;done))⟩
    have zE:=oT zj;refine sY 61 zj (nf e [.v qT] (vp (E5 (CGr.listed (nf e [.o (qS (sB F) l.length l.length) 1 0 1,.v (qP Bx 2),.o (iV ((sl.getD x.1 aa).b)) 0 2 1] (F8 66 (sB F) l.length l.length 1 ((sl.getD x.1 aa).b) ((sl.getD x.1 aa).b.toNat) rfl (II 2 ((j).set ((sl.getD x.1 aa).a.toNat) true) dN 1 ((sl.getD x.1 aa).b.toNat) true e oM (fun _ e=>?_))))))));have zW:(((j).set ((sl.getD x.1 aa).a.toNat) true).set ((sl.getD x.1 aa).b.toNat) true).length=l.length:=by rw[JJ];exact zq
    replace e:=e.to [⟨Bx,86,sC (sl.getD x.1 aa)⟩,⟨za,141,[qS (sB F) l.length l.length]⟩,⟨F,4,(((j).set ((sl.getD x.1 aa).a.toNat) true).set ((sl.getD x.1 aa).b.toNat) true).flatMap dN⟩,⟨V,50,[iV 0,sZ,sZ]⟩,⟨Q,50,[iV inp,qS A ((l).length) c,qS O ((os).length) d]⟩] [];refine IP ?_;intro a_ W;have C:Mor j (((j).set ((sl.getD x.1 aa).a.toNat) true).set ((sl.getD x.1 aa).b.toNat) true) x.1:=by first|exact Mor.refl _ _|exact (Mor.refl _ _).set oM oM|exact ((Mor.refl _ _).set oM oM).set oM oM
    exact ⟨_,(((j).set ((sl.getD x.1 aa).a.toNat) true).set ((sl.getD x.1 aa).b.toNat) true),[⟨Bx,86,sC (sl.getD x.1 aa)⟩],_,e,e.f.1,zW,H.step C (fun B=>by first|exact absurd (B.symm.trans (show _=false by assumption)) kD|exact ⟨fun I=>by first|exact absurd I oM|(refine cI ?_;omega)|(refine kI (cI ?_);omega),fun I=>by first|exact absurd I oM|(refine cI ?_;omega)|(refine cI ?_;rw[JJ];omega)⟩|(exfalso;simp_all;done))⟩
  case beh_ =>
    intro D xs j W_ hh_ hD_ hS_ S e bw cb;obtain ⟨S,H⟩:=S;have Z:=H.2 0 hS_;replace e:=e.add (K:=fun B=>B[D]?=some (.deferred (some []))) cb (fun _ _ u x=>Fj u x);replace e:=e.to [⟨za,141,[qS (sB F) l.length l.length]⟩,⟨F,4,(j).flatMap dN⟩,⟨V,50,[iV 0,sZ,sZ]⟩,⟨Q,50,[iV inp,qS A ((l).length) c,qS O ((os).length) d]⟩] [];refine CG.run (bU [(1000000,nV D),(1,qS (sB U) l.length l.length),(2,qS X l.length l.length),(3,pB Q),(6,pB V),(7,pB za),(22,qS O ((os).length) d),(23,nV ((os).length)),(24,nV i),(25,qF),(35,qS (sB U) l.length l.length),(36,.func (.func 116) #[] #[pB bv])] (ab e [.v (pB Q),.o (iV inp) 3 0 1,.v (.agg #[iV inp,sZ,sZ])] (lA 12 50 ([iV 0,sZ,sZ]) e (fun zb _ _ e=>lP 0 0 ([iV inp,sZ,sZ]) e (fun _ e=>a7 (lL e [.c,.v (nV l.length)] (lK 72 3 l.length 1 8 (iV 0) cj (0:Int) e (fun Y _ yi e=>?_))))))));have ct:(y2 l.length (0:Int)).length=l.length:=by simp
    refine lL e ae (ag (ab e [.c,.v (nV l.length),.v (iV 0)] (be ?_)));replace e:=e.nil 86 9;refine bU _ (CG.loop (fun μ_ Γ w_=>∃ (k:Nat)(tl:List Int)(y:Z9)(z:Nat)(al:List Stp)(B:Hp),μ_=l.length-k/\Γ=[(2,qS X l.length l.length),(3,pB Q),(6,pB V),(7,pB za),(1000000,nV D),(12,pB zb),(13,qS (sB Y) l.length l.length),(73,qS (sB U) l.length l.length),(74,nV l.length),(75,nV k)]/\SS w h w_ B [⟨Y,3,(tl).flatMap cj⟩,⟨zb,50,[iV inp,qS y ((al).length) z,sZ]⟩,⟨za,141,[qS (sB F) l.length l.length]⟩,⟨F,4,(j).flatMap dN⟩,⟨V,50,[iV 0,sZ,sZ]⟩,⟨Q,50,[iV inp,qS A ((l).length) c,qS O ((os).length) d]⟩] [⟨86,9,y,z,(al).length,(al).flatMap dw⟩] [fun B=>B[D]?=some (.deferred (some [])),fun B=>Seg B bv 0 [qS (sB U) l.length l.length],Si X M,fun B=>SlO 9 dw aa B (sB U) sl,Si O os,fun B=>SlO 9 dw aa B A l]/\k<=l.length/\tl.length=l.length/\al.length<=k/\CmI sl j k tl al) _ ⟨0,y2 l.length 0,none,0,[],yi,rfl,rfl,e.to _ _,JU _,(by simp),(by simp),CmI.zero⟩ ?_);rintro _ _ _ ⟨k,tl,y,z,al,yj,cz,rfl,e,hk,htl,hal,hC⟩;refine aD ?_;cases zk:(decide ((k:Int)<(l.length:Int)))
    .
     have zG:=oF zk;refine lB 76 zk (ag (dv (CG.exit ?_)))
     show CG _ _ _ _ _ _ _ _
     refine cQ (ab e [.v (qP Q 2),.o (qS O ((os).length) d) 5 2 1,.v (nV ((os).length)),.v (iV 0)] (be ?_));replace e:=e.nil 3 1;refine bU _ (CG.loop (fun μ_ Γ w_=>∃ (m:Nat)(L:Z9)(J:Nat)(ol:List Int)(B:Hp),μ_=os.length-m/\Γ=[(2,qS X l.length l.length),(6,pB V),(1000000,nV D),(12,pB zb),(13,qS (sB Y) l.length l.length),(119,qS O ((os).length) d),(120,nV ((os).length)),(121,nV m)]/\SS w h w_ B [⟨Y,3,(tl).flatMap cj⟩,⟨zb,50,[iV inp,qS y ((al).length) z,qS L ((ol).length) J]⟩,⟨za,141,[qS (sB F) l.length l.length]⟩,⟨F,4,(j).flatMap dN⟩,⟨V,50,[iV 0,sZ,sZ]⟩,⟨Q,50,[iV inp,qS A ((l).length) c,qS O ((os).length) d]⟩] [⟨3,1,L,J,(ol).length,(ol).flatMap cj⟩,⟨86,9,y,z,(al).length,(al).flatMap dw⟩] [fun B=>B[D]?=some (.deferred (some [])),fun B=>Seg B bv 0 [qS (sB U) l.length l.length],Si X M,fun B=>SlO 9 dw aa B (sB U) sl,Si O os,fun B=>SlO 9 dw aa B A l]/\m<=os.length/\ol.length=m/\(∀ t,t<m->ol.getD t 0=tl.getD (M.getD (os.getD t 0).toNat 0).toNat 0)) _ ⟨0,none,0,[],yj,rfl,rfl,e.to _ _,JU _,(by simp),(fun t ht=>absurd ht (K6 t))⟩ ?_);rintro _ _ _ ⟨m,L,J,ol,_,c2,rfl,e,hm_,b3,hot⟩;refine aD ?_;cases zl:(decide ((m:Int)<(((os).length:Nat):Int)))
     .
      have zH:=oF zl;refine lB 122 zl (ag (dv (CG.exit ?_)))
      show CG _ _ _ _ _ _ _ _
      refine ab e [.o (.agg #[iV inp,qS y ((al).length) z,qS L ((ol).length) J]) 1 0 3] (lP 4 0 ([iV inp,qS y ((al).length) z,qS L ((ol).length) J]) e (fun _ e=>lN (kX ?_)));obtain ⟨cx,e,-⟩:=e.pubr (l:=ol) (f:=cj) (sz:=1) (ty:=3) (A:=L) (c:=J) 0 (0:Int) (fun _=>rfl);obtain ⟨cq,e,-⟩:=e.pubr (l:=al) (f:=dw) (sz:=9) (ty:=86) (A:=y) (c:=z) 0 aa (fun _=>rfl);have bf:=e.f.r.1;have bm:=bw.size;have b2:k=sl.length:=by omega
      have bt:m=os.length:=by omega
      rw[b2] at hC
      rw[bt] at hot
      exact e.retT D (e6 b5 hD_) bf [(4,0,3)] (.agg #[iV inp,qS y ((al).length) z,qS L ((ol).length) J]) ⟨_,_,al,_,_,ol,rfl,e.f.1.setD bf,e.f.2.1.setD bf,j,tl,hC,fun j_ hj_ B=>Z j_ (JU _) oM B,H.1,by omega,hot,by omega⟩
     have zH:=oT zl;refine lB 122 zl (ag (bT (cK (cQ (kZ (aD (lX 123 O ((os).length) d 1 (m:Nat) m ((e.f.q.1).ok oM) ?_)))))));refine lH 124 (iV (os.getD m 0)) e ((e.f.q.1).el m oM) (lL e ae (lN (CG.region ⟨((Value.slice L ((ol).length) J).ownBlock.toList),none⟩ 11 [] mixed kR e.g ao (e.ro_lt 0 (ty:=3) (sz:=1) (A:=L) (c:=J) (m:=(ol).length) (cs:=(ol).flatMap cj)) ?_)));have cf:=hOk m oM;have cd:=hBy (os.getD m 0).toNat oM;refine eV 0 125 (qP zb 2) (eO 1 126 [(1,2,1)] (qS L ((ol).length) J) e ?_ (hM:=fun p hp=>by obtain rfl:=vl.1 hp;exact e.ro_ne 1 0 (ty:=3) (sz:=1) (A:=L) (c:=J) (m:=(ol).length) (cs:=(ol).flatMap cj)));refine eV 2 127 (qS (sB Y) l.length l.length) (eV 3 128 (qS X l.length l.length) (eV 4 129 (iV (os.getD m 0)) (eX 5 130 X l.length l.length 1 (os.getD m 0) ((os.getD m 0).toNat) ((e.f.r.1).ok oM) (eH 6 131 (iV (M.getD ((os.getD m 0).toNat) 0)) e ((e.f.r.1).el ((os.getD m 0).toNat) oM) ?_ (hM:=e.ro_jk 0 (ty:=3) (sz:=1) (A:=L) (c:=J) (m:=(ol).length) (cs:=(ol).flatMap cj))))));refine eX 7 132 (sB Y) l.length l.length 1 (M.getD ((os.getD m 0).toNat) 0) ((M.getD (os.getD m 0).toNat 0).toNat) rfl (eQ 8 133 0 tl cj 1 0 ((M.getD (os.getD m 0).toNat 0).toNat) (iV ((tl).getD ((M.getD (os.getD m 0).toNat 0).toNat) 0)) e oM ?_ (hM:=e.ro_ne 0 0 (ty:=3) (sz:=1) (A:=L) (c:=J) (m:=(ol).length) (cs:=(ol).flatMap cj)));refine eR 9 134 3 1 ([iV ((tl).getD ((M.getD (os.getD m 0).toNat 0).toNat) 0)]) e (fun yk _ _ e=>eY 10 135 0 3 1 J L ol cj ((tl).getD ((M.getD (os.getD m 0).toNat 0).toNat) 0) 8 yk (iV 0) e (fun _ f_=>f_.1) (fun b hb=>Option.mem_toList.2 hb) (fun zN zP _ _ e=>ce e (fun _ yl e=>tV 11 136 (qP zb 2) (tP 12 1 2 ([qS zN ((ol++[(tl).getD ((M.getD (os.getD m 0).toNat 0).toNat) 0]).length) zP]) e (fun _ e=>tN (kQ (bM 137 ((m:Nat)+1) (m+1) ?_)))))));refine lL e ae (lD ?_);intro a_ W;replace e:=e.tl;refine ⟨_,_,?_,⟨m+1,zN,zP,ol++[(tl).getD ((M.getD (os.getD m 0).toNat 0).toNat) 0],yl,rfl,rfl,e.to _ _,oM,(by simp;omega),(Cp b3 hot)⟩,W.to _ kR⟩
     omega
    have zG:=oT zk;refine lB 76 zk (ag (bT (cK (cQ (kZ (ab e ae (lX 78 (sB U) l.length l.length 9 (k:Nat) k ((e.f.r.2.1).ok oM) ?_)))))));refine lH 79 (sX (sl.getD k aa)) e ((e.f.r.2.1).el k oM) (lA 15 86 ([iV 0,iV 0,iV 0,iV 0,qF,uV 0,eS,uV 0,eS]) e (fun zd _ ym e=>lL e ae (lP 0 0 (sC (sl.getD k aa)) e (fun _ e=>ag (ab e [.o (qS (sB F) l.length l.length) 3 0 1,.c] (lX 82 (sB F) l.length l.length 1 (k:Nat) k rfl ?_))))));refine lQ 83 4 j dN 1 false k (.bool ((j).getD k false)) e oM ?_;cases zs:(!((j).getD k false))
    .
     refine lB 84 zs (ai (cK (cQ (ab e [.v (pB zd),.o (iV ((sl.getD k aa).op)) 0 0 1] (ak 87 e (d8 ((sl.getD k aa).op) _ _ e.g) (fun _ _ e=>?_))))));cases zm:(decide ((0:Int)<(aK ((sl.getD k aa).op):Int)))
     .
      have zI:=oF zm;refine lB 88 zm (ai (cK (cQ (ab e [.v (pB zd),.o (iV ((sl.getD k aa).op)) 0 0 1] (ak 97 e (d8 ((sl.getD k aa).op) _ _ e.g) (fun _ _ e=>?_))))));have ⟨zX,cl⟩:=dF (p:=(1:Int)<(aK ((sl.getD k aa).op):Int)) oM;refine lB 98 zX (ai (cK (ab e [.c,.c,.v (qP zb 1),.o (qS y ((al).length) z) 2 1 1,.v (nV ((al).length))] (lX 110 (sB Y) l.length l.length 1 (k:Nat) k rfl ?_))));refine lW 1 tl cj 1 k ((al).length:Nat) e oM (fun _ e=>?_);have ya:((tl).set k ((al).length:Nat)).length=l.length:=by rw[JJ];exact htl
      replace e:=e.to [⟨zd,86,sC (sl.getD k aa)⟩,⟨Y,3,((tl).set k ((al).length:Nat)).flatMap cj⟩,⟨zb,50,[iV inp,qS y ((al).length) z,sZ]⟩,⟨za,141,[qS (sB F) l.length l.length]⟩,⟨F,4,(j).flatMap dN⟩,⟨V,50,[iV 0,sZ,sZ]⟩,⟨Q,50,[iV inp,qS A ((l).length) c,qS O ((os).length) d]⟩] [⟨86,9,y,z,(al).length,(al).flatMap dw⟩];refine lN (kQ (lL e [.v (qP zb 1),.o (qS y ((al).length) z) 2 1 1,.o (sX (sl.getD k aa)) 0 0 9] (lR 114 86 1 (sC (sl.getD k aa)) e (fun yn _ _ e=>lY 115 0 86 9 z y al dw (⟨(sl.getD k aa).op,(sl.getD k aa).a,(sl.getD k aa).b,(sl.getD k aa).n,(sl.getD k aa).q⟩:Stp) 88 yn (.agg #[iV 0,iV 0,iV 0,iV 0,qF,uV 0,eS,uV 0,eS]) e e.f.1 (fun zQ zR _ yo e=>lL e [.v (qP zb 1)] (lP 2 1 ([qS zQ ((al++[(⟨(sl.getD k aa).op,(sl.getD k aa).a,(sl.getD k aa).b,(sl.getD k aa).n,(sl.getD k aa).q⟩:Stp)]).length) zR]) e (fun _ e=>lN (bU [(2,qS X l.length l.length),(3,pB Q),(6,pB V),(7,pB za),(1000000,nV D),(12,pB zb),(13,qS (sB Y) l.length l.length),(73,qS (sB U) l.length l.length),(74,nV l.length),(75,nV k)] ?_))))))));refine kQ (bM 117 ((k:Nat)+1) (k+1) ?_);refine lL e ae (lD ?_);intro a_ W;replace e:=e.tl;replace e:=e.drop 1 0;refine ⟨_,_,?_,⟨k+1,(tl).set k ((al).length:Nat),zQ,zR,al++[(⟨(sl.getD k aa).op,(sl.getD k aa).a,(sl.getD k aa).b,(sl.getD k aa).n,(sl.getD k aa).q⟩:Stp)],yo,rfl,rfl,e.to _ _,oM,ya,(by (try simp only[yR,K8]);omega),(by first|exact hC.skip (Cf aM)|exact hC.skip aM|exact hC.step (hSt.fin oM) (by first|exact mE aM|assumption) (Z k oM oM (by first|exact mE aM|assumption)) oM (by unfold gH;first|rw[if_neg oM,if_neg oM]|rw[if_pos oM,if_neg oM]|rw[if_pos oM,if_pos oM]))⟩,W.to _ kR⟩
      omega
     have zI:=oT zm;refine lB 88 zm (au (kQ ?_));have cp:=hSt k oM;refine lL e [.c,.v (qP zd 1),.o (iV ((sl.getD k aa).a)) 0 1 1] (lX 92 (sB Y) l.length l.length 1 ((sl.getD k aa).a) ((sl.getD k aa).a.toNat) rfl ?_);refine lQ 93 1 tl cj 1 0 ((sl.getD k aa).a.toNat) (iV ((tl).getD ((sl.getD k aa).a.toNat) 0)) e oM (lL e [.v (qP zd 1)] (lP 0 1 ([iV ((tl).getD ((sl.getD k aa).a.toNat) 0)]) e (fun _ e=>ag (ab e [.v (pB zd),.o (iV ((sl.getD k aa).op)) 0 0 1] (ak 97 e (d8 ((sl.getD k aa).op) _ _ e.g) (fun _ _ e=>?_))))));cases ze:(decide ((1:Int)<(aK ((sl.getD k aa).op):Int)))
     .
      have zt:=oF ze;refine lB 98 ze (ai (cK (ab e [.c,.c,.v (qP zb 1),.o (qS y ((al).length) z) 2 1 1,.v (nV ((al).length))] (lX 110 (sB Y) l.length l.length 1 (k:Nat) k rfl ?_))));refine lW 1 tl cj 1 k ((al).length:Nat) e oM (fun _ e=>?_);have zJ:((tl).set k ((al).length:Nat)).length=l.length:=by rw[JJ];exact htl
      replace e:=e.to [⟨zd,86,sG ((sl.getD k aa).op) ((tl).getD ((sl.getD k aa).a.toNat) 0) ((sl.getD k aa).b) ((sl.getD k aa).n) ((sl.getD k aa).q)⟩,⟨Y,3,((tl).set k ((al).length:Nat)).flatMap cj⟩,⟨zb,50,[iV inp,qS y ((al).length) z,sZ]⟩,⟨za,141,[qS (sB F) l.length l.length]⟩,⟨F,4,(j).flatMap dN⟩,⟨V,50,[iV 0,sZ,sZ]⟩,⟨Q,50,[iV inp,qS A ((l).length) c,qS O ((os).length) d]⟩] [⟨86,9,y,z,(al).length,(al).flatMap dw⟩];refine lN (bU [(2,qS X l.length l.length),(3,pB Q),(6,pB V),(7,pB za),(1000000,nV D),(12,pB zb),(13,qS (sB Y) l.length l.length),(73,qS (sB U) l.length l.length),(74,nV l.length),(75,nV k),(15,pB zd)] ?_);refine kQ (lL e [.v (qP zb 1),.o (qS y ((al).length) z) 2 1 1,.o (sW ((sl.getD k aa).op) ((tl).getD ((sl.getD k aa).a.toNat) 0) ((sl.getD k aa).b) ((sl.getD k aa).n) ((sl.getD k aa).q)) 0 0 9] (lR 114 86 1 (sG ((sl.getD k aa).op) ((tl).getD ((sl.getD k aa).a.toNat) 0) ((sl.getD k aa).b) ((sl.getD k aa).n) ((sl.getD k aa).q)) e (fun yb _ _ e=>lY 115 0 86 9 z y al dw (⟨(sl.getD k aa).op,(tl).getD ((sl.getD k aa).a.toNat) 0,(sl.getD k aa).b,(sl.getD k aa).n,(sl.getD k aa).q⟩:Stp) 88 yb (.agg #[iV 0,iV 0,iV 0,iV 0,qF,uV 0,eS,uV 0,eS]) e e.f.1 (fun zu zv _ yc e=>lL e [.v (qP zb 1)] (lP 2 1 ([qS zu ((al++[(⟨(sl.getD k aa).op,(tl).getD ((sl.getD k aa).a.toNat) 0,(sl.getD k aa).b,(sl.getD k aa).n,(sl.getD k aa).q⟩:Stp)]).length) zv]) e (fun _ e=>lN (kQ (bM 117 ((k:Nat)+1) (k+1) ?_))))))));refine lL e ae (lD ?_);intro a_ W;replace e:=e.tl;replace e:=e.drop 1 0;refine ⟨_,_,?_,⟨k+1,(tl).set k ((al).length:Nat),zu,zv,al++[(⟨(sl.getD k aa).op,(tl).getD ((sl.getD k aa).a.toNat) 0,(sl.getD k aa).b,(sl.getD k aa).n,(sl.getD k aa).q⟩:Stp)],yc,rfl,rfl,e.to _ _,oM,zJ,(by (try simp only[yR,K8]);omega),(by first|exact hC.skip (Cf aM)|exact hC.skip aM|exact hC.step (hSt.fin oM) (by first|exact mE aM|assumption) (Z k oM oM (by first|exact mE aM|assumption)) oM (by unfold gH;first|rw[if_neg oM,if_neg oM]|rw[if_pos oM,if_neg oM]|rw[if_pos oM,if_pos oM]))⟩,W.to _ kR⟩
      omega
     have zt:=oT ze;refine lB 98 ze (au (kQ ?_));have ch:=hSt k oM;refine lL e [.c,.v (qP zd 2),.o (iV ((sl.getD k aa).b)) 0 2 1] (lX 102 (sB Y) l.length l.length 1 ((sl.getD k aa).b) ((sl.getD k aa).b.toNat) rfl ?_);refine lQ 103 1 tl cj 1 0 ((sl.getD k aa).b.toNat) (iV ((tl).getD ((sl.getD k aa).b.toNat) 0)) e oM (lL e [.v (qP zd 2)] (lP 0 2 ([iV ((tl).getD ((sl.getD k aa).b.toNat) 0)]) e (fun _ e=>lN (bU [(2,qS X l.length l.length),(3,pB Q),(6,pB V),(7,pB za),(1000000,nV D),(12,pB zb),(13,qS (sB Y) l.length l.length),(73,qS (sB U) l.length l.length),(74,nV l.length),(75,nV k),(15,pB zd),(14,nV k)] ?_))));refine ab e [.c,.c,.v (qP zb 1),.o (qS y ((al).length) z) 2 1 1,.v (nV ((al).length))] (lX 110 (sB Y) l.length l.length 1 (k:Nat) k rfl ?_);refine lW 1 tl cj 1 k ((al).length:Nat) e oM (fun _ e=>?_);have zK:((tl).set k ((al).length:Nat)).length=l.length:=by rw[JJ];exact htl
     replace e:=e.to [⟨zd,86,sG ((sl.getD k aa).op) ((tl).getD ((sl.getD k aa).a.toNat) 0) ((tl).getD ((sl.getD k aa).b.toNat) 0) ((sl.getD k aa).n) ((sl.getD k aa).q)⟩,⟨Y,3,((tl).set k ((al).length:Nat)).flatMap cj⟩,⟨zb,50,[iV inp,qS y ((al).length) z,sZ]⟩,⟨za,141,[qS (sB F) l.length l.length]⟩,⟨F,4,(j).flatMap dN⟩,⟨V,50,[iV 0,sZ,sZ]⟩,⟨Q,50,[iV inp,qS A ((l).length) c,qS O ((os).length) d]⟩] [⟨86,9,y,z,(al).length,(al).flatMap dw⟩];refine lN (kQ (lL e [.v (qP zb 1),.o (qS y ((al).length) z) 2 1 1,.o (sW ((sl.getD k aa).op) ((tl).getD ((sl.getD k aa).a.toNat) 0) ((tl).getD ((sl.getD k aa).b.toNat) 0) ((sl.getD k aa).n) ((sl.getD k aa).q)) 0 0 9] (lR 114 86 1 (sG ((sl.getD k aa).op) ((tl).getD ((sl.getD k aa).a.toNat) 0) ((tl).getD ((sl.getD k aa).b.toNat) 0) ((sl.getD k aa).n) ((sl.getD k aa).q)) e (fun yd _ _ e=>lY 115 0 86 9 z y al dw (⟨(sl.getD k aa).op,(tl).getD ((sl.getD k aa).a.toNat) 0,(tl).getD ((sl.getD k aa).b.toNat) 0,(sl.getD k aa).n,(sl.getD k aa).q⟩:Stp) 88 yd (.agg #[iV 0,iV 0,iV 0,iV 0,qF,uV 0,eS,uV 0,eS]) e e.f.1 (fun zw zx _ ye e=>lL e [.v (qP zb 1)] (lP 2 1 ([qS zw ((al++[(⟨(sl.getD k aa).op,(tl).getD ((sl.getD k aa).a.toNat) 0,(tl).getD ((sl.getD k aa).b.toNat) 0,(sl.getD k aa).n,(sl.getD k aa).q⟩:Stp)]).length) zx]) e (fun _ e=>lN (kQ (bM 117 ((k:Nat)+1) (k+1) ?_)))))))));refine lL e ae (lD ?_);intro a_ W;replace e:=e.tl;replace e:=e.drop 1 0;refine ⟨_,_,?_,⟨k+1,(tl).set k ((al).length:Nat),zw,zx,al++[(⟨(sl.getD k aa).op,(tl).getD ((sl.getD k aa).a.toNat) 0,(tl).getD ((sl.getD k aa).b.toNat) 0,(sl.getD k aa).n,(sl.getD k aa).q⟩:Stp)],ye,rfl,rfl,e.to _ _,oM,zK,(by (try simp only[yR,K8]);omega),(by first|exact hC.skip (Cf aM)|exact hC.skip aM|exact hC.step (hSt.fin oM) (by first|exact mE aM|assumption) (Z k oM oM (by first|exact mE aM|assumption)) oM (by unfold gH;first|rw[if_neg oM,if_neg oM]|rw[if_pos oM,if_neg oM]|rw[if_pos oM,if_pos oM]))⟩,W.to _ kR⟩
     omega
    refine lB 84 zs (au (CG.exit ?_))
    show CG _ _ _ _ _ _ _ _
    refine kQ (bM 117 ((k:Nat)+1) (k+1) ?_);refine lL e ae (lD ?_);intro a_ W;replace e:=e.drop 1 0;refine ⟨_,_,?_,⟨k+1,tl,y,z,al,ym,rfl,rfl,e.to _ _,oM,htl,(by (try simp only[yR,K8]);omega),(by first|exact hC.skip (Cf aM)|exact hC.skip aM|exact hC.step (hSt.fin oM) (by first|exact mE aM|assumption) (Z k oM oM (by first|exact mE aM|assumption)) oM (by unfold gH;first|rw[if_neg oM,if_neg oM]|rw[if_pos oM,if_neg oM]|rw[if_pos oM,if_pos oM]))⟩,W.to _ kR⟩
    omega
 have zA:=oT zf;refine lB 25 zf (ag (bT (cK (cQ (kZ (aD (lX 26 O ((os).length) d 1 (i:Nat) i ((e.f.r.1).ok oM) ?_)))))));refine lH 27 (iV (os.getD i 0)) e ((e.f.r.1).el i oM) (lL e ae (lN (cR 5 [] mixed e ao ?_)));have cf:=hOk i oM;have cd:=hBy (os.getD i 0).toNat oM;refine eO 0 28 [(0,0,1)] (qS (sB F) l.length l.length) e (eV 1 29 (qS X l.length l.length) (eV 2 30 (iV (os.getD i 0)) (eX 3 31 X l.length l.length 1 (os.getD i 0) ((os.getD i 0).toNat) ((e.f.1).ok oM) (eH 4 32 (iV (M.getD ((os.getD i 0).toNat) 0)) e ((e.f.1).el ((os.getD i 0).toNat) oM) (ce e (fun _ yf e=>tX 5 33 (sB F) l.length l.length 1 (M.getD ((os.getD i 0).toNat) 0) ((M.getD (os.getD i 0).toNat 0).toNat) rfl (tW 6 1 nl dN 1 ((M.getD (os.getD i 0).toNat 0).toNat) true e oM (fun _ e=>?_))))))));have zL:((nl).set ((M.getD (os.getD i 0).toNat 0).toNat) true).length=l.length:=by rw[JJ];exact hnl
 replace e:=e.to [⟨za,141,[qS (sB F) l.length l.length]⟩,⟨F,4,((nl).set ((M.getD (os.getD i 0).toNat 0).toNat) true).flatMap dN⟩,⟨V,50,[iV 0,sZ,sZ]⟩,⟨Q,50,[iV inp,qS A ((l).length) c,qS O ((os).length) d]⟩] [];refine tN (kQ (bM 34 ((i:Nat)+1) (i+1) ?_));refine lL e ae (lD ?_);intro a_ W;refine ⟨_,_,?_,⟨i+1,(nl).set ((M.getD (os.getD i 0).toNat 0).toNat) true,yf,rfl,rfl,e.to _ _,oM,zL,(hno.step oM)⟩,W.to _ kR⟩
 omega
def CC (P:Program)(kt:TypeId)(Q:Value->Value->Prop)(D:Value->Prop)(w:World)(b:Nat):Prop :=
  ∃ es clk,w.heap[b]?=some (.map es clk)/\(∀ e∈es.toList,(∃ l,keyOf P kt e.key=some l)/\Q e.key e.val)/\∀ x,D x->∃ e∈es.toList,e.key=x
structure MapD (P:Program) (kt:TypeId) (Q:Value->Value->Prop) (D:Value->Prop) (w1:World) (h1:Hp) (b:Nat):Prop where
  jk:h1[b]?=some bc
  ex:CC P kt Q D w1 b
theorem MapD.imp {P:Program}{kt:TypeId}{Q c:Value->Value->Prop}{D D':Value->Prop}{w1:World}{h1:Hp}{b:Nat}(m:MapD P kt Q D w1 h1 b)(f:∀ k v,Q k v->c k v)(g:∀ k,D' k->D k):MapD P kt c D' w1 h1 b:=by
 obtain ⟨j,a,h,k,d⟩:=m.ex;exact ⟨m.jk,j,a,h,fun e i=>⟨(k e i).1,f _ _ (k e i).2⟩,fun x l=>d x (g x l)⟩
section laws
variable {P:Program}{n:Nat}{N R:Po}{X:Nat->Po}{ops:Array Oper}{k:Nat}{Γ:cH}{w:World}{h:Hp}{w0 w1:World}{h0 h1:Hp}{B:List Bx}{Rs:List Rw}{F:List (Hp->Prop)}
theorem Ib (kt:TypeId)(Q:Value->Value->Prop)(t:Nat)(s:SS w0 h0 w h B [] F)(H:∀ b w' h',SS w0 h0 w' h' B [] []->h0.size<=b->(∀ x∈B,x.b≠b)->SS w' h' w' h' [] [] F->MapD P kt Q (fun _=>False) w' h' b->LG P n N R X ops (k+1) ((t,.map (some b))::Γ) w')(c:cL ops Γ k t n=true:=by kernel_rfl)
  (hr:(execOp (ev Γ) (am ops k)).run P w=.ok (.value (.map (some w.heap.size))) (w.alloc (.map #[] 0)):=by kernel_rfl):LG P n N R X ops k Γ w:=by
 have u:Up w h (w.alloc (.map #[] 0)) (h.push bc):=Up.allocAny s.g _ _ (.inr rfl);refine LG.val t _ _ (bF c).1 (bF c).2 hr (H _ _ _ (s.step u).bare (by rw[s.g.size];exact s.st.up.gr.size) (fun x a e=>by have:=aF (s.st.jk x a);have:=s.g.size;omega) (s.step u).from ⟨?_,#[],0,?_,fun e d=>by simp at d,fun x a=>a.elim⟩)
 ·rw[s.g.size];exact gp
 ·rw[heap_alloc];exact gp
theorem uF {w:World}{mty kt et:TypeId}{b:Nat}{Q:Value->Value->Prop}{D:Value->Prop}{key z:Value}(ok:Bool)(K:KeyLaw P kt)(i:P.underlying mty=some (.map kt et))(hz:(zeroValue et).run P w=.ok z w)(hk:∃ l,keyOf P kt key=some l)
  (d:CC P kt Q D w b):∃ v found,((found=true/\Q key v/\CC P kt Q (fun x=>x=key) w b)\/(found=false/\v=z/\¬D key))/\(Instr.lookup mty (.map (some b)) key ok).run P w=.ok (if ok then .tuple #[v,.bool found] else v) w:=by
 obtain ⟨h,f,d,a,hd⟩:=d;obtain ⟨l,hk⟩:=hk
 rcases K.find w hk h.toList (fun e c=>(a e c).1) with ⟨h1,h2⟩|⟨j,e0,h1,h2,h3⟩
 ·exact ⟨z,false,.inr ⟨rfl,rfl,fun x=>by obtain ⟨e,c,k⟩:=hd _ x;exact h2 e c k⟩,by simp[Instr.lookup,run_underlying i,MapKept.run_getObj_map d,K.check w _ hk,h1,hz,Result.andThen]⟩
 ·have c:=LD h2
  exact ⟨e0.val,true,.inl ⟨rfl,h3▸(a e0 c).2,h,f,d,a,fun x o=>⟨e0,c,h3.trans o.symm⟩⟩,by simp[Instr.lookup,run_underlying i,MapKept.run_getObj_map d,K.check w _ hk,h1,Result.andThen]⟩
theorem oz {mty kt et:TypeId}{b:Nat}{Q:Value->Value->Prop}{D:Value->Prop}(t:Nat)(key z:Value)(ok:Bool)(s:SS w1 h1 w h B Rs F)(m:MapD P kt Q D w1 h1 b)(K:KeyLaw P kt)(hk:∃ l,keyOf P kt key=some l)(H:∀ v found,((found=true/\Q key v/\MapD P kt Q (fun x=>x=key) w1 h1 b)\/(found=false/\v=z/\¬D key))->LG P n N R X ops (k+1) ((t,if ok then .tuple #[v,.bool found] else v)::Γ) w)(i:cL ops Γ k t n=true:=by kernel_rfl)
  (j:execOp (ev Γ) (am ops k)=(do pure (.value (<-Instr.lookup mty (.map (some b)) key ok))):=by kernel_rfl)(o:P.underlying mty=some (.map kt et):=by kernel_rfl)(hz:(zeroValue et).run P w=.ok z w:=by kernel_rfl):LG P n N R X ops k Γ w:=by
 obtain ⟨d,a,f,c,hd⟩:=m.ex;have e:w.heap[b]?=some (.map d a):=(s.st.up.ext.block b (by rw[s.g0.size];exact aF m.jk)).trans f;obtain ⟨v,found,p,hr⟩:=uF ok K o hz hk ⟨d,a,e,c,hd⟩;refine LG.val t _ w (bF i).1 (bF i).2 ?_ (H v found ?_)
 ·rw[j];simp[hr,Result.andThen]
 ·rcases p with ⟨q1,q2,es2,clk2,q3,q4,q5⟩|q
  ·rw[e] at q3
   injection q3 with q3;injection q3 with q6 q7
   subst q6 q7;exact .inl ⟨q1,q2,m.jk,d,a,f,q4,q5⟩
  ·exact .inr q
theorem vH {w:World}{mty kt et:TypeId}{b:Nat}{Q:Value->Value->Prop}{D:Value->Prop}{key val:Value}(K:KeyLaw P kt)(z:P.underlying mty=some (.map kt et))(hk:∃ l,keyOf P kt key=some l)(hv:Q key val)
  (h:CC P kt Q D w b):∃ f k,(∀ e∈f.toList,(∃ l,keyOf P kt e.key=some l)/\Q e.key e.val)/\(∀ x,x=key->∃ e∈f.toList,e.key=x)/\(Instr.mapUpdate mty (.map (some b)) key val).run P w=.ok () { w with heap:=w.heap.setIfInBounds b (.map f k) }:=by
 obtain ⟨o,d,h,a,_⟩:=h;obtain ⟨l,hk⟩:=hk
 rcases K.find w hk o.toList (fun e c=>(a e c).1) with ⟨h1,_⟩|⟨j,e0,h1,h2,h3⟩
 ·refine ⟨o.push ⟨key,val,d⟩,d+1,fun e c=>?_,fun x p=>⟨⟨key,val,d⟩,by simp,p.symm⟩,by simp[Instr.mapUpdate,run_underlying z,MapKept.run_getObj_map h,K.check w false hk,h1,MapKept.run_setObj_map _ h,Result.andThen]⟩
  simp only[Array.toList_push,List.mem_append,vl] at c
  rcases c with c|rfl
  ·exact a e c
  ·exact ⟨⟨l,hk⟩,hv⟩
 ·have u:o[j]?=some e0:=by simpa using h2
  refine ⟨o.modify j (fun y=>{ y with key:=key,val:=val }),d,fun e c=>?_,fun x p=>⟨{ e0 with key:=key,val:=val },?_,p.symm⟩,by simp[Instr.mapUpdate,run_underlying z,MapKept.run_getObj_map h,K.check w false hk,h1,u,h3,K.stays w hk,MapKept.run_setObj_map _ h,Result.andThen]⟩
  ·rcases MapFrom.mem_modify c with c|⟨y,_,rfl⟩
   ·exact a e c
   ·exact ⟨⟨l,hk⟩,hv⟩
  ·refine LD (i:=j) ?_
   rw[Array.getElem?_toList,Array.getElem?_modify,if_pos rfl,u];rfl
theorem F7 {mty kt et:TypeId}{b:Nat}{Q:Value->Value->Prop}{D:Value->Prop}(key val:Value)(s:SS w1 h1 w h B Rs F)(m:MapD P kt Q D w1 h1 b)(K:KeyLaw P kt)(hk:∃ l,keyOf P kt key=some l)(hv:Q key val){j:List Bx}(hz:SS w0 h0 w1 h1 j [] [])(u:h0.size<=b)(p:∀ x∈j,x.b≠b)
  (H:∀ w1' w',SS w1' h1 w' h B Rs F->MapD P kt Q (fun x=>x=key) w1' h1 b->SS w0 h0 w1' h1 j [] []->LG P n N R X ops (k+1) Γ w')
  (C:cS ops Γ k=true:=by kernel_rfl)(c:execOp (ev Γ) (am ops k)=(do Instr.mapUpdate mty (.map (some b)) key val;pure .skip):=by kernel_rfl)(O:P.underlying mty=some (.map kt et):=by kernel_rfl):LG P n N R X ops k Γ w:=by
 obtain ⟨y,i,z,e,hd⟩:=m.ex;have d:b<w1.heap.size:=(na.1 z).1;have M:w.heap[b]?=some (.map y i):=(s.st.up.ext.block b (by rw[s.g0.size];exact aF m.jk)).trans z;obtain ⟨f,a,J,S,hr⟩:=vH K O hk hv ⟨y,i,M,e,hd⟩;obtain ⟨L,I⟩:=s.base (o:=.map f a) m.jk d;refine LG.store _ (gi C).1 (gi C).2 ?_ (H _ _ L ⟨m.jk,f,a,?_,J,S⟩ ⟨hz.g0,⟨hz.st.up.base hz.g0 u I,fun x c=>?_,hz.st.jk,hz.st.lo,hz.st.nd⟩,fun _ c=>(by cases c),.nil,fun _ c=>(by cases c),trivial⟩)
 ·rw[c];simp[hr,Result.andThen]
 ·show (w1.heap.setIfInBounds b _)[b]?=_
  rw[zF d]
 ·refine Eq.trans ?_ (hz.st.own x c)
  show (w1.heap.setIfInBounds b _)[x.b]?=_
  rw[oi (Ne.symm (p x c))]
end laws
theorem dJ:WideMaps.KeyLaw Tryz.prog 90:=deep_law_gate kR (by decide +kernel) (by decide +kernel) kR kR
theorem cD {a b c d:Int}{s:ByteArray}(ha : -9223372036854775808<=a/\a<=9223372036854775807)(hb : -9223372036854775808<=b/\b<=9223372036854775807)(hc : -9223372036854775808<=c/\c<=9223372036854775807)(hd : -9223372036854775808<=d/\d<=9223372036854775807)(hs:s.size<=100):∃ l,keyOf Tryz.prog 90 (.agg #[.int .i64 a,.int .i64 b,.int .i64 c,.int .i64 d,.string s])=some l:=by
  have w:∀ z:Int,(-9223372036854775808<=z/\z<=9223372036854775807)->(Lit.int .i64 z).wf=true:=fun z hz=>by
    show (decide (IntKind.min .i64<=z) && decide (z<=IntKind.max .i64))=true
    rw[ov];exact ⟨decide_eq_true hz.1,decide_eq_true hz.2⟩
  exact Es (P := Tryz.prog) (k := 90) (i := 3) (st := 9) (f1 := ⟨"op", 3, 0, false, "", "abaculus/tape", 0⟩) (f2 := ⟨"n", 3, 1, false, "", "abaculus/tape", 8⟩) (f3 := ⟨"a", 3, 2, false, "", "abaculus/tape", 16⟩) (f4 := ⟨"b", 3, 3, false, "", "abaculus/tape", 24⟩) (f5 := ⟨"q", 9, 4, false, "", "abaculus/tape", 32⟩) kR kR kR kR kR ⟨rfl, rfl, by decide⟩ ⟨rfl, rfl, by decide⟩ ⟨rfl, rfl, by decide⟩ ⟨rfl, rfl, by decide⟩ ⟨rfl, rfl, by decide⟩ kR kR ⟨Tryz.prog.types.size - 1, by kernel_rfl⟩ (w _ ha) (w _ hb) (w _ hc) (w _ hd) (by unfold maxLen; omega)
theorem Gg (inp:Int)(A:Z9)(c:Nat)(l:List Stp)(O:Z9)(d:Nat)(os:List Int)(hck:bZ inp l os=0)(hl:l.length<=40)(ho:os.length<=10)(hq:∀ i,LQ 1 (l.getD i aa).q)(u:∀ i,ac (l.getD i aa).q.num<100/\(l.getD i aa).q.den<100)(hI:∀ i,(-1000<=(l.getD i aa).op/\(l.getD i aa).op<=1000)/\(-1000<=(l.getD i aa).n/\(l.getD i aa).n<=1000)/\(-1000<=(l.getD i aa).a/\(l.getD i aa).a<=1000) /\ -1000<=(l.getD i aa).b/\(l.getD i aa).b<=1000)(w:World)(h:Hp)(g:G w h)(hA:SlO 9 dw aa h A l)(hO:Si O os h):CR 10 #[.agg #[iV inp,.slice A ((l).length) c,.slice O ((os).length) d]] w h (fun v h1=>∃ (S:Z9)(sc:Nat)(al:List Stp)(O_:Z9)(oc:Nat)(ol:List Int),v=.tuple #[.agg #[iV inp,.slice S al.length sc,.slice O_ ol.length oc],iV 0]/\SlO 9 dw aa h1 S al/\Si O_ ol h1/\LeanF l os al ol):=by
 have e:=(((sS g).aS hA).aS hO);refine go Tryz.func10 [(0,.agg #[iV inp,qS A ((l).length) c,qS O ((os).length) d])] rfl (aD (lA 1 50 ([iV inp,qS A ((l).length) c,qS O ((os).length) d]) e (fun b1 w2 h3 e=>lA 2 50 ([iV 0,sZ,sZ]) e (fun b4 w5 h6 e=>lL e ae (ag (ab e [.o (.agg #[iV inp,qS A ((l).length) c,qS O ((os).length) d]) 1 0 3] (ak 14 e ((by have y:=ne inp A c l O d os oM oM (fun i _=>hq i) _ _ e.g e.f.2.1 (e.f.1);rw[hck] at y;exact y)) (fun w7 h8 e=>lL e [.v qF] (ai (cK (aD ?_)))))))))));have hF:=(d7 hck).1;have hOk:=(d7 hck).2.1;obtain ⟨h9,e,cx,-,-⟩:=e.pub 1;replace e:=e.to [⟨b4,50,[iV 0,sZ,sZ]⟩] [];have cz:Seg h9 b1 0 ([iV inp,qS A ((l).length) c,qS O ((os).length) d]):=cx;replace e:=e.a_Seg cz;refine Ib 90 (Qd (y2 l.length aa) 0) 17 e (fun zg zX zo c4 D I e ct=>lL e ae (a7 (lL e [.v (qP b1 1)] (lH 19 (qS A l.length c) e ((e.f.1).part 1 1) ?_))));refine lL e [.v (nV l.length)] (lK 21 3 l.length 1 8 (iV 0) cj (0:Int) e (fun zb _ _ e=>?_));have hb:(y2 l.length (0:Int)).length=l.length:=by simp
 refine lL e ae (a7 (lL e [.v (qP b1 1)] (lH 23 (qS A l.length c) e ((e.f.1).part 1 1) ?_)));refine lL e [.v (nV l.length)] (lK 25 86 l.length 9 88 (.agg #[iV 0,iV 0,iV 0,iV 0,qF,uV 0,eS,uV 0,eS]) dw aa e (fun B _ ya e=>?_));have d2:(y2 l.length aa).length=l.length:=by simp
 refine lL e ae (ag (ab e [.v (qP b1 1)] (lH 27 (qS A l.length c) e ((e.f.1).part 1 1) ?_)));refine lL e [.v (nV l.length),.c] (be ?_);refine bU _ (CG.loop (fun μ_ Γ w_=>∃ (F:World)(k:Nat)(j:List Int)(sl:List Stp)(x:Hp),μ_=l.length-k/\Γ=[(1,pB b1),(2,pB b4),(3,iV 0),(4,.map (some zg)),(5,qS (sB zb) l.length l.length),(6,qS (sB B) l.length l.length),(27,qS A l.length c),(28,nV l.length),(29,nV k)]/\SS F zo w_ x [⟨B,86,(sl).flatMap dw⟩,⟨zb,3,(j).flatMap cj⟩] [] [fun x=>Seg x b1 0 ([iV inp,qS A ((l).length) c,qS O ((os).length) d]),Si O os,fun x=>SlO 9 dw aa x A l]/\SS (w) (h) F zo [⟨b4,50,[iV 0,sZ,sZ]⟩] [] []/\MapD Tryz.prog 90 (Qd sl k) (fun _=>False) F zo zg/\k<=l.length/\j.length=l.length/\sl.length=l.length/\ByOk k j/\StOk k sl/\EqI l k sl j) _ ⟨zX,0,y2 l.length 0,y2 l.length aa,ya,rfl,rfl,e.to _ _,c4,ct,JU _,(by simp),(by simp),(fun i hi=>absurd hi (K6 i)),(fun i hi=>absurd hi (K6 i)),(fun i hi=>absurd hi (K6 i))⟩ ?_);rintro _ _ _ ⟨F,k,j,sl,_,ds,rfl,e,K,bf,hk,J,Z,z,C,hE⟩;refine aD ?_;cases ze:(decide ((k:Int)<(l.length:Int)))
 .
  have zv:=oF ze;refine lB 30 ze (ag (dv (CG.exit ?_)))
  show CG _ _ _ _ _ _ _ _
  refine aD ?_;obtain ⟨_,e,c7,f6,d0⟩:=e.pub 1;replace e:=(e.to [⟨B,86,(sl).flatMap dw⟩] []).aS (SlO.of_flat (sz:=1) (f:=cj) (d:=0) (b:=zb) (o:=0) (l:=j) (fun _=>rfl) c7);obtain ⟨yb,e,c2,fn,f0⟩:=e.pub 0;replace e:=(e.to [] []).aS (SlO.of_flat (sz:=9) (f:=dw) (d:=aa) (b:=B) (o:=0) (l:=sl) (fun _=>rfl) c2);replace e:=K.backW e;have dp:h.size<=yb.size:=e.st.up.gr.size;replace e:=e.to [⟨b4,50,[iV 0,sZ,sZ]⟩] [];refine lH 87 (.agg #[iV inp,qS A ((l).length) c,qS O ((os).length) d]) e ((e.f.r.1).part 0 3) (lL e aN (lC 90 e (Eg inp A c l O d os oM oM hOk B sl (sB zb) j Z J (C.fin oM) (z.fin oM) _ _ e.g e.f.q.1 e.f.r.2.1 e.f.1 e.f.2.1) ?_));rintro _ _ _ e ⟨S_,sc_,al,O_,oc_,ol,rfl,hS_,hO_,hKp⟩;replace e:=e.aP hS_ hO_;refine lP 0 0 ([iV inp,qS S_ al.length sc_,qS O_ ol.length oc_]) e (fun _ e=>lL e ae (lN (kX ?_)));have c1:k=l.length:=by omega
  rw[c1] at z C hE
  exact e.ret [(0,0,3)] (.tuple #[.agg #[iV inp,qS S_ al.length sc_,qS O_ ol.length oc_],iV 0]) (⟨_,_,al,_,_,ol,rfl,e.f.2.1,e.f.1,Gn hF Z hE z C hOk hKp⟩)
 have zv:=oT ze;refine lB 30 ze (ag (bT (cK (cQ (kZ (aD ?_))))));have fk:=hF k oM;have hop:=fk.opr;obtain ⟨hx1,hx2,hx3,hx4⟩:=fk.ix;obtain ⟨hi1,hi2,hi3,hi4⟩:=hI k;refine lL e ae (lX 32 A l.length c 9 (k:Nat) k ((e.f.r.1).ok oM) ?_);refine lH 33 (sX (l.getD k aa)) e ((e.f.r.1).el k oM) (lA 8 86 ([iV 0,iV 0,iV 0,iV 0,qF,uV 0,eS,uV 0,eS]) e (fun za _ _ e=>lL e ae (lP 0 0 (sC (l.getD k aa)) e (fun _ e=>a7 (lL e [.v (pB za),.o (iV ((l.getD k aa).op)) 0 0 1] (ak 36 e (d8 (l.getD k aa).op _ _ e.g) (fun _ _ e=>lL e ae (ag (ab e ae ?_)))))))));cases zf:(decide ((0:Int)<(aK (l.getD k aa).op:Int)))
 .
  have zw:=oF zf;refine lB 38 zf (ai (cK (cQ (ab e ae ?_))));have ⟨zM,c9⟩:=dF (p:=(1:Int)<(aK (l.getD k aa).op:Int)) oM;refine lB 46 zM (ai (cK (ab e [.c,.c,.o (sX (l.getD k aa)) 0 0 9] (lX 56 (sB B) l.length l.length 9 (k:Nat) k rfl ?_))));refine lW 1 sl dw 9 k (⟨(l.getD k aa).op,(l.getD k aa).a,(l.getD k aa).b,(l.getD k aa).n,(l.getD k aa).q⟩:Stp) e oM (fun _ e=>?_);have zp:((sl).set k (⟨(l.getD k aa).op,(l.getD k aa).a,(l.getD k aa).b,(l.getD k aa).n,(l.getD k aa).q⟩:Stp)).length=l.length:=by rw[JJ];exact Z
  replace e:=e.to [⟨za,86,sC (l.getD k aa)⟩,⟨B,86,((sl).set k (⟨(l.getD k aa).op,(l.getD k aa).a,(l.getD k aa).b,(l.getD k aa).n,(l.getD k aa).q⟩:Stp)).flatMap dw⟩,⟨zb,3,(j).flatMap cj⟩] [];refine ag ?_;have hsr:=e;refine cR 13 [⟨12,10,.cells (Ky [iV 0,iV 0,iV 0,iV 0,eS]) 90 (0,0)⟩] mixed e (aZ (dB kR (fun _ _=>by kernel_rfl)) ao) (eV 0 57 (pB za) (eO 1 58 [(0,0,1)] (iV ((l.getD k aa).op)) e (eV 2 59 (qP za 3) (eO 3 60 [(0,3,1)] (iV ((l.getD k aa).n)) e (eV 4 61 (qP za 1) (eO 5 62 [(0,1,1)] (iV ((l.getD k aa).a)) e (eV 6 63 (qP za 2) (eO 7 64 [(0,2,1)] (iV ((l.getD k aa).b)) e (eV 8 65 (qP za 4) (eO 9 66 [(0,4,5)] (qv ((l.getD k aa).q)) e (aj 10 67 e (fun _ _ e=>rZ (l.getD k aa).q ((hq k).mono oM) (u k).1 (u k).2 _ _ e.g) (fun _ _ e=>eV 11 68 (.agg #[iV ((l.getD k aa).op),iV ((l.getD k aa).n),iV ((l.getD k aa).a),iV ((l.getD k aa).b),.string (fv (l.getD k aa).q)]) (eU [] hsr e 90 [iV 0,iV 0,iV 0,iV 0,eS] (fun _ zL zq e=>tP 13 0 0 ([iV ((l.getD k aa).op),iV ((l.getD k aa).n),iV ((l.getD k aa).a),iV ((l.getD k aa).b),.string (fv (l.getD k aa).q)]) e (fun _ e=>tN (cQ (aD ?_)))))))))))))))));have bb:=bf.imp (D':=fun _=>False) (fun _ _ y=>sh (s:=(⟨(l.getD k aa).op,(l.getD k aa).a,(l.getD k aa).b,(l.getD k aa).n,(l.getD k aa).q⟩:Stp)) oM y) (fun _ x=>x);refine lL e [.c,.o (.agg #[iV ((l.getD k aa).op),iV ((l.getD k aa).n),iV ((l.getD k aa).a),iV ((l.getD k aa).b),.string (fv (l.getD k aa).q)]) 0 0 5] (oz (mty:=84) (kt:=90) (et:=3) 72 (.agg #[iV ((l.getD k aa).op),iV ((l.getD k aa).n),iV ((l.getD k aa).a),iV ((l.getD k aa).b),.string (fv (l.getD k aa).q)]) (iV 0) true e bb dJ (cD oM oM oM oM (fq (u k).1 (u k).2)) (fun v61 M zN=>lL e [.c,.v v61,.v (.bool M),.c,.c] (lN (bU [(1,pB b1),(2,pB b4),(3,iV 0),(4,.map (some zg)),(5,qS (sB zb) l.length l.length),(6,qS (sB B) l.length l.length),(27,qS A l.length c),(28,nV l.length),(29,nV k),(7,nV k),(10,pB zq),(12,.bool M)] ?_))));refine ab e ae ?_;cases zr:(!M)
  .
   refine lB 76 zr (ai (cK (kQ ?_)));obtain ⟨-,-,cp⟩:=(zN).resolve_right (fun y=>by have e_:=mE (show (!M)=false by assumption);rw[y.1] at e_;cases e_);refine lL e [.c,.c,.c,.o (.agg #[iV ((l.getD k aa).op),iV ((l.getD k aa).n),iV ((l.getD k aa).a),iV ((l.getD k aa).b),.string (fv (l.getD k aa).q)]) 0 0 5] (oz (mty:=84) (kt:=90) (et:=3) 84 (.agg #[iV ((l.getD k aa).op),iV ((l.getD k aa).n),iV ((l.getD k aa).a),iV ((l.getD k aa).b),.string (fv (l.getD k aa).q)]) (iV 0) false e cp dJ (cD oM oM oM oM (fq (u k).1 (u k).2)) (fun v66 fm zP=>?_));obtain ⟨-,⟨j69,c5,rfl,cr⟩,cq⟩:=(zP).resolve_right (fun y=>y.2.2 rfl);refine lX 85 (sB zb) l.length l.length 1 (k:Nat) k rfl (lW 3 j cj 1 k (j69:Nat) e oM (fun _ e=>?_));have zQ:((j).set k (j69:Nat)).length=l.length:=by rw[JJ];exact J
   replace e:=e.to [⟨zq,90,[iV ((l.getD k aa).op),iV ((l.getD k aa).n),iV ((l.getD k aa).a),iV ((l.getD k aa).b),.string (fv (l.getD k aa).q)]⟩,⟨za,86,sC (l.getD k aa)⟩,⟨B,86,((sl).set k (⟨(l.getD k aa).op,(l.getD k aa).a,(l.getD k aa).b,(l.getD k aa).n,(l.getD k aa).q⟩:Stp)).flatMap dw⟩,⟨zb,3,((j).set k (j69:Nat)).flatMap cj⟩] [];refine lN (kQ (bM 86 ((k:Nat)+1) (k+1) ?_));refine lL e ae (lD ?_);intro a_ ka;replace e:=e.drop 2 0;refine ⟨_,_,?_,⟨F,k+1,(j).set k (j69:Nat),(sl).set k (⟨(l.getD k aa).op,(l.getD k aa).a,(l.getD k aa).b,(l.getD k aa).n,(l.getD k aa).q⟩:Stp),zL,rfl,rfl,e.to _ _,K,(cq.imp (fun _ _ y=>y) (fun _ x=>x.elim)),oM,zQ,zp,(z.set oM oM oM),(C.set oM ⟨fun x=>by first|exact absurd x aM|(dsimp only;omega)|omega,fun x=>by first|exact absurd x aM|(dsimp only;omega)|omega⟩),(hE.step hF u z oM oM oM (by unfold gH;first|rw[if_neg oM,if_neg oM]|rw[if_pos oM,if_neg oM]|rw[if_pos oM,if_pos oM]) c5 cr)⟩,ka.to _ kR⟩
   omega
  refine lB 76 zr (au (kQ (lL e [.c,.o (.agg #[iV ((l.getD k aa).op),iV ((l.getD k aa).n),iV ((l.getD k aa).a),iV ((l.getD k aa).b),.string (fv (l.getD k aa).q)]) 0 0 5,.c] (F7 (mty:=84) (kt:=90) (et:=3) (.agg #[iV ((l.getD k aa).op),iV ((l.getD k aa).n),iV ((l.getD k aa).a),iV ((l.getD k aa).b),.string (fv (l.getD k aa).q)]) (nV k) e bb dJ (cD oM oM oM oM (fq (u k).1 (u k).2)) ⟨k,LB _,rfl,(by rw[aY oM,if_pos rfl];rfl)⟩ K D I (fun yc _ e ck c6=>lN (kQ (lL e [.c,.c,.c,.o (.agg #[iV ((l.getD k aa).op),iV ((l.getD k aa).n),iV ((l.getD k aa).a),iV ((l.getD k aa).b),.string (fv (l.getD k aa).q)]) 0 0 5] (oz (mty:=84) (kt:=90) (et:=3) 84 (.agg #[iV ((l.getD k aa).op),iV ((l.getD k aa).n),iV ((l.getD k aa).a),iV ((l.getD k aa).b),.string (fv (l.getD k aa).q)]) (iV 0) false e ck dJ (cD oM oM oM oM (fq (u k).1 (u k).2)) (fun v87 dt zR=>?_)))))))));obtain ⟨-,⟨j90,c3,rfl,cv⟩,b9⟩:=(zR).resolve_right (fun y=>y.2.2 rfl);refine lX 85 (sB zb) l.length l.length 1 (k:Nat) k rfl (lW 3 j cj 1 k (j90:Nat) e oM (fun _ e=>?_));have zS:((j).set k (j90:Nat)).length=l.length:=by rw[JJ];exact J
  replace e:=e.to [⟨zq,90,[iV ((l.getD k aa).op),iV ((l.getD k aa).n),iV ((l.getD k aa).a),iV ((l.getD k aa).b),.string (fv (l.getD k aa).q)]⟩,⟨za,86,sC (l.getD k aa)⟩,⟨B,86,((sl).set k (⟨(l.getD k aa).op,(l.getD k aa).a,(l.getD k aa).b,(l.getD k aa).n,(l.getD k aa).q⟩:Stp)).flatMap dw⟩,⟨zb,3,((j).set k (j90:Nat)).flatMap cj⟩] [];refine lN (kQ (bM 86 ((k:Nat)+1) (k+1) ?_));refine lL e ae (lD ?_);intro a_ ka;replace e:=e.drop 2 0;refine ⟨_,_,?_,⟨yc,k+1,(j).set k (j90:Nat),(sl).set k (⟨(l.getD k aa).op,(l.getD k aa).a,(l.getD k aa).b,(l.getD k aa).n,(l.getD k aa).q⟩:Stp),zL,rfl,rfl,e.to _ _,c6,(b9.imp (fun _ _ y=>y) (fun _ x=>x.elim)),oM,zS,zp,(z.set oM oM oM),(C.set oM ⟨fun x=>by first|exact absurd x aM|(dsimp only;omega)|omega,fun x=>by first|exact absurd x aM|(dsimp only;omega)|omega⟩),(hE.step hF u z oM oM oM (by unfold gH;first|rw[if_neg oM,if_neg oM]|rw[if_pos oM,if_neg oM]|rw[if_pos oM,if_pos oM]) c3 cv)⟩,ka.to _ kR⟩
  omega
 have zw:=oT zf;refine lB 38 zf (au (kQ ?_));have hak:=hop.1 oM;have f7:=z (l.getD k aa).a.toNat oM;refine lL e [.c,.v (qP za 1),.o (iV ((l.getD k aa).a)) 0 1 1] (lX 42 (sB zb) l.length l.length 1 ((l.getD k aa).a) ((l.getD k aa).a.toNat) rfl ?_);refine lQ 43 2 j cj 1 0 ((l.getD k aa).a.toNat) (iV ((j).getD ((l.getD k aa).a.toNat) 0)) e oM (lL e [.v (qP za 1)] (lP 0 1 ([iV ((j).getD ((l.getD k aa).a.toNat) 0)]) e (fun _ e=>ag (ab e ae ?_))));cases zd:(decide ((1:Int)<(aK (l.getD k aa).op:Int)))
 .
  have zs:=oF zd;refine lB 46 zd (ai (cK (ab e [.c,.c,.o (sW ((l.getD k aa).op) ((j).getD ((l.getD k aa).a.toNat) 0) ((l.getD k aa).b) ((l.getD k aa).n) ((l.getD k aa).q)) 0 0 9] (lX 56 (sB B) l.length l.length 9 (k:Nat) k rfl ?_))));refine lW 1 sl dw 9 k (⟨(l.getD k aa).op,(j).getD ((l.getD k aa).a.toNat) 0,(l.getD k aa).b,(l.getD k aa).n,(l.getD k aa).q⟩:Stp) e oM (fun _ e=>?_);have zk:((sl).set k (⟨(l.getD k aa).op,(j).getD ((l.getD k aa).a.toNat) 0,(l.getD k aa).b,(l.getD k aa).n,(l.getD k aa).q⟩:Stp)).length=l.length:=by rw[JJ];exact Z
  replace e:=e.to [⟨za,86,sG ((l.getD k aa).op) ((j).getD ((l.getD k aa).a.toNat) 0) ((l.getD k aa).b) ((l.getD k aa).n) ((l.getD k aa).q)⟩,⟨B,86,((sl).set k (⟨(l.getD k aa).op,(j).getD ((l.getD k aa).a.toNat) 0,(l.getD k aa).b,(l.getD k aa).n,(l.getD k aa).q⟩:Stp)).flatMap dw⟩,⟨zb,3,(j).flatMap cj⟩] [];refine ag ?_;have hsr:=e;refine cR 13 [⟨12,10,.cells (Ky [iV 0,iV 0,iV 0,iV 0,eS]) 90 (0,0)⟩] mixed e (aZ (dB kR (fun _ _=>by kernel_rfl)) ao) (eV 0 57 (pB za) (eO 1 58 [(0,0,1)] (iV ((l.getD k aa).op)) e (eV 2 59 (qP za 3) (eO 3 60 [(0,3,1)] (iV ((l.getD k aa).n)) e (eV 4 61 (qP za 1) (eO 5 62 [(0,1,1)] (iV ((j).getD ((l.getD k aa).a.toNat) 0)) e (eV 6 63 (qP za 2) (eO 7 64 [(0,2,1)] (iV ((l.getD k aa).b)) e (eV 8 65 (qP za 4) (eO 9 66 [(0,4,5)] (qv ((l.getD k aa).q)) e (aj 10 67 e (fun _ _ e=>rZ (l.getD k aa).q ((hq k).mono oM) (u k).1 (u k).2 _ _ e.g) (fun _ _ e=>eV 11 68 (.agg #[iV ((l.getD k aa).op),iV ((l.getD k aa).n),iV ((j).getD ((l.getD k aa).a.toNat) 0),iV ((l.getD k aa).b),.string (fv (l.getD k aa).q)]) (eU [] hsr e 90 [iV 0,iV 0,iV 0,iV 0,eS] (fun _ zt zi e=>tP 13 0 0 ([iV ((l.getD k aa).op),iV ((l.getD k aa).n),iV ((j).getD ((l.getD k aa).a.toNat) 0),iV ((l.getD k aa).b),.string (fv (l.getD k aa).q)]) e (fun _ e=>tN (bU [(1,pB b1),(2,pB b4),(3,iV 0),(4,.map (some zg)),(5,qS (sB zb) l.length l.length),(6,qS (sB B) l.length l.length),(27,qS A l.length c),(28,nV l.length),(29,nV k),(7,nV k),(10,pB zi)] ?_))))))))))))))));refine cQ (aD ?_);have Y:=bf.imp (D':=fun _=>False) (fun _ _ y=>sh (s:=(⟨(l.getD k aa).op,(j).getD ((l.getD k aa).a.toNat) 0,(l.getD k aa).b,(l.getD k aa).n,(l.getD k aa).q⟩:Stp)) oM y) (fun _ x=>x);refine lL e [.c,.o (.agg #[iV ((l.getD k aa).op),iV ((l.getD k aa).n),iV ((j).getD ((l.getD k aa).a.toNat) 0),iV ((l.getD k aa).b),.string (fv (l.getD k aa).q)]) 0 0 5] (oz (mty:=84) (kt:=90) (et:=3) 72 (.agg #[iV ((l.getD k aa).op),iV ((l.getD k aa).n),iV ((j).getD ((l.getD k aa).a.toNat) 0),iV ((l.getD k aa).b),.string (fv (l.getD k aa).q)]) (iV 0) true e Y dJ (cD oM oM oM oM (fq (u k).1 (u k).2)) (fun c0 L zx=>lL e [.c,.v c0,.v (.bool L),.c,.c] (a7 (lL e ae ?_))));cases zl:(!L)
  .
   refine lB 76 zl (ai (cK (kQ ?_)));obtain ⟨-,-,bv⟩:=(zx).resolve_right (fun y=>by have e_:=mE (show (!L)=false by assumption);rw[y.1] at e_;cases e_);refine lL e [.c,.c,.c,.o (.agg #[iV ((l.getD k aa).op),iV ((l.getD k aa).n),iV ((j).getD ((l.getD k aa).a.toNat) 0),iV ((l.getD k aa).b),.string (fv (l.getD k aa).q)]) 0 0 5] (oz (mty:=84) (kt:=90) (et:=3) 84 (.agg #[iV ((l.getD k aa).op),iV ((l.getD k aa).n),iV ((j).getD ((l.getD k aa).a.toNat) 0),iV ((l.getD k aa).b),.string (fv (l.getD k aa).q)]) (iV 0) false e bv dJ (cD oM oM oM oM (fq (u k).1 (u k).2)) (fun f8 dc zA=>?_));obtain ⟨-,⟨U,cm,rfl,b6⟩,b0⟩:=(zA).resolve_right (fun y=>y.2.2 rfl);refine lX 85 (sB zb) l.length l.length 1 (k:Nat) k rfl (lW 3 j cj 1 k (U:Nat) e oM (fun _ e=>?_));have zB:((j).set k (U:Nat)).length=l.length:=by rw[JJ];exact J
   replace e:=e.to [⟨zi,90,[iV ((l.getD k aa).op),iV ((l.getD k aa).n),iV ((j).getD ((l.getD k aa).a.toNat) 0),iV ((l.getD k aa).b),.string (fv (l.getD k aa).q)]⟩,⟨za,86,sG ((l.getD k aa).op) ((j).getD ((l.getD k aa).a.toNat) 0) ((l.getD k aa).b) ((l.getD k aa).n) ((l.getD k aa).q)⟩,⟨B,86,((sl).set k (⟨(l.getD k aa).op,(j).getD ((l.getD k aa).a.toNat) 0,(l.getD k aa).b,(l.getD k aa).n,(l.getD k aa).q⟩:Stp)).flatMap dw⟩,⟨zb,3,((j).set k (U:Nat)).flatMap cj⟩] [];refine lN (kQ (bM 86 ((k:Nat)+1) (k+1) ?_));refine lL e ae (lD ?_);intro a_ ka;replace e:=e.drop 2 0;refine ⟨_,_,?_,⟨F,k+1,(j).set k (U:Nat),(sl).set k (⟨(l.getD k aa).op,(j).getD ((l.getD k aa).a.toNat) 0,(l.getD k aa).b,(l.getD k aa).n,(l.getD k aa).q⟩:Stp),zt,rfl,rfl,e.to _ _,K,(b0.imp (fun _ _ y=>y) (fun _ x=>x.elim)),oM,zB,zk,(z.set oM oM oM),(C.set oM ⟨fun x=>by first|exact absurd x aM|(dsimp only;omega)|omega,fun x=>by first|exact absurd x aM|(dsimp only;omega)|omega⟩),(hE.step hF u z oM oM oM (by unfold gH;first|rw[if_neg oM,if_neg oM]|rw[if_pos oM,if_neg oM]|rw[if_pos oM,if_pos oM]) cm b6)⟩,ka.to _ kR⟩
   omega
  refine lB 76 zl (au (kQ (lL e [.c,.o (.agg #[iV ((l.getD k aa).op),iV ((l.getD k aa).n),iV ((j).getD ((l.getD k aa).a.toNat) 0),iV ((l.getD k aa).b),.string (fv (l.getD k aa).q)]) 0 0 5,.c] (F7 (mty:=84) (kt:=90) (et:=3) (.agg #[iV ((l.getD k aa).op),iV ((l.getD k aa).n),iV ((j).getD ((l.getD k aa).a.toNat) 0),iV ((l.getD k aa).b),.string (fv (l.getD k aa).q)]) (nV k) e Y dJ (cD oM oM oM oM (fq (u k).1 (u k).2)) ⟨k,LB _,rfl,(by rw[aY oM,if_pos rfl];rfl)⟩ K D I (fun zU _ e b7 cl=>lN (kQ (lL e [.c,.c,.c,.o (.agg #[iV ((l.getD k aa).op),iV ((l.getD k aa).n),iV ((j).getD ((l.getD k aa).a.toNat) 0),iV ((l.getD k aa).b),.string (fv (l.getD k aa).q)]) 0 0 5] (oz (mty:=84) (kt:=90) (et:=3) 84 (.agg #[iV ((l.getD k aa).op),iV ((l.getD k aa).n),iV ((j).getD ((l.getD k aa).a.toNat) 0),iV ((l.getD k aa).b),.string (fv (l.getD k aa).q)]) (iV 0) false e b7 dJ (cD oM oM oM oM (fq (u k).1 (u k).2)) (fun d1 c8 zD=>?_)))))))));obtain ⟨-,⟨X,cb,rfl,bm⟩,bn⟩:=(zD).resolve_right (fun y=>y.2.2 rfl);refine lX 85 (sB zb) l.length l.length 1 (k:Nat) k rfl (lW 3 j cj 1 k (X:Nat) e oM (fun _ e=>?_));have zE:((j).set k (X:Nat)).length=l.length:=by rw[JJ];exact J
  replace e:=e.to [⟨zi,90,[iV ((l.getD k aa).op),iV ((l.getD k aa).n),iV ((j).getD ((l.getD k aa).a.toNat) 0),iV ((l.getD k aa).b),.string (fv (l.getD k aa).q)]⟩,⟨za,86,sG ((l.getD k aa).op) ((j).getD ((l.getD k aa).a.toNat) 0) ((l.getD k aa).b) ((l.getD k aa).n) ((l.getD k aa).q)⟩,⟨B,86,((sl).set k (⟨(l.getD k aa).op,(j).getD ((l.getD k aa).a.toNat) 0,(l.getD k aa).b,(l.getD k aa).n,(l.getD k aa).q⟩:Stp)).flatMap dw⟩,⟨zb,3,((j).set k (X:Nat)).flatMap cj⟩] [];refine lN (kQ (bM 86 ((k:Nat)+1) (k+1) ?_));refine lL e ae (lD ?_);intro a_ ka;replace e:=e.drop 2 0;refine ⟨_,_,?_,⟨zU,k+1,(j).set k (X:Nat),(sl).set k (⟨(l.getD k aa).op,(j).getD ((l.getD k aa).a.toNat) 0,(l.getD k aa).b,(l.getD k aa).n,(l.getD k aa).q⟩:Stp),zt,rfl,rfl,e.to _ _,cl,(bn.imp (fun _ _ y=>y) (fun _ x=>x.elim)),oM,zE,zk,(z.set oM oM oM),(C.set oM ⟨fun x=>by first|exact absurd x aM|(dsimp only;omega)|omega,fun x=>by first|exact absurd x aM|(dsimp only;omega)|omega⟩),(hE.step hF u z oM oM oM (by unfold gH;first|rw[if_neg oM,if_neg oM]|rw[if_pos oM,if_neg oM]|rw[if_pos oM,if_pos oM]) cb bm)⟩,ka.to _ kR⟩
  omega
 have zs:=oT zd;refine lB 46 zd (au (kQ ?_));have hbk:=hop.2.1 oM;have fx:=z (l.getD k aa).b.toNat oM;refine lL e [.c,.v (qP za 2),.o (iV ((l.getD k aa).b)) 0 2 1] (lX 50 (sB zb) l.length l.length 1 ((l.getD k aa).b) ((l.getD k aa).b.toNat) rfl ?_);refine lQ 51 2 j cj 1 0 ((l.getD k aa).b.toNat) (iV ((j).getD ((l.getD k aa).b.toNat) 0)) e oM (lL e [.v (qP za 2)] (lP 0 2 ([iV ((j).getD ((l.getD k aa).b.toNat) 0)]) e (fun _ e=>a7 (lL e [.c,.c,.o (sW ((l.getD k aa).op) ((j).getD ((l.getD k aa).a.toNat) 0) ((j).getD ((l.getD k aa).b.toNat) 0) ((l.getD k aa).n) ((l.getD k aa).q)) 0 0 9] (lX 56 (sB B) l.length l.length 9 (k:Nat) k rfl ?_)))));refine lW 1 sl dw 9 k (⟨(l.getD k aa).op,(j).getD ((l.getD k aa).a.toNat) 0,(j).getD ((l.getD k aa).b.toNat) 0,(l.getD k aa).n,(l.getD k aa).q⟩:Stp) e oM (fun _ e=>?_);have zm:((sl).set k (⟨(l.getD k aa).op,(j).getD ((l.getD k aa).a.toNat) 0,(j).getD ((l.getD k aa).b.toNat) 0,(l.getD k aa).n,(l.getD k aa).q⟩:Stp)).length=l.length:=by rw[JJ];exact Z
 replace e:=e.to [⟨za,86,sG ((l.getD k aa).op) ((j).getD ((l.getD k aa).a.toNat) 0) ((j).getD ((l.getD k aa).b.toNat) 0) ((l.getD k aa).n) ((l.getD k aa).q)⟩,⟨B,86,((sl).set k (⟨(l.getD k aa).op,(j).getD ((l.getD k aa).a.toNat) 0,(j).getD ((l.getD k aa).b.toNat) 0,(l.getD k aa).n,(l.getD k aa).q⟩:Stp)).flatMap dw⟩,⟨zb,3,(j).flatMap cj⟩] [];refine ag ?_;have hsr:=e;refine cR 13 [⟨12,10,.cells (Ky [iV 0,iV 0,iV 0,iV 0,eS]) 90 (0,0)⟩] mixed e (aZ (dB kR (fun _ _=>by kernel_rfl)) ao) (eV 0 57 (pB za) (eO 1 58 [(0,0,1)] (iV ((l.getD k aa).op)) e (eV 2 59 (qP za 3) (eO 3 60 [(0,3,1)] (iV ((l.getD k aa).n)) e (eV 4 61 (qP za 1) (eO 5 62 [(0,1,1)] (iV ((j).getD ((l.getD k aa).a.toNat) 0)) e (eV 6 63 (qP za 2) (eO 7 64 [(0,2,1)] (iV ((j).getD ((l.getD k aa).b.toNat) 0)) e (eV 8 65 (qP za 4) (eO 9 66 [(0,4,5)] (qv ((l.getD k aa).q)) e (aj 10 67 e (fun _ _ e=>rZ (l.getD k aa).q ((hq k).mono oM) (u k).1 (u k).2 _ _ e.g) (fun _ _ e=>eV 11 68 (.agg #[iV ((l.getD k aa).op),iV ((l.getD k aa).n),iV ((j).getD ((l.getD k aa).a.toNat) 0),iV ((j).getD ((l.getD k aa).b.toNat) 0),.string (fv (l.getD k aa).q)]) (eU [] hsr e 90 [iV 0,iV 0,iV 0,iV 0,eS] (fun _ zu zj e=>tP 13 0 0 ([iV ((l.getD k aa).op),iV ((l.getD k aa).n),iV ((j).getD ((l.getD k aa).a.toNat) 0),iV ((j).getD ((l.getD k aa).b.toNat) 0),.string (fv (l.getD k aa).q)]) e (fun _ e=>tN (bU [(1,pB b1),(2,pB b4),(3,iV 0),(4,.map (some zg)),(5,qS (sB zb) l.length l.length),(6,qS (sB B) l.length l.length),(27,qS A l.length c),(28,nV l.length),(29,nV k),(7,nV k),(10,pB zj)] ?_))))))))))))))));refine cQ (aD ?_);have W:=bf.imp (D':=fun _=>False) (fun _ _ y=>sh (s:=(⟨(l.getD k aa).op,(j).getD ((l.getD k aa).a.toNat) 0,(j).getD ((l.getD k aa).b.toNat) 0,(l.getD k aa).n,(l.getD k aa).q⟩:Stp)) oM y) (fun _ x=>x);refine lL e [.c,.o (.agg #[iV ((l.getD k aa).op),iV ((l.getD k aa).n),iV ((j).getD ((l.getD k aa).a.toNat) 0),iV ((j).getD ((l.getD k aa).b.toNat) 0),.string (fv (l.getD k aa).q)]) 0 0 5] (oz (mty:=84) (kt:=90) (et:=3) 72 (.agg #[iV ((l.getD k aa).op),iV ((l.getD k aa).n),iV ((j).getD ((l.getD k aa).a.toNat) 0),iV ((j).getD ((l.getD k aa).b.toNat) 0),.string (fv (l.getD k aa).q)]) (iV 0) true e W dJ (cD oM oM oM oM (fq (u k).1 (u k).2)) (fun cy H zG=>lL e [.c,.v cy,.v (.bool H),.c,.c] (a7 (lL e ae ?_))));cases zn:(!H)
 .
  refine lB 76 zn (ai (cK (kQ ?_)));obtain ⟨-,-,b2⟩:=(zG).resolve_right (fun y=>by have e_:=mE (show (!H)=false by assumption);rw[y.1] at e_;cases e_);refine lL e [.c,.c,.c,.o (.agg #[iV ((l.getD k aa).op),iV ((l.getD k aa).n),iV ((j).getD ((l.getD k aa).a.toNat) 0),iV ((j).getD ((l.getD k aa).b.toNat) 0),.string (fv (l.getD k aa).q)]) 0 0 5] (oz (mty:=84) (kt:=90) (et:=3) 84 (.agg #[iV ((l.getD k aa).op),iV ((l.getD k aa).n),iV ((j).getD ((l.getD k aa).a.toNat) 0),iV ((j).getD ((l.getD k aa).b.toNat) 0),.string (fv (l.getD k aa).q)]) (iV 0) false e b2 dJ (cD oM oM oM oM (fq (u k).1 (u k).2)) (fun f9 db zH=>?_));obtain ⟨-,⟨V,ch,rfl,b3⟩,b5⟩:=(zH).resolve_right (fun y=>y.2.2 rfl);refine lX 85 (sB zb) l.length l.length 1 (k:Nat) k rfl (lW 3 j cj 1 k (V:Nat) e oM (fun _ e=>?_));have zI:((j).set k (V:Nat)).length=l.length:=by rw[JJ];exact J
  replace e:=e.to [⟨zj,90,[iV ((l.getD k aa).op),iV ((l.getD k aa).n),iV ((j).getD ((l.getD k aa).a.toNat) 0),iV ((j).getD ((l.getD k aa).b.toNat) 0),.string (fv (l.getD k aa).q)]⟩,⟨za,86,sG ((l.getD k aa).op) ((j).getD ((l.getD k aa).a.toNat) 0) ((j).getD ((l.getD k aa).b.toNat) 0) ((l.getD k aa).n) ((l.getD k aa).q)⟩,⟨B,86,((sl).set k (⟨(l.getD k aa).op,(j).getD ((l.getD k aa).a.toNat) 0,(j).getD ((l.getD k aa).b.toNat) 0,(l.getD k aa).n,(l.getD k aa).q⟩:Stp)).flatMap dw⟩,⟨zb,3,((j).set k (V:Nat)).flatMap cj⟩] [];refine lN (kQ (bM 86 ((k:Nat)+1) (k+1) ?_));refine lL e ae (lD ?_);intro a_ ka;replace e:=e.drop 2 0;refine ⟨_,_,?_,⟨F,k+1,(j).set k (V:Nat),(sl).set k (⟨(l.getD k aa).op,(j).getD ((l.getD k aa).a.toNat) 0,(j).getD ((l.getD k aa).b.toNat) 0,(l.getD k aa).n,(l.getD k aa).q⟩:Stp),zu,rfl,rfl,e.to _ _,K,(b5.imp (fun _ _ y=>y) (fun _ x=>x.elim)),oM,zI,zm,(z.set oM oM oM),(C.set oM ⟨fun x=>by first|exact absurd x aM|(dsimp only;omega)|omega,fun x=>by first|exact absurd x aM|(dsimp only;omega)|omega⟩),(hE.step hF u z oM oM oM (by unfold gH;first|rw[if_neg oM,if_neg oM]|rw[if_pos oM,if_neg oM]|rw[if_pos oM,if_pos oM]) ch b3)⟩,ka.to _ kR⟩
  omega
 refine lB 76 zn (au (kQ (lL e [.c,.o (.agg #[iV ((l.getD k aa).op),iV ((l.getD k aa).n),iV ((j).getD ((l.getD k aa).a.toNat) 0),iV ((j).getD ((l.getD k aa).b.toNat) 0),.string (fv (l.getD k aa).q)]) 0 0 5,.c] (F7 (mty:=84) (kt:=90) (et:=3) (.agg #[iV ((l.getD k aa).op),iV ((l.getD k aa).n),iV ((j).getD ((l.getD k aa).a.toNat) 0),iV ((j).getD ((l.getD k aa).b.toNat) 0),.string (fv (l.getD k aa).q)]) (nV k) e W dJ (cD oM oM oM oM (fq (u k).1 (u k).2)) ⟨k,LB _,rfl,(by rw[aY oM,if_pos rfl];rfl)⟩ K D I (fun zW _ e bt cf=>lN (kQ (lL e [.c,.c,.c,.o (.agg #[iV ((l.getD k aa).op),iV ((l.getD k aa).n),iV ((j).getD ((l.getD k aa).a.toNat) 0),iV ((j).getD ((l.getD k aa).b.toNat) 0),.string (fv (l.getD k aa).q)]) 0 0 5] (oz (mty:=84) (kt:=90) (et:=3) 84 (.agg #[iV ((l.getD k aa).op),iV ((l.getD k aa).n),iV ((j).getD ((l.getD k aa).a.toNat) 0),iV ((j).getD ((l.getD k aa).b.toNat) 0),.string (fv (l.getD k aa).q)]) (iV 0) false e bt dJ (cD oM oM oM oM (fq (u k).1 (u k).2)) (fun dn df zJ=>?_)))))))));obtain ⟨-,⟨Q,cd,rfl,bw⟩,bq⟩:=(zJ).resolve_right (fun y=>y.2.2 rfl);refine lX 85 (sB zb) l.length l.length 1 (k:Nat) k rfl (lW 3 j cj 1 k (Q:Nat) e oM (fun _ e=>?_));have zK:((j).set k (Q:Nat)).length=l.length:=by rw[JJ];exact J
 replace e:=e.to [⟨zj,90,[iV ((l.getD k aa).op),iV ((l.getD k aa).n),iV ((j).getD ((l.getD k aa).a.toNat) 0),iV ((j).getD ((l.getD k aa).b.toNat) 0),.string (fv (l.getD k aa).q)]⟩,⟨za,86,sG ((l.getD k aa).op) ((j).getD ((l.getD k aa).a.toNat) 0) ((j).getD ((l.getD k aa).b.toNat) 0) ((l.getD k aa).n) ((l.getD k aa).q)⟩,⟨B,86,((sl).set k (⟨(l.getD k aa).op,(j).getD ((l.getD k aa).a.toNat) 0,(j).getD ((l.getD k aa).b.toNat) 0,(l.getD k aa).n,(l.getD k aa).q⟩:Stp)).flatMap dw⟩,⟨zb,3,((j).set k (Q:Nat)).flatMap cj⟩] [];refine lN (kQ (bM 86 ((k:Nat)+1) (k+1) ?_));refine lL e ae (lD ?_);intro a_ ka;replace e:=e.drop 2 0;refine ⟨_,_,?_,⟨zW,k+1,(j).set k (Q:Nat),(sl).set k (⟨(l.getD k aa).op,(j).getD ((l.getD k aa).a.toNat) 0,(j).getD ((l.getD k aa).b.toNat) 0,(l.getD k aa).n,(l.getD k aa).q⟩:Stp),zu,rfl,rfl,e.to _ _,cf,(bq.imp (fun _ _ y=>y) (fun _ x=>x.elim)),oM,zK,zm,(z.set oM oM oM),(C.set oM ⟨fun x=>by first|exact absurd x aM|(dsimp only;omega)|omega,fun x=>by first|exact absurd x aM|(dsimp only;omega)|omega⟩),(hE.step hF u z oM oM oM (by unfold gH;first|rw[if_neg oM,if_neg oM]|rw[if_pos oM,if_neg oM]|rw[if_pos oM,if_pos oM]) cd bw)⟩,ka.to _ kR⟩
 omega
end Go.Proofs.YteipbelehcpooaaGreatDoor
