/- Laws of this claim, part 7. -/
import Derived.Test.YtjljjeiejbhegaaGreatDoorQk0
import Derived.Test.YtjljjeiejbhegaaGreatDoorQk1
import Derived.Test.YtjljjeiejbhegaaGreatDoorQk2
import Derived.Test.YtjljjeiejbhegaaGreatDoorQk3
import Derived.Test.YtjljjeiejbhegaaGreatDoorQk4
import Derived.Test.YtjljjeiejbhegaaGreatDoorQk5
set_option maxRecDepth 100000
set_option maxHeartbeats 4000000
namespace Go.Proofs.YtjljjeiejbhegaaGreatDoor
open _root_.Array renaming setIfInBounds_comm -> gq
open Bool renaming and_eq_true -> lu, noConfusion -> O8
open List renaming all_eq_true -> o0, any_eq_true -> s9, append_nil -> PX, cons_append -> MR, getD_eq_getElem?_getD -> Nc, getElem?_eq_getElem -> O5, getElem?_set -> PB, getElem_mem -> gg, length_append -> zY, length_cons -> uA, length_drop -> Np, length_map -> PH, length_nil -> Pb, length_range -> PP, length_replicate -> O4, length_set -> NI, length_take -> MV, lookup_cons -> i3, map_append -> PV, map_cons -> A7, mem_append -> gs, mem_cons -> hC, mem_cons_of_mem -> N6, mem_cons_self -> N5, mem_filter -> PT, mem_flatMap -> NO, mem_map -> g3, mem_range -> pa, mem_singleton -> ti, range -> o2, range_succ -> PU, replicate -> Af, set_getElem_self -> PY, take_length -> y8
open Nat renaming add_zero -> y5, le_of_ble_eq_true -> Hi, le_of_eq -> N4, le_trans -> ep, lt_succ_iff_lt_or_eq -> PJ, mul_le_mul -> NF, not_lt_zero -> O9, pow_le_pow_right -> M1, succ_pos -> N0, zero_le -> NY
open Option renaming isNone_iff_eq_none -> PZ, mem_toList -> O3
open Go.RowKit
open Go.RowKit Go.Shelf
open Go.RowKit Go.WideMaps
theorem sK (isb:ByteArray->Bool)(sm:ByteArray->Prop)(oW:∀ s,sm s->∀ (w:World) (h:Hp),G w h->Calls Tryz.prog 69 #[.string s] w (Ret w h (fun v _=>∃ b,v=.bool b/\b=isb s))):∀ (d:Nat) (r:RTm) (t:Tm) (w:World) (h:Hp),G w h->RmH d h r t->ph sm d t ->  Calls Tryz.prog 66 #[bO r] w (Ret w h (fun v _=>∃ e,v=.bool e/\(e=true↔WfT (fun s=>isb s=true) d t)))
  | 0,_,_,_,_,_,x,_=>x.elim
  | d+1,r,t,w,h,g,x,wf=>by
    obtain ⟨op,n,b,F,i,f,p,D,B,q,s,A,c,z,ks,rfl,rfl,I,u,l,a⟩:=x.open;obtain ⟨C,y,o,J,j,H⟩:=wf;exact BZ isb sm oW d (fun r t w h=>sK isb sm oW d r t w h) op n b F i f p D B q s A c z ks u C y o J j H w h g I l a
theorem D3  (ok:ByteArray->Prop)(d)(ih:∀ (r:RTm) (t:Tm) (w:World) (h:Hp),G w h->RmH d h r t->WfT ok d t->Calls Tryz.prog 67 #[bO r] w (Ret w h (fun v _=>v=iV ((min (bL d t) (2^30):Nat):Int))))(op n)(z:Bool)(D x u y C B q s A c)(e:List RTm)(ks:List Tm)(hc:e.length<=c)(hk3:ks.length<=2)(W:gQ op=(ks.length:Nat))(Y:op≠1->q=0)(hq:LQ 3000 q)(X:op=2->ok s)(hs0:op≠2->s=⟨#[]⟩)(V:op≠8->n=0)(I : -12<=n)(H:n<=12)(hW:∀ i,i<ks.length->WfT ok d (ks.getD i di))(w h)(g:G w h)(hZ:RZ h (z,.slice D x u,.slice y C B) q)(Z:SlO 7 bJ bX h A e)(S:Rms d h e ks):CV 67 #[bO ⟨op,n,z,D,x,u,y,C,B,s,A,e.length,c⟩] w h (iV ((min (bL (d+1) (.mk op n q s ks)) (2^30):Nat):Int)):=by
 have a:=((((sS g).add (K:=fun j=>RZ j (z,qS D x u,qS y C B) q) hZ).aS Z).add (K:=fun j=>Rms d j e ks) S);have hln:=(a.f.1).len;refine go Tryz.func67 [(0,bO ⟨op,n,z,D,x,u,y,C,B,s,A,e.length,c⟩)] rfl (aA (lA 1 31 (bJ ⟨op,n,z,D,x,u,y,C,B,s,A,e.length,c⟩) a (fun F w2 h3 a=>lL a ac (ag (aa a [.v (qP F 6),.o (qS A e.length c) 0 6 1,.v (nV e.length)] ?_)))));cases p:((e.length:Int) == (0:Int))
 .
  have L:=aj p;refine lB 8 p (ah (cK (aa a ac (ag (aa a ac (aZ ?_))))));refine bH _ (CG.loop (fun Q Γ w_=>∃ (k:Nat)(sm:Nat)(j:Hp),Q=e.length-k/\Γ=[(1,pB F),(2,iV 0),(4,nV k),(3,nV sm)]/\SS w h w_ j [⟨F,31,bJ ⟨op,n,z,D,x,u,y,C,B,s,A,e.length,c⟩⟩] [] [fun j=>Rms d j e ks,fun j=>SlO 7 bJ bX j A e,fun j=>RZ j (z,qS D x u,qS y C B) q]/\k<=e.length/\sm=min (d9 (fun i=>bL d (ks.getD i di)) k) (2^30)) _ ⟨0,0,h3,rfl,rfl,a.to _ _,NY _,rfl⟩ ?_);rintro _ _ w5 ⟨k,sm,h6,hm7,rfl,a,hk,J⟩;have hs1:(d9 (fun i=>bL d (ks.getD i di)) (k+1))=(d9 (fun i=>bL d (ks.getD i di)) k)+bL d (ks.getD k di):=rfl;refine cQ (aa a [.c,.v (qP F 6),.o (qS A e.length c) 0 6 1,.v (nV e.length)] ?_);cases l:(decide ((k:Int)<(e.length:Int)))
  .
   have M:=oF l;refine lB 13 l (ah (CG.exit ?_))
   show CG _ _ _ _ _ _ _ _
   refine aa a [.v (pB F),.o (iV op) 0 0 1,.v (qP F 1),.o (iV n) 0 1 1,.c] (ar 30 a (FV op n (sm:Nat) oM (fun _=>⟨I,H⟩) _ _ a.g) (fun w9 _ a=>lL a ac (lN (kX ?_))));have O:k=ks.length:=by omega
   have U:=kj (d:=d) (op:=op) (n:=n) (q:=q) (s:=s) (ks:=ks) oM;rw[O] at J
   exact a.ret [] (iV (min (fU op n (sm:Nat)) (2^30))) (congrArg (Value.int .i64) (by rw[U,J];exact te V I H))
  have M:=oT l;refine lB 13 l (ak (cK (cQ (kZ (kQ (lL a [.c,.v (qP F 6),.o (qS A e.length c) 0 6 1,.c] (lX 20 A e.length c 7 (k:Nat) k ((a.f.2.1).ok oM) ?_)))))));refine lH 21 (bO (e.getD k bX)) a ((a.f.2.1).el k oM) (ar 22 a (ih (e.getD k bX) (ks.getD k di) _ _ a.g ((a.f.1).at_ k oM) (hW k oM)) (fun _ za a=>lI 23 ((sm:Nat)+((min (bL d (ks.getD k di)) (2^30):Nat):Int)) (lV 24 (iV ((min (d9 (fun i=>bL d (ks.getD i di)) (k+1)) (2^30):Nat):Int)) ?_ (hr:=aK (n:=if ((2^30):Int)<((sm:Nat)+((min (bL d (ks.getD k di)) (2^30):Nat):Int)) then ((2^30):Int) else ((sm:Nat)+((min (bL d (ks.getD k di)) (2^30):Nat):Int))) kR (by split<;>omega)))));refine lL a ac (lN (kQ (lL a ac (bw 15 ((k:Nat)+1) (k+1) ?_))));refine lL a ac (lD ?_);intro a_ ka;refine ⟨_,_,?_,⟨k+1,(min (d9 (fun i=>bL d (ks.getD i di)) (k+1)) (2^30)),za,rfl,rfl,a.to _ _,oM,rfl⟩,ka.to _ kR⟩
  omega
 have L:=eq_of_beq p;exact lB 8 p (ak (aa a ac (ae a [] (iV 1) (congrArg (Value.int .i64) (by rw[Ca oM];rfl)))))
theorem CW (ok:ByteArray->Prop):∀ (d:Nat) (r:RTm) (t:Tm) (w:World) (h:Hp),G w h->RmH d h r t->WfT ok d t->Calls Tryz.prog 67 #[bO r] w (Ret w h (fun v _=>v=iV ((min (bL d t) (2^30):Nat):Int)))
  | 0,_,_,_,_,_,x,_=>x.elim
  | d+1,r,t,w,h,g,x,wf=>by
    obtain ⟨op,n,b,H,i,f,p,F,D,q,s,A,c,B,ks,rfl,rfl,I,u,o,e⟩:=x.open;have a:ks.length<=2:=wf.two;obtain ⟨w1,w2,w3,j,C,z,y,J,l⟩:=wf;exact D3 ok d (fun r t w h=>CW ok d r t w h) op n b H i f p F D q s A c B ks u a w1 w2 w3 j C z y J l w h g I o e
theorem EH  (isb:ByteArray->Bool)(sm:ByteArray->Prop)(oW:∀ s,sm s->∀ (w:World) (h:Hp),G w h->Calls Tryz.prog 69 #[.string s] w (Ret w h (fun v _=>∃ b,v=.bool b/\b=isb s)))(d)(r:RTm)(t)(M:d<=24)(w h)(g:G w h)(hR:RmH d h r t)(x:ph sm d t):CR 28 #[bO r] w h (fun v _=>∃ e:Int,v=iV e/\(e=0↔WfT (fun s=>isb s=true) d t/\bL d t<=1000)):=by
 have a:=((sS g).add (K:=fun j=>RmH d j r t) hR);refine go Tryz.func28 [(0,bO r)] rfl (aA (lA 1 31 (bJ r) a (fun O w2 J a=>lL a ac (ag (kZ (aa a [.o (bO r) 0 0 7] (lC 5 a (uN sm d r t _ _ a.g a.f.1 x oM) ?_)))))));rintro _ F L a ⟨z,rfl,y,B⟩;cases i:(decide ((24:Int)<(z:Int)))
 .
  have p:=oF i;refine lB 6 i (lL a ac (ah (aa a [.o (bO r) 0 0 7] (lC 9 a (sK isb sm oW d r t _ _ a.g a.f.1 x) ?_))));rintro _ I H a ⟨bf,rfl,l⟩;cases D:(bf)
  .
   exact lL a [.v qT,.c] (ak (aa a ac (ae a [] (iV 2) (⟨_,rfl,fun j=>absurd j kD,fun j=>O8 ((l.2 j.1).symm.trans aM)⟩))))
  refine lL a [.v qF,.c] (ah (aa a [.o (bO r) 0 0 7] (ar 13 a (CW (fun s=>isb s=true) d r t _ _ a.g a.f.1 (l.1 aM)) (fun _ _ a=>?_))));cases u:(decide ((1000:Int)<(((min (bL d t) (2^30):Nat):Int):Int)))
  .
   have C:=oF u;exact lB 14 u (lL a ac (ah (cK (aa a ac (ae a [] (iV 0) (⟨_,rfl,fun _=>⟨l.1 aM,by omega⟩,fun _=>rfl⟩))))))
  have C:=oT u;exact lB 14 u (lL a ac (ak (aa a ac (ae a [] (iV 18) (⟨_,rfl,fun j=>absurd j kD,fun j=>by have:=j.2;omega⟩)))))
 have p:=oT i;refine lB 6 i (lL a ac (ak (aa a ac (lN (kX ?_)))))
 exfalso;omega
theorem vQ (A c ns s)(J:ns.length<=1000)(w h)(g:G w h)(F:SlO 1 bA ⟨#[]⟩ h A ns):CR 70 #[.slice A ns.length c,.string s] w h (fun v _=>∃ b,v=.bool b/\(b=true↔s∈ns)):=by
 have a:=((sS g).aS F);refine go Tryz.func70 [(0,qS A ns.length c),(1,.string s)] rfl (aa a ac (ag (aa a ac (aZ ?_))));refine bH _ (CG.loop (fun u Γ D=>∃ (k:Nat)(j:Hp),u=ns.length-k/\Γ=[(0,qS A ns.length c),(1,.string s),(5,nV k)]/\SS w h D j [] [] [fun j=>SlO 1 bA ⟨#[]⟩ j A ns]/\k<=ns.length/\(∀ i,i<k->¬ns.getD i ⟨#[]⟩=s)) _ ⟨0,h,rfl,rfl,a.to _ _,NY _,(fun i hi=>absurd hi (O9 i))⟩ ?_);rintro _ _ w1 ⟨k,y,z,rfl,a,hk,l⟩;refine cQ (aa a [.c,.c,.v (nV ns.length)] ?_);cases d:(decide ((k:Int)<(ns.length:Int)))
 .
  have p:=oF d;refine lB 9 d (ah (CG.exit ?_))
  show CG _ _ _ _ _ _ _ _
  exact aa a ac (ae a [] qF (⟨false,rfl,fun j=>(by cases j),fun j=>(by obtain ⟨H,x,B⟩:=Lo j;exact absurd B (l H oM))⟩))
 have p:=oT d;refine lB 9 d (ak (cK (cQ (kZ (aa a ax (lX 14 A ns.length c 1 (k:Nat) k ((a.f.1).ok oM) ?_))))));refine lH 15 (.string (ns.getD k ⟨#[]⟩)) a ((a.f.1).el k oM) (lL a ac ?_);cases e:(kT (ns.getD k ⟨#[]⟩) s)
 .
  have o:=iA e;refine lB 17 e (ah (cK (kQ (lL a ac (bw 11 ((k:Nat)+1) (k+1) ?_)))));refine lL a ac (lD ?_);intro I C;refine ⟨_,_,?_,⟨k+1,y,rfl,rfl,a.to _ _,oM,(fun i hi=>by rcases PJ.1 hi with j|rfl;exact l i j;assumption)⟩,C.to _ kR⟩
  omega
 have o:=ik e;exact lB 17 e (ak (aa a ac (ae a [] qT (⟨true,rfl,fun _=>KC (by omega:k<ns.length) aM,fun _=>rfl⟩))))
def Lm (s t:ByteArray):Bool:=Go.Op.bytesLess s.toList t.toList
section
variable {M:Ms}{P:Program}{n:Nat}{N R:Po}{X:Nat->Po}{ops:Array Oper}{k k0:Nat}{hr:Hp}{AL:List Al}{L:Array Bool}{Γ:cC}{w:World}{h:Hp}{w0:World}{h0:Hp}{B:List Bx}{Rs:List Rw}{F:List (Hp->Prop)}
theorem Ec {base:Nat}{e:TypeId}{sz:Nat}{A:Z9}{l c n:Nat}{xs:List Value}(o:w.ownsRow base e sz (.slice A l c) n xs):l<=c:=by
 rcases o with ⟨_,⟨e1,_⟩|⟨g,cap,cur,e1,_,_,h1,_⟩⟩
 ·cases e1;exact Nat.le_refl _
 ·cases e1;exact h1
theorem m8 {α:Type}{o:Oper}{ty:TypeId}{sz bt c c2 j:Nat}{z:Value}{A C:Z9}{l:List α}{f:α->List Value}(s:SS w0 h0 w h B Rs F)(L:sJ P (ev Γ) o=some (.slice A l.length c,.slice C 0 c2,ty,z,sz,bt))(H:Rs.getD j default=⟨ty,sz,A,c,l.length,l.flatMap f⟩)(D:j<Rs.length):
    (execOp (ev Γ) o).run P w=.ok (.value (.slice A l.length c)) w:=by
  obtain ⟨x,y,e,J,K,M,i,hi⟩:=j3 L;have r:=s.ro _ (gg D);rw[fj H D] at r
  cases d:P.info? ty with
  | none=>rw[d] at hi;cases hi
  | some inf =>
    rw[d] at hi;have I:Src P inf.size e (.slice C 0 c2) 0 [] w:=by
      cases C with
      | none=>exact Src.ofNil w i c2
      | some a=>exact Src.ofSlice w i a 0 c2 [] (by simp) (fun j u D=>by cases D) (fun u i=>by cases i)
    have p:=run_append_nothing (P:=P) w e e o.type ty inf i d A l.length c (Ec r.own) (.slice C 0 c2) I
    unfold execOp;simp only[J,resolve,invoke,builtin,Sem.run_bind,Sem.run_pure,Result.andThen_ok,List.map_toArray,A7,List.map_nil,K,M,p]
theorem Mi {α:Type}(t j ty sz c A)(l:List α)(f:α->List Value)(d:α)(o)(m:List α)(C c2 bt z)(s:SS w0 h0 w h B Rs F)(so:SlO sz f d h o m)
    (H:∀ A' c' w' h',SS w0 h0 w' h' B (Rs.set j ⟨ty,sz,A',c',(l++m).length,(l++m).flatMap f⟩) F->LG P n N R X ops (k+1) ((t,.slice A' (l++m).length c')::Γ) w')
    (p:cL ops Γ k t n=true:=by kernel_rfl)(D:sJ P (ev Γ) (am ops k)=some (.slice A l.length c,.slice o C c2,ty,z,sz,bt):=by kernel_rfl)(hn:C=m.length:=by omega)(hf:∀ x,(f x).length=sz:=by intro _;rfl)(h1:∀ x,(f x).all (·.oneCell')=true:=by intro _;kernel_rfl)(i:z.cells.size=sz:=by kernel_rfl)(e:0<sz:=by decide)
    (hr:Rs.getD j default=⟨ty,sz,A,c,l.length,l.flatMap f⟩:=by kernel_rfl)(y:decide (j<Rs.length)=true:=by kernel_rfl)(L:l.length+m.length<=(2^40):=by omega)(K:(l.length+m.length)*bt<=(2^47):=by omega):LG P n N R X ops k Γ w:=by
  subst hn;cases m with
  | nil =>
    have a:=oT y;have J:l++[]=l:=PX l;rw[J] at H
    have I:Rs.set j ⟨ty,sz,A,c,l.length,l.flatMap f⟩=Rs:=by
      have:=fj hr a;rw[<-this,PY]
    have u:=s;rw[<-I] at u;exact LG.val t _ w (bS p).1 (bS p).2 (m8 s D hr a) (H A c w h u)
  | cons x xs=>exact Mb t j ty sz c A l f d o (x::xs) c2 bt z s so (N0 _) H p D hf h1 i e hr y L K
theorem D8 {n:Nat}{a:Act}{Γ:cC}{c d:Nat}{f i:Value}(h:c≠d)(k:Kn n a ((c,f)::(d,i)::Γ)):Kn n a ((d,i)::(c,f)::Γ):=by
 have e:∀ s:Nat,((d,i)::(c,f)::Γ).lookup s=((c,f)::(d,i)::Γ).lookup s:=fun s=>by
  simp only[i3];by_cases e1:s=c
  ·subst e1
   have:(s == d)=false:=by simpa using h
   rw[this]
  ·have:(s == c)=false:=by simpa using e1
   rw[this]
 refine k.mono (fun s u j=>(e s)▸j) ?_
 unfold gI;rw[e]
theorem uo {K b:Nat}{w w':World}{v:Value}(hz:M.z=some (K,[]))(d:K<=w.heap.size)(hv:∀ b,v.ownBlock=some b->K<=b)(a:w.grownBy w' v.ownBlock):Tl M w w':=fun f bs e=>by
 rw[hz] at e;injection e with e;injection e with e1 e2;subst e1 e2;exact ⟨a.size,fun b c _=>a.block b oM (fun e=>by have:=hv b e.symm;omega)⟩
theorem KF (i j l o C H z e)
  (D:(Region.ready .any ops L == [i,j] && decide (i<ops.size) && decide (j<ops.size) && Region.noSelect ops && bc Γ (am ops i) && bc Γ (am ops j) && ((am ops i).dst == some l) && ((am ops j).dst == some o) && decide (l<n) && decide (o<n))=true)
  (y:bu ops Γ (am ops i)=some true)(x:bu ops Γ (am ops j)=some true)
  (B:(execOp (ev Γ) (am ops i)).run P w=.ok (.value C) z)(u:Tl M w z)(K:AG M P n N R X ops 0 (L.setIfInBounds i true) ((l,C)::Γ) z)
  (f:(execOp (ev Γ) (am ops j)).run P w=.ok (.value H) e)(h:Tl M w e)(V:AG M P n N R X ops 0 (L.setIfInBounds j true) ((o,H)::Γ) e):AG M P n N R X ops 0 L Γ w:=by
 simp only[lu,decide_eq_true_eq,beq_iff_eq] at D;obtain ⟨⟨⟨⟨⟨⟨⟨⟨⟨c1,c2⟩,I⟩,F⟩,S⟩,U⟩,Q⟩,J⟩,O⟩,p⟩:=D;intro a c;refine A.intro (fun h0=>by rw[c1] at h0;cases h0) (fun k hk=>?_);rw[c1] at hk
 rcases hC.1 hk with rfl|hk
 ·refine OpR.wpOp (bK c2) (R:=fun v w'=>Tl M w w'/\A M P ops (iy N R X) 0 (L.setIfInBounds k true) (a.put (am ops k).dst v) w') ⟨c.want y,?_⟩ (fun v w' d=>⟨Rl.tl (NY _) d.1,d.2⟩)
  rw[c.exec (Region.noSelect_spec F k _ · · (bK c2)) S,Q];exact .inl ⟨_,_,B,u,K _ (c.put O _)⟩
 ·rw[ti] at hk
  subst hk;refine OpR.wpOp (bK I) (R:=fun v w'=>Tl M w w'/\A M P ops (iy N R X) 0 (L.setIfInBounds k true) (a.put (am ops k).dst v) w') ⟨c.want x,?_⟩ (fun v w' d=>⟨Rl.tl (NY _) d.1,d.2⟩);rw[c.exec (Region.noSelect_spec F k _ · · (bK I)) U,J];exact .inl ⟨_,_,f,h,V _ (c.put p _)⟩
theorem jc {K:Nat}(hz:M.z=some (K,[]))(o:Obj){W:World}(d:K<=W.heap.size):Tl M W (W.alloc o)/\K<=(W.alloc o).heap.size:=by
 have f:(W.alloc o).heap.size=W.heap.size+1:=Array.size_push _;refine ⟨fun c bs e=>?_,by omega⟩;rw[hz] at e
 injection e with e;injection e with e1 e2;subst e1 e2;exact ⟨by omega,fun b a _=>by
  show (W.heap.push o)[b]?=W.heap[b]?
  rw[Array.getElem?_push,if_neg oM]⟩
theorem SS.new0 {α:Type}(f:α->List Value){sz:Nat}(s:SS w0 h0 w h B Rs F)(ty)(hf:∀ x,(f x).length=sz):SS w0 h0 (w.alloc (.cells #[] ty (0,0))) (h.push bp) B (⟨ty,sz,some ⟨w.heap.size,0,none⟩,0,0,[]⟩::Rs) F:=s.newr (l:=([]:List α)) (f:=f) ty hf (NY _)
theorem SS.newS (s:SS w0 h0 w h B Rs F)(ty cs):SS w0 h0 (w.alloc (.cells cs.toArray ty (0,0))) (h.push (.cells cs.toArray ty (0,0))) B Rs ((fun h=>Seg h w.heap.size 0 cs)::F):=by
 refine (s.step (Up.allocAny s.g _ _ (.inl rfl))).a_Seg ?_;have e:h.size=w.heap.size:=by have:=s.g.size;omega
 rw[<-e];exact Seg.new cs ty
theorem tC {K:Nat}{α:Type}{o:Oper}{ty:TypeId}{sz:Nat}{f:α->List Value}{d:α}{L:Nat}{X:Z9}{m:List α}{c2 bt:Nat}{z:Value}(hz:M.z=some (K,[]))(I:K<=w.heap.size)(O:K<=L)(s:SS w0 h0 w h B (⟨ty,sz,some ⟨L,0,none⟩,0,0,[]⟩::Rs) F)(so:SlO sz f d h X m)
    (U:sJ P (ev Γ) o=some (.slice (some ⟨L,0,none⟩) 0 0,.slice X m.length c2,ty,z,sz,bt))(hf:∀ x,(f x).length=sz)(h1:∀ x,(f x).all (·.oneCell')=true)(V:z.cells.size=sz)(D:0<sz)(hm:m.length<=(2^40))(hb:m.length*bt<=(2^47)) :
    ∃ i c' w' J,(execOp (ev Γ) o).run P w=.ok (.value (.slice i m.length c')) w'/\Tl M w w'/\(∀ b,(Value.slice i m.length c').ownBlock=some b->K<=b)/\K<=w'.heap.size/\SS w0 h0 w' J B (⟨ty,sz,i,c',m.length,m.flatMap f⟩::Rs) F:=by
  cases m with
  | nil=>exact ⟨_,_,w,h,m8 (α:=α) (j:=0) (l:=[]) (f:=f) s U rfl (N0 _),Tl.refl _ _,(fun b e=>by cases e;exact O),I,s⟩
  | cons x xs =>
    have C:0<(x::xs).length:=N0 _;rw[so.ok C] at U
    obtain ⟨x',y,Z,ho,hx,W,Q,hi⟩:=j3 U
    obtain ⟨v',w',H,ow,S,a⟩:=qz (P:=P) ho hx W Q hi V D s.st (cn hf (x::xs)) (g7 s.g (so.flat hf)) (fun u Q=>by
      obtain ⟨y,_,W⟩:=NO.1 Q;exact (o0.1 (h1 y)) u W) C hm hb
    have hv:∀ b,v'.ownBlock=some b->K<=b:=fun b e=>by
      rcases a with h1|h1
      . rw[h1] at e;cases e
      . rw[h1] at e;cases e;exact I
    obtain ⟨J,i,c',rfl,e2,s2⟩:=(s.nil ty sz).grown (j:=0) (by simp) (w':=w') (v':=v') (m2:=(x::xs).length) (news:=(x::xs).flatMap f) ow S a;have Y:Tl M w w':=uo (b:=0) hz I (v:=Value.slice none 0 0) (fun b e=>by cases e) S;have p:SS w0 h0 w' J B (⟨ty,sz,i,c',(x::xs).length,(x::xs).flatMap f⟩::⟨ty,sz,some ⟨L,0,none⟩,0,0,[]⟩::Rs) F:=by simpa using s2
    have c:(execOp (ev Γ) o).run P w=.ok (.value (.slice i (x::xs).length c')) w':=by rw[H];simp
    refine ⟨i,c',w',J,c,Y,(fun b e=>hv b (by simpa using e)),ep I S.size,⟨p.g0,p.st,fun r hr=>p.ro r ?_,?_,p.mo,p.f⟩⟩
    . rcases hC.1 hr with e|e
      . exact hC.2 (.inl e)
      . exact hC.2 (.inr (hC.2 (.inr e)))
    . exact List.Pairwise.sublist (List.Sublist.cons_cons _ (List.sublist_cons_self _ _)) p.ap
theorem AQ {n:Nat}{a:Act}{Γ:cC}{l c d:Nat}{j f i:Value}(h:c≠d)(k:Kn n a ((l,j)::(c,f)::(d,i)::Γ)):Kn n a ((l,j)::(d,i)::(c,f)::Γ):=by
 have e:∀ s:Nat,((l,j)::(d,i)::(c,f)::Γ).lookup s=((l,j)::(c,f)::(d,i)::Γ).lookup s:=fun s=>by
  simp only[i3];by_cases e1:s=c
  ·subst e1
   have:(s == d)=false:=by simpa using h
   rw[this]
  ·have:(s == c)=false:=by simpa using e1
   rw[this]
 refine k.mono (fun s u o=>(e s)▸o) ?_
 unfold gI;rw[e]
theorem Mk {K:Nat}{α:Type}(i j k c l p e o sz)(f:α->List Value)(d:α)(y cs A2)(m:List α)(n2 c2 bt z)(hz:M.z=some (K,[]))(hK:K<=w.heap.size)(s:SS w0 h0 w h B Rs F)(so:∀ h,AllF F h->SlO sz f d h A2 m)
  (H:∀ b0 D c' b' w' h',(∀ b,(Value.slice D m.length c').ownBlock=some b->K<=b)->K<=w'.heap.size->SS w0 h0 w' h' B (⟨e,sz,D,c',m.length,m.flatMap f⟩::Rs) ((fun h=>Seg h b' 0 cs)::F) ->
   AG M P n N R X ops 0 (((L.setIfInBounds i true).setIfInBounds j true).setIfInBounds k true) ((p,.slice D m.length c')::(l,.slice (some ⟨b',0,none⟩) y y)::(c,.slice (some ⟨b0,0,none⟩) 0 0)::Γ) w')
  (hn:n2=m.length:=by omega)(hd:(decide (c≠l) && decide (l≠p) && decide (i≠j) && decide (j≠k))=true:=by kernel_rfl)
  (c1:(Region.ready .any ops L == [i,j] && decide (i<ops.size) && decide (j<ops.size) && Region.noSelect ops && bc Γ (am ops i) && bc Γ (am ops j) && ((am ops i).dst == some c) && ((am ops j).dst == some l) && decide (c<n) && decide (l<n))=true:=by kernel_rfl)
  (c2_:∀ u,(Region.ready .any ops (L.setIfInBounds i true) == [k,j] && decide (k<ops.size) && decide (j<ops.size) && Region.noSelect ops && bc ((c,u)::Γ) (am ops k) && bc ((c,u)::Γ) (am ops j) && ((am ops k).dst == some p) && ((am ops j).dst == some l) && decide (p<n) && decide (l<n))=true:=by intro _;kernel_rfl)
  (hwi:bu ops Γ (am ops i)=some true:=by kernel_rfl)(hwj:bu ops Γ (am ops j)=some true:=by kernel_rfl)(Y:∀ u,bu ops ((c,u)::Γ) (am ops j)=some true:=by intro _;kernel_rfl)(Q:∀ u,bu ops ((c,u)::Γ) (am ops k)=some true:=by intro _;kernel_rfl)
  (ci:∀ u,(iE ops 0 (L.setIfInBounds j true) i && bc ((l,u)::Γ) (am ops i) && ((am ops i).dst == some c) && decide (c<n))=true:=by intro _;kernel_rfl)(bd:∀ u,bu ops ((l,u)::Γ) (am ops i)=some true:=by intro _;kernel_rfl)
  (cj:∀ u v,(iE ops 0 ((L.setIfInBounds i true).setIfInBounds k true) j && bc ((p,v)::(c,u)::Γ) (am ops j) && ((am ops j).dst == some l) && decide (l<n))=true:=by intro _ _;kernel_rfl)(S:∀ u v,bu ops ((p,v)::(c,u)::Γ) (am ops j)=some true:=by intro _ _;kernel_rfl)
  (J:∀ u v,cT n ops 0 ((L.setIfInBounds i true).setIfInBounds j true) ((l,v)::(c,u)::Γ) k p=true:=by intro _ _;kernel_rfl)(ck2:∀ u v,cT n ops 0 ((L.setIfInBounds j true).setIfInBounds i true) ((c,u)::(l,v)::Γ) k p=true:=by intro _ _;kernel_rfl)
  (hri:∀ w,(execOp (ev Γ) (am ops i)).run P w=.ok (.value (.slice (some ⟨w.heap.size,0,none⟩) 0 0)) (w.alloc (.cells #[] e (0,0))):=by intro _;kernel_rfl)(bj:∀ u w,(execOp (ev ((l,u)::Γ)) (am ops i)).run P w=.ok (.value (.slice (some ⟨w.heap.size,0,none⟩) 0 0)) (w.alloc (.cells #[] e (0,0))):=by intro _ _;kernel_rfl)
  (hrj:∀ w,(execOp (ev Γ) (am ops j)).run P w=.ok (.value (.slice (some ⟨w.heap.size,0,none⟩) y y)) (w.alloc (.cells cs.toArray o (0,0))):=by intro _;kernel_rfl)(bb:∀ u w,(execOp (ev ((c,u)::Γ)) (am ops j)).run P w=.ok (.value (.slice (some ⟨w.heap.size,0,none⟩) y y)) (w.alloc (.cells cs.toArray o (0,0))):=by intro _ _;kernel_rfl)
  (O:∀ u v w,(execOp (ev ((p,v)::(c,u)::Γ)) (am ops j)).run P w=.ok (.value (.slice (some ⟨w.heap.size,0,none⟩) y y)) (w.alloc (.cells cs.toArray o (0,0))):=by intro _ _ _;kernel_rfl)
  (e1:∀ b,sJ P (ev ((c,.slice (some ⟨b,0,none⟩) 0 0)::Γ)) (am ops k)=some (.slice (some ⟨b,0,none⟩) 0 0,.slice A2 n2 c2,e,z,sz,bt):=by intro _;kernel_rfl)
  (e2:∀ b v,sJ P (ev ((l,v)::(c,.slice (some ⟨b,0,none⟩) 0 0)::Γ)) (am ops k)=some (.slice (some ⟨b,0,none⟩) 0 0,.slice A2 n2 c2,e,z,sz,bt):=by intro _ _;kernel_rfl)
  (e3:∀ b v,sJ P (ev ((c,.slice (some ⟨b,0,none⟩) 0 0)::(l,v)::Γ)) (am ops k)=some (.slice (some ⟨b,0,none⟩) 0 0,.slice A2 n2 c2,e,z,sz,bt):=by intro _ _;kernel_rfl)
  (hf:∀ x,(f x).length=sz:=by intro _;rfl)(h1:∀ x,(f x).all (·.oneCell')=true:=by intro _;kernel_rfl)(I:z.cells.size=sz:=by kernel_rfl)(C:0<sz:=by decide)(hm:m.length<=(2^40):=by omega)(hb:m.length*bt<=(2^47):=by omega):AG M P n N R X ops 0 L Γ w:=by
 subst hn;simp only[lu,decide_eq_true_eq] at hd;obtain ⟨⟨⟨d1,d2⟩,d3⟩,d4⟩:=hd;have si:=s.new0 f e hf;have sj:=s.newS o cs;obtain ⟨x1,x2⟩:=jc (M:=M) hz (.cells #[] e (0,0)) hK;obtain ⟨y1,y2⟩:=jc (M:=M) hz (.cells cs.toArray o (0,0)) hK;refine KF i j c l _ _ _ _ c1 hwi hwj (hri w) x1 ?_ (hrj w) y1 ?_
 ·obtain ⟨D,c',w',h',r1,Z,r3,V,r5⟩:=tC (M:=M) (Γ:=(c,.slice (some ⟨w.heap.size,0,none⟩) 0 0)::Γ) hz x2 hK si (so _ si.f) (e1 _) hf h1 I C hm hb
  obtain ⟨q1,q2⟩:=jc (M:=M) hz (.cells cs.toArray o (0,0)) x2;refine KF k j p l _ _ _ _ (c2_ _) (Q _) (Y _) r1 Z ?_ (bb _ _) q1 ?_
  ·obtain ⟨p1,p2⟩:=jc (M:=M) hz (.cells cs.toArray o (0,0)) V
   refine T.val j l _ _ (cj _ _) (S _ _) (O _ _ _) ?_ p1;intro a ka;have U:=H _ D c' _ _ _ r3 p2 (r5.newS o cs) a (D8 d2 ka);rw[gq _ _ d4] at U
   exact U
  ·have W:=si.newS o cs
   obtain ⟨D,c',w',h',r1,Z,r3,V,r5⟩:=tC (M:=M) (Γ:=(l,.slice (some ⟨_,0,none⟩) y y)::(c,.slice (some ⟨w.heap.size,0,none⟩) 0 0)::Γ) hz q2 hK W (so _ W.f.2) (e2 _ _) hf h1 I C hm hb;exact T.val k p _ _ (jG (J _ _)).1 (jG (J _ _)).2 r1 (H _ D c' _ _ _ r3 V r5) Z
 ·obtain ⟨q1,q2⟩:=jc (M:=M) hz (.cells #[] e (0,0)) y2
  have sji:=sj.new0 f e hf;refine T.val i c _ _ (ci _) (bd _) (bj _ _) ?_ q1;obtain ⟨D,c',w',h',r1,Z,r3,V,r5⟩:=tC (M:=M) (Γ:=(c,.slice (some ⟨_,0,none⟩) 0 0)::(l,.slice (some ⟨w.heap.size,0,none⟩) y y)::Γ) hz q2 y2 sji (so _ sji.f.2) (e3 _ _) hf h1 I C hm hb;refine T.val k p _ _ (jG (ck2 _ _)).1 (jG (ck2 _ _)).2 r1 ?_ Z;intro a ka;have U:=H _ D c' _ _ _ r3 V r5 a (AQ d1 ka);rw[gq _ _ d3] at U
  exact U
theorem Md {K:Nat}{α:Type}(i t j ty sz c A)(l:List α)(f:α->List Value)(x:α)(bt b z)(hz:M.z=some (K,[]))(O:K<=w.heap.size)(hv:∀ b,(Value.slice A l.length c).ownBlock=some b->K<=b)(s:SS w0 h0 w h B Rs F)(sg:Seg h b 0 (f x))
  (H:∀ D c' w' U,(∀ b,(Value.slice D (l++[x]).length c').ownBlock=some b->K<=b)->K<=w'.heap.size->SS w0 h0 w' U B (Rs.set j ⟨ty,sz,D,c',(l++[x]).length,(l++[x]).flatMap f⟩) F->AG M P n N R X ops 0 (L.setIfInBounds i true) ((t,.slice D (l++[x]).length c')::Γ) w')
  (Y:cT n ops 0 L Γ i t=true:=by kernel_rfl)(he:sJ P (ev Γ) (am ops i)=some (.slice A l.length c,.slice (some ⟨b,0,none⟩) 1 1,ty,z,sz,bt):=by kernel_rfl)(J:z.cells.size=sz:=by kernel_rfl)(I:0<sz:=by decide)
  (Q:Rs.getD j default=⟨ty,sz,A,c,l.length,l.flatMap f⟩:=by kernel_rfl)(hj:decide (j<Rs.length)=true:=by kernel_rfl)(h1:(f x).all (·.oneCell')=true:=by kernel_rfl)(hl:(f x).length=1*sz:=by kernel_rfl)(hm:l.length+1<=(2^40):=by omega)(hb:(l.length+1)*bt<=(2^47):=by omega):AG M P n N R X ops 0 L Γ w:=by
 have o:=oT hj;obtain ⟨x',y,ty',ho,hx,hy,S,hi⟩:=j3 he;have r:=s.ro _ (gg o);have p:=fj Q o;rw[p] at r
 obtain ⟨v',w',a,ow,V,d⟩:=me (P:=P) ho hx hy S hi J I s.st r hl (kO s.g sg) (fun u S=>(o0.1 h1) u S) hm hb
 have C:∀ b,v'.ownBlock=some b->K<=b:=fun b e=>by
  rcases d with h1|h1
  ·exact hv b (h1▸e)
  ·rw[h1] at e;cases e;exact O
 have hT:Tl M w w':=uo (b:=0) hz O hv V;have Z:=s.grown (j:=j) o (w':=w') (v':=v') (m2:=1) (news:=f x) (by rw[p];exact ow) (by rw[p];exact V) (by rw[p];exact d);rw[p] at Z
 obtain ⟨U,D,c',rfl,e2,W⟩:=Z;have e1:l.length+1=(l++[x]).length:=by simp
 simp only[] at W;rw[nw,e1] at W;rw[e1] at a C;exact T.val i t _ w' (jG Y).1 (jG Y).2 a (H D c' w' U C (ep O V.size) W) hT
theorem Mj {K:Nat}{α:Type}(i t j ty sz c A)(l:List α)(f:α->List Value)(d:α)(A2)(m:List α)(n2 c2 bt z)(hz:M.z=some (K,[]))(Q:K<=w.heap.size)(hv:∀ b,(Value.slice A l.length c).ownBlock=some b->K<=b)(s:SS w0 h0 w h B Rs F)(so:SlO sz f d h A2 m)
    (H:∀ J c' w' V,K<=w'.heap.size->SS w0 h0 w' V B (Rs.set j ⟨ty,sz,J,c',(l++m).length,(l++m).flatMap f⟩) F->AG M P n N R X ops 0 (L.setIfInBounds i true) ((t,.slice J (l++m).length c')::Γ) w')
    (I:cT n ops 0 L Γ i t=true:=by kernel_rfl)(Z:sJ P (ev Γ) (am ops i)=some (.slice A l.length c,.slice A2 n2 c2,ty,z,sz,bt):=by kernel_rfl)(hn:n2=m.length:=by omega)(hf:∀ x,(f x).length=sz:=by intro _;rfl)(h1:∀ x,(f x).all (·.oneCell')=true:=by intro _;kernel_rfl)(O:z.cells.size=sz:=by kernel_rfl)(D:0<sz:=by decide)
    (o:Rs.getD j default=⟨ty,sz,A,c,l.length,l.flatMap f⟩:=by kernel_rfl)(hj:decide (j<Rs.length)=true:=by kernel_rfl)(hm:l.length+m.length<=(2^40):=by omega)(hb:(l.length+m.length)*bt<=(2^47):=by omega):AG M P n N R X ops 0 L Γ w:=by
  subst hn;have a:=oT hj;cases m with
  | nil =>
    have e0:l++[]=l:=PX l;rw[e0] at H
    have es:Rs.set j ⟨ty,sz,A,c,l.length,l.flatMap f⟩=Rs:=by
      have:=fj o a;rw[<-this,PY]
    have s1:=s;rw[<-es] at s1;exact T.val i t _ w (jG I).1 (jG I).2 (m8 s Z o a) (H A c w h Q s1)
  | cons x xs =>
    have S:0<(x::xs).length:=N0 _;rw[so.ok S] at Z
    obtain ⟨x',y,ty',ho,hx,hy,U,hi⟩:=j3 Z;have r:=s.ro _ (gg a);have p:=fj o a;rw[p] at r
    obtain ⟨v',w',e,ow,W,C⟩:=me (P:=P) ho hx hy U hi O D s.st r (cn hf (x::xs)) (g7 s.g (so.flat hf)) (fun u U=>by
      obtain ⟨y,_,hy⟩:=NO.1 U;exact (o0.1 (h1 y)) u hy) hm hb
    have hT:Tl M w w':=uo (b:=0) hz Q hv W;have hg:=s.grown (j:=j) a (w':=w') (v':=v') (m2:=(x::xs).length) (news:=(x::xs).flatMap f) (by rw[p];exact ow) (by rw[p];exact W) (by rw[p];exact C);rw[p] at hg
    obtain ⟨V,J,c',rfl,e2,Y⟩:=hg;have e1:l.length+(x::xs).length=(l++(x::xs)).length:=by simp
    simp only[] at Y;rw[rp,e1] at Y;rw[e1] at e;exact T.val i t _ w' (jG I).1 (jG I).2 e (H J c' w' V (ep Q W.size) Y) hT
theorem zT (i t A len a sz x j)(H:AG M P n N R X ops 0 (L.setIfInBounds i true) ((t,.slice A j a)::Γ) w)(d:ww n ops L Γ i t=true:=by kernel_rfl)(e:DA P (ev Γ) (am ops i)=some (.slice A len a,none,some (.int .i64 x),sz):=by kernel_rfl)(hk:x=j:=by omega)(c:j<=a:=by omega):AG M P n N R X ops 0 L Γ w :=
 zV i t _ H d (uv j e hk c)
theorem zF (i t A len a sz x j)(H:AG M P n N R X ops 0 (L.setIfInBounds i true) ((t,.slice (if a=j then A else A.map (·.add (j*sz))) (len-j) (a-j))::Γ) w)(d:ww n ops L Γ i t=true:=by kernel_rfl)(e:DA P (ev Γ) (am ops i)=some (.slice A len a,some (.int .i64 x),none,sz):=by kernel_rfl)(hk:x=j:=by omega)(c:j<=len:=by omega):AG M P n N R X ops 0 L Γ w :=
 zV i t _ H d (mG j e hk c)
end
theorem uO {us:List ByteArray}{i:Nat}{s:ByteArray}{op:Int}(h:op=2)(x):x∈us.take i++[s]++us.drop i↔(x∈us\/(op=2/\x=s)):=by
 have e:x∈us↔x∈us.take i\/x∈us.drop i:=by rw[<-gs,List.take_append_drop]
 rw[e,gs,gs,ti];constructor
 ·rintro ((h1|h1)|h1)
  ·exact .inl (.inl h1)
  ·exact .inr ⟨h,h1⟩
  ·exact .inl (.inr h1)
 ·rintro ((h1|h1)|⟨_,h1⟩)
  ·exact .inl (.inl h1)
  ·exact .inr h1
  ·exact .inl (.inr h1)
theorem El {us:List ByteArray}{i:Nat}{s:ByteArray}{op:Int}(hi:i<us.length)(a:us.getD i ⟨#[]⟩=s)(x):x∈us↔(x∈us\/(op=2/\x=s)):=by
 constructor
 ·exact .inl
 ·rintro (h1|⟨_,rfl⟩)
  ·exact h1
  ·rw[<-a];exact KC hi rfl
theorem FE {us:List ByteArray}{s:ByteArray}{op:Int}(h:op≠2)(x):x∈us↔(x∈us\/(op=2/\x=s)):=by
 constructor
 ·exact .inl
 ·rintro (h1|⟨a,_⟩)
  ·exact h1
  ·exact absurd a h
theorem L8 {d:Nat}{ks:List Tm}{x:ByteArray}(a b:Prop):(a\/b)↔(a\/b\/HasK d ks 0 x):=by
 constructor
 ·rintro (h|h)
  ·exact .inl h
  ·exact .inr (.inl h)
 ·rintro (h|h|⟨i,hi,_⟩)
  ·exact .inl h
  ·exact .inr h
  ·exact absurd hi (O9 i)
theorem L0 {d k:Nat}{ks:List Tm}{x:ByteArray}{n:Prop}{a b:Prop}(h:n↔(a\/b\/HasK d ks k x)):(n\/fJ d (ks.getD k di) x)↔(a\/b\/HasK d ks (k+1) x):=by
 rw[h];constructor
 ·rintro ((h1|h1|⟨i,hi,h1⟩)|h1)
  ·exact .inl h1
  ·exact .inr (.inl h1)
  ·exact .inr (.inr ⟨i,by omega,h1⟩)
  ·exact .inr (.inr ⟨k,by omega,h1⟩)
 ·rintro (h1|h1|⟨i,hi,h1⟩)
  ·exact .inl (.inl h1)
  ·exact .inl (.inr (.inl h1))
  ·rcases PJ.1 hi with h2|rfl
   ·exact .inl (.inr (.inr ⟨i,h2,h1⟩))
   ·exact .inr h1
theorem Fl  (ok:ByteArray->Prop)(d)(ih:∀ (r:RTm) (t:Tm) (y:Z9) (z:Nat) (us:List ByteArray) (w:World) (h:Hp),G w h->RmH d h r t->WfT ok d t->us.length<=z->SlO 1 bA ⟨#[]⟩ h y us->us.length+ff d t<=1000000->Calls Tryz.prog 116 #[bO r,.slice y us.length z] w (Ret w h (fun v h1=>∃ A_ c_,∃ u:List ByteArray,v=.slice A_ u.length c_/\u.length<=c_/\u.length<=us.length+ff d t/\SlO 1 bA ⟨#[]⟩ h1 A_ u/\∀ x,x∈u↔(x∈us\/fJ d t x))))(op n)(Q:Bool)(L M S O J I q s A c)(C:List RTm)(ks:List Tm)(hc:C.length<=c)(y z us)(hk3:ks.length<=2)(hW:∀ i,i<ks.length->WfT ok d (ks.getD i di))(Y:us.length<=z)(hb:us.length+(1+(d9 (fun i=>ff d (ks.getD i di)) ks.length))<=1000000)(w h)(g:G w h)(hZ:RZ h (Q,.slice L M S,.slice O J I) q)(hK:SlO 7 bJ bX h A C)(hKs:Rms d h C ks)(hL:SlO 1 bA ⟨#[]⟩ h y us):CR 116 #[bO ⟨op,n,Q,L,M,S,O,J,I,s,A,C.length,c⟩,.slice y us.length z] w h (fun v h1=>∃ A_ c_,∃ u:List ByteArray,v=.slice A_ u.length c_/\u.length<=c_/\u.length<=us.length+ff (d+1) (.mk op n q s ks)/\SlO 1 bA ⟨#[]⟩ h1 A_ u/\∀ x,x∈u↔(x∈us\/fJ (d+1) (.mk op n q s ks) x)):=by
 have a:=(((((sS g).add (K:=fun e=>RZ e (Q,qS L M S,qS O J I) q) hZ).aS hK).add (K:=fun e=>Rms d e C ks) hKs).aS hL);have hln:=(a.f.2.1).len;refine go Tryz.func116 [(0,bO ⟨op,n,Q,L,M,S,O,J,I,s,A,C.length,c⟩),(1,qS y us.length z)] rfl (aA (lA 2 31 (bJ ⟨op,n,Q,L,M,S,O,J,I,s,A,C.length,c⟩) a (fun D w2 h3 a=>?_)));refine lL a ac (lN (CG.join (fun Γ w_=>∃ (mA:Z9)(mc:Nat)(Z:List ByteArray)(e:Hp),Γ=[(2,pB D),(4,sZ),(1,qS mA Z.length mc)]/\SS w h w_ e [⟨D,31,bJ ⟨op,n,Q,L,M,S,O,J,I,s,A,C.length,c⟩⟩] [] [fun e=>SlO 1 bA ⟨#[]⟩ e mA Z,fun e=>SlO 1 bA ⟨#[]⟩ e y us,fun e=>Rms d e C ks,fun e=>SlO 7 bJ bX e A C,fun e=>RZ e (Q,qS L M S,qS O J I) q]/\Z.length<=mc/\Z.length<=us.length+1/\(∀ x,x∈Z↔(x∈us\/(op=2/\x=s)))) ?_ ?_))
 .
  refine aa a [.v (pB D),.o (iV op) 0 0 1] ?_;cases hb4:((op:Int) == (2:Int))
  .
   have bm:=aj hb4;refine lB 9 hb4 (ah (CG.skip ?_));intro a_ F;replace a:=(a.add (K:=fun e=>SlO 1 bA ⟨#[]⟩ e y us) a.f.1);exact ⟨_,⟨y,z,us,h3,rfl,a.to _ _,Y,oM,(FE oM)⟩,F.to _ kR⟩
  have bm:=eq_of_beq hb4;refine lB 9 hb4 ?_;refine ak (aa a ac (lN (CG.join (fun Γ w_=>∃ (j:Nat)(e:Hp),Γ=[(1,qS y us.length z),(2,pB D),(4,sZ),(5,nV j)]/\SS w h w_ e [⟨D,31,bJ ⟨op,n,Q,L,M,S,O,J,I,s,A,C.length,c⟩⟩] [] [fun e=>SlO 1 bA ⟨#[]⟩ e y us,fun e=>Rms d e C ks,fun e=>SlO 7 bJ bX e A C,fun e=>RZ e (Q,qS L M S,qS O J I) q]/\j<=us.length) ?_ ?_)))
  .
   refine kZ ?_;refine bH _ (CG.loop (fun μ_ Γ w_=>∃ (i:Nat)(e:Hp),μ_=us.length-i/\Γ=[(1,qS y us.length z),(2,pB D),(4,sZ),(5,nV i)]/\SS w h w_ e [⟨D,31,bJ ⟨op,n,Q,L,M,S,O,J,I,s,A,C.length,c⟩⟩] [] [fun e=>SlO 1 bA ⟨#[]⟩ e y us,fun e=>Rms d e C ks,fun e=>SlO 7 bJ bX e A C,fun e=>RZ e (Q,qS L M S,qS O J I) q]/\i<=us.length) _ ⟨0,h3,rfl,rfl,a.to _ _,NY _⟩ ?_);rintro _ _ w9 ⟨i,_,bz,rfl,a,hi⟩;refine cQ (cQ (cR 13 [] mixed a ao ?_));refine eV 0 10 (nV i) (eV 1 11 (qS y us.length z) (eV 2 12 (nV us.length) ?_));cases za:(decide ((i:Int)<(us.length:Int)))
   .
    have zl:=oF za;refine eB 3 13 za (eV 4 14 qF (eG 5 15 (eG 6 16 (eG 7 17 (eG 8 18 (eG 9 19 (eG 10 20 (eG 11 21 (eV 12 22 qF (bM a (fun _ zs a=>tN (dE (CG.exit ?_)))))))))))));intro a_ F;exact ⟨_,⟨i,zs,rfl,a.to _ _,oM⟩,F.to _ kR⟩
   have zl:=oT za;refine eB 3 13 za (eV 4 14 qT (eV 5 15 (qS y us.length z) (eV 6 16 (nV i) (eX 7 17 y us.length z 1 (i:Nat) i ((a.f.1).ok oM) (eH 8 18 (.string (us.getD i ⟨#[]⟩)) a ((a.f.1).el i oM) (eV 9 19 (qP D 5) (eO 10 20 [(0,5,1)] (.string s) a ?_)))))));cases zi:(Lm (us.getD i ⟨#[]⟩) s)
   .
    refine eB 11 21 zi (eV 12 22 qF (bM a (fun _ zt a=>tN (dE (CG.exit ?_)))));intro a_ F;exact ⟨_,⟨i,zt,rfl,a.to _ _,oM⟩,F.to _ kR⟩
   refine eB 11 21 zi (eV 12 22 qT (bM a (fun _ zu a=>tN (ck (cK (kZ (kQ (lL a ac (bw 24 ((i:Nat)+1) (i+1) ?_)))))))));refine lL a ac (lD ?_);intro a_ F;refine ⟨_,_,?_,⟨i+1,zu,rfl,rfl,a.to _ _,oM⟩,F.to _ kR⟩
   omega
  rintro _ _ ⟨j,_,rfl,a,hj⟩;refine cQ (cR 13 [] mixed a ao ?_);refine eV 0 25 (nV j) (eV 1 26 (qS y us.length z) (eV 2 27 (nV us.length) ?_));cases zb:((j:Int) == (us.length:Int))
  .
   have zm:=aj zb;refine eB 3 28 zb (eV 4 29 qF (eV 5 30 (qS y us.length z) (eV 6 31 (nV j) (eX 7 32 y us.length z 1 (j:Nat) j ((a.f.1).ok oM) (eH 8 33 (.string (us.getD j ⟨#[]⟩)) a ((a.f.1).el j oM) (eV 9 34 (qP D 5) (eO 10 35 [(0,5,1)] (.string s) a ?_)))))));cases zd:(nZ (us.getD j ⟨#[]⟩) s)
   .
    have zo:=qo zd;refine eB 11 36 zd (eV 12 37 qF (bM a (fun _ zv a=>tN (dE (CG.skip ?_)))));intro a_ F;replace a:=(a.add (K:=fun e=>SlO 1 bA ⟨#[]⟩ e y us) a.f.1);exact ⟨_,⟨y,z,us,zv,rfl,a.to _ _,Y,oM,(El (i:=j) oM aM)⟩,F.to _ kR⟩
   have zo:=pH zd;refine eB 11 36 zd (eV 12 37 qT (bM a (fun zw _ a=>tN (ck ?_))));obtain ⟨K_,hK_⟩:∃ K_,K_=zw.heap.size:=⟨_,rfl⟩;have H:D<K_:=by rw[hK_];exact fE a 0
   refine xE ⟨[],some (K_,[])⟩ 0 mixed ?_;have bl:=a.g.size;replace a:=a.drew;have B:=N4 hK_;refine zV 1 39 (qS y us.length z) (zV 2 40 (nV j) ?_);have V:(us.take j).length=j:=by rw[MV];omega
   have U:(us.drop j).length=us.length-j:=Np;have X:(us.take j++[s]).length=j+1:=by rw[zY,V];rfl
   have W:(us.take j++[s]++us.drop j).length=us.length+1:=by rw[zY,X,U];omega
   refine zT 3 41 y us.length z 1 (j:Nat) j ?_;replace a:=a.aS ((a.f.1).take j);refine zV 5 43 (qP D 5) (zO 6 44 [(0,5,1)] (.string s) rfl B a (fun p hp=>by obtain rfl:=ti.1 hp;exact H) (zV 9 47 (qS y us.length z) (zV 10 48 (nV j) (zF 11 49 y us.length z 1 (j:Nat) j ?_))));replace a:=a.aS ((a.f.2.1).drop j z Y);refine Mk 0 7 4 38 45 42 9 9 1 bA ⟨#[]⟩ 1 ([.string s]) y (us.take j) j z 16 (eS) rfl B a (fun _ f_=>f_.2.1) (fun b35 zx zB zD _ _ bk B a=>?_) (hn:=by simp only[MV,Np]<;>omega);refine Md 8 46 0 9 1 zB zx (us.take j) bA s 16 zD (eS) rfl B bk a a.f.1 (fun zE zG _ _ bd B a=>Mj 12 50 0 9 1 zG zE (us.take j++[s]) bA ⟨#[]⟩ (if z=j then y else y.map (·.add (j*1))) (us.drop j) (us.length-j) (z-j) 16 (eS) rfl B bd a a.f.2.1 (fun zf zj _ _ B a=>?_) (hn:=by simp only[MV,Np]<;>omega));refine zV 13 1 (qS zf ((us.take j++[s]++(us.drop j)).length) zj) (tD ?_);obtain ⟨zH,a,zq⟩:=a.pubr 0 (A:=zf) (c:=zj) (l:=us.take j++[s]++(us.drop j)) (f:=bA) (ty:=9) (sz:=1) (⟨#[]⟩) (fun _=>rfl);intro a_ F;replace a:=(a.tl.tl.tl.tl.add (K:=fun e=>SlO 1 bA ⟨#[]⟩ e zf (us.take j++[s]++(us.drop j))) a.f.1);exact ⟨_,⟨zf,zj,us.take j++[s]++(us.drop j),zH,rfl,a.to _ _,zq,(by rw[W];omega),(uO oM)⟩,F.to _ kR⟩
  have zm:=eq_of_beq zb;refine eB 3 28 zb (eV 4 29 qT (eG 5 30 (eG 6 31 (eG 7 32 (eG 8 33 (eG 9 34 (eG 10 35 (eG 11 36 (eV 12 37 qT (bM a (fun zI _ a=>tN (ck ?_))))))))))));obtain ⟨K_,hK_⟩:∃ K_,K_=zI.heap.size:=⟨_,rfl⟩;have H:D<K_:=by rw[hK_];exact fE a 0
  refine xE ⟨[],some (K_,[])⟩ 0 mixed ?_;have bl:=a.g.size;replace a:=a.drew;have B:=N4 hK_;refine zV 1 39 (qS y us.length z) (zV 2 40 (nV j) ?_);have V:(us.take j).length=j:=by rw[MV];omega
  have U:(us.drop j).length=us.length-j:=Np;have X:(us.take j++[s]).length=j+1:=by rw[zY,V];rfl
  have W:(us.take j++[s]++us.drop j).length=us.length+1:=by rw[zY,X,U];omega
  refine zT 3 41 y us.length z 1 (j:Nat) j ?_;replace a:=a.aS ((a.f.1).take j);refine zV 5 43 (qP D 5) (zO 6 44 [(0,5,1)] (.string s) rfl B a (fun p hp=>by obtain rfl:=ti.1 hp;exact H) (zV 9 47 (qS y us.length z) (zV 10 48 (nV j) (zF 11 49 y us.length z 1 (j:Nat) j ?_))));replace a:=a.aS ((a.f.2.1).drop j z Y);refine Mk 0 7 4 38 45 42 9 9 1 bA ⟨#[]⟩ 1 ([.string s]) y (us.take j) j z 16 (eS) rfl B a (fun _ f_=>f_.2.1) (fun b64 zJ zK zL _ _ bb B a=>?_) (hn:=by simp only[MV,Np]<;>omega);refine Md 8 46 0 9 1 zK zJ (us.take j) bA s 16 zL (eS) rfl B bb a a.f.1 (fun zM zN _ _ bj B a=>Mj 12 50 0 9 1 zN zM (us.take j++[s]) bA ⟨#[]⟩ (if z=j then y else y.map (·.add (j*1))) (us.drop j) (us.length-j) (z-j) 16 (eS) rfl B bj a a.f.2.1 (fun zg zk _ _ B a=>?_) (hn:=by simp only[MV,Np]<;>omega));refine zV 13 1 (qS zg ((us.take j++[s]++(us.drop j)).length) zk) (tD ?_);obtain ⟨zP,a,zr⟩:=a.pubr 0 (A:=zg) (c:=zk) (l:=us.take j++[s]++(us.drop j)) (f:=bA) (ty:=9) (sz:=1) (⟨#[]⟩) (fun _=>rfl);intro a_ F;replace a:=(a.tl.tl.tl.tl.add (K:=fun e=>SlO 1 bA ⟨#[]⟩ e zg (us.take j++[s]++(us.drop j))) a.f.1);exact ⟨_,⟨zg,zk,us.take j++[s]++(us.drop j),zP,rfl,a.to _ _,zr,(by rw[W];omega),(uO oM)⟩,F.to _ kR⟩
 rintro _ _ ⟨mA,mc,Z,zQ,rfl,a,hmc,hml,hmm⟩;refine cQ (aa a ac (aZ ?_));replace a:=a.add (K:=fun e=>SlO 1 bA ⟨#[]⟩ e mA Z) (a.f.1);refine bH _ (CG.loop (fun μ_ Γ w_=>∃ (k:Nat)(nA:Z9)(nc:Nat)(u:List ByteArray)(e:Hp),μ_=ks.length-k/\Γ=[(2,pB D),(4,sZ),(6,nV k),(1,qS nA u.length nc)]/\SS w h w_ e [⟨D,31,bJ ⟨op,n,Q,L,M,S,O,J,I,s,A,C.length,c⟩⟩] [] [fun e=>SlO 1 bA ⟨#[]⟩ e nA u,fun e=>SlO 1 bA ⟨#[]⟩ e mA Z,fun e=>SlO 1 bA ⟨#[]⟩ e y us,fun e=>Rms d e C ks,fun e=>SlO 7 bJ bX e A C,fun e=>RZ e (Q,qS L M S,qS O J I) q]/\k<=ks.length/\u.length<=nc/\u.length<=us.length+1+(d9 (fun i=>ff d (ks.getD i di)) k)/\(∀ x,x∈u↔(x∈us\/(op=2/\x=s)\/HasK d ks k x))) _ ⟨0,mA,mc,Z,zQ,rfl,rfl,a.to _ _,NY _,hmc,hml,(fun x=>(hmm x).trans (L8 _ _))⟩ ?_);rintro _ _ _ ⟨k,nA,nc,u,_,b0,rfl,a,hk,hnc,hnl,hnm⟩;refine cQ (aa a [.c,.v (qP D 6),.o (qS A C.length c) 0 6 1,.v (nV C.length)] ?_);cases ze:(decide ((k:Int)<(C.length:Int)))
 .
  have zp:=oF ze;refine lB 55 ze (ah (CG.exit ?_))
  show CG _ _ _ _ _ _ _ _
  refine aa a ax (lN (kX ?_));have hkn:k=ks.length:=by omega
  rw[hkn] at hnm hnl;exact a.ret [] (qS nA u.length nc) (⟨_,_,_,rfl,hnc,(by show _<=us.length+(1+(d9 (fun i=>ff d (ks.getD i di)) ks.length));omega),a.f.1,hnm⟩)
 have zp:=oT ze;refine lB 55 ze (ak (cK (cQ (kZ (kQ (lL a [.v (qP D 6),.o (qS A C.length c) 0 6 1,.c] (lX 61 A C.length c 7 (k:Nat) k ((a.f.q.1).ok oM) ?_)))))));refine lH 62 (bO (C.getD k bX)) a ((a.f.q.1).el k oM) (lL a ac ?_);have bn:=o6 (fun i=>ff d (ks.getD i di)) (show k+1<=ks.length by omega);have br:(d9 (fun i=>ff d (ks.getD i di)) (k+1))=(d9 (fun i=>ff d (ks.getD i di)) k)+ff d (ks.getD k di):=rfl;refine lC 64 a (ih (C.getD k bX) (ks.getD k di) nA nc u _ _ a.g ((a.f.r.2.1).at_ k oM) (hW k oM) hnc a.f.1 oM) ?_;rintro _ _ zR a ⟨xA,xc,xss,rfl,hxc,hxl,hX,hxm⟩;replace a:=a.aS hX;refine lL a ac (lN (kQ (lL a ac (bw 57 ((k:Nat)+1) (k+1) ?_))));refine lL a ac (lD ?_);intro a_ F;replace a:=(a.tl.tl.add (K:=fun e=>SlO 1 bA ⟨#[]⟩ e xA xss) a.f.1);refine ⟨_,_,?_,⟨k+1,xA,xc,xss,zR,rfl,rfl,a.to _ _,oM,hxc,oM,(fun x=>(hxm x).trans (L0 (hnm x)))⟩,F.to _ kR⟩
 omega
theorem vR (ok:ByteArray->Prop):∀ (d:Nat) (r:RTm) (t:Tm) (f:Z9) (e:Nat) (us:List ByteArray) (w:World) (h:Hp),G w h->RmH d h r t->WfT ok d t->us.length<=e->SlO 1 bA ⟨#[]⟩ h f us->us.length+ff d t<=1000000->Calls Tryz.prog 116 #[bO r,.slice f us.length e] w (Ret w h (fun v h1=>∃ l o,∃ a:List ByteArray,v=.slice l a.length o/\a.length<=o/\a.length<=us.length+ff d t/\SlO 1 bA ⟨#[]⟩ h1 l a/\∀ x,x∈a↔(x∈us\/fJ d t x)))
  | 0,_,_,_,_,_,_,_,_,x,_,_,_,_=>x.elim
  | d+1,r,t,f,e,us,w,h,g,x,wf,huc,hL,hb=>by
    obtain ⟨op,n,b,I,u,p,B,H,F,q,s,A,c,D,ks,rfl,rfl,J,C,z,j⟩:=x.open;have i:ks.length<=2:=wf.two;obtain ⟨w1,w2,w3,K,O,M,L,Q,y⟩:=wf;exact Fl ok d (fun r t f e us w h=>vR ok d r t f e us w h) op n b I u p B H F q s A c D ks C f e us i y huc hb w h g J z j hL
theorem wL (ok:ByteArray->Prop)(d)(r:RTm)(t)(wf:WfT ok d t)(z:ff d t<=1000000)(w h)(g:G w h)(hR:RmH d h r t):CR 68 #[bO r] w h (fun v h1=>∃ p u,∃ c:List ByteArray,v=.slice p c.length u/\c.length<=u/\c.length<=ff d t/\SlO 1 bA ⟨#[]⟩ h1 p c/\∀ x,x∈c↔fJ d t x):=by
 have a:=((sS g).add (K:=fun D=>RmH d D r t) hR);refine go Tryz.func68 [(0,bO r)] rfl (aA (lA 1 31 (bJ r) a (fun J w2 H a=>lL a ac (aG (lL a [.o (bO r) 0 0 7] (lC 4 a (vR ok d r t none 0 [] _ _ a.g a.f.1 wf (nR _) SlO.nil (by simpa using z)) ?_))))));rintro _ F I a ⟨y,B,j,rfl,i,l,C,e⟩;replace a:=a.aS C;exact lL a ac (ae a [] (qS y j.length B) (⟨_,_,_,rfl,i,by simpa using l,a.f.1,fun x=>by simpa using e x⟩))
section laws
variable {M:Ms}{P:Program}{ops:Array Oper}{Q:Exit->Act->World->Prop}{k0:Nat}
structure Waits (ops:Array Oper) (k0 i:Nat) (late:List Nat):Prop where
  ev:∀ u∈late,∃ ou,ops[u]?=some ou/\∃ e∈ou.after,Region.binds .any e=true/\(e.on=i\/e.on∈late)
  tl:∀ j oj,ops[j]?=some oj->k0<=j->j∈late
end laws
theorem Cr (j:Bool)(p f a i o l q w h)(g:G w h)(C:RZ h (j,.slice p f a,.slice i o l) q):Calls Tryz.prog 72 #[.agg #[.bool j,.slice p f a,.slice i o l]] w (Ret w h (fun v h1=>RQ h1 v q)):=by
 obtain ⟨has,⟨A,c,D,d,e,x,z,y,B⟩,hz⟩:=C;have u:(Value.agg #[.bool j,qS p f a,qS i o l])=.agg #[.bool (af q.num),qS A (lim (ab q.num)).length c,qS D (lim (if has then q.den else 0)).length d]:=e;rw[u];exact DF { ER with q:=q,has:=has } A c D d x z hz w h g y B
theorem GA {ix:ByteArray->Nat}{fs ws:List Rat}{m d:Nat}{n:Int}{q:Rat}{s:ByteArray}{ks:List Tm}:aR ix fs ws m (d+1) (.mk 2 n q s ks)=(0,ii m (fs.getD (ix s) 0) (ws.getD (ix s) 0)):=rfl
theorem IL {m:Nat}{x y:Rat}(h:1<m):ii m x y=(bB m x).set 1 y:=if_pos h
theorem GR {m:Nat}{x y:Rat}(h:¬1<m):ii m x y=bB m x:=if_neg h
theorem FZ {m:Nat}{op n:Int}{x y:Int × List Rat}(h:x.1=0)(a:y.1=0):oo m op n x y=(dV op n (x.2.getD 0 0) (y.2.getD 0 0),F6 op n m x.2 y.2):=by
 by_cases c:dV op n (x.2.getD 0 0) (y.2.getD 0 0)=0
 ·rw[ke h a c];unfold F6;rw[if_pos c,c]
 ·rw[km h a c];unfold F6;rw[if_neg c]
theorem C7 {α:Type}(l:List α)(k i)(x d:α):(l.set k x).getD i d=if k=i/\k<l.length then x else l.getD i d:=by
 simp only[Nc,PB];by_cases e:k=i
 ·subst e
  by_cases hk:k<l.length
  ·simp[hk]
  ·simp[hk]
 ·simp[e]
theorem xX {h:Hp}{c:List RT}{a:List Rat}(r:RTs h c a)(i){t:RT}{q:Rat}(e:RQ h (wA t) q):RTs h (c.set i t) (a.set i q):=⟨by rw[NI,NI];exact r.len,fun j d=>by
 rw[NI] at d;rw[C7,C7,r.len];split
 ·exact e
 ·exact r.at_ j d⟩
theorem Jx {w0:World}{h0:Hp}{p:List Bx}{R2:List Rw}{D:List (Hp->Prop)}(x q n)(hn:n<=1000)(w h)(g:G w h)(Q:RTs h [x] [q])(a:SS w0 h0 w h p R2 D):Calls Tryz.prog 71 #[.agg #[.bool ((x).1),(x).2.1,(x).2.2],nV n] w (Hg fun v w1 h1=>∃ H c1 z,v=.slice H (z:List RT).length c1/\RTs h1 z (bB (n+1) q)/\SS w0 h0 w1 h1 p (⟨28,3,H,c1,z.length,z.flatMap eA⟩::R2) D):=by
 replace a:=a.to ([]++p) ([]++R2);replace a:=(a.aT Q);refine go Tryz.func71 [(0,.agg #[.bool ((x).1),(x).2.1,(x).2.2]),(1,nV n)] rfl (aA (lA 2 28 ([.bool ((x).1),(x).2.1,(x).2.2]) a (fun b1 w2 h3 a=>lL a ac (aG (lL a [.o (.agg #[.bool ((x).1),(x).2.1,(x).2.2]) 0 0 3] (Jg 7 28 3 eA ([x]:List RT) a (fun I w5 S a=>lL a ac (ag (kZ ?_)))))))));replace a:=a.aT (a.f.1);refine bH _ (CG.loop (fun C Γ O=>∃ (m:Nat)(e:Z9)(d:Nat)(tl:List RT)(h_:Hp),C=n-m/\Γ=[(1,nV n),(4,sZ),(5,qS e ((tl).length) d)]/\SS w0 h0 O h_ ([⟨b1,28,[.bool ((x).1),(x).2.1,(x).2.2]⟩]++p) ([⟨28,3,e,d,(tl).length,(tl).flatMap eA⟩]++R2) ([Rt tl (q::Af m ((0:Int):Rat)),Rt [x] [q]]++D)/\m<=n) _ ⟨0,sB I,(([x]:List RT)).length,([x]:List RT),S,rfl,rfl,a.to _ _,NY _⟩ ?_);rintro _ _ w9 ⟨m,e,d,tl,_,F,rfl,a,hm⟩;have B:=(a.f.1).len;rw[uA,O4] at B
 refine cQ (aa a [.c,.v (nV ((tl).length)),.c] ?_);cases u:(decide ((((tl).length:Nat):Int)<=(n:Int)))
 .
  have V:=oF u;refine lB 11 u (ah (CG.exit ?_))
  show CG _ _ _ _ _ _ _ _
  refine aa a ax (lN (kX (a.retS [] (qS e ((tl).length) d) ?_)));rw[show n=m by omega];exact ⟨e,d,tl,rfl,a.f.1,(a.tl.tl.drop 1 0).to _ _⟩
 have V:=oT u;refine lB 11 u (ak (cK (kZ (kQ (lL a ac (lC 13 a (ud 0 oM oM _ _ a.g) ?_))))));rintro _ _ _ a ⟨y,i,l,j,rfl,L,W,X,U⟩;replace a:=a.aP X U;refine lR 14 28 1 (iT ((0:Int):Rat) y i l j) a (fun zl _ _ a=>lY 15 0 28 3 d e tl eA ((af ((0:Int):Rat).num,qS y ((lim (ab ((0:Int):Rat).num)).length) i,qS l ((lim ((0:Int):Rat).den).length) j):RT) 56 zl (.agg #[qF,sZ,sZ]) a a.f.1 (fun Y J _ Z a=>lL a ac (lD ?_)));intro a_ M;replace a:=(a.tl.tl.tl.tl.add (K:=Rt (tl++[((af ((0:Int):Rat).num,qS y ((lim (ab ((0:Int):Rat).num)).length) i,qS l ((lim ((0:Int):Rat).den).length) j):RT)]) (q::Af (m+1) ((0:Int):Rat))) (by rw[List.replicate_succ',<-MR];exact (a.f.r.2.1).snoc (lZ L W a.f.r.1 a.f.2.1)));refine ⟨_,_,?_,⟨m+1,Y,J,tl++[((af ((0:Int):Rat).num,qS y ((lim (ab ((0:Int):Rat).num)).length) i,qS l ((lim ((0:Int):Rat).den).length) j):RT)],Z,rfl,rfl,a.to _ _,oM⟩,M.to _ kR⟩
 omega
theorem I2 (ok:ByteArray->Prop)(ix:ByteArray->Nat)(fs ws M z ns Q W B L X C)(hfl:fs.length=ns.length)(hwl:ws.length=ns.length)(hnl:ns.length<=1000)(y)(Y:y+1<=13)(d n)(l:Bool)(x i e j u p q s A c w h)(g:G w h)(hZ:RZ h (l,.slice x i e,.slice j u p) q)(hN:SlO 1 bA ⟨#[]⟩ h M ns)(hF:Sr Q B h)(F:RTs h B fs)(O:Sr L C h)(I:RTs h C ws):CR 30 #[bO ⟨1,n,l,x,i,e,j,u,p,s,A,0,c⟩,.slice M ns.length z,.slice Q B.length W,.slice L C.length X,nV y,.bool false] w h (fun v h1=>∃ (V:Z9)(c_:Nat)(ts_:List RT),v=.tuple #[.slice V ts_.length c_,iV (aR ix fs ws (y+1) (d+1) (.mk 1 n q s [])).1]/\ts_.length<=c_/\Sr V ts_ h1/\RTs h1 ts_ (aR ix fs ws (y+1) (d+1) (.mk 1 n q s [])).2):=by
 have a:=(((((((sS g).add (K:=fun h_=>RZ h_ (l,qS x i e,qS j u p) q) hZ).aS hN).aS hF).aT F).aS O).aT I);refine go Tryz.func30 [(0,bO ⟨1,n,l,x,i,e,j,u,p,s,A,0,c⟩),(1,qS M ns.length z),(2,qS Q B.length W),(3,qS L C.length X),(4,nV y),(5,qF)] rfl (aA (lA 6 31 (bJ ⟨1,n,l,x,i,e,j,u,p,s,A,0,c⟩) a (fun b1 w2 h3 a=>lL a ax (ag (aa a [.v (pB b1),.o (iV 1) 0 0 1] (aZ (aa a [.v qT,.c] (ak (aa a [.v (qP b1 2),.o (.agg #[.bool l,qS x i e,qS j u p]) 0 2 3] (lC 26 a (Cr l x i e j u p q _ _ a.g a.f.q.2.1) ?_))))))))));rintro _ _ _ a ⟨A4,c5,A8,c9,rfl,D,za,J,zb⟩;replace a:=a.aP J zb;refine lL a ac (lC 28 a (xW q A4 c5 A8 c9 D za y y rfl oM _ _ a.g a.f.2.1 a.f.1) ?_);rintro _ _ _ a ⟨Az,cz,Z,rfl,S,H,U⟩;replace a:=((a.aS H).aT U);exact lL a ax (ae a [] (.tuple #[qS Az Z.length cz,iV 0]) (⟨_,_,Z,rfl,S,a.f.2.1,a.f.1⟩))
theorem H0 (ok:ByteArray->Prop)(ix:ByteArray->Nat)(fs ws Q p ns FA cF u Z cW C)(hfl:fs.length=ns.length)(hwl:ws.length=ns.length)(hnl:ns.length<=1000)(M)(bm:M+1<=13)(d n)(H:Bool)(z D J F y x q s A c)(X:List RTm)(ks:List Tm)(hfx:∀ k,k<ns.length->ns.getD k ⟨#[]⟩=s->(∀ i,i<k->ns.getD i ⟨#[]⟩≠s)->ix s=k)(hfo:∃ i,i<ns.length/\ns.getD i ⟨#[]⟩=s)(w h)(g:G w h)(hZ:RZ h (H,.slice z D J,.slice F y x) q)(hN:SlO 1 bA ⟨#[]⟩ h Q ns)(hF:Sr FA u h)(hTf:RTs h u fs)(hW_:Sr Z C h)(hTw:RTs h C ws):CR 30 #[bO ⟨2,n,H,z,D,J,F,y,x,s,A,X.length,c⟩,.slice Q ns.length p,.slice FA u.length cF,.slice Z C.length cW,nV M,.bool false] w h (fun v h1=>∃ (A_:Z9)(c_:Nat)(ts_:List RT),v=.tuple #[.slice A_ ts_.length c_,iV (aR ix fs ws (M+1) (d+1) (.mk 2 n q s ks)).1]/\ts_.length<=c_/\Sr A_ ts_ h1/\RTs h1 ts_ (aR ix fs ws (M+1) (d+1) (.mk 2 n q s ks)).2):=by
 have a:=(((((((sS g).add (K:=fun j=>RZ j (H,qS z D J,qS F y x) q) hZ).aS hN).aS hF).aT hTf).aS hW_).aT hTw);have bk:=(a.f.r.1).len;have bl:=(a.f.1).len;refine go Tryz.func30 [(0,bO ⟨2,n,H,z,D,J,F,y,x,s,A,X.length,c⟩),(1,qS Q ns.length p),(2,qS FA u.length cF),(3,qS Z C.length cW),(4,nV M),(5,qF)] rfl (aA (lA 6 31 (bJ ⟨2,n,H,z,D,J,F,y,x,s,A,X.length,c⟩) a (fun b1 w2 h3 a=>lL a ax (ag (aa a [.v (pB b1),.o (iV 2) 0 0 1] (aZ (aa a [.v qF,.c] (ah (aa a [.v qT,.c] (ak (cQ (aa a ac (aZ ?_)))))))))))));refine bH _ (CG.loop (fun μ_ Γ w_=>∃ (k:Nat)(j:Hp),μ_=ns.length-k/\Γ=[(1,qS Q ns.length p),(2,qS FA u.length cF),(3,qS Z C.length cW),(4,nV M),(5,qF),(6,pB b1),(14,nV k)]/\SS w h w_ j [⟨b1,31,bJ ⟨2,n,H,z,D,J,F,y,x,s,A,X.length,c⟩⟩] [] [Rt C ws,Sr Z C,Rt u fs,Sr FA u,fun j=>SlO 1 bA ⟨#[]⟩ j Q ns,fun j=>RZ j (H,qS z D J,qS F y x) q]/\k<=ns.length/\(∀ i,i<k->ns.getD i ⟨#[]⟩≠s)) _ ⟨0,h3,rfl,rfl,a.to _ _,NY _,(fun i hi=>absurd hi (O9 i))⟩ ?_);rintro _ _ w4 ⟨k,h5,hm6,rfl,a,hk,I⟩;refine cQ (aa a [.c,.c,.v (nV ns.length)] ?_);cases B:(decide ((k:Int)<(ns.length:Int)))
 .
  have bj:=oF B;refine lB 34 B (ah (CG.exit ?_))
  show CG _ _ _ _ _ _ _ _
  refine aa a ax (lN (kX ?_));exact absurd hfo (fun j=>by obtain ⟨i_,h1_,h2_⟩:=j;exact I i_ oM h2_)
 have bj:=oT B;refine lB 34 B (ak (cK (cQ (kZ (cQ (cR 7 [] mixed a ao ?_))))));refine eV 0 37 (qS Q ns.length p) (eV 1 38 (nV k) (eX 2 39 Q ns.length p 1 (k:Nat) k ((a.f.q.1).ok oM) (eH 3 40 (.string (ns.getD k ⟨#[]⟩)) a ((a.f.q.1).el k oM) (eV 4 41 (qP b1 5) (eO 5 42 [(0,5,1)] (.string s) a ?_)))));cases L:(kT (ns.getD k ⟨#[]⟩) s)
 .
  have bd:=iA L;refine eB 6 43 L (bM a (fun w9 zi a=>tN (dE (cK (kQ (lL a ac (bw 36 ((k:Nat)+1) (k+1) ?_)))))));refine lL a ac (lD ?_);intro a_ ka;refine ⟨_,_,?_,⟨k+1,zi,rfl,rfl,a.to _ _,oM,(fun i hi=>by rcases PJ.1 hi with j|rfl;exact I i j;assumption)⟩,ka.to _ kR⟩
  omega
 have bd:=ik L;refine eB 6 43 L (bM a (fun _ _ a=>tN (ck (aa a ax (lX 46 FA u.length cF 3 (k:Nat) k ((a.f.r.2.1).ok oM) ?_)))));refine lH 47 (rA (u.getD k gV)) a ((a.f.r.2.1).el k oM) (lL a ac (MC 49 (Jx (u.getD k gV) (fs.getD k 0) M oM _ _ a.g (RTs.nil.snoc ((a.f.r.1).at_ k oM)) a) ?_));rintro _ _ _ ⟨A1,c1,e,rfl,hTz,a⟩;replace a:=a.to [⟨b1,31,bJ ⟨2,n,H,z,D,J,F,y,x,s,A,X.length,c⟩⟩] [⟨28,3,A1,c1,(e).length,(e).flatMap eA⟩];replace a:=(a.aT hTz);have bb:=(a.f.1).len;rw[ct] at bb
 refine lL a ac (ag (aa a ac ?_));cases zb:(decide ((0:Int)<(M:Int)))
 .
  have zd:=oF zb;refine lB 51 zb (ah (cK (aa a cG (lN (kX ?_)))));have V:ix s=k:=hfx k oM aM I;obtain ⟨_,a,zf⟩:=a.pubr 0 (A:=A1) (c:=c1) (l:=e) (f:=eA) (ty:=28) (sz:=3) gV (fun _=>rfl);exact a.ret [] (.tuple #[qS A1 ((e).length) c1,iV 0]) (by rw[GA,V,GR oM];exact ⟨_,_,e,rfl,zf,a.f.1,a.f.2.1⟩)
 have zd:=oT zb;refine lB 51 zb (ak (kQ (lL a cG (lX 55 Z C.length cW 3 (k:Nat) k ((a.f.r.1).ok oM) ?_))));obtain ⟨S,W,U,O,ew,hcw,hdw,hAw,hDw⟩:=(a.f.2.1).at_ k oM;replace a:=a.aP hAw hDw;refine Jd 56 (rA (C.getD k gV)) a ((a.f.q.1).el k oM) ew ?_;obtain ⟨Y,ze⟩:=a.rowA 0 (A:=A1) (c:=c1) (m:=(e).length) (ty:=28) (sz:=3) (cs:=(e).flatMap eA) oM;subst ze;refine lX 57 (sB Y) ((e).length) c1 3 1 1 rfl (GM (ty:=28) (c:=c1) (b:=Y) 0 1 0 (iT (ws.getD k 0) S W U O) e eA 3 gV ((af (ws.getD k 0).num,qS S ((lim (ab (ws.getD k 0).num)).length) W,qS U ((lim (ws.getD k 0).den).length) O):RT) a oM (fun _ a=>?_));replace a:=a.to [⟨b1,31,bJ ⟨2,n,H,z,D,J,F,y,x,s,A,X.length,c⟩⟩] [⟨28,3,sB Y,c1,(e).length,(e.set 1 ((af (ws.getD k 0).num,qS S ((lim (ab (ws.getD k 0).num)).length) W,qS U ((lim (ws.getD k 0).den).length) O):RT)).flatMap eA⟩];refine aG (lL a cG (lN (kX ?_)));have V:ix s=k:=hfx k oM aM I;replace a:=a.rown [⟨28,3,sB Y,c1,(e.set 1 ((af (ws.getD k 0).num,qS S ((lim (ab (ws.getD k 0).num)).length) W,qS U ((lim (ws.getD k 0).den).length) O):RT)).length,(e.set 1 ((af (ws.getD k 0).num,qS S ((lim (ab (ws.getD k 0).num)).length) W,qS U ((lim (ws.getD k 0).den).length) O):RT)).flatMap eA⟩] (by simp only[NI]);obtain ⟨_,a,zg⟩:=a.pubr 0 (A:=sB Y) (c:=c1) (l:=e.set 1 ((af (ws.getD k 0).num,qS S ((lim (ab (ws.getD k 0).num)).length) W,qS U ((lim (ws.getD k 0).den).length) O):RT)) (f:=eA) (ty:=28) (sz:=3) gV (fun _=>rfl);exact a.ret [] (.tuple #[qS (sB Y) ((e).length) c1,iV 0]) (by rw[GA,V,IL oM];exact ⟨_,_,(e.set 1 ((af (ws.getD k 0).num,qS S ((lim (ab (ws.getD k 0).num)).length) W,qS U ((lim (ws.getD k 0).den).length) O):RT)),by rw[NI],(by rw[NI] at *;exact zg),a.f.1,(xX a.f.r.2.1 1 (lZ hcw hdw a.f.r.1 a.f.2.1))⟩)
theorem Iz  (ok:ByteArray->Prop)(ix:ByteArray->Nat)(fs ws B u ns D I z C cW y)(hfl:fs.length=ns.length)(hwl:ws.length=ns.length)(hnl:ns.length<=1000)(j)(Z:j+1<=13)(d)(ih:∀ (r:RTm) (t:Tm) (w:World) (h:Hp),G w h->RmH d h r t->WfT1 ok d t->bL d t<=1000->SlO 1 bA ⟨#[]⟩ h B ns->Sr D z h->RTs h z fs->Sr C y h->RTs h y ws->Calls Tryz.prog 30 #[bO r,.slice B ns.length u,.slice D z.length I,.slice C y.length cW,nV j,.bool false] w (Ret w h (fun v h1=>∃ (A_:Z9)(c_:Nat)(ts_:List RT),v=.tuple #[.slice A_ ts_.length c_,iV (aR ix fs ws (j+1) d t).1]/\ts_.length<=c_/\Sr A_ ts_ h1/\RTs h1 ts_ (aR ix fs ws (j+1) d t).2)))(op n)(Y:Bool)(O S zc W M L q s A c)(F:RTm)(i)(J:WfT1 ok d i)(V:bL d i<=1000)(hz1:1<=bL d i/\SzR (4*(2^d*bL d i)-3) (aR ix fs ws (j+1) d i).2)(X:d<=6)(hop:3<=op/\op<=13)(har:gQ op=1)(hn : -12<=n/\n<=12)(hzg:op=8->n.natAbs*bL d i<=1000)(w h)(g:G w h)(hK:SlO 7 bJ bX h A ([F]:List RTm))(hr1:RmH d h F i)(hN:SlO 1 bA ⟨#[]⟩ h B ns)(hF:Sr D z h)(hTf:RTs h z fs)(hW_:Sr C y h)(hTw:RTs h y ws):CR 30 #[bO ⟨op,n,Y,O,S,zc,W,M,L,s,A,1,c⟩,.slice B ns.length u,.slice D z.length I,.slice C y.length cW,nV j,.bool false] w h (fun v h1=>∃ (A_:Z9)(c_:Nat)(ts_:List RT),v=.tuple #[.slice A_ ts_.length c_,iV (aR ix fs ws (j+1) (d+1) (.mk op n q s ([i]:List Tm))).1]/\ts_.length<=c_/\Sr A_ ts_ h1/\RTs h1 ts_ (aR ix fs ws (j+1) (d+1) (.mk op n q s ([i]:List Tm))).2):=by
 have a:=((((((((sS g).aS hK).add (K:=fun Q=>RmH d Q F i) hr1).aS hN).aS hF).aT hTf).aS hW_).aT hTw);have hln:([F]:List RTm).length=1:=rfl;have hac:=aF op;have bb:2^d*bL d i<=64000:=ep (NF (M1 kD X) V) kD;have H:op=8->n.natAbs*((4*(2^d*bL d i)-3)+1)<=700000:=fun Q=>by have q_:=GK X (hzg Q) (show n.natAbs<=12 by omega);rw[show 2*(4*(2^d*bL d i)-3)+2=2*((4*(2^d*bL d i)-3)+1) by omega,Nat.mul_left_comm] at q_;omega
 refine go Tryz.func30 [(0,bO ⟨op,n,Y,O,S,zc,W,M,L,s,A,1,c⟩),(1,qS B ns.length u),(2,qS D z.length I),(3,qS C y.length cW),(4,nV j),(5,qF)] rfl (aA (lA 6 31 (bJ ⟨op,n,Y,O,S,zc,W,M,L,s,A,1,c⟩) a (fun x w2 h3 a=>lL a ax (ag (aa a [.v (pB x),.o (iV op) 0 0 1] (aZ (aA ?_)))))));have hb4:((op:Int) == (1:Int))=false:=fB oM;have bd:=aj hb4;refine lB 23 hb4 (lL a ac (ah (aA ?_)));have hb5:((op:Int) == (2:Int))=false:=fB oM;have bj:=aj hb5;refine lB 30 hb5 (lL a ac (ah (cK (aA (Jg 59 36 1 vc ([(sZ:Value),(sZ:Value)]:List Value) a (fun p w7 h8 a=>lL a ac ?_))))));have bl:(([(sZ:Value),(sZ:Value)]:List Value)).length=2:=rfl;refine ag (aa a ac (aZ (cU ?_)));refine cN (cQ (aa a [.c,.v (qP x 6),.o (qS A 1 c) 0 6 1,.v (iV 1),.v qT] (ak (cK (cQ (kZ (aa a [.v (qP x 6),.o (qS A 1 c) 0 6 1,.c] (lX 71 A 1 c 7 0 0 ((a.f.q.r.1).ok oM) ?_))))))));refine lH 72 (bO (([F]:List RTm).getD 0 bX)) a ((a.f.q.r.1).el 0 oM) (lL a m5 (lC 78 a (ih (([F]:List RTm).getD 0 bX) i _ _ a.g a.f.q.2.1 J V a.f.q.1 a.f.r.2.1 a.f.r.1 a.f.2.1 a.f.1) ?_));rintro _ _ _ a ⟨l,c1,e,rfl,U,hS1,hT1⟩;replace a:=((a.aS hS1).aT hT1);refine lL a [.c,.v (qS l e.length c1),.v (iV ((aR ix fs ws (j+1) d i).1)),.c,.c] (ag (aa a ac ?_));cases za:(((aR ix fs ws (j+1) d i).1:Int) != (0:Int))
 .
  have zb:=aU za;refine lB 82 za (ah (cK (kQ (lL a cG (lX 87 (sB p) ((([(sZ:Value),(sZ:Value)]:List Value)).length) ((([(sZ:Value),(sZ:Value)]:List Value)).length) 1 0 0 rfl ?_)))));refine GM (ty:=36) (c:=(([(sZ:Value),(sZ:Value)]:List Value)).length) (b:=p) 0 0 0 ([qS l e.length c1]) ([(sZ:Value),(sZ:Value)]:List Value) vc 1 undef (qS l e.length c1:Value) a oM (fun _ a=>?_);replace a:=a.to [⟨x,31,bJ ⟨op,n,Y,O,S,zc,W,M,L,s,A,1,c⟩⟩] [⟨36,1,sB p,(([(sZ:Value),(sZ:Value)]:List Value)).length,(([(sZ:Value),(sZ:Value)]:List Value)).length,(([(sZ:Value),(sZ:Value)]:List Value).set 0 (qS l e.length c1:Value)).flatMap vc⟩];have bk:(([(sZ:Value),(sZ:Value)]:List Value).set 0 (qS l e.length c1:Value)).length=2:=rfl;refine lN (kQ (lL a [.c,.v (iV 1),.c] (lD (CL.to [(1,qS B ns.length u),(2,qS D z.length I),(3,qS C y.length cW),(4,nV j),(5,qF),(6,pB x),(12,sZ),(13,iV 0),(16,qS (sB p) ((([(sZ:Value),(sZ:Value)]:List Value)).length) ((([(sZ:Value),(sZ:Value)]:List Value)).length)),(17,iV 1),(60,iV 0),(61,qP x 6),(62,qS A 1 c),(63,iV 1),(64,qT),(68,qP x 6),(69,qS A 1 c),(70,iV 0),(71,.pointer (some ⟨(aB A),aO A+0*7,none⟩)),(72,bO (([F]:List RTm).getD 0 bX)),(73,qS B ns.length u),(74,qS D z.length I),(75,qS C y.length cW),(76,nV j),(77,qF),(78,.tuple #[qS l e.length c1,iV ((aR ix fs ws (j+1) d i).1)]),(67,.tuple #[qS l e.length c1,iV ((aR ix fs ws (j+1) d i).1)]),(79,qS l e.length c1),(80,iV ((aR ix fs ws (j+1) d i).1)),(18,qS l e.length c1),(19,iV ((aR ix fs ws (j+1) d i).1)),(81,iV ((aR ix fs ws (j+1) d i).1)),(82,qF),(84,qS (sB p) ((([(sZ:Value),(sZ:Value)]:List Value)).length) ((([(sZ:Value),(sZ:Value)]:List Value)).length)),(85,iV 0),(86,qS l e.length c1),(87,qP p (0+0*1)),(65,iV 0),(66,iV 1)] ?_))));replace a:=a.to [⟨x,31,bJ ⟨op,n,Y,O,S,zc,W,M,L,s,A,1,c⟩⟩] [⟨36,1,sB p,(([(sZ:Value),(sZ:Value)]:List Value)).length,(([(sZ:Value),(sZ:Value)]:List Value)).length,(([(sZ:Value),(sZ:Value)]:List Value).set 0 (qS l e.length c1:Value)).flatMap vc⟩];refine cN (cQ (aa a [.c,.v (qP x 6),.o (qS A 1 c) 0 6 1,.v (iV 1),.v qF] (ah (CG.exit ?_))))
  show CG _ _ _ _ _ _ _ _
  refine cQ (cR 14 [] mixed a ao ?_);refine eV 0 88 (pB x) (eO 1 89 [(0,0,1)] (iV op) a (eV 2 90 (qP x 1) (eO 3 91 [(0,1,1)] (iV n) a (eV 4 92 (qS (sB p) ((([(sZ:Value),(sZ:Value)]:List Value)).length) ((([(sZ:Value),(sZ:Value)]:List Value)).length)) (eX 5 93 (sB p) ((([(sZ:Value),(sZ:Value)]:List Value)).length) ((([(sZ:Value),(sZ:Value)]:List Value)).length) 1 0 0 rfl (Gj (ty:=36) (sz:=1) (c:=(([(sZ:Value),(sZ:Value)]:List Value)).length) (m:=(([(sZ:Value),(sZ:Value)]:List Value)).length) (b:=p) (cs:=(([(sZ:Value),(sZ:Value)]:List Value).set 0 (qS l e.length c1:Value)).flatMap vc) 6 94 0 (qS l e.length c1) ([qS l e.length c1]) a (fR (f:=vc) (sz:=1) (fun _=>rfl) undef (([(sZ:Value),(sZ:Value)]:List Value).set 0 (qS l e.length c1:Value)) 0 oM) (eV 7 95 (qS (sB p) ((([(sZ:Value),(sZ:Value)]:List Value)).length) ((([(sZ:Value),(sZ:Value)]:List Value)).length)) (eX 8 96 (sB p) ((([(sZ:Value),(sZ:Value)]:List Value)).length) ((([(sZ:Value),(sZ:Value)]:List Value)).length) 1 1 1 rfl (Gj (ty:=36) (sz:=1) (c:=(([(sZ:Value),(sZ:Value)]:List Value)).length) (m:=(([(sZ:Value),(sZ:Value)]:List Value)).length) (b:=p) (cs:=(([(sZ:Value),(sZ:Value)]:List Value).set 0 (qS l e.length c1:Value)).flatMap vc) 9 97 0 (sZ) ([sZ]) a (fR (f:=vc) (sz:=1) (fun _=>rfl) undef (([(sZ:Value),(sZ:Value)]:List Value).set 0 (qS l e.length c1:Value)) 1 oM) (eV 10 98 qF (eC 11 99 a (fun _ _ a=>nG op n l c1 (aR ix fs ws (j+1) d i).2 e none 0 [] [] U (nR _) j Z (4*(2^d*bL d i)-3) 0 (d7 J oM) (fun Q=>absurd Q oM) hz1.2 (SzR.nil 0) oM oM H hop (fun _=>hn) _ _ a.g a.f.2.1 a.f.1 SlO.nil RTs.nil) ?_)))))))))));rintro _ _ _ _ _ a ⟨Ar,cr,tr,rfl,hcr,hAr,hTr⟩;replace a:=((a.aS hAr).aT hTr);refine eV 12 100 (qS Ar tr.length cr) (eV 13 101 (iV (dV op n ((aR ix fs ws (j+1) d i).2.getD 0 0) (([]:List Rat).getD 0 0))) (bM a (fun _ _ a=>tV 14 12 (qS Ar tr.length cr) (tV 15 13 (iV (dV op n ((aR ix fs ws (j+1) d i).2.getD 0 0) (([]:List Rat).getD 0 0))) (tN (bH [(12,qS Ar tr.length cr),(13,iV (dV op n ((aR ix fs ws (j+1) d i).2.getD 0 0) (([]:List Rat).getD 0 0)))] ?_))))));exact kX (a.ret [] (.tuple #[qS Ar tr.length cr,iV (dV op n ((aR ix fs ws (j+1) d i).2.getD 0 0) (([]:List Rat).getD 0 0))]) (by rw[lJ oM oM,FZ oM rfl];exact ⟨_,_,tr,rfl,hcr,a.f.2.1,a.f.1⟩))
 have zb:=aJ za;exact lB 82 za (ak (aa a cG (ae a [] (.tuple #[sZ,iV ((aR ix fs ws (j+1) d i).1)]) (by rw[lJ oM oM,jO oM];exact ⟨none,0,[],rfl,nR _,SlO.nil,RTs.nil⟩))))
theorem IT  (ok:ByteArray->Prop)(ix:ByteArray->Nat)(fs ws I B ns L M D J Y C)(hfl:fs.length=ns.length)(hwl:ws.length=ns.length)(hnl:ns.length<=1000)(i)(bd:i+1<=13)(d)(ih:∀ (r:RTm) (t:Tm) (w:World) (h:Hp),G w h->RmH d h r t->WfT1 ok d t->bL d t<=1000->SlO 1 bA ⟨#[]⟩ h I ns->Sr L D h->RTs h D fs->Sr J C h->RTs h C ws->Calls Tryz.prog 30 #[bO r,.slice I ns.length B,.slice L D.length M,.slice J C.length Y,nV i,.bool false] w (Ret w h (fun v h1=>∃ (A_:Z9)(c_:Nat)(ts_:List RT),v=.tuple #[.slice A_ ts_.length c_,iV (aR ix fs ws (i+1) d t).1]/\ts_.length<=c_/\Sr A_ ts_ h1/\RTs h1 ts_ (aR ix fs ws (i+1) d t).2)))(op n)(W:Bool)(S U X V Q O q s A c)(H:RTm)(p)(hw1:WfT1 ok d p)(hg1:bL d p<=1000)(hz1:1<=bL d p/\SzR (4*(2^d*bL d p)-3) (aR ix fs ws (i+1) d p).2)(F:RTm)(l)(hw2:WfT1 ok d l)(Z:bL d l<=1000)(hz2:1<=bL d l/\SzR (4*(2^d*bL d l)-3) (aR ix fs ws (i+1) d l).2)(hd6:d<=6)(hop:3<=op/\op<=13)(har:gQ op=2)(hn : -12<=n/\n<=12)(w h)(g:G w h)(hK:SlO 7 bJ bX h A ([H,F]:List RTm))(hr1:RmH d h H p)(hr2:RmH d h F l)(hN:SlO 1 bA ⟨#[]⟩ h I ns)(hF:Sr L D h)(hTf:RTs h D fs)(hW_:Sr J C h)(hTw:RTs h C ws):CR 30 #[bO ⟨op,n,W,S,U,X,V,Q,O,s,A,2,c⟩,.slice I ns.length B,.slice L D.length M,.slice J C.length Y,nV i,.bool false] w h (fun v h1=>∃ (A_:Z9)(c_:Nat)(ts_:List RT),v=.tuple #[.slice A_ ts_.length c_,iV (aR ix fs ws (i+1) (d+1) (.mk op n q s ([p,l]:List Tm))).1]/\ts_.length<=c_/\Sr A_ ts_ h1/\RTs h1 ts_ (aR ix fs ws (i+1) (d+1) (.mk op n q s ([p,l]:List Tm))).2):=by
 have a:=(((((((((sS g).aS hK).add (K:=fun h_=>RmH d h_ H p) hr1).add (K:=fun h_=>RmH d h_ F l) hr2).aS hN).aS hF).aT hTf).aS hW_).aT hTw);have hln:([H,F]:List RTm).length=2:=rfl;have hac:=aF op;have bk:2^d*bL d p<=64000:=ep (NF (M1 kD hd6) hg1) kD;have bm:2^d*bL d l<=64000:=ep (NF (M1 kD hd6) Z) kD;refine go Tryz.func30 [(0,bO ⟨op,n,W,S,U,X,V,Q,O,s,A,2,c⟩),(1,qS I ns.length B),(2,qS L D.length M),(3,qS J C.length Y),(4,nV i),(5,qF)] rfl (aA (lA 6 31 (bJ ⟨op,n,W,S,U,X,V,Q,O,s,A,2,c⟩) a (fun z w2 h3 a=>lL a ax (ag (aa a [.v (pB z),.o (iV op) 0 0 1] (aZ (aA ?_)))))));have hb4:((op:Int) == (1:Int))=false:=fB oM;have bn:=aj hb4;refine lB 23 hb4 (lL a ac (ah (aA ?_)));have hb5:((op:Int) == (2:Int))=false:=fB oM;have br:=aj hb5;refine lB 30 hb5 (lL a ac (ah (cK (aA (Jg 59 36 1 vc ([(sZ:Value),(sZ:Value)]:List Value) a (fun x w7 h8 a=>lL a ac ?_))))));have b0:(([(sZ:Value),(sZ:Value)]:List Value)).length=2:=rfl;refine ag (aa a ac (aZ (cU ?_)));refine cN (cQ (aa a [.c,.v (qP z 6),.o (qS A 2 c) 0 6 1,.v (iV 2),.v qT] (ak (cK (cQ (kZ (aa a [.v (qP z 6),.o (qS A 2 c) 0 6 1,.c] (lX 71 A 2 c 7 0 0 ((a.f.q.r.2.1).ok oM) ?_))))))));refine lH 72 (bO (([H,F]:List RTm).getD 0 bX)) a ((a.f.q.r.2.1).el 0 oM) (lL a m5 (lC 78 a (ih (([H,F]:List RTm).getD 0 bX) p _ _ a.g a.f.q.r.1 hw1 hg1 a.f.q.1 a.f.r.2.1 a.f.r.1 a.f.2.1 a.f.1) ?_));rintro _ _ _ a ⟨u,c1,e,rfl,bb,hS1,hT1⟩;replace a:=((a.aS hS1).aT hT1);refine lL a [.c,.v (qS u e.length c1),.v (iV ((aR ix fs ws (i+1) d p).1)),.c,.c] (ag (aa a ac ?_));cases za:(((aR ix fs ws (i+1) d p).1:Int) != (0:Int))
 .
  have zd:=aU za;refine lB 82 za (ah (cK (kQ (lL a cG (lX 87 (sB x) ((([(sZ:Value),(sZ:Value)]:List Value)).length) ((([(sZ:Value),(sZ:Value)]:List Value)).length) 1 0 0 rfl ?_)))));refine GM (ty:=36) (c:=(([(sZ:Value),(sZ:Value)]:List Value)).length) (b:=x) 0 0 0 ([qS u e.length c1]) ([(sZ:Value),(sZ:Value)]:List Value) vc 1 undef (qS u e.length c1:Value) a oM (fun _ a=>?_);replace a:=a.to [⟨z,31,bJ ⟨op,n,W,S,U,X,V,Q,O,s,A,2,c⟩⟩] [⟨36,1,sB x,(([(sZ:Value),(sZ:Value)]:List Value)).length,(([(sZ:Value),(sZ:Value)]:List Value)).length,(([(sZ:Value),(sZ:Value)]:List Value).set 0 (qS u e.length c1:Value)).flatMap vc⟩];have bz:(([(sZ:Value),(sZ:Value)]:List Value).set 0 (qS u e.length c1:Value)).length=2:=rfl;refine lN (kQ (lL a [.c,.v (iV 1),.c] (lD (CL.to [(1,qS I ns.length B),(2,qS L D.length M),(3,qS J C.length Y),(4,nV i),(5,qF),(6,pB z),(12,sZ),(13,iV 0),(16,qS (sB x) ((([(sZ:Value),(sZ:Value)]:List Value)).length) ((([(sZ:Value),(sZ:Value)]:List Value)).length)),(17,iV 1),(60,iV 0),(61,qP z 6),(62,qS A 2 c),(63,iV 2),(64,qT),(68,qP z 6),(69,qS A 2 c),(70,iV 0),(71,.pointer (some ⟨(aB A),aO A+0*7,none⟩)),(72,bO (([H,F]:List RTm).getD 0 bX)),(73,qS I ns.length B),(74,qS L D.length M),(75,qS J C.length Y),(76,nV i),(77,qF),(78,.tuple #[qS u e.length c1,iV ((aR ix fs ws (i+1) d p).1)]),(67,.tuple #[qS u e.length c1,iV ((aR ix fs ws (i+1) d p).1)]),(79,qS u e.length c1),(80,iV ((aR ix fs ws (i+1) d p).1)),(18,qS u e.length c1),(19,iV ((aR ix fs ws (i+1) d p).1)),(81,iV ((aR ix fs ws (i+1) d p).1)),(82,qF),(84,qS (sB x) ((([(sZ:Value),(sZ:Value)]:List Value)).length) ((([(sZ:Value),(sZ:Value)]:List Value)).length)),(85,iV 0),(86,qS u e.length c1),(87,qP x (0+0*1)),(65,iV 0),(66,iV 1)] ?_))));replace a:=a.to [⟨z,31,bJ ⟨op,n,W,S,U,X,V,Q,O,s,A,2,c⟩⟩] [⟨36,1,sB x,(([(sZ:Value),(sZ:Value)]:List Value)).length,(([(sZ:Value),(sZ:Value)]:List Value)).length,(([(sZ:Value),(sZ:Value)]:List Value).set 0 (qS u e.length c1:Value)).flatMap vc⟩];refine cN (cQ (aa a [.c,.v (qP z 6),.o (qS A 2 c) 0 6 1,.v (iV 2),.v qT] (ak (cK (cQ (kZ (aa a [.v (qP z 6),.o (qS A 2 c) 0 6 1,.c] (lX 71 A 2 c 7 1 1 ((a.f.q.q.2.1).ok oM) ?_))))))));refine lH 72 (bO (([H,F]:List RTm).getD 1 bX)) a ((a.f.q.q.2.1).el 1 oM) (lL a m5 (lC 78 a (ih (([H,F]:List RTm).getD 1 bX) l _ _ a.g a.f.q.r.2.1 hw2 Z a.f.q.r.1 a.f.q.2.1 a.f.q.1 a.f.r.2.1 a.f.r.1) ?_));rintro _ _ _ a ⟨y,c2,j,rfl,bj,hS2,hT2⟩;replace a:=((a.aS hS2).aT hT2);refine lL a [.c,.v (qS y j.length c2),.v (iV ((aR ix fs ws (i+1) d l).1)),.c,.c] (ag (aa a ac ?_));cases zb:(((aR ix fs ws (i+1) d l).1:Int) != (0:Int))
  .
   have ze:=aU zb;refine lB 82 zb (ah (cK (kQ (lL a cG (lX 87 (sB x) ((([(sZ:Value),(sZ:Value)]:List Value)).length) ((([(sZ:Value),(sZ:Value)]:List Value)).length) 1 1 1 rfl ?_)))));refine GM (ty:=36) (c:=(([(sZ:Value),(sZ:Value)]:List Value)).length) (b:=x) 0 1 0 ([qS y j.length c2]) (([(sZ:Value),(sZ:Value)]:List Value).set 0 (qS u e.length c1:Value)) vc 1 undef (qS y j.length c2:Value) a oM (fun _ a=>?_);replace a:=a.to [⟨z,31,bJ ⟨op,n,W,S,U,X,V,Q,O,s,A,2,c⟩⟩] [⟨36,1,sB x,(([(sZ:Value),(sZ:Value)]:List Value)).length,(([(sZ:Value),(sZ:Value)]:List Value)).length,((([(sZ:Value),(sZ:Value)]:List Value).set 0 (qS u e.length c1:Value)).set 1 (qS y j.length c2:Value)).flatMap vc⟩];have bl:((([(sZ:Value),(sZ:Value)]:List Value).set 0 (qS u e.length c1:Value)).set 1 (qS y j.length c2:Value)).length=2:=rfl;refine lN (kQ (lL a [.c,.v (iV 2),.c] (lD (CL.to [(1,qS I ns.length B),(2,qS L D.length M),(3,qS J C.length Y),(4,nV i),(5,qF),(6,pB z),(12,sZ),(13,iV 0),(16,qS (sB x) ((([(sZ:Value),(sZ:Value)]:List Value)).length) ((([(sZ:Value),(sZ:Value)]:List Value)).length)),(17,iV 2),(60,iV 1),(61,qP z 6),(62,qS A 2 c),(63,iV 2),(64,qT),(68,qP z 6),(69,qS A 2 c),(70,iV 1),(71,.pointer (some ⟨(aB A),aO A+1*7,none⟩)),(72,bO (([H,F]:List RTm).getD 1 bX)),(73,qS I ns.length B),(74,qS L D.length M),(75,qS J C.length Y),(76,nV i),(77,qF),(78,.tuple #[qS y j.length c2,iV ((aR ix fs ws (i+1) d l).1)]),(67,.tuple #[qS y j.length c2,iV ((aR ix fs ws (i+1) d l).1)]),(79,qS y j.length c2),(80,iV ((aR ix fs ws (i+1) d l).1)),(18,qS y j.length c2),(19,iV ((aR ix fs ws (i+1) d l).1)),(81,iV ((aR ix fs ws (i+1) d l).1)),(82,qF),(84,qS (sB x) ((([(sZ:Value),(sZ:Value)]:List Value)).length) ((([(sZ:Value),(sZ:Value)]:List Value)).length)),(85,iV 1),(86,qS y j.length c2),(87,qP x (0+1*1)),(65,iV 1),(66,iV 2)] ?_))));replace a:=a.to [⟨z,31,bJ ⟨op,n,W,S,U,X,V,Q,O,s,A,2,c⟩⟩] [⟨36,1,sB x,(([(sZ:Value),(sZ:Value)]:List Value)).length,(([(sZ:Value),(sZ:Value)]:List Value)).length,((([(sZ:Value),(sZ:Value)]:List Value).set 0 (qS u e.length c1:Value)).set 1 (qS y j.length c2:Value)).flatMap vc⟩];refine cN (cQ (aa a [.c,.v (qP z 6),.o (qS A 2 c) 0 6 1,.v (iV 2),.v qF] (ah (CG.exit ?_))))
   show CG _ _ _ _ _ _ _ _
   refine cQ (cR 14 [] mixed a ao ?_);refine eV 0 88 (pB z) (eO 1 89 [(0,0,1)] (iV op) a (eV 2 90 (qP z 1) (eO 3 91 [(0,1,1)] (iV n) a (eV 4 92 (qS (sB x) ((([(sZ:Value),(sZ:Value)]:List Value)).length) ((([(sZ:Value),(sZ:Value)]:List Value)).length)) (eX 5 93 (sB x) ((([(sZ:Value),(sZ:Value)]:List Value)).length) ((([(sZ:Value),(sZ:Value)]:List Value)).length) 1 0 0 rfl (Gj (ty:=36) (sz:=1) (c:=(([(sZ:Value),(sZ:Value)]:List Value)).length) (m:=(([(sZ:Value),(sZ:Value)]:List Value)).length) (b:=x) (cs:=((([(sZ:Value),(sZ:Value)]:List Value).set 0 (qS u e.length c1:Value)).set 1 (qS y j.length c2:Value)).flatMap vc) 6 94 0 (qS u e.length c1) ([qS u e.length c1]) a (fR (f:=vc) (sz:=1) (fun _=>rfl) undef ((([(sZ:Value),(sZ:Value)]:List Value).set 0 (qS u e.length c1:Value)).set 1 (qS y j.length c2:Value)) 0 oM) (eV 7 95 (qS (sB x) ((([(sZ:Value),(sZ:Value)]:List Value)).length) ((([(sZ:Value),(sZ:Value)]:List Value)).length)) (eX 8 96 (sB x) ((([(sZ:Value),(sZ:Value)]:List Value)).length) ((([(sZ:Value),(sZ:Value)]:List Value)).length) 1 1 1 rfl (Gj (ty:=36) (sz:=1) (c:=(([(sZ:Value),(sZ:Value)]:List Value)).length) (m:=(([(sZ:Value),(sZ:Value)]:List Value)).length) (b:=x) (cs:=((([(sZ:Value),(sZ:Value)]:List Value).set 0 (qS u e.length c1:Value)).set 1 (qS y j.length c2:Value)).flatMap vc) 9 97 0 (qS y j.length c2) ([qS y j.length c2]) a (fR (f:=vc) (sz:=1) (fun _=>rfl) undef ((([(sZ:Value),(sZ:Value)]:List Value).set 0 (qS u e.length c1:Value)).set 1 (qS y j.length c2:Value)) 1 oM) (eV 10 98 qF (eC 11 99 a (fun _ _ a=>nG op n u c1 (aR ix fs ws (i+1) d p).2 e y c2 (aR ix fs ws (i+1) d l).2 j bb bj i bd (4*(2^d*bL d p)-3) (4*(2^d*bL d l)-3) (d7 hw1 oM) (fun _=>d7 hw2 oM) hz1.2 hz2.2 oM oM (fun h_=>absurd h_ oM) hop (fun _=>hn) _ _ a.g a.f.r.2.1 a.f.r.1 a.f.2.1 a.f.1) ?_)))))))))));rintro _ _ _ _ _ a ⟨Ar,cr,tr,rfl,hcr,hAr,hTr⟩;replace a:=((a.aS hAr).aT hTr);refine eV 12 100 (qS Ar tr.length cr) (eV 13 101 (iV (dV op n ((aR ix fs ws (i+1) d p).2.getD 0 0) ((aR ix fs ws (i+1) d l).2.getD 0 0))) (bM a (fun _ _ a=>tV 14 12 (qS Ar tr.length cr) (tV 15 13 (iV (dV op n ((aR ix fs ws (i+1) d p).2.getD 0 0) ((aR ix fs ws (i+1) d l).2.getD 0 0))) (tN (bH [(12,qS Ar tr.length cr),(13,iV (dV op n ((aR ix fs ws (i+1) d p).2.getD 0 0) ((aR ix fs ws (i+1) d l).2.getD 0 0)))] ?_))))));exact kX (a.ret [] (.tuple #[qS Ar tr.length cr,iV (dV op n ((aR ix fs ws (i+1) d p).2.getD 0 0) ((aR ix fs ws (i+1) d l).2.getD 0 0))]) (by rw[jL oM oM,FZ oM oM];exact ⟨_,_,tr,rfl,hcr,a.f.2.1,a.f.1⟩))
  have ze:=aJ zb;exact lB 82 zb (ak (aa a cG (ae a [] (.tuple #[sZ,iV ((aR ix fs ws (i+1) d l).1)]) (by rw[jL oM oM,o8 oM oM];exact ⟨none,0,[],rfl,nR _,SlO.nil,RTs.nil⟩))))
 have zd:=aJ za;exact lB 82 za (ak (aa a cG (ae a [] (.tuple #[sZ,iV ((aR ix fs ws (i+1) d p).1)]) (by rw[jL oM oM,jO oM];exact ⟨none,0,[],rfl,nR _,SlO.nil,RTs.nil⟩))))
theorem rW (ok:ByteArray->Prop)(ix:ByteArray->Nat)(fs ws F j ns H I z D J B)(y:fs.length=ns.length)(l:ws.length=ns.length)(o:ns.length<=1000)(u)(a:u+1<=13)(hq:∀ i,LQ 1 (fs.getD i 0))(O:∀ i,LQ 1 (ws.getD i 0))(C:∀ s,ok s->(∃ i,i<ns.length/\ns.getD i ⟨#[]⟩=s)/\∀ k,k<ns.length->ns.getD k ⟨#[]⟩=s->(∀ i,i<k->ns.getD i ⟨#[]⟩≠s)->ix s=k):∀ (d:Nat) (r:RTm) (t:Tm) (w:World) (h:Hp),d<=7->G w h->RmH d h r t->WfT1 ok d t->bL d t<=1000->SlO 1 bA ⟨#[]⟩ h F ns->Sr H z h->RTs h z fs->Sr D B h->RTs h B ws->Calls Tryz.prog 30 #[bO r,.slice F ns.length j,.slice H z.length I,.slice D B.length J,nV u,.bool false] w (Ret w h (fun v h1=>∃ (A_:Z9)(c_:Nat)(ts_:List RT),v=.tuple #[.slice A_ ts_.length c_,iV (aR ix fs ws (u+1) d t).1]/\ts_.length<=c_/\Sr A_ ts_ h1/\RTs h1 ts_ (aR ix fs ws (u+1) d t).2))
  | 0,_,_,_,_,_,_,x,_,_,_,_,_,_,_=>x.elim
  | d + 1,p,t,w,h,hd,g,x,wf,hw,K,k2,k3,k4,k5=>by
    obtain ⟨op,n,b,Z,S,Q,V,Y,X,q,s,A,c,ps,ks,rfl,rfl,hZ,hc,hK,f⟩:=x.open;obtain ⟨w1,w2,w3,w4,w5,w6,W,U,L⟩:=wf;replace w1:gQ op=(ks.length:Nat):=w1;replace W : -12<=n:=W;replace U:n<=12:=U;replace L:∀ i,i<ks.length->WfT1 ok d (ks.getD i di):=L;have hac:=aF op;have ih:=fun p t w h=>rW ok ix fs ws F j ns H I z D J B y l o u a hq O C d p t w h oM
    have hb:∀ t,WfT1 ok d t->1<=bL d t/\SzR (4*(2^d*bL d t)-3) (aR ix fs ws (u+1) d t).2:=fun t K=>oV (N0 u) hq O K
    rcases iz w1 with rfl|⟨t1,rfl⟩|⟨t1,t2,rfl⟩
    . simp only[Pb] at w1
      by_cases o1:op=1
      . subst o1
        have e0:ps=[]:=List.eq_nil_of_length_eq_zero f.len;subst e0;exact I2 ok ix fs ws F j ns H I z D J B y l o u a d n b Z S Q V Y X q s A c w h g hZ K k2 k3 k4 k5
      . obtain rfl:op=2:=by omega
        exact H0 ok ix fs ws F j ns H I z D J B y l o u a d n b Z S Q V Y X q s A c ps [] (C s (w4 rfl)).2 (C s (w4 rfl)).1 w h g hZ K k2 k3 k4 k5
    . obtain ⟨p1,rfl⟩:=List.length_eq_one_iff.1 (show ps.length=1 from f.len)
      simp only[uA,Pb] at w1;have M:WfT1 ok d t1:=L 0 (N0 _);have g1:bL d t1<=1000:=rM hw
      have hzg:op=8->n.natAbs*bL d t1<=1000:=fun e8=>by
        have e:bL (d+1) (.mk op n q s [t1])=ia op n*(bL d t1+0):=by rw[kj (show [t1].length≠0 from Nat.succ_ne_zero _)];show _*(0+bL d t1)=_;rw[Nat.zero_add,y5]
        have e2:ia op n=bP n:=by unfold ia;rw[if_neg oM,if_pos e8]
        rw[e,e2,y5] at hw;refine ep (Nat.mul_le_mul_right _ ?_) hw
        unfold bP;split<;>omega
      exact Iz ok ix fs ws F j ns H I z D J B y l o u a d ih op n b Z S Q V Y X q s A c p1 t1 M g1 (hb t1 M) oM oM oM ⟨W,U⟩ hzg w h g hK (f.at_ 0 (N0 _)) K k2 k3 k4 k5
    . obtain ⟨p1,p2,rfl⟩:=pq (show ps.length=2 from f.len)
      simp only[uA,Pb] at w1;have M:WfT1 ok d t1:=L 0 (N0 _);have f2:WfT1 ok d t2:=L 1 (by show 1<2;decide);obtain ⟨g1,g2⟩:=rX hw;exact IT ok ix fs ws F j ns H I z D J B y l o u a d ih op n b Z S Q V Y X q s A c p1 t1 M g1 (hb t1 M) p2 t2 f2 g2 (hb t2 f2) oM oM oM ⟨W,U⟩ w h g hK (f.at_ 0 (N0 _)) (f.at_ 1 (by show 1<2;decide)) K k2 k3 k4 k5
def wV (n:Nat):List Value:=[.int .i64 (n:Nat)]
theorem Kw:∀ s,gG s->∀ (w:World) (h:Hp),G w h->Calls Tryz.prog 69 #[.string s] w (Ret w h (fun v _=>∃ b,v=.bool b/\b=dq s)):=fun s f w h g =>
 (L7 s (by unfold gG at f;omega) w h g).mono fun e w' ⟨v,a,c,u,d⟩=>⟨v,a,c,u,_,d,rfl⟩
theorem oL {α:Type}{l:List α}{i j:Nat}{x d:α}:(l.set i x).getD j d=if i=j/\i<l.length then x else l.getD j d:=by
 rw[Nc,Nc,PB];by_cases e:i=j
 ·subst e
  by_cases h:i<l.length
  ·rw[if_pos rfl,if_pos h,if_pos ⟨rfl,h⟩];rfl
  ·rw[if_pos rfl,if_neg h,if_neg (fun x=>h x.2),List.getElem?_eq_none oM]
 ·rw[if_neg e,if_neg (fun x=>e x.1)]
def aE (n:Nat)(ks:List Nat):Nat->List Rat
  | 0=>Af n ((0:Int):Rat)
  | j+1=>(aE n ks j).set (ks.getD j 0) ((aE n ks j).getD (ks.getD j 0) 0+((1:Int):Rat))
theorem gd (n ks):∀ j,(aE n ks j).length=n
 | 0=>by unfold aE;simp
 | j+1=>by unfold aE;rw[NI];exact gd n ks j
theorem k6 (n ks):∀ j i,∃ z:Int,(aE n ks j).getD i 0=(z:Rat)/\0<=z/\z<=j
  | 0,i=>⟨0,by unfold aE;rw[show ((0:Int):Rat)=0 from rfl,iU],by omega,by omega⟩
  | j + 1,i=>by
    unfold aE;rw[oL];split
    . obtain ⟨z,e,h0,h1⟩:=k6 n ks j (ks.getD j 0)
      exact ⟨z+1,by rw[e];exact (Rat.intCast_add z 1).symm,by omega,by omega⟩
    . obtain ⟨z,e,h0,h1⟩:=k6 n ks j i
      exact ⟨z,e,h0,by omega⟩
theorem co (n ks){j:Nat}(a:j<=1000)(i):LQ 1 ((aE n ks j).getD i 0):=by
 obtain ⟨z,e,h0,h1⟩:=k6 n ks j i;rw[e];exact LQ.int oM oM
def RQk (h:Hp)(ts:List RT)(k:Nat)(q:Rat):Prop:=∀ i,i<k->RQ h (wA (ts.getD i gV)) q
theorem RQk.gw {h a:Hp}{c:List RT}{k:Nat}{q:Rat}(x:RQk h c k q)(u:Gw h a):RQk a c k q:=fun i hi=>(x i hi).gw u
theorem RQk.nil {h:Hp}{a:List RT}{q:Rat}:RQk h a 0 q:=fun i hi=>absurd hi (O9 i)
theorem H7 {h:Hp}{a:List RT}{n k:Nat}{t:RT}{q:Rat}(d:a.length=n)(hk:k<n)(c:RQk h a k q)(f:RQ h (wA t) q):RQk h (a.set k t) (k+1) q:=fun i hi=>by
 rw[oL,d];by_cases e:k=i
 ·rw[if_pos ⟨e,hk⟩];exact f
 ·rw[if_neg (fun x=>e x.1)];exact c i oM
theorem Eg {h:Hp}{a:List RT}{n:Nat}(x:RQk h a n 0)(c:a.length=n):RTs h a (Af n ((0:Int):Rat)):=⟨by rw[O4];exact c,fun i hi=>by
 rw[O4] at hi;have e:(Af n ((0:Int):Rat)).getD i 0=0:=iU n i;rw[e];exact x i hi⟩
theorem Ff {h:Hp}{c:List RT}{a:List Rat}(r:RTs h c a)(i){t:RT}{q:Rat}(e:RQ h (wA t) q):RTs h (c.set i t) (a.set i q):=⟨by rw[NI,NI];exact r.len,fun j d=>by
 rw[NI] at d;rw[oL,oL,r.len];split
 ·exact e
 ·exact r.at_ j d⟩
theorem Hy {ok:ByteArray->Prop}{d:Nat}{t:Tm}(h:WfT1 ok d t)(a:d<=12):ff d t<=1000000:=by
 have:=td h;have:=M1 (show 0<2 by decide) a;have e:(2:Nat)^12=4096:=by decide
 omega
theorem DN {l:List ByteArray}{i:Nat}(h:l.Nodup)(hi:i<l.length):¬l.getD i ⟨#[]⟩∈l.take i:=fun a=>by
 obtain ⟨j,c,e⟩:=List.mem_iff_getElem.1 a;rw[MV] at c
 rw[List.getElem_take,Nc,O5 hi] at e;exact (List.pairwise_iff_getElem.1 h j i oM hi oM) e
theorem EL {l:List ByteArray}(h:∀ i,i<l.length->l.getD i ⟨#[]⟩ ∉ l.take i):l.Nodup:=by
  have key:∀ k,k<=l.length->(l.take k).Nodup:=fun k=>by
    induction k with
    | zero=>intro _;simp
    | succ k ih =>
      intro hk;have e:=h k oM;rw[Nc,O5 oM] at e;rw[List.take_add_one,O5 oM];refine List.nodup_append.2 ⟨ih oM,by simp,fun a ha b c d=>?_⟩;rw[Option.toList_some,ti] at c
      subst c;subst d;exact e ha
  have:=key l.length (Nat.le_refl _)
  rwa [y8] at this
theorem B0 (d)(p:RTm)(t)(hd:d<=12)(z u ns)(O:NsD ns)(hcN:ns.length<=u)(C Q F)(hm0:F<=1000)(y:ol dq d t)(w h)(g:G w h)(hT:RmH d h p t)(hN:SlO 1 bA ⟨#[]⟩ h z ns)(hU:SlO 1 wV 0 h C ([F]:List Nat)):CR 29 #[bO p,.slice z ns.length u,.slice C 1 Q] w h (fun v _=>∃ e:Int,v=iV e/\DckR d t ns (F=ns.length) e):=by
 have a:=((((sS g).add (K:=fun l=>RmH d l p t) hT).aS hN).aS hU);have bq:=O.len;have bj:(([F]:List Nat):List Nat).length=1:=rfl;have W:ff d t<=1000000:=Hy y.1 hd;refine go Tryz.func29 [(0,bO p),(1,qS z ns.length u),(2,qS C 1 Q)] rfl (aA (lA 3 31 (bJ p) a (fun b1 w2 h3 a=>lL a ac (ag (aa a ac (aZ (cU ?_)))))));refine cN (cQ (aa a [.c,.c,.v (iV 1),.v qT] (ak (cK (cQ (kZ (aa a ax (lX 20 C 1 Q 1 0 0 ((a.f.1).ok oM) ?_))))))));refine lH 21 (nV F) a ((a.f.1).el 0 (by rw[bj];decide)) (lL a [.c,.v (nV ns.length)] ?_);cases I:((F:Int) != (ns.length:Int))
 .
  have Z:=aU I;refine lB 24 I (ah (cK (kQ (lL a [.c,.v (iV 1),.c] (lD (CL.to [(1,qS z ns.length u),(2,qS C 1 Q),(3,pB b1),(6,iV 0),(7,iV 1),(12,iV 0),(13,qS C 1 Q),(14,iV 1),(15,qT),(18,qS C 1 Q),(19,iV 0),(20,.pointer (some ⟨(aB C),aO C+0*1,none⟩)),(21,nV F),(22,qS z ns.length u),(23,nV ns.length),(24,qF),(16,iV 0),(17,iV 1)] ?_))))));replace a:=a.to [⟨b1,31,bJ p⟩] [];refine cN (cQ (aa a [.c,.c,.v (iV 1),.v qF] (ah (CG.exit ?_))))
  show CG _ _ _ _ _ _ _ _
  refine cQ (aa a [.c,.v (nV ns.length)] ?_);cases H:(decide ((20:Int)<(ns.length:Int)))
  .
   have bb:=oF H;refine lB 27 H (ah (cK (aa a [.o (bO p) 0 0 7] (lC 29 a (wL (fun s=>dq s=true) d p t y.1.wf W _ _ a.g a.f.r.1) ?_))));rintro _ w6 h7 a ⟨S,nc,x,rfl,hnc,hnl,hnS,L⟩;replace a:=a.aS hnS;refine lL a ac (ag (aa a ac (aZ ?_)));refine bH _ (CG.loop (fun D Γ w_=>∃ (k:Nat)(l:Hp),D=ns.length-k/\Γ=[(1,qS z ns.length u),(8,qS S x.length nc),(9,nV k)]/\SS w h w_ l [⟨b1,31,bJ p⟩] [] [fun l=>SlO 1 bA ⟨#[]⟩ l S x,fun l=>SlO 1 wV 0 l C ([F]:List Nat),fun l=>SlO 1 bA ⟨#[]⟩ l z ns,fun l=>RmH d l p t]/\k<=ns.length/\(∀ i,i<k->dq (ns.getD i ⟨#[]⟩)=true)) _ ⟨0,h7,rfl,rfl,a.to _ _,NY _,(fun i hi=>absurd hi (O9 i))⟩ ?_);rintro _ _ w8 ⟨k,h9,br,rfl,a,hk,hal⟩;refine cQ (aa a [.c,.c,.v (nV ns.length)] ?_);cases za:(decide ((k:Int)<(ns.length:Int)))
   .
    have zd:=oF za;refine lB 33 za (ah (CG.exit ?_))
    show CG _ _ _ _ _ _ _ _
    refine cQ ?_;have B:∀ i,i<ns.length->dq (ns.getD i ⟨#[]⟩)=true:=fun i hi=>hal i oM
    refine aa a ac (aZ ?_);refine bH _ (CG.loop (fun D Γ w_=>∃ (j:Nat)(l:Hp),D=x.length-j/\Γ=[(1,qS z ns.length u),(8,qS S x.length nc),(10,nV j)]/\SS w h w_ l [⟨b1,31,bJ p⟩] [] [fun l=>SlO 1 bA ⟨#[]⟩ l S x,fun l=>SlO 1 wV 0 l C ([F]:List Nat),fun l=>SlO 1 bA ⟨#[]⟩ l z ns,fun l=>RmH d l p t]/\j<=x.length/\(∀ i,i<j->x.getD i ⟨#[]⟩∈ns)) _ ⟨0,h9,rfl,rfl,a.to _ _,NY _,(fun i hi=>absurd hi (O9 i))⟩ ?_);rintro _ _ _ ⟨j,zg,bl,rfl,a,hj,M⟩;refine cQ (aa a [.c,.c,.v (nV x.length)] ?_);cases zb:(decide ((j:Int)<(x.length:Int)))
    .
     have ze:=oF zb;refine lB 45 zb (ah (CG.exit ?_))
     show CG _ _ _ _ _ _ _ _
     refine cQ ?_;have J:∀ s,fJ d t s->s∈ns:=fun s_ l=>by obtain ⟨i_,hi_,e_⟩:=u6 ((L s_).2 l);rw[<-e_];exact M i_ oM
     refine aa a ac (aZ ?_);refine bH _ (CG.loop (fun D Γ w_=>∃ (i:Nat)(l:Hp),D=ns.length-i/\Γ=[(1,qS z ns.length u),(11,nV i)]/\SS w h w_ l [⟨b1,31,bJ p⟩] [] [fun l=>SlO 1 bA ⟨#[]⟩ l S x,fun l=>SlO 1 wV 0 l C ([F]:List Nat),fun l=>SlO 1 bA ⟨#[]⟩ l z ns,fun l=>RmH d l p t]/\i<=ns.length/\(∀ m,m<i->ns.getD m ⟨#[]⟩ ∉ ns.take m)) _ ⟨0,zg,rfl,rfl,a.to _ _,NY _,(fun i hi=>absurd hi (O9 i))⟩ ?_);rintro _ _ _ ⟨i,_,bn,rfl,a,hi,hdu⟩;refine cQ (aa a [.c,.c,.v (nV ns.length)] ?_);cases zc:(decide ((i:Int)<(ns.length:Int)))
     .
      have zf:=oF zc;refine lB 58 zc (ah (CG.exit ?_))
      show CG _ _ _ _ _ _ _ _
      exact aa a ac (ae a [] (iV 0) (⟨_,rfl,.inr ⟨y,.inr ⟨by omega,.inr ⟨B,.inr ⟨J,.inr ⟨EL (fun m hm=>hdu m oM),rfl⟩⟩⟩⟩⟩⟩))
     have zf:=oT zc;refine lB 58 zc (ak (cK (cQ (kZ (cQ (cR 8 [] mixed a ao ?_))))));refine eV 0 61 (qS z ns.length u) (eV 1 62 (nV i) ?_);have Y:(ns.take i).length=i:=by rw[MV];omega
     refine eT 2 63 z ns.length u 1 (i:Nat) i ?_;replace a:=a.aS ((a.f.r.1).take i);refine eV 3 64 (qS z ns.length u) (eV 4 65 (nV i) (eX 5 66 z ns.length u 1 (i:Nat) i ((a.f.r.2.1).ok oM) (eH 6 67 (.string (ns.getD i ⟨#[]⟩)) a ((a.f.r.2.1).el i oM) (eC 7 68 a (fun _ _ a=>(by have X:=vQ z u (ns.take i) (ns.getD i ⟨#[]⟩) oM _ _ a.g (a.f.1);rw[Y] at X;exact X)) ?_))));rintro _ _ _ _ _ a ⟨bd,rfl,V⟩;cases bk:(bd)
     .
      refine bM a (fun _ zi a=>tN (dE (cK (kQ (lL a ac (bw 60 ((i:Nat)+1) (i+1) ?_))))));refine lL a ac (lD ?_);intro a_ U;replace a:=a.tl;refine ⟨_,_,?_,⟨i+1,zi,rfl,rfl,a.to _ _,oM,(fun m hm=>by rcases PJ.1 hm with l|rfl;exact hdu m l;exact fun l=>O8 ((V.2 l).symm.trans aM))⟩,U.to _ kR⟩
      omega
     exact bM a (fun _ _ a=>tN (ck (aa a ac (ae a [] (iV 8) (⟨_,rfl,.inr ⟨y,.inr ⟨by omega,.inr ⟨B,.inr ⟨J,.inl ⟨fun l=>DN l oM (V.1 aM),rfl⟩⟩⟩⟩⟩⟩)))))
    have ze:=oT zb;refine lB 45 zb (ak (cK (cQ (kZ (aa a cG (lX 51 S x.length nc 1 (j:Nat) j ((a.f.1).ok oM) ?_))))));refine lH 52 (.string (x.getD j ⟨#[]⟩)) a ((a.f.1).el j oM) (lC 53 a (vQ z u ns (x.getD j ⟨#[]⟩) oM _ _ a.g a.f.r.1) ?_);rintro _ _ zj a ⟨ba,rfl,hba⟩;cases bz:(ba)
    .
     exact lL a [.v qT] (ak (aa a ac (ae a [] (iV 11) (⟨_,rfl,.inr ⟨y,.inr ⟨by omega,.inr ⟨B,.inl ⟨fun l=>O8 ((hba.2 (l _ ((L _).1 (AV oM)))).symm.trans (by first|assumption|exact Ie aM)),rfl⟩⟩⟩⟩⟩))))
    refine lL a [.v qF] (ah (cK (kQ (lL a ac (bw 47 ((j:Nat)+1) (j+1) ?_)))));refine lL a ac (lD ?_);intro a_ U;refine ⟨_,_,?_,⟨j+1,zj,rfl,rfl,a.to _ _,oM,(fun i hi=>by rcases PJ.1 hi with l|rfl;exact M i l;exact hba.1 (by first|assumption|exact Fk aM))⟩,U.to _ kR⟩
    omega
   have zd:=oT za;refine lB 33 za (ak (cK (cQ (kZ (aa a ax (lX 38 z ns.length u 1 (k:Nat) k ((a.f.r.1).ok oM) ?_))))));refine lH 39 (.string (ns.getD k ⟨#[]⟩)) a ((a.f.r.1).el k oM) (lC 40 a (Kw (ns.getD k ⟨#[]⟩) (O.small k oM) _ _ a.g) ?_);rintro _ _ zk a ⟨bi,rfl,hbi⟩;cases bm:(bi)
   .
    exact lL a [.v qT] (ak (aa a ac (ae a [] (iV 11) (⟨_,rfl,.inr ⟨y,.inr ⟨by omega,.inl ⟨(fun l=>by have X:=l k oM;rw[<-hbi] at X;have q2_:bi=false:=(by first|assumption|exact Ie aM);rw[X] at q2_;cases q2_),rfl⟩⟩⟩⟩))))
   refine lL a [.v qF] (ah (cK (kQ (lL a ac (bw 35 ((k:Nat)+1) (k+1) ?_)))));refine lL a ac (lD ?_);intro a_ U;refine ⟨_,_,?_,⟨k+1,zk,rfl,rfl,a.to _ _,oM,(fun i hi=>by rcases PJ.1 hi with l|rfl;exact hal i l;rw[<-hbi];first|assumption|exact Fk aM)⟩,U.to _ kR⟩
   omega
  have bb:=oT H;refine lB 27 H (ak (aa a ac (lN (kX ?_))))
  exfalso;have:=O.len;omega
 have Z:=aJ I;exact lB 24 I (ak (aa a ac (ae a [] (iV 5) (⟨_,rfl,.inr ⟨y,.inl ⟨fun l=>by omega,rfl⟩⟩⟩))))
theorem qr (ns s)(c:s∈ns):(∃ i,i<ns.length/\ns.getD i ⟨#[]⟩=s)/\∀ k,k<ns.length->ns.getD k ⟨#[]⟩=s->(∀ i,i<k->ns.getD i ⟨#[]⟩≠s)->aY ns s=k :=
 ⟨⟨_,kA c⟩,fun k hk e a=>qh a hk e⟩
theorem wc (n)(hn:n<=1000)(L cL ks)(hkl:ks.length<=10)(Z:∀ j,j<ks.length->ks.getD j 0<n)(w h)(g:G w h)(hL:SlO 1 wV 0 h L ks):CR 31 #[nV n,.slice L ks.length cL] w h (fun v h1=>∃ A c,∃ e:List RT,v=.slice A e.length c/\e.length<=c/\Sr A e h1/\RTs h1 e (aE n ks ks.length)):=by
 have a:=((sS g).aS hL);refine go Tryz.func31 [(0,nV n),(1,qS L ks.length cL)] rfl (aa a ac (aG (lL a ac (lK 9 28 n 3 56 (.agg #[qF,sZ,sZ]) eA ((false,sZ,sZ):RT) a (fun p w2 h3 a=>?_)))));have hl4:(Af n ((false,sZ,sZ):RT)).length=n:=by simp
 refine lL a ac (ag (aa a ac (aZ ?_)));replace a:=a.add (K:=fun i=>RQk i (Af n ((false,sZ,sZ):RT)) 0 0) (RQk.nil);refine bH _ (CG.loop (fun B Γ w_=>∃ (k:Nat)(e:List RT)(i:Hp),B=n-k/\Γ=[(0,nV n),(1,qS L ks.length cL),(4,sZ),(5,qS (sB p) n n),(6,nV k)]/\SS w h w_ i [⟨p,28,(e).flatMap eA⟩] [] [fun i=>RQk i e k 0,fun i=>SlO 1 wV 0 i L ks]/\k<=n/\e.length=n) _ ⟨0,Af n ((false,sZ,sZ):RT),h3,rfl,rfl,a.to _ _,NY _,(by simp)⟩ ?_);rintro _ _ w5 ⟨k,e,h6,hm7,rfl,a,hk,u⟩;refine cQ (aa a ax ?_);cases x:(decide ((k:Int)<(n:Int)))
 .
  have H:=oF x;refine lB 12 x (ah (CG.exit ?_))
  show CG _ _ _ _ _ _ _ _
  refine cQ (aa a ac (aZ ?_));have hkn:k=n:=by omega
  replace a:=a.aT ((Eg (hkn▸(a.f.1)) u));refine bH _ (CG.loop (fun B Γ w_=>∃ (j:Nat)(us:List RT)(i:Hp),B=ks.length-j/\Γ=[(1,qS L ks.length cL),(4,sZ),(5,qS (sB p) n n),(7,nV j)]/\SS w h w_ i [⟨p,28,(us).flatMap eA⟩] [] [Rt us (aE n ks j),fun i=>RQk i e k 0,fun i=>SlO 1 wV 0 i L ks]/\j<=ks.length/\us.length=n) _ ⟨0,e,h6,rfl,rfl,a.to _ _,NY _,u⟩ ?_);rintro _ _ w9 ⟨j,us,_,bm,rfl,a,hj,y⟩;have bb:=(a.f.1).len;refine cQ (aa a [.c,.c,.v (nV ks.length)] ?_);cases S:(decide ((j:Int)<(ks.length:Int)))
  .
   have zk:=oF S;refine lB 22 S (ah (CG.exit ?_))
   show CG _ _ _ _ _ _ _ _
   refine aa a ax (lN (kX ?_));have Y:j=ks.length:=by omega
   obtain ⟨_,a,I,bj,bl⟩:=a.pub 0;replace a:=(a.to [] []).aS (SlO.of_flat (sz:=3) (f:=eA) (d:=gV) (b:=p) (o:=0) (l:=us) (fun _=>rfl) I);exact a.ret [] (qS (sB p) n n) (⟨_,n,us,by rw[y],N4 y,a.f.1,(by rw[<-Y];exact a.f.2.1)⟩)
  have zk:=oT S;refine lB 22 S (ak (cK (cQ (kZ (cR 14 [] mixed a ao ?_)))));have bd:=Z j oM;refine eV 0 25 (qS (sB p) n n) (eV 1 26 (qS L ks.length cL) (eV 2 27 (nV j) (eX 3 28 L ks.length cL 1 (j:Nat) j ((a.f.r.1).ok oM) (eH 4 29 (nV (ks.getD j 0)) a ((a.f.r.1).el j oM) (eV 5 30 (qS (sB p) n n) (eV 6 31 (qS L ks.length cL) (eV 7 32 (nV j) (eX 8 33 L ks.length cL 1 (j:Nat) j ((a.f.r.1).ok oM) (eH 9 34 (nV (ks.getD j 0)) a ((a.f.r.1).el j oM) (eX 10 35 (sB p) n n 3 (ks.getD j 0:Nat) (ks.getD j 0) rfl ?_))))))))));obtain ⟨Au,cu,Du,du,eu,hcu,hdu,W,X⟩:=(a.f.1).at_ (ks.getD j 0) oM;replace a:=a.aP W X;refine eQ 11 36 0 us eA 3 gV (ks.getD j 0) (wA (us.getD (ks.getD j 0) gV)) a oM ?_;rw[eu];refine eC 12 37 a (fun _ _ a=>ud 1 oM oM _ _ a.g) ?_;rintro _ _ _ _ _ a ⟨zB,zD,zE,zG,rfl,zl,zm,zn,zo⟩;replace a:=a.aP zn zo;have bk:=LQ.add (co n ks (show j<=1000 by omega) (ks.getD j 0)) (LQ.lit (z:=1) kD);refine eC 13 38 a (fun _ _ a=>EQ ((aE n ks j).getD (ks.getD j 0) 0) Au cu Du du hcu hdu (nl (co n ks (show j<=1000 by omega) (ks.getD j 0))) (nD (co n ks (show j<=1000 by omega) (ks.getD j 0))) ((1:Int):Rat) zB zD zE zG zl zm (nl (LQ.lit (z:=1) kD)) (nD (LQ.lit (z:=1) kD)) _ _ a.g a.f.r.2.1 a.f.r.1 a.f.2.1 a.f.1) ?_;rintro _ _ _ _ _ a ⟨M,Q,O,U,rfl,zp,zq,zr,zs⟩;replace a:=a.aP zr zs;refine bM a (fun _ zH a=>tX 14 39 (sB p) n n 3 (ks.getD j 0:Nat) (ks.getD j 0) rfl (tW 15 0 us eA 3 (ks.getD j 0) ((af (((aE n ks j).getD (ks.getD j 0) 0)+((1:Int):Rat)).num,qS M ((lim (ab (((aE n ks j).getD (ks.getD j 0) 0)+((1:Int):Rat)).num)).length) Q,qS O ((lim (((aE n ks j).getD (ks.getD j 0) 0)+((1:Int):Rat)).den).length) U):RT) a oM (fun _ a=>?_)));have zt:((us).set (ks.getD j 0) ((af (((aE n ks j).getD (ks.getD j 0) 0)+((1:Int):Rat)).num,qS M ((lim (ab (((aE n ks j).getD (ks.getD j 0) 0)+((1:Int):Rat)).num)).length) Q,qS O ((lim (((aE n ks j).getD (ks.getD j 0) 0)+((1:Int):Rat)).den).length) U):RT)).length=n:=by rw[NI];exact y
  replace a:=a.to [⟨p,28,((us).set (ks.getD j 0) ((af (((aE n ks j).getD (ks.getD j 0) 0)+((1:Int):Rat)).num,qS M ((lim (ab (((aE n ks j).getD (ks.getD j 0) 0)+((1:Int):Rat)).num)).length) Q,qS O ((lim (((aE n ks j).getD (ks.getD j 0) 0)+((1:Int):Rat)).den).length) U):RT)).flatMap eA⟩] [];refine tN (kQ (lL a ac (bw 24 ((j:Nat)+1) (j+1) ?_)));refine lL a ac (lD ?_);intro a_ V;replace a:=(a.tl.tl.tl.tl.tl.tl.tl.aT (Ff a.f.q.r.1 (ks.getD j 0) (lZ zp zq a.f.2.1 a.f.1)));refine ⟨_,_,?_,⟨j+1,(us).set (ks.getD j 0) ((af (((aE n ks j).getD (ks.getD j 0) 0)+((1:Int):Rat)).num,qS M ((lim (ab (((aE n ks j).getD (ks.getD j 0) 0)+((1:Int):Rat)).num)).length) Q,qS O ((lim (((aE n ks j).getD (ks.getD j 0) 0)+((1:Int):Rat)).den).length) U):RT),zH,rfl,rfl,a.to _ _,oM,zt⟩,V.to _ kR⟩
  omega
 have H:=oT x;refine lB 12 x (ak (cK (cQ (kZ (kQ (lL a ax (lC 17 a (ud 0 oM oM _ _ a.g) ?_)))))));rintro _ _ zI a ⟨F,J,C,D,rfl,zu,zv,zw,zx⟩;replace a:=a.aP zw zx;refine lX 18 (sB p) n n 3 (k:Nat) k rfl (lW 0 e eA 3 k ((af ((0:Int):Rat).num,qS F ((lim (ab ((0:Int):Rat).num)).length) J,qS C ((lim ((0:Int):Rat).den).length) D):RT) a oM (fun _ a=>?_));have zA:((e).set k ((af ((0:Int):Rat).num,qS F ((lim (ab ((0:Int):Rat).num)).length) J,qS C ((lim ((0:Int):Rat).den).length) D):RT)).length=n:=by rw[NI];exact u
 replace a:=a.to [⟨p,28,((e).set k ((af ((0:Int):Rat).num,qS F ((lim (ab ((0:Int):Rat).num)).length) J,qS C ((lim ((0:Int):Rat).den).length) D):RT)).flatMap eA⟩] [];refine lN (kQ (lL a ac (bw 14 ((k:Nat)+1) (k+1) ?_)));refine lL a ac (lD ?_);intro a_ V;replace a:=(a.tl.tl.tl.add (K:=fun i=>RQk i ((e).set k ((af ((0:Int):Rat).num,qS F ((lim (ab ((0:Int):Rat).num)).length) J,qS C ((lim ((0:Int):Rat).den).length) D):RT)) (k+1) 0) (H7 u oM a.f.r.1 (RQ.eq (lZ zu zv a.f.2.1 a.f.1) rfl)));refine ⟨_,_,?_,⟨k+1,(e).set k ((af ((0:Int):Rat).num,qS F ((lim (ab ((0:Int):Rat).num)).length) J,qS C ((lim ((0:Int):Rat).den).length) D):RT),zI,rfl,rfl,a.to _ _,oM,zA⟩,V.to _ kR⟩
 omega
def qy (ns:List ByteArray)(fs:List Rat)(d:Nat)(t:Tm):Int:=(aR (aY ns) fs [] 3 d t).1
section
variable {ns:List ByteArray}{fs:List Rat}{d:Nat}{t:Tm}
theorem wd (hf:fs.length=ns.length)(w:WfT1 (fun s=>s∈ns) d t)(ws):(aR (aY ns) fs ws (2+1) d t).1=qy ns fs d t:=by
 obtain ⟨e,k,_⟩:=r7 (ix:=aY ns) (fs:=fs) (fun s a=>by rw[hf];exact (kA a).1) w;exact (k ws).trans (k []).symm
theorem pz (f:d<=7)(c:∀ i,LQ 1 (fs.getD i 0))(w:WfT1 (fun s=>s∈ns) d t)(g:bL d t<=1000){ws:List Rat}(a:∀ i,LQ 1 (ws.getD i 0))(i):LQ 15000000 ((aR (aY ns) fs ws (2+1) d t).2.getD i 0):=by
 obtain ⟨_,s⟩:=oV (ix:=aY ns) (m:=2+1) kD c a w;have j:2^d*bL d t<=128*1000:=NF (M1 (n:=2) kD f) g
 have h:(aR (aY ns) fs ws (2+1) d t).2.length<=13:=by
  by_cases e:(aR (aY ns) fs ws (2+1) d t).1=0
  ·rw[d7 w e];decide
  ·rw[EZ e];decide
 exact (s.lq h i).mono oM
def xD (ns:List ByteArray)(fs:List Rat)(d:Nat)(t:Tm)(a c:Nat):Rat:=(aR (aY ns) fs (aE ns.length [a,c] 2) (2+1) d t).2.getD 2 0-(aR (aY ns) fs (aE ns.length [a] 1) (2+1) d t).2.getD 2 0-(aR (aY ns) fs (aE ns.length [c] 1) (2+1) d t).2.getD 2 0
theorem J0 {h:Hp}{a:List RT}{k:Nat}{f:Nat->Rat}{x:RT}(r:RTs h a (bE k f))(c:RQ h (wA x) (f k)):RTs h (a++[x]) (bE (k+1) f):=by
 unfold bE at *;rw[PU,PV];exact r.snoc c
theorem JD {n a:Nat}(h:a<n)(j)(c:j<([a]:List Nat).length):([a]:List Nat).getD j 0<n:=by
 have:j=0:=by simp at c;omega
 subst this;exact h
theorem Ly {n a c:Nat}(h:a<n)(d:c<n)(j)(e:j<([a,c]:List Nat).length):([a,c]:List Nat).getD j 0<n:=by
 have:j=0\/j=1:=by simp at e;omega
 rcases this with rfl|rfl
 ·exact h
 ·exact d
def SecPl (d:Nat)(t:Tm)(ns:List ByteArray)(fs:List Rat)(e:Int)(Q_:List (List Rat)):Prop :=
  ∃ ec,DckR d t ns (fs.length=ns.length) ec/\((ec≠0/\e=ec/\Q_=[])\/(ec=0/\e=qy ns fs d t/\Q_=if qy ns fs d t=0 then (o2 ns.length).map fun a=>bE ns.length (xD ns fs d t a) else []))
theorem SecPl.uniq {e a:Int}{h f:List (List Rat)}(x:SecPl d t ns fs e h)(y:SecPl d t ns fs a f):e=a/\h=f:=by
 obtain ⟨c,c1,c2⟩:=x;obtain ⟨c',i,j⟩:=y;obtain rfl:=c1.uniq i
 rcases c2 with ⟨h0,a1,a2⟩|⟨h0,a1,a2⟩<;>rcases j with ⟨h1,b1,b2⟩|⟨h1,b1,b2⟩
 ·exact ⟨a1.trans b1.symm,a2.trans b2.symm⟩
 ·exact absurd h1 h0
 ·exact absurd h0 h1
 ·exact ⟨a1.trans b1.symm,a2.trans b2.symm⟩
end
theorem Fd (d)(p:RTm)(t)(hd:d<=7)(W B ns)(hns:NsD ns)(hcN:ns.length<=B)(fs FA cF F)(hm:fs.length<=1000)(hq:∀ i,LQ 1 (fs.getD i 0))(w h)(g:G w h)(hT:RmH d h p t)(hS:SmT1 gG d t)(hN:SlO 1 bA ⟨#[]⟩ h W ns)(hF:Sr FA F h)(hTf:RTs h F fs):CR 11 #[bO p,.slice W ns.length B,.slice FA F.length cF] w h (fun v h1=>∃ (e:Int)(A_:Z9)(c_:Nat)(us:List Value)(Q_:List (List Rat)),v=.tuple #[.slice A_ us.length c_,iV e]/\us.length<=c_/\Sv A_ us h1/\RVs h1 us Q_/\SecPl d t ns fs e Q_):=by
 have x:=(((((sS g).add (K:=fun I=>RmH d I p t) hT).aS hN).aS hF).aT hTf);have dm:=hns.len;have bd:1<=ns.length/\ns.length<=1000:=⟨by omega,by omega⟩;have dy:=(x.f.1).len;refine go Tryz.func11 [(0,bO p),(1,qS W ns.length B),(2,qS FA F.length cF)] rfl (aA (lA 3 31 (bJ p) x (fun b1 w2 h3 x=>lL x ax (ag (aa x [.o (bO p) 0 0 7] (lC 23 x (EH dq gG Kw d p t oM _ _ x.g x.f.r.2.1 hS.sm) ?_))))));rintro _ w4 h5 x ⟨ec,rfl,hec⟩;cases hb6:((ec:Int) != (0:Int))
 .
  have cx:=aU hb6;refine lB 24 hb6 (ah (cK (cQ ?_)));have O:ol dq d t:=⟨pS hS (hec.1 oM).1,(hec.1 oM).2⟩;refine aa x [.o (bO p) 0 0 7,.c,.c,.v (nV F.length)] (lR 29 3 1 ([nV F.length]) x (fun b7 w8 h9 x=>?_));replace x:=x.aS (SlO.of_flat (sz:=1) (f:=wV) (d:=0) (b:=b7) (o:=0) (l:=([F.length]:List Nat)) (fun _=>rfl) x.f.1);refine lC 30 x (B0 d p t oM W B ns hns hcN (sB b7) 1 F.length oM O _ _ x.g x.f.q.2.1 x.f.q.1 x.f.1) ?_;rintro _ _ _ x ⟨en,rfl,hen⟩;refine lL x ac (aG (lL x ac ?_));cases za:((en:Int) != (0:Int))
  .
   have zm:=aU za;refine lB 32 za (ah (cK (aa x ac ?_)));have bb:en=0:=by omega
   have bj:=hen.ok bb;have U:fs.length=ns.length:=by rw[<-(x.f.r.1).len];exact bj.2.1
   have D:=oz bj;have J:=wd U D;have C:=fun (u:List Rat) (hu:∀ i,LQ 1 (u.getD i 0))=>pz hd hq D bj.1.2 hu 2
   refine lL x [.v (nV ns.length),.c] (ag (cQ (cR 9 [] mixed x ao ?_)));refine eO 0 37 [(0,0,7)] (bO p) x (eV 1 38 (qS W ns.length B) (eV 2 39 (qS FA F.length cF) (eV 3 40 (nV ns.length) (eC 4 41 x (fun _ _ x=>wc ns.length oM none 0 [] (Hi rfl) (fun j hj=>absurd hj (O9 j)) _ _ x.g SlO.nil) ?_))));rintro _ _ _ _ _ x ⟨Atu,ctu,tu,rfl,d0,c7,b0⟩;replace x:=((x.aS c7).aT b0);refine eC 5 42 x (fun _ _ x=>rW (fun s=>s∈ns) (aY ns) fs (aE ns.length [] 0) W B ns FA cF F Atu ctu tu U (gd _ _ _) bd.2 2 kD hq (co _ _ kD) (qr ns) d p t _ _ hd x.g x.f.q.r.2.1 D O.2 x.f.q.r.1 x.f.q.2.1 x.f.q.1 x.f.2.1 x.f.1) ?_;rintro _ _ _ _ _ x ⟨Atx,ctx,tx,rfl,dz,cr,cp⟩;replace x:=((x.aS cr).aT cp);refine eV 6 36 (.tuple #[qS Atx tx.length ctx,iV ((aR (aY ns) fs (aE ns.length [] 0) (2+1) d t).1)]) (eV 7 43 (qS Atx tx.length ctx) (eV 8 44 (iV ((aR (aY ns) fs (aE ns.length [] 0) (2+1) d t).1)) (bM x (fun _ zJ x=>tV 9 10 (qS Atx tx.length ctx) (tV 10 11 (iV ((aR (aY ns) fs (aE ns.length [] 0) (2+1) d t).1)) (rm (lL x ac ?_)))))));cases zb:(((aR (aY ns) fs (aE ns.length [] 0) (2+1) d t).1:Int) != (0:Int))
   .
    have zn:=aU zb;refine lB 46 zb (ah (cK ?_));have Q:qy ns fs d t=0:=by rw[<-J (aE ns.length [] 0)];omega
    refine aa x ac (ag (aa x ac (aZ ?_)));replace x:=x.nil 36 1;replace x:=x.aV (RVs.nil);refine bH _ (CG.loop (fun μ_ Γ w_=>∃ (i:Nat)(M:Z9)(L:Nat)(us:List Value)(I:Hp),μ_=ns.length-i/\Γ=[(1,qS W ns.length B),(2,qS FA F.length cF),(3,pB b1),(6,sZ),(7,iV 0),(9,nV ns.length),(13,nV i),(12,qS M ((us).length) L)]/\SS w h w_ I [⟨b1,31,bJ p⟩] [⟨36,1,M,L,(us).length,(us).flatMap vc⟩] [Ru us ((o2 i).map fun a=>bE ns.length (xD ns fs d t a)),Rt tx (aR (aY ns) fs (aE ns.length [] 0) (2+1) d t).2,Sr Atx tx,Rt tu (aE ns.length [] 0),Sr Atu tu,fun I=>SlO 1 wV 0 I (sB b7) ([F.length]:List Nat),fun I=>Seg I b7 0 ([nV F.length]),Rt F fs,Sr FA F,fun I=>SlO 1 bA ⟨#[]⟩ I W ns,fun I=>RmH d I p t]/\i<=ns.length) _ ⟨0,none,0,[],zJ,rfl,rfl,x.to _ _,NY _⟩ ?_);rintro _ _ _ ⟨i,M,L,us,zK,dw,rfl,x,hi_⟩;have hlU:=(x.f.1).len;rw[PH,PP] at hlU
    refine cQ (aa x ax ?_);cases zc:(decide ((i:Int)<(ns.length:Int)))
    .
     have zo:=oF zc;refine lB 50 zc (ah (CG.exit ?_))
     show CG _ _ _ _ _ _ _ _
     refine aa x cG (lN (kX ?_));have bz:i=ns.length:=by omega
     obtain ⟨_,x,zt⟩:=x.pubr 0 (A:=M) (c:=L) (l:=us) (f:=vc) (ty:=36) (sz:=1) undef (fun _=>rfl);exact x.ret [] (.tuple #[qS M ((us).length) L,iV 0]) (⟨_,_,_,us,_,rfl,zt,x.f.1,x.f.2.1,⟨0,by have:=hen;rw[bb] at this;exact (x.f.q.q.1).len▸this,.inr ⟨rfl,Q.symm,by rw[if_pos Q,bz]⟩⟩⟩)
    have zo:=oT zc;refine lB 50 zc (ak (cK (cQ (kZ (aa x ac (ag (aa x ac (aZ ?_))))))));replace x:=x.nil 28 3;replace x:=x.aT (RTs.nil);refine bH _ (CG.loop (fun μ_ Γ w_=>∃ (k:Nat)(y:Z9)(z:Nat)(H:List RT)(I:Hp),μ_=ns.length-k/\Γ=[(1,qS W ns.length B),(2,qS FA F.length cF),(3,pB b1),(6,sZ),(7,iV 0),(9,nV ns.length),(13,nV i),(12,qS M ((us).length) L),(15,nV k),(14,qS y ((H).length) z)]/\SS w h w_ I [⟨b1,31,bJ p⟩] [⟨28,3,y,z,(H).length,(H).flatMap eA⟩,⟨36,1,M,L,(us).length,(us).flatMap vc⟩] [Rt H (bE k (xD ns fs d t i)),Ru us ((o2 i).map fun a=>bE ns.length (xD ns fs d t a)),Rt tx (aR (aY ns) fs (aE ns.length [] 0) (2+1) d t).2,Sr Atx tx,Rt tu (aE ns.length [] 0),Sr Atu tu,fun I=>SlO 1 wV 0 I (sB b7) ([F.length]:List Nat),fun I=>Seg I b7 0 ([nV F.length]),Rt F fs,Sr FA F,fun I=>SlO 1 bA ⟨#[]⟩ I W ns,fun I=>RmH d I p t]/\k<=ns.length) _ ⟨0,none,0,[],zK,rfl,rfl,x.to _ _,NY _⟩ ?_);rintro _ _ _ ⟨k,y,z,H,_,dv,rfl,x,hk_⟩;have cy:=(x.f.1).len;rw[eM] at cy
    refine cQ (aa x ax ?_);cases zd:(decide ((k:Int)<(ns.length:Int)))
    .
     have zp:=oF zd;refine lB 55 zd (ah (CG.exit ?_))
     show CG _ _ _ _ _ _ _ _
     refine kQ (lL x ac ?_);have c4:k=ns.length:=by omega
     obtain ⟨_,x,zu⟩:=x.pubr 0 (A:=y) (c:=z) (l:=H) (f:=eA) (ty:=28) (sz:=3) gV (fun _=>rfl);refine lL x ac (lR 108 36 1 ([qS y ((H).length) z]) x (fun zL _ _ x=>lY 109 0 36 1 L M us vc (qS y ((H).length) z:Value) 24 zL (sZ) x x.f.1 (fun zM zN _ zP x=>lL x ac (lN (kQ (lL x ac (bw 52 ((i:Nat)+1) (i+1) ?_)))))));refine lL x ac (lD ?_);intro a_ ka;replace x:=(x.tl.tl.tl.tl.add (K:=Ru (us++[(qS y ((H).length) z:Value)]) ((o2 (i+1)).map fun a=>bE ns.length (xD ns fs d t a))) (by rw[PU,PV];exact (x.f.r.2.1).snoc ⟨_,_,H,rfl,zu,x.f.2.1,by rw[<-c4];exact x.f.r.1⟩));refine ⟨_,_,?_,⟨i+1,zM,zN,us++[(qS y ((H).length) z:Value)],zP,rfl,rfl,x.to _ _,oM⟩,ka.to _ kR⟩
     omega
    have zp:=oT zd;refine lB 55 zd (ak (cK (cQ (kZ (cQ (cR 12 [] mixed x ao ?_))))));refine eO 0 59 [(0,0,7)] (bO p) x (eV 1 60 (qS W ns.length B) (eV 2 61 (qS FA F.length cF) (eV 3 62 (nV ns.length) (eV 4 63 (nV i) (eV 5 64 (nV k) (eR 6 65 3 2 ([nV i,nV k]) x (fun zq _ _ x=>?_)))))));replace x:=x.aS (SlO.of_flat (sz:=1) (f:=wV) (d:=0) (b:=zq) (o:=0) (l:=([i,k]:List Nat)) (fun _=>rfl) x.f.1);refine eC 7 66 x (fun _ _ x=>wc ns.length oM (sB zq) 2 [i,k] (Hi rfl) (Ly oM oM) _ _ x.g x.f.1) ?_;rintro _ _ _ _ _ x ⟨Ata,cta,ta,rfl,dx,bq,cj⟩;replace x:=((x.aS bq).aT cj);refine eC 8 67 x (fun _ _ x=>rW (fun s=>s∈ns) (aY ns) fs (aE ns.length [i,k] 2) W B ns FA cF F Ata cta ta U (gd _ _ _) bd.2 2 kD hq (co _ _ kD) (qr ns) d p t _ _ hd x.g x.f.q.q.q.r.2.1 D O.2 x.f.q.q.q.r.1 x.f.q.q.q.2.1 x.f.q.q.q.1 x.f.2.1 x.f.1) ?_;rintro _ _ _ _ _ x ⟨Y,S,xa,rfl,bm,bn,cd⟩;replace x:=((x.aS bn).aT cd);have c9:=(x.f.1).len;have df:(aR (aY ns) fs (aE ns.length [i,k] 2) (2+1) d t).2.length=3:=d7 D (by rw[J];exact Q);refine eV 9 58 (.tuple #[qS Y xa.length S,iV ((aR (aY ns) fs (aE ns.length [i,k] 2) (2+1) d t).1)]) (eV 10 68 (qS Y xa.length S) (eV 11 69 (iV ((aR (aY ns) fs (aE ns.length [i,k] 2) (2+1) d t).1)) (bM x (fun _ _ x=>tV 12 16 (qS Y xa.length S) (tV 13 17 (iV ((aR (aY ns) fs (aE ns.length [i,k] 2) (2+1) d t).1)) (tN (cQ (cR 11 [] mixed x ao ?_))))))));refine eO 0 71 [(0,0,7)] (bO p) x (eV 1 72 (qS W ns.length B) (eV 2 73 (qS FA F.length cF) (eV 3 74 (nV ns.length) (eV 4 75 (nV i) (eR 5 76 3 1 ([nV i]) x (fun zr _ _ x=>?_))))));replace x:=x.aS (SlO.of_flat (sz:=1) (f:=wV) (d:=0) (b:=zr) (o:=0) (l:=([i]:List Nat)) (fun _=>rfl) x.f.1);refine eC 6 77 x (fun _ _ x=>wc ns.length oM (sB zr) 1 [i] (Hi rfl) (JD oM) _ _ x.g x.f.1) ?_;rintro _ _ _ _ _ x ⟨Atq,ctq,tq,rfl,d1,br,b9⟩;replace x:=((x.aS br).aT b9);refine eC 7 78 x (fun _ _ x=>rW (fun s=>s∈ns) (aY ns) fs (aE ns.length [i] 1) W B ns FA cF F Atq ctq tq U (gd _ _ _) bd.2 2 kD hq (co _ _ kD) (qr ns) d p t _ _ hd x.g x.f.q.q.q.q.q.2.1 D O.2 x.f.q.q.q.q.q.1 x.f.q.q.q.q.r.2.1 x.f.q.q.q.q.r.1 x.f.2.1 x.f.1) ?_;rintro _ _ _ _ _ x ⟨V,cxq,xq,rfl,bk,b6,b2⟩;replace x:=((x.aS b6).aT b2);have dn:=(x.f.1).len;have ds:(aR (aY ns) fs (aE ns.length [i] 1) (2+1) d t).2.length=3:=d7 D (by rw[J];exact Q);refine eV 8 70 (.tuple #[qS V xq.length cxq,iV ((aR (aY ns) fs (aE ns.length [i] 1) (2+1) d t).1)]) (eV 9 79 (qS V xq.length cxq) (eV 10 80 (iV ((aR (aY ns) fs (aE ns.length [i] 1) (2+1) d t).1)) (bM x (fun _ _ x=>tV 11 18 (qS V xq.length cxq) (tV 12 19 (iV ((aR (aY ns) fs (aE ns.length [i] 1) (2+1) d t).1)) (tN (cQ (cR 11 [] mixed x ao ?_))))))));refine eO 0 82 [(0,0,7)] (bO p) x (eV 1 83 (qS W ns.length B) (eV 2 84 (qS FA F.length cF) (eV 3 85 (nV ns.length) (eV 4 86 (nV k) (eR 5 87 3 1 ([nV k]) x (fun zs _ _ x=>?_))))));replace x:=x.aS (SlO.of_flat (sz:=1) (f:=wV) (d:=0) (b:=zs) (o:=0) (l:=([k]:List Nat)) (fun _=>rfl) x.f.1);refine eC 6 88 x (fun _ _ x=>wc ns.length oM (sB zs) 1 [k] (Hi rfl) (JD oM) _ _ x.g x.f.1) ?_;rintro _ _ _ _ _ x ⟨Atr,ctr,tr,rfl,d2,ch,c8⟩;replace x:=((x.aS ch).aT c8);refine eC 7 89 x (fun _ _ x=>rW (fun s=>s∈ns) (aY ns) fs (aE ns.length [k] 1) W B ns FA cF F Atr ctr tr U (gd _ _ _) bd.2 2 kD hq (co _ _ kD) (qr ns) d p t _ _ hd x.g x.f.q.q.q.q.q.q.r.2.1 D O.2 x.f.q.q.q.q.q.q.r.1 x.f.q.q.q.q.q.q.2.1 x.f.q.q.q.q.q.q.1 x.f.2.1 x.f.1) ?_;rintro _ _ _ _ _ x ⟨X,Z,xr,rfl,bl,b5,cw⟩;replace x:=((x.aS b5).aT cw);have dp:=(x.f.1).len;have dc:(aR (aY ns) fs (aE ns.length [k] 1) (2+1) d t).2.length=3:=d7 D (by rw[J];exact Q);refine eV 8 81 (.tuple #[qS X xr.length Z,iV ((aR (aY ns) fs (aE ns.length [k] 1) (2+1) d t).1)]) (eV 9 90 (qS X xr.length Z) (eV 10 91 (iV ((aR (aY ns) fs (aE ns.length [k] 1) (2+1) d t).1)) (bM x (fun _ _ x=>tV 11 20 (qS X xr.length Z) (tV 12 21 (iV ((aR (aY ns) fs (aE ns.length [k] 1) (2+1) d t).1)) (tN (bH [(1,qS W ns.length B),(2,qS FA F.length cF),(3,pB b1),(6,sZ),(7,iV 0),(9,nV ns.length),(13,nV i),(12,qS M ((us).length) L),(15,nV k),(14,qS y ((H).length) z),(16,qS Y xa.length S),(18,qS V xq.length cxq),(20,qS X xr.length Z)] ?_)))))));refine CG.region ⟨((Value.slice y ((H).length) z).ownBlock.toList),none⟩ 14 [] mixed kR x.g ao (x.ro_lt 0 (ty:=28) (sz:=3) (A:=y) (c:=z) (m:=(H).length) (cs:=(H).flatMap eA)) (eV 0 92 (qS y ((H).length) z) (eV 1 93 (qS Y xa.length S) (eX 2 94 Y xa.length S 3 2 2 ((x.f.q.q.q.2.1).ok oM) ?_)));obtain ⟨Y,S,Dxa,dxa,exa,bm,b4,cm,c3⟩:=(x.f.q.q.q.1).at_ 2 oM;replace x:=x.aP cm c3;refine qL 3 95 (rA (xa.getD 2 gV)) x ((x.f.q.q.q.r.2.1).el 2 oM) exa ?_ (hM:=x.ro_jk 0 (ty:=28) (sz:=3) (A:=y) (c:=z) (m:=(H).length) (cs:=(H).flatMap eA));refine eV 4 96 (qS V xq.length cxq) (eX 5 97 V xq.length cxq 3 2 2 ((x.f.q.q.2.1).ok oM) ?_);obtain ⟨V,cxq,Dxq,dxq,exq,bk,b3,cz,c5⟩:=(x.f.q.q.1).at_ 2 oM;replace x:=x.aP cz c5;refine qL 6 98 (rA (xq.getD 2 gV)) x ((x.f.q.q.r.2.1).el 2 oM) exq ?_ (hM:=x.ro_jk 0 (ty:=28) (sz:=3) (A:=y) (c:=z) (m:=(H).length) (cs:=(H).flatMap eA));refine eV 8 100 (qS X xr.length Z) (eX 9 101 X xr.length Z 3 2 2 ((x.f.q.2.1).ok oM) ?_);obtain ⟨X,Z,Dxr,dxr,exr,bl,cq,cf,c6⟩:=(x.f.q.1).at_ 2 oM;replace x:=x.aP cf c6;refine qL 10 102 (rA (xr.getD 2 gV)) x ((x.f.q.r.2.1).el 2 oM) exr ?_ (hM:=x.ro_jk 0 (ty:=28) (sz:=3) (A:=y) (c:=z) (m:=(H).length) (cs:=(H).flatMap eA));have ze:=LQ.sub (C (aE ns.length [i,k] 2) (co _ _ kD)) (C (aE ns.length [i] 1) (co _ _ kD));refine eC 7 99 x (fun _ _ x=>G1 (((aR (aY ns) fs (aE ns.length [i,k] 2) (2+1) d t).2).getD 2 0) Y S Dxa dxa bm b4 (nl (C (aE ns.length [i,k] 2) (co _ _ kD))) (nD (C (aE ns.length [i,k] 2) (co _ _ kD))) (((aR (aY ns) fs (aE ns.length [i] 1) (2+1) d t).2).getD 2 0) V cxq Dxq dxq bk b3 (nl (C (aE ns.length [i] 1) (co _ _ kD))) (nD (C (aE ns.length [i] 1) (co _ _ kD))) _ _ x.g x.f.q.2.1 x.f.q.1 x.f.r.2.1 x.f.r.1) ?_;rintro _ _ _ _ _ x ⟨zQ,zR,zS,zU,rfl,zv,zw,zx,zA⟩;replace x:=x.aP zx zA;have d3:=LQ.sub ze (C (aE ns.length [k] 1) (co _ _ kD));refine eC 11 103 x (fun _ _ x=>G1 ((((aR (aY ns) fs (aE ns.length [i,k] 2) (2+1) d t).2).getD 2 0)-(((aR (aY ns) fs (aE ns.length [i] 1) (2+1) d t).2).getD 2 0)) zQ zR zS zU zv zw (nl ze) (nD ze) (((aR (aY ns) fs (aE ns.length [k] 1) (2+1) d t).2).getD 2 0) X Z Dxr dxr bl cq (nl (C (aE ns.length [k] 1) (co _ _ kD))) (nD (C (aE ns.length [k] 1) (co _ _ kD))) _ _ x.g x.f.2.1 x.f.1 x.f.r.2.1 x.f.r.1) ?_;rintro _ _ _ _ _ x ⟨zf,zg,zi,zj,rfl,zB,zD,zE,zG⟩;replace x:=x.aP zE zG;refine eR 12 104 28 1 (iT (((((aR (aY ns) fs (aE ns.length [i,k] 2) (2+1) d t).2).getD 2 0)-(((aR (aY ns) fs (aE ns.length [i] 1) (2+1) d t).2).getD 2 0))-(((aR (aY ns) fs (aE ns.length [k] 1) (2+1) d t).2).getD 2 0)) zf zg zi zj) x (fun zH _ _ x=>eY 13 105 0 28 3 z y H eA ((af (((((aR (aY ns) fs (aE ns.length [i,k] 2) (2+1) d t).2).getD 2 0)-(((aR (aY ns) fs (aE ns.length [i] 1) (2+1) d t).2).getD 2 0))-(((aR (aY ns) fs (aE ns.length [k] 1) (2+1) d t).2).getD 2 0)).num,qS zf ((lim (ab (((((aR (aY ns) fs (aE ns.length [i,k] 2) (2+1) d t).2).getD 2 0)-(((aR (aY ns) fs (aE ns.length [i] 1) (2+1) d t).2).getD 2 0))-(((aR (aY ns) fs (aE ns.length [k] 1) (2+1) d t).2).getD 2 0)).num)).length) zg,qS zi ((lim (((((aR (aY ns) fs (aE ns.length [i,k] 2) (2+1) d t).2).getD 2 0)-(((aR (aY ns) fs (aE ns.length [i] 1) (2+1) d t).2).getD 2 0))-(((aR (aY ns) fs (aE ns.length [k] 1) (2+1) d t).2).getD 2 0)).den).length) zj):RT) 56 zH (.agg #[qF,sZ,sZ]) x (fun _ f_=>f_.1) (fun b hb=>O3.2 hb) (fun zk zl _ _ x=>bM x (fun _ zI x=>tV 14 14 (qS zk ((H++[((af (((((aR (aY ns) fs (aE ns.length [i,k] 2) (2+1) d t).2).getD 2 0)-(((aR (aY ns) fs (aE ns.length [i] 1) (2+1) d t).2).getD 2 0))-(((aR (aY ns) fs (aE ns.length [k] 1) (2+1) d t).2).getD 2 0)).num,qS zf ((lim (ab (((((aR (aY ns) fs (aE ns.length [i,k] 2) (2+1) d t).2).getD 2 0)-(((aR (aY ns) fs (aE ns.length [i] 1) (2+1) d t).2).getD 2 0))-(((aR (aY ns) fs (aE ns.length [k] 1) (2+1) d t).2).getD 2 0)).num)).length) zg,qS zi ((lim (((((aR (aY ns) fs (aE ns.length [i,k] 2) (2+1) d t).2).getD 2 0)-(((aR (aY ns) fs (aE ns.length [i] 1) (2+1) d t).2).getD 2 0))-(((aR (aY ns) fs (aE ns.length [k] 1) (2+1) d t).2).getD 2 0)).den).length) zj):RT)]).length) zl) (tN (kQ (lL x ac (bw 57 ((k:Nat)+1) (k+1) ?_)))))));refine lL x ac (lD ?_);intro a_ ka;replace x:=(x.tl.tl.tl.tl.tl.tl.tl.tl.tl.tl.tl.tl.tl.tl.tl.tl.tl.tl.tl.tl.tl.tl.tl.tl.tl.tl.tl.tl.tl.tl.aT (J0 x.f.q.q.q.q.q.q.q.2.1 (lZ zB zD x.f.r.1 x.f.2.1)));refine ⟨_,_,?_,⟨k+1,zk,zl,H++[((af (((((aR (aY ns) fs (aE ns.length [i,k] 2) (2+1) d t).2).getD 2 0)-(((aR (aY ns) fs (aE ns.length [i] 1) (2+1) d t).2).getD 2 0))-(((aR (aY ns) fs (aE ns.length [k] 1) (2+1) d t).2).getD 2 0)).num,qS zf ((lim (ab (((((aR (aY ns) fs (aE ns.length [i,k] 2) (2+1) d t).2).getD 2 0)-(((aR (aY ns) fs (aE ns.length [i] 1) (2+1) d t).2).getD 2 0))-(((aR (aY ns) fs (aE ns.length [k] 1) (2+1) d t).2).getD 2 0)).num)).length) zg,qS zi ((lim (((((aR (aY ns) fs (aE ns.length [i,k] 2) (2+1) d t).2).getD 2 0)-(((aR (aY ns) fs (aE ns.length [i] 1) (2+1) d t).2).getD 2 0))-(((aR (aY ns) fs (aE ns.length [k] 1) (2+1) d t).2).getD 2 0)).den).length) zj):RT)],zI,rfl,rfl,x.to _ _,oM⟩,ka.to _ kR⟩
    omega
   have zn:=aJ zb;exact lB 46 zb (ak (aa x cG (ae x [] (.tuple #[sZ,iV ((aR (aY ns) fs (aE ns.length [] 0) (2+1) d t).1)]) (⟨_,none,0,[],[],rfl,nR _,SlO.nil,RVs.nil,⟨0,by have:=hen;rw[bb] at this;exact (x.f.q.r.1).len▸this,.inr ⟨rfl,J (aE ns.length [] 0),(if_neg (by rw[<-J (aE ns.length [] 0)];omega)).symm⟩⟩⟩))))
  have zm:=aJ za;exact lB 32 za (ak (aa x cG (ae x [] (.tuple #[sZ,iV en]) (⟨_,none,0,[],[],rfl,nR _,SlO.nil,RVs.nil,⟨en,((x.f.r.1).len▸hen),.inl ⟨by omega,rfl,rfl⟩⟩⟩))))
 have cx:=aJ hb6;exact lB 24 hb6 (ak (aa x ax (ae x [] (.tuple #[sZ,iV 1]) (⟨_,none,0,[],[],rfl,nR _,SlO.nil,RVs.nil,⟨1,.inl ⟨fun I=>by have:=hec.2 ⟨I.1.wf,I.2⟩;omega,rfl⟩,.inl ⟨by omega,rfl,rfl⟩⟩⟩))))
theorem BE (d)(p:PTm)(t:Tm)(Z:d<=7)(x c)(ns:List ByteArray)(C:NsD ns)(fs:List Rat)(j u)(Y:∀ i,LQ 1 (fs.getD i 0))(hm:fs.length<=1000)(z:∀ e,DckR d t ns (fs.length=ns.length) e->e≠0)(w h)(g:G w h)(I:TmH d h p t)(Q:SmT1 gG d t)(L:SlO 1 bA ⟨#[]⟩ h x ns)(J:Sq j fs h)(M:Tab h):CR 8 #[bW p,.slice x ns.length c,.slice j fs.length u] w h (fun v _=>∃ e:Int,v=.tuple #[sZ,iV e]/\DckR d t ns (fs.length=ns.length) e):=by
 have a:=(((((sS g).add (K:=fun F=>TmH d F p t) I).aS L).aS J).add (K:=fun F=>Tab F) M);refine go Tryz.func8 [(0,bW p),(1,qS x ns.length c),(2,qS j fs.length u)] rfl (aA (lA 3 51 (dd p) a (fun b1 w2 W a=>lA 4 34 ([qS x ns.length c]) a (fun S X V a=>lA 5 53 ([qS j fs.length u]) a (fun b7 w8 U a=>lL a ax (ag (aa a [.o (bW p) 2 0 9,.o (qS x ns.length c) 1 0 1,.o (qS j fs.length u) 0 0 1] (lR 21 53 1 ([qS j fs.length u]) a (fun H _ _ a=>?_)))))))));replace a:=a.aS (SlO.of_flat (sz:=1) (f:=vc) (d:=undef) (b:=H) (o:=0) (l:=([qS j fs.length u]:List Value)) (fun _=>rfl) a.f.1);refine lC 22 a (pJ d p t oM x c ns C (sB H) 1 j fs.length u oM _ _ a.g a.f.q.2.1 Q a.f.q.1 a.f.1) ?_;rintro _ _ _ a ⟨e,rfl,y⟩;have D:=z e y;refine lL a ac (aG (lL a ac ?_));cases B:((e:Int) != (0:Int))
 .
  have O:=aU B;refine lB 24 B (ah (cK (aA ?_)))
  exfalso;omega
 have O:=aJ B;exact lB 24 B (ak (aa a cG (ae a [] (.tuple #[sZ,iV e]) (⟨e,rfl,y⟩))))
section
variable {ns:List ByteArray}{fs:List Rat}{d:Nat}{t:Tm}
theorem C8 {n i a:Nat}(ha:a<n):(aE n [i] 1).getD a 0=if a=i then 1 else 0:=by
 show ((Af n ((0:Int):Rat)).set i ((Af n ((0:Int):Rat)).getD i 0+((1:Int):Rat))).getD a 0=_
 rw[oL,show ((0:Int):Rat)=0 from rfl,iU,iU,O4]
 by_cases e:a=i
 ·subst e;rw[if_pos ⟨rfl,ha⟩,if_pos rfl,i1];grind
 ·rw[if_neg (fun x=>e x.1.symm),if_neg e]
theorem G3 {n i k a:Nat}(hi:i<n)(hk:k<n)(ha:a<n):(aE n [i,k] 2).getD a 0=(aE n [i] 1).getD a 0+(aE n [k] 1).getD a 0:=by
 show ((aE n [i] 1).set k ((aE n [i] 1).getD k 0+((1:Int):Rat))).getD a 0=_
 rw[oL,gd,C8 (i:=k) ha]
 by_cases e:a=k
 ·subst e;rw[if_pos ⟨rfl,ha⟩,if_pos rfl,i1]
 ·rw[if_neg (fun x=>e x.1.symm),if_neg e];grind
theorem Dp (hf:fs.length=ns.length)(w:WfT1 (fun s=>s∈ns) d t)(h0:qy ns fs d t=0):((o2 ns.length).map fun a=>bE ns.length (dI (AK ns fs d t) ns.length ns.length a))=(o2 ns.length).map fun a=>bE ns.length (xD ns fs d t a):=by
 obtain ⟨e,k,q⟩:=r7 (ix:=aY ns) (fs:=fs) (fun s l=>by rw[hf];exact (kA l).1) w;have x:=q ((k []).symm.trans h0);rw[hf] at x
 refine List.map_congr_left fun a ha=>kF fun c f=>?_
 exact Ix x (U:=fun i k=>aE ns.length [i,k] 2) (V:=fun i=>aE ns.length [i] 1) (fun i k a h1 h j=>G3 h1 h j) (fun i a h1=>C8 h1) (pa.1 ha) f
end
theorem AZ (d)(p:PTm)(t:Tm)(K:d<=7)(D f)(ns:List ByteArray)(o:NsD ns)(fs:List Rat)(y I)(J:∀ i,LQ 1 (fs.getD i 0))(W:fs.length<=1000)(w h)(g:G w h)(M:TmH d h p t)(U:SmT1 gG d t)(Q:SlO 1 bA ⟨#[]⟩ h D ns)(O:Sq y fs h)(S:Tab h):CR 8 #[bW p,.slice D ns.length f,.slice y fs.length I] w h (fun v h1=>∃ (e:Int)(l:Z9)(H:Nat)(us:List Value)(Q_:List (List Rat)),v=.tuple #[.slice l us.length H,iV e]/\Sv l us h1/\QVs h1 us Q_/\SecPl d t ns fs e Q_):=by
 by_cases hb:DckR d t ns (fs.length=ns.length) 0
 ·have k:=hb.ok rfl
  have c:=k.2.1;have wf:=oz k;refine (BK d p t K D f ns o fs c y I J ⟨k.1,k.2.2⟩ _ rfl (qy ns fs d t) (wd c wf) (fun i j=>pz K J wf k.1.2 (vx _ i j) 2) w h g M U Q O S).mono fun _ _ ⟨v,C,F,u,l,Y,H,B,x⟩=>?_
  by_cases e0:qy ns fs d t=0
  ·obtain ⟨bf,X,V⟩:=x.get e0
   obtain rfl:=x.s e0;refine ⟨v,C,F,u,_,l,H,eD bf ns.length ns.length,_,by rw[jq];exact B,X,⟨by rw[jq,PH,PP],fun i hi=>?_⟩,0,hb,.inr ⟨rfl,rfl,(if_pos e0).symm⟩⟩;rw[PH,PP] at hi
   rw[iw hi (nR _),<-Dp c wf e0,show ((o2 ns.length).map fun a=>bE ns.length (dI (AK ns fs d t) ns.length ns.length a)).getD i []=bE ns.length (dI (AK ns fs d t) ns.length ns.length i) by simp[hi]];exact ⟨_,_,by rw[eM],by rw[eM];exact nR _,V i hi⟩
  ·obtain rfl:=x.z e0
   exact ⟨v,C,F,u,_,l,H,[],[],B,SlO.nil,⟨rfl,fun i hi=>by simp at hi⟩,0,hb,.inr ⟨rfl,rfl,(if_neg e0).symm⟩⟩
 ·refine (BE d p t K D f ns o fs y I J W (fun L x e=>hb (e▸x)) w h g M U Q O S).mono fun _ _ ⟨v,C,F,u,L,B,x⟩=>?_
  exact ⟨v,C,F,u,L,none,0,[],[],B,SlO.nil,⟨rfl,fun i hi=>by simp at hi⟩,L,x,.inl ⟨fun e=>hb (e▸x),rfl,rfl⟩⟩
theorem wE (A e)(a:List Rat)(D d)(c:List RT)(f:a.length<=1000000)(hf:∀ i,LQ (10^8) (a.getD i 0))(w h)(g:G w h)(o:Sq A a h)(l:Sr D c h)(j:RTs h c a)(p:Tab h):CV 37 #[.slice A a.length e,.slice D c.length d] w h (.bool true):=by
 have x:=Ah A e a a D d c f f (fun i _=>hf i) (fun i _=>hf i) w h g o l j;rw[decide_eq_true (rfl:a=a)] at x
 exact x
theorem wG (A u us D p vs)(d:List (List Rat))(hl:d.length<=1000000)(J:∀ i,(d.getD i []).length<=1000000)(hf:∀ i j,LQ (10^8) ((d.getD i []).getD j 0))(w h)(g:G w h)(hA:Sv A us h)(Z:QVs h us d)(hD:Sv D vs h)(X:RVs h vs d)(tb:Tab h):CV 13 #[.slice A us.length u,.slice D vs.length p] w h (.bool true):=by
 have a:=((((((sS g).aS hA).aQ Z).aS hD).aV X).add (K:=fun F=>Tab F) tb);have hlu:=(a.f.r.2.1).len;have hlv:=(a.f.2.1).len;refine go Tryz.func13 [(0,qS A us.length u),(1,qS D vs.length p)] rfl (aa a ac (ag (aa a [.c,.v (nV us.length),.c,.v (nV vs.length)] ?_)));have H:((us.length:Int) != (vs.length:Int))=false:=Ij oM;have V:=aU H;refine lB 10 H (ah (cK (cQ (aa a ac (aZ ?_)))));refine bH _ (CG.loop (fun Q Γ w_=>∃ (k:Nat)(F:Hp),Q=d.length-k/\Γ=[(0,qS A us.length u),(1,qS D vs.length p),(5,nV k)]/\SS w h w_ F [] [] [fun F=>Tab F,Ru vs d,Sv D vs,Qu us d,Sv A us]/\k<=d.length) _ ⟨0,h,rfl,rfl,a.to _ _,NY _⟩ ?_);rintro _ _ w2 ⟨k,h3,hm4,rfl,a,hk⟩;refine cQ (aa a [.c,.c,.v (nV us.length)] ?_);cases l:(decide ((k:Int)<(us.length:Int)))
 .
  have I:=oF l;refine lB 14 l (ah (CG.exit ?_))
  show CG _ _ _ _ _ _ _ _
  exact aa a ac (ae a [] qT rfl)
 have I:=oT l;refine lB 14 l (ak (cK (cQ (kZ (cQ (cR 10 [] mixed a ao ?_))))));refine eV 0 17 (qS A us.length u) (eV 1 18 (nV k) (eX 2 19 A us.length u 1 (k:Nat) k ((a.f.q.1).ok oM) ?_));obtain ⟨U,L,M,W,C⟩:=(a.f.r.2.1).at_ k oM;replace a:=a.aS C;refine qL 3 20 (us.getD k undef) a ((a.f.q.2.1).el k oM) M (eV 4 21 (qS D vs.length p) (eV 5 22 (nV k) (eX 6 23 D vs.length p 1 (k:Nat) k ((a.f.r.2.1).ok oM) ?_)));obtain ⟨B,y,x,z,S,o,e⟩:=(a.f.r.1).at_ k oM;have O:=e.len;replace a:=((a.aS o).aT e);refine qL 7 24 (vs.getD k undef) a ((a.f.q.2.1).el k oM) z (au 8 25 a (fun _ _ a=>wE U L (d.getD k []) B y x (J k) (hf k) _ _ a.g a.f.r.1 a.f.2.1 a.f.1 a.f.r.2.1) (fun w6 h7 a=>eV 9 26 qF (bM a (fun w8 Y a=>tN (dE (cK (kQ (lL a ac (bw 16 ((k:Nat)+1) (k+1) ?_)))))))));refine lL a ac (lD ?_);intro a_ ka;replace a:=a.tl.tl.tl;refine ⟨_,_,?_,⟨k+1,Y,rfl,rfl,a.to _ _,oM⟩,ka.to _ kR⟩
 omega
theorem L6 (b:Bool)(c e a d i f w h)(g:G w h):CV 40 #[.agg #[.bool b,.slice c e a,.slice d i f]] w h (bO ⟨1,0,b,c,e,a,d,i,f,⟨#[]⟩,none,0,0⟩):=by
 have j:=sS g;exact go Tryz.func40 [(0,.agg #[.bool b,qS c e a,qS d i f])] rfl (aA (lA 1 28 ([.bool b,qS c e a,qS d i f]) j (fun x w2 y j=>lA 2 31 (bJ ⟨0,0,false,none,0,0,none,0,0,⟨#[]⟩,none,0,0⟩) j (fun l z u j=>aG (lL j [.o (.agg #[.bool b,qS c e a,qS d i f]) 1 0 3,.v (bO ⟨1,0,b,c,e,a,d,i,f,⟨#[]⟩,none,0,0⟩)] (lP 0 0 (bJ ⟨1,0,b,c,e,a,d,i,f,⟨#[]⟩,none,0,0⟩) j (fun p j=>ae j [(0,0,7)] (bO ⟨1,0,b,c,e,a,d,i,f,⟨#[]⟩,none,0,0⟩) rfl)))))))
theorem Jj (op)(a rb:RTm)(w h)(g:G w h):CR 43 #[iV op,bO a,bO rb] w h (fun v h1=>∃ b,v=bO ⟨op,0,false,none,0,0,none,0,0,⟨#[]⟩,sB b,2,2⟩/\SlO 7 bJ bX h1 (sB b) [a,rb]):=by
 have e:=sS g;refine go Tryz.func43 [(0,iV op),(1,bO a),(2,bO rb)] rfl (aA (lA 4 31 (bJ a) e (fun B w2 x e=>lA 5 31 (bJ rb) e (fun j y u e=>lA 6 31 (bJ ⟨0,0,false,none,0,0,none,0,0,⟨#[]⟩,none,0,0⟩) e (fun z C p e=>aG (lL e [.c,.o (bO a) 2 0 7,.o (bO rb) 1 0 7] (lR 10 31 2 ([iV a.op,iV a.n,.bool a.neg,qS a.zA a.zn a.zc,qS a.dA a.dn a.dc,.string a.s,qS a.A a.m a.c,iV rb.op,iV rb.n,.bool rb.neg,qS rb.zA rb.zn rb.zc,qS rb.dA rb.dn rb.dc,.string rb.s,qS rb.A rb.m rb.c]) e (fun i _ _ e=>?_))))))));replace e:=e.aS (SlO.of_flat (sz:=7) (f:=bJ) (d:=bX) (b:=i) (o:=0) (l:=([(⟨a.op,a.n,a.neg,a.zA,a.zn,a.zc,a.dA,a.dn,a.dc,a.s,a.A,a.m,a.c⟩:RTm),(⟨rb.op,rb.n,rb.neg,rb.zA,rb.zn,rb.zc,rb.dA,rb.dn,rb.dc,rb.s,rb.A,rb.m,rb.c⟩:RTm)]:List RTm)) (fun _=>rfl) e.f.1);exact lL e [.v (bO ⟨op,0,false,none,0,0,none,0,0,⟨#[]⟩,sB i,2,2⟩)] (lP 0 0 (bJ ⟨op,0,false,none,0,0,none,0,0,⟨#[]⟩,sB i,2,2⟩) e (fun _ e=>ae e [(0,0,7)] (bO ⟨op,0,false,none,0,0,none,0,0,⟨#[]⟩,sB i,2,2⟩) (⟨_,rfl,e.f.1⟩)))
theorem CP  (w h)(g:G w h):CR 19 #[] w h (fun v h1=>∃ b,v=.slice (sB b) 3 3/\SlO 1 bA ⟨#[]⟩ h1 (sB b) dS):=by
 have a:=sS g;refine go Tryz.func19 [] rfl (aa a ac (aG (lR 1 9 3 ([.string (⟨#[120]⟩),.string (⟨#[121]⟩),.string (⟨#[122]⟩)]) a (fun c w2 e a=>?_))));replace a:=a.aS (SlO.of_flat (sz:=1) (f:=bA) (d:=⟨#[]⟩) (b:=c) (o:=0) (l:=dS) (fun _=>rfl) a.f.1);exact lL a ac (ae a [] (qS (sB c) 3 3) (⟨_,rfl,a.f.1⟩))
theorem J1 (op)(a:RTm)(w h)(g:G w h):CR 44 #[iV op,bO a] w h (fun v h1=>∃ b,v=bO ⟨op,0,false,none,0,0,none,0,0,⟨#[]⟩,sB b,1,1⟩/\SlO 7 bJ bX h1 (sB b) [a]):=by
 have e:=sS g;refine go Tryz.func44 [(0,iV op),(1,bO a)] rfl (aA (lA 3 31 (bJ a) e (fun x w2 y e=>lA 4 31 (bJ ⟨0,0,false,none,0,0,none,0,0,⟨#[]⟩,none,0,0⟩) e (fun j z u e=>aG (lL e [.c,.o (bO a) 1 0 7] (lR 7 31 1 ([iV a.op,iV a.n,.bool a.neg,qS a.zA a.zn a.zc,qS a.dA a.dn a.dc,.string a.s,qS a.A a.m a.c]) e (fun i B p e=>?_)))))));replace e:=e.aS (SlO.of_flat (sz:=7) (f:=bJ) (d:=bX) (b:=i) (o:=0) (l:=([(⟨a.op,a.n,a.neg,a.zA,a.zn,a.zc,a.dA,a.dn,a.dc,a.s,a.A,a.m,a.c⟩:RTm)]:List RTm)) (fun _=>rfl) e.f.1);exact lL e [.v (bO ⟨op,0,false,none,0,0,none,0,0,⟨#[]⟩,sB i,1,1⟩)] (lP 0 0 (bJ ⟨op,0,false,none,0,0,none,0,0,⟨#[]⟩,sB i,1,1⟩) e (fun _ e=>ae e [(0,0,7)] (bO ⟨op,0,false,none,0,0,none,0,0,⟨#[]⟩,sB i,1,1⟩) (⟨_,rfl,e.f.1⟩)))
theorem JP (a:RTm)(i w h)(g:G w h):CR 17 #[bO a,iV i] w h (fun v h1=>∃ b,v=bO ⟨8,i,false,none,0,0,none,0,0,⟨#[]⟩,sB b,1,1⟩/\SlO 7 bJ bX h1 (sB b) [a]):=by
 have e:=sS g;refine go Tryz.func17 [(0,bO a),(1,iV i)] rfl (aA (lA 2 31 (bJ a) e (fun y w2 z e=>lA 4 31 (bJ ⟨0,0,false,none,0,0,none,0,0,⟨#[]⟩,none,0,0⟩) e (fun p B x e=>aG (lL e [.c,.o (bO a) 1 0 7] (lR 7 31 1 ([iV a.op,iV a.n,.bool a.neg,qS a.zA a.zn a.zc,qS a.dA a.dn a.dc,.string a.s,qS a.A a.m a.c]) e (fun j C u e=>?_)))))));replace e:=e.aS (SlO.of_flat (sz:=7) (f:=bJ) (d:=bX) (b:=j) (o:=0) (l:=([(⟨a.op,a.n,a.neg,a.zA,a.zn,a.zc,a.dA,a.dn,a.dc,a.s,a.A,a.m,a.c⟩:RTm)]:List RTm)) (fun _=>rfl) e.f.1);exact lL e [.v (bO ⟨8,i,false,none,0,0,none,0,0,⟨#[]⟩,sB j,1,1⟩)] (lP 0 0 (bJ ⟨8,i,false,none,0,0,none,0,0,⟨#[]⟩,sB j,1,1⟩) e (fun _ e=>ae e [(0,0,7)] (bO ⟨8,i,false,none,0,0,none,0,0,⟨#[]⟩,sB j,1,1⟩) (⟨_,rfl,e.f.1⟩)))
section
variable {d:Nat}
theorem Js (b:Bool)(l c a f j i){q:Rat}(w h)(g:G w h)(hz:RZ h (b,.slice l c a,.slice f j i) q):CR 40 #[.agg #[.bool b,.slice l c a,.slice f j i]] w h (fun v h1=>∃ r,v=bO r/\RmH (d+1) h1 r (.mk 1 0 q ⟨#[]⟩ [])) :=
 (L6 b l c a f j i w h g).mono fun e w' ⟨v,p,x,u,o⟩=>⟨v,p,x,u,_,o,Iw (hz.gw u.gr.gw)⟩
theorem o4 (op)(a rb:RTm)(t u w h)(g:G w h)(x:RmH d h a t)(y:RmH d h rb u):CR 43 #[iV op,bO a,bO rb] w h (fun v h1=>∃ r,v=bO r/\RmH (d+1) h1 r (.mk op 0 0 ⟨#[]⟩ [t,u])) :=
 (Jj op a rb w h g).mono fun e w' ⟨v,i,j,up,b,c,f⟩=>⟨v,i,j,up,_,c,Hu (x.gw up.gr.gw) (y.gw up.gr.gw) f⟩
theorem vq (op)(a:RTm)(t w h)(g:G w h)(x:RmH d h a t):CR 44 #[iV op,bO a] w h (fun v h1=>∃ r,v=bO r/\RmH (d+1) h1 r (.mk op 0 0 ⟨#[]⟩ [t])) :=
 (J1 op a w h g).mono fun e w' ⟨v,c,f,up,b,i,j⟩=>⟨v,c,f,up,_,i,Ce (x.gw up.gr.gw) j⟩
theorem uU (c:RTm)(t a w h)(g:G w h)(x:RmH d h c t):CR 17 #[bO c,iV a] w h (fun v h1=>∃ r,v=bO r/\RmH (d+1) h1 r (.mk 8 a 0 ⟨#[]⟩ [t])) :=
 (JP c a w h g).mono fun e w' ⟨v,f,i,up,b,j,l⟩=>⟨v,f,i,up,_,j,Ce (x.gw up.gr.gw) l⟩
end
theorem B4 (j A x)(y:List Int)(hl:y.length<=(2^63-1))(hz:p7 y)(l)(hdp:l<=1000)(M:∀ z:Int,z+1=(l:Nat)->0<=z->∀ at_:Nat,at_<=y.length->∀ (w:World) (h:Hp),G w h->Own w j 68 [.slice A y.length x,nV at_]->h[j]?=some bp->Si A y h->Calls Tryz.prog 18 #[pB j,iV z,.bool false] w (fl j w h (fun v w' h'=>∃ (r:RTm)(t:Tm)(at2:Nat),v=bO r/\at2<=y.length/\Own w' j 68 [.slice A y.length x,nV at2]/\RmH l h' r t/\GrT l t)))(at_)(ha:at_<=y.length)(w h)(g:G w h)(ho:Own w j 68 [.slice A y.length x,nV at_])(hj:h[j]?=some bp)(hA:Si A y h):Calls Tryz.prog 18 #[pB j,nV l,.bool false] w (fl j w h (fun v w' h'=>∃ (r:RTm)(t:Tm)(at2:Nat),v=bO r/\at2<=y.length/\Own w' j 68 [.slice A y.length x,nV at2]/\RmH (l+1) h' r t/\GrT (l+1) t)):=by
 have e:UpM [j] w h w h:=UpM.refl g;obtain ⟨wz,rs,a⟩:=SS.at_ g ho hj;replace a:=a.aS hA;refine go Tryz.func18 [(0,pB j),(1,nV l),(2,qF)] rfl (aA (Lg 6 31 (bJ ⟨0,0,false,none,0,0,none,0,0,⟨#[]⟩,none,0,0⟩) a (fun C w2 h3 u4 i a=>?_)));replace i:=ep e.gr.size i;replace e:=e.trans (u4.m _);refine aG (lL a ac (gH 11 (Bo A x y hl hz j at_ oM _ _ a.g (a.own 1) (a.jk 1) a.f.1) ?_));rintro _ w6 h7 u8 ⟨F,u,rfl,s4,mz,r2⟩;replace a:=(a.stepM 1 u8 r2).to [⟨C,31,bJ ⟨0,0,false,none,0,0,none,0,0,⟨#[]⟩,none,0,0⟩⟩,⟨j,68,[qS A y.length x,nV u]⟩] [];replace e:=e.trans u8;have sx:=mz.1;have sy:=mz.2;refine lz 12 (fh (F) 19 oM oM _ _ a.g) ?_;rintro _ _ zr u12 rfl;replace e:=e.trans (u12.m _);replace a:=a.step u12;have lp9:=cY (F) 19 oM;refine lL a ac (ag (aa a ax (lG 15 ?_)));refine lG 16 ?_;refine lL a [.v qF] (ah (cK (cQ (kZ (CG.join (fun Γ w_=>∃ (zq:Bool)(o:Hp),Γ=[(0,pB j),(1,nV l),(2,qF),(6,pB C),(7,nV (az (F) 19)),(20,.bool zq)]/\SS wz rs w_ o [⟨C,31,bJ ⟨0,0,false,none,0,0,none,0,0,⟨#[]⟩,none,0,0⟩⟩,⟨j,68,[qS A y.length x,nV u]⟩] [] [Si A y]/\(zq=true->¬(1<=l/\2<=(az (F) 19)/\(az (F) 19)<17))/\(zq=false->(1<=l/\2<=(az (F) 19)/\(az (F) 19)<17))/\UpM [j] w h w_ o) ?_ ?_)))))
 .
  refine kQ (lL a ac ?_);cases zb:(decide ((l:Int)<(1:Int)))
  .
   have zu:=oF zb;refine lB 22 zb (lL a ax ?_);cases zc:(decide (((az (F) 19:Nat):Int)<(2:Int)))
   .
    have zv:=oF zc;refine lB 25 zc (lL a [.v qF,.c,.c] ?_);cases zd:(decide ((17:Int)<=((az (F) 19:Nat):Int)))
    .
     have zw:=oF zd;refine lB 29 zd (lL a [.v qF,.c] (lD ?_));intro a_ ka;exact ⟨_,⟨false,zr,rfl,a.to _ _,(fun o=>absurd o kD),(fun _=>by omega),e⟩,ka.to _ kR⟩
    have zw:=oT zd;refine lB 29 zd (lL a [.v qT,.c] (lD ?_));intro a_ ka;exact ⟨_,⟨true,zr,rfl,a.to _ _,(fun _=>by omega),(fun o=>absurd o kD),e⟩,ka.to _ kR⟩
   have zv:=oT zc;refine lB 25 zc (lL a [.v qT,.c] (lG 28 ?_));refine lG 29 (lL a [.v qT,.c] (lD ?_));intro a_ ka;exact ⟨_,⟨true,zr,rfl,a.to _ _,(fun _=>by omega),(fun o=>absurd o kD),e⟩,ka.to _ kR⟩
  have zu:=oT zb;refine lB 22 zb (lL a ac (lG 24 ?_));refine lG 25 (lL a [.v qT,.c] (lG 28 ?_));refine lG 29 (lL a [.v qT,.c] (lD ?_));intro a_ ka;exact ⟨_,⟨true,zr,rfl,a.to _ _,(fun _=>by omega),(fun o=>absurd o kD),e⟩,ka.to _ kR⟩
 rintro _ _ ⟨zq,_,rfl,a,s2,r1,e⟩;cases ze:(zq)
 .
  try rw[ze] at a
  try rw[ze]
  refine dE (aA ?_);have ss:=r1 aM;refine lL a ac ?_;cases zf:(decide (((az (F) 19:Nat):Int)<(4:Int)))
  .
   have zx:=oF zf;refine lB 49 zf (lL a ac (ah (aa a ac ?_)));cases zg:(decide (((az (F) 19:Nat):Int)<(5:Int)))
   .
    have zA:=oF zg;refine lB 63 zg (lL a ac (ah (aa a ac ?_)));cases zi:(decide (((az (F) 19:Nat):Int)<(7:Int)))
    .
     have zB:=oF zi;refine lB 77 zi (lL a ac (ah (aa a ac ?_)));cases zj:(decide (((az (F) 19:Nat):Int)<(8:Int)))
     .
      have zD:=oF zj;refine lB 91 zj (lL a ac (ah (aa a ac ?_)));cases zk:(decide (((az (F) 19:Nat):Int)<(9:Int)))
      .
       have zE:=oF zk;refine lB 100 zk (lL a ac (ah (aa a ac ?_)));cases zl:(decide (((az (F) 19:Nat):Int)<(11:Int)))
       .
        have zG:=oF zl;refine lB 117 zl (lL a ac (ah (aa a ac ?_)));cases zm:(decide (((az (F) 19:Nat):Int)<(12:Int)))
        .
         have zH:=oF zm;refine lB 131 zm (lL a ac (ah (aa a ac ?_)));cases zn:(decide (((az (F) 19:Nat):Int)<(13:Int)))
         .
          have zI:=oF zn;refine lB 140 zn (lL a ac (ah (aa a ac ?_)));cases zo:(decide (((az (F) 19:Nat):Int)<(15:Int)))
          .
           have zJ:=oF zo;refine lB 149 zo (lL a ac (ah (aa a ac ?_)));cases zp:(decide (((az (F) 19:Nat):Int)<(16:Int)))
           .
            have zK:=oF zp;refine lB 158 zp (lL a ac (ah (cK (aa a ax (lI 172 ((l:Nat)-1) ?_)))));refine lL a ac (gH 174 (M ((l:Nat)-1) oM oM u oM _ _ a.g (a.own 1) (a.jk 1) a.f.1) ?_);rintro _ _ _ u44 ⟨m1,c5,b2,rfl,sc,n2,q0,pk⟩;replace a:=(a.stepM 1 u44 n2).to [⟨C,31,bJ ⟨0,0,false,none,0,0,none,0,0,⟨#[]⟩,none,0,0⟩⟩,⟨j,68,[qS A y.length x,nV b2]⟩] [];replace e:=e.trans u44;replace a:=(a.add (K:=fun o=>RmH l o m1 c5) q0);refine lL a ax (lI 177 ((l:Nat)-1) ?_);refine lL a ac (gH 179 (M ((l:Nat)-1) oM oM b2 oM _ _ a.g (a.own 1) (a.jk 1) a.f.2.1) ?_);rintro _ _ _ u48 ⟨ly,cx,b3,rfl,n1,ql,pb,n6⟩;replace a:=(a.stepM 1 u48 ql).to [⟨C,31,bJ ⟨0,0,false,none,0,0,none,0,0,⟨#[]⟩,none,0,0⟩⟩,⟨j,68,[qS A y.length x,nV b3]⟩] [];replace e:=e.trans u48;replace a:=(a.add (K:=fun o=>RmH l o ly cx) pb);refine lz 180 (o4 13 m1 ly c5 cx _ _ a.g a.f.2.1 a.f.1) ?_;rintro _ _ _ u52 ⟨r49,rfl,q8⟩;replace e:=e.trans (u52.m _);replace a:=a.step u52;replace a:=(a.add (K:=fun o=>RmH (l+1) o r49 (.mk 13 0 0 ⟨#[]⟩ [c5,cx])) q8);refine oJ 0 0 (bJ r49) a (fun _ B a=>?_);replace e:=e.put2 B i g a.g;refine lN (bH [(6,pB C)] ?_);exact kX (a.retM e [(0,0,7)] (bO r49) ⟨_,_,b3,rfl,n1,a.own 1,a.f.1,pk.two n6 rfl⟩)
           have zK:=oT zp;refine lB 158 zp (lL a ac (ak (aa a ax (lI 161 ((l:Nat)-1) ?_))));refine lL a ac (gH 163 (M ((l:Nat)-1) oM oM u oM _ _ a.g (a.own 1) (a.jk 1) a.f.1) ?_);rintro _ _ _ u57 ⟨md,cj,bm,rfl,s1,q5,rd,p4⟩;replace a:=(a.stepM 1 u57 q5).to [⟨C,31,bJ ⟨0,0,false,none,0,0,none,0,0,⟨#[]⟩,none,0,0⟩⟩,⟨j,68,[qS A y.length x,nV bm]⟩] [];replace e:=e.trans u57;replace a:=(a.add (K:=fun o=>RmH l o md cj) rd);refine lL a ax (lI 166 ((l:Nat)-1) ?_);refine lL a ac (gH 168 (M ((l:Nat)-1) oM oM bm oM _ _ a.g (a.own 1) (a.jk 1) a.f.2.1) ?_);rintro _ _ _ u61 ⟨my,df,br,rfl,q3,pw,pv,rk⟩;replace a:=(a.stepM 1 u61 pw).to [⟨C,31,bJ ⟨0,0,false,none,0,0,none,0,0,⟨#[]⟩,none,0,0⟩⟩,⟨j,68,[qS A y.length x,nV br]⟩] [];replace e:=e.trans u61;replace a:=(a.add (K:=fun o=>RmH l o my df) pv);refine lz 169 (o4 12 md my cj df _ _ a.g a.f.2.1 a.f.1) ?_;rintro _ _ _ u65 ⟨r62,rfl,p1⟩;replace e:=e.trans (u65.m _);replace a:=a.step u65;replace a:=(a.add (K:=fun o=>RmH (l+1) o r62 (.mk 12 0 0 ⟨#[]⟩ [cj,df])) p1);refine oJ 0 0 (bJ r62) a (fun _ B a=>?_);replace e:=e.put2 B i g a.g;refine lN (bH [(0,pB j),(1,nV l),(2,qF),(6,pB C)] ?_);exact kX (a.retM e [(0,0,7)] (bO r62) ⟨_,_,br,rfl,q3,a.own 1,a.f.1,p4.two rk rfl⟩)
          have zJ:=oT zo;refine lB 149 zo (lL a ac (ak (aa a ax (lI 152 ((l:Nat)-1) ?_))));refine lL a ac (gH 154 (M ((l:Nat)-1) oM oM u oM _ _ a.g (a.own 1) (a.jk 1) a.f.1) ?_);rintro _ _ _ u70 ⟨mv,c4,b0,rfl,q4,p3,p2,p0⟩;replace a:=(a.stepM 1 u70 p3).to [⟨C,31,bJ ⟨0,0,false,none,0,0,none,0,0,⟨#[]⟩,none,0,0⟩⟩,⟨j,68,[qS A y.length x,nV b0]⟩] [];replace e:=e.trans u70;replace a:=(a.add (K:=fun o=>RmH l o mv c4) p2);refine lz 155 (vq 11 mv c4 _ _ a.g a.f.1) ?_;rintro _ _ _ u74 ⟨r71,rfl,nn⟩;replace e:=e.trans (u74.m _);replace a:=a.step u74;replace a:=(a.add (K:=fun o=>RmH (l+1) o r71 (.mk 11 0 0 ⟨#[]⟩ [c4])) nn);refine oJ 0 0 (bJ r71) a (fun _ B a=>?_);replace e:=e.put2 B i g a.g;exact lN (kX (a.retM e [(0,0,7)] (bO r71) ⟨_,_,b0,rfl,q4,a.own 1,a.f.1,p0.one rfl (fun _=>rfl) kD kD⟩))
         have zI:=oT zn;refine lB 140 zn (lL a ac (ak (aa a ax (lI 143 ((l:Nat)-1) ?_))));refine lL a ac (gH 145 (M ((l:Nat)-1) oM oM u oM _ _ a.g (a.own 1) (a.jk 1) a.f.1) ?_);rintro _ _ _ u79 ⟨kn,cw,bz,rfl,pc,nm,qq,rh⟩;replace a:=(a.stepM 1 u79 nm).to [⟨C,31,bJ ⟨0,0,false,none,0,0,none,0,0,⟨#[]⟩,none,0,0⟩⟩,⟨j,68,[qS A y.length x,nV bz]⟩] [];replace e:=e.trans u79;replace a:=(a.add (K:=fun o=>RmH l o kn cw) qq);refine lz 146 (vq 10 kn cw _ _ a.g a.f.1) ?_;rintro _ _ _ u83 ⟨r80,rfl,q6⟩;replace e:=e.trans (u83.m _);replace a:=a.step u83;replace a:=(a.add (K:=fun o=>RmH (l+1) o r80 (.mk 10 0 0 ⟨#[]⟩ [cw])) q6);refine oJ 0 0 (bJ r80) a (fun _ B a=>?_);replace e:=e.put2 B i g a.g;exact lN (kX (a.retM e [(0,0,7)] (bO r80) ⟨_,_,bz,rfl,pc,a.own 1,a.f.1,rh.one rfl (fun _=>rfl) kD kD⟩))
        have zH:=oT zm;refine lB 131 zm (lL a ac (ak (aa a ax (lI 134 ((l:Nat)-1) ?_))));refine lL a ac (gH 136 (M ((l:Nat)-1) oM oM u oM _ _ a.g (a.own 1) (a.jk 1) a.f.1) ?_);rintro _ _ _ u88 ⟨nd,cd,b4,rfl,rc,p5,n7,q2⟩;replace a:=(a.stepM 1 u88 p5).to [⟨C,31,bJ ⟨0,0,false,none,0,0,none,0,0,⟨#[]⟩,none,0,0⟩⟩,⟨j,68,[qS A y.length x,nV b4]⟩] [];replace e:=e.trans u88;replace a:=(a.add (K:=fun o=>RmH l o nd cd) n7);refine lz 137 (vq 9 nd cd _ _ a.g a.f.1) ?_;rintro _ _ _ u92 ⟨r89,rfl,ny⟩;replace e:=e.trans (u92.m _);replace a:=a.step u92;replace a:=(a.add (K:=fun o=>RmH (l+1) o r89 (.mk 9 0 0 ⟨#[]⟩ [cd])) ny);refine oJ 0 0 (bJ r89) a (fun _ B a=>?_);replace e:=e.put2 B i g a.g;exact lN (kX (a.retM e [(0,0,7)] (bO r89) ⟨_,_,b4,rfl,rc,a.own 1,a.f.1,q2.one rfl (fun _=>rfl) kD kD⟩))
       have zG:=oT zl;refine lB 117 zl (lL a ac (ak (aa a ax (lI 120 ((l:Nat)-1) ?_))));refine lL a ac (gH 122 (M ((l:Nat)-1) oM oM u oM _ _ a.g (a.own 1) (a.jk 1) a.f.1) ?_);rintro _ _ _ u97 ⟨kq,cf,bq,rfl,s0,rf,qs,rl⟩;replace a:=(a.stepM 1 u97 rf).to [⟨C,31,bJ ⟨0,0,false,none,0,0,none,0,0,⟨#[]⟩,none,0,0⟩⟩,⟨j,68,[qS A y.length x,nV bq]⟩] [];replace e:=e.trans u97;replace a:=(a.add (K:=fun o=>RmH l o kq cf) qs);refine lL a ax (lI 125 ((l:Nat)-1) ?_);refine lL a ac (gH 127 (M ((l:Nat)-1) oM oM bq oM _ _ a.g (a.own 1) (a.jk 1) a.f.2.1) ?_);rintro _ _ _ lb ⟨nj,cy,b5,rfl,q1,nx,pl,p6⟩;replace a:=(a.stepM 1 lb nx).to [⟨C,31,bJ ⟨0,0,false,none,0,0,none,0,0,⟨#[]⟩,none,0,0⟩⟩,⟨j,68,[qS A y.length x,nV b5]⟩] [];replace e:=e.trans lb;replace a:=(a.add (K:=fun o=>RmH l o nj cy) pl);refine lz 128 (o4 6 kq nj cf cy _ _ a.g a.f.2.1 a.f.1) ?_;rintro _ _ _ k3 ⟨ch,rfl,hh⟩;replace e:=e.trans (k3.m _);replace a:=a.step k3;replace a:=(a.add (K:=fun o=>RmH (l+1) o ch (.mk 6 0 0 ⟨#[]⟩ [cf,cy])) hh);refine oJ 0 0 (bJ ch) a (fun _ B a=>?_);replace e:=e.put2 B i g a.g;exact lN (kX (a.retM e [(0,0,7)] (bO ch) ⟨_,_,b5,rfl,q1,a.own 1,a.f.1,rl.two p6 rfl⟩))
      have zE:=oT zk;refine lB 100 zk (lL a ac (ak (aa a ac (gH 102 (Bo A x y hl hz j u oM _ _ a.g (a.own 1) (a.jk 1) a.f.1) ?_))));rintro _ _ _ m0 ⟨O,J,rfl,r4,b6,fm⟩;replace a:=(a.stepM 1 m0 fm).to [⟨C,31,bJ ⟨0,0,false,none,0,0,none,0,0,⟨#[]⟩,none,0,0⟩⟩,⟨j,68,[qS A y.length x,nV J]⟩] [];replace e:=e.trans m0;have r3:=b6.1;have r0:=b6.2;refine lz 103 (fh (O) 6 oM oM _ _ a.g) ?_;rintro _ _ _ mx rfl;replace e:=e.trans (mx.m _);replace a:=a.step mx;have sr:=cY (O) 6 oM;refine lI 104 ((az (O) 6:Nat)-2) (lL a ac (ag (aa a ac (ah (cK (aa a ax (lI 110 ((l:Nat)-1) ?_)))))));refine lL a ac (gH 112 (M ((l:Nat)-1) oM oM J oM _ _ a.g (a.own 1) (a.jk 1) a.f.1) ?_);rintro _ _ _ l4 ⟨c9,bl,Q,rfl,hq,h9,hp,d2⟩;replace a:=(a.stepM 1 l4 h9).to [⟨C,31,bJ ⟨0,0,false,none,0,0,none,0,0,⟨#[]⟩,none,0,0⟩⟩,⟨j,68,[qS A y.length x,nV Q]⟩] [];replace e:=e.trans l4;replace a:=(a.add (K:=fun o=>RmH l o c9 bl) hp);refine lL a ac (lz 114 (uU c9 bl ((az (O) 6:Nat)-2) _ _ a.g a.f.1) ?_);rintro _ _ _ kr ⟨dm,rfl,dw⟩;replace e:=e.trans (kr.m _);replace a:=a.step kr;replace a:=(a.add (K:=fun o=>RmH (l+1) o dm (.mk 8 ((az (O) 6:Nat)-2) 0 ⟨#[]⟩ [bl])) dw);refine oJ 0 0 (bJ dm) a (fun _ B a=>?_);replace e:=e.put2 B i g a.g;exact lN (kX (a.retM e [(0,0,7)] (bO dm) ⟨_,_,Q,rfl,hq,a.own 1,a.f.1,d2.one rfl (fun o=>absurd rfl o) oM oM⟩))
     have zD:=oT zj;refine lB 91 zj (lL a ac (ak (aa a ax (lI 94 ((l:Nat)-1) ?_))));refine lL a ac (gH 96 (M ((l:Nat)-1) oM oM u oM _ _ a.g (a.own 1) (a.jk 1) a.f.1) ?_);rintro _ _ _ l1 ⟨cp,bk,L,rfl,hm,f8,d6,fp⟩;replace a:=(a.stepM 1 l1 f8).to [⟨C,31,bJ ⟨0,0,false,none,0,0,none,0,0,⟨#[]⟩,none,0,0⟩⟩,⟨j,68,[qS A y.length x,nV L]⟩] [];replace e:=e.trans l1;replace a:=(a.add (K:=fun o=>RmH l o cp bk) d6);refine lz 97 (vq 7 cp bk _ _ a.g a.f.1) ?_;rintro _ _ _ ms ⟨c7,rfl,f7⟩;replace e:=e.trans (ms.m _);replace a:=a.step ms;replace a:=(a.add (K:=fun o=>RmH (l+1) o c7 (.mk 7 0 0 ⟨#[]⟩ [bk])) f7);refine oJ 0 0 (bJ c7) a (fun _ B a=>?_);replace e:=e.put2 B i g a.g;exact lN (kX (a.retM e [(0,0,7)] (bO c7) ⟨_,_,L,rfl,hm,a.own 1,a.f.1,fp.one rfl (fun _=>rfl) kD kD⟩))
    have zB:=oT zi;refine lB 77 zi (lL a ac (ak (aa a ax (lI 80 ((l:Nat)-1) ?_))));refine lL a ac (gH 82 (M ((l:Nat)-1) oM oM u oM _ _ a.g (a.own 1) (a.jk 1) a.f.1) ?_);rintro _ _ _ k5 ⟨dv,bb,U,rfl,r6,dy,hy,ht⟩;replace a:=(a.stepM 1 k5 dy).to [⟨C,31,bJ ⟨0,0,false,none,0,0,none,0,0,⟨#[]⟩,none,0,0⟩⟩,⟨j,68,[qS A y.length x,nV U]⟩] [];replace e:=e.trans k5;replace a:=(a.add (K:=fun o=>RmH l o dv bb) hy);refine lL a ax (lI 85 ((l:Nat)-1) ?_);refine lL a ac (gH 87 (M ((l:Nat)-1) oM oM U oM _ _ a.g (a.own 1) (a.jk 1) a.f.2.1) ?_);rintro _ _ _ ls ⟨cq,bj,V,rfl,hd,dz,f1,hx⟩;replace a:=(a.stepM 1 ls dz).to [⟨C,31,bJ ⟨0,0,false,none,0,0,none,0,0,⟨#[]⟩,none,0,0⟩⟩,⟨j,68,[qS A y.length x,nV V]⟩] [];replace e:=e.trans ls;replace a:=(a.add (K:=fun o=>RmH l o cq bj) f1);refine lz 88 (o4 5 dv cq bb bj _ _ a.g a.f.2.1 a.f.1) ?_;rintro _ _ _ lx ⟨c6,rfl,fn⟩;replace e:=e.trans (lx.m _);replace a:=a.step lx;replace a:=(a.add (K:=fun o=>RmH (l+1) o c6 (.mk 5 0 0 ⟨#[]⟩ [bb,bj])) fn);refine oJ 0 0 (bJ c6) a (fun _ B a=>?_);replace e:=e.put2 B i g a.g;exact lN (kX (a.retM e [(0,0,7)] (bO c6) ⟨_,_,V,rfl,hd,a.own 1,a.f.1,ht.two hx rfl⟩))
   have zA:=oT zg;refine lB 63 zg (lL a ac (ak (aa a ax (lI 66 ((l:Nat)-1) ?_))));refine lL a ac (gH 68 (M ((l:Nat)-1) oM oM u oM _ _ a.g (a.own 1) (a.jk 1) a.f.1) ?_);rintro _ _ _ mw ⟨b9,X,W,rfl,r9,h4,hw,f2⟩;replace a:=(a.stepM 1 mw h4).to [⟨C,31,bJ ⟨0,0,false,none,0,0,none,0,0,⟨#[]⟩,none,0,0⟩⟩,⟨j,68,[qS A y.length x,nV W]⟩] [];replace e:=e.trans mw;replace a:=(a.add (K:=fun o=>RmH l o b9 X) hw);refine lL a ax (lI 71 ((l:Nat)-1) ?_);refine lL a ac (gH 73 (M ((l:Nat)-1) oM oM W oM _ _ a.g (a.own 1) (a.jk 1) a.f.2.1) ?_);rintro _ _ _ l0 ⟨ds,Y,H,rfl,d0,f6,h2,dx⟩;replace a:=(a.stepM 1 l0 f6).to [⟨C,31,bJ ⟨0,0,false,none,0,0,none,0,0,⟨#[]⟩,none,0,0⟩⟩,⟨j,68,[qS A y.length x,nV H]⟩] [];replace e:=e.trans l0;replace a:=(a.add (K:=fun o=>RmH l o ds Y) h2);refine lz 74 (o4 4 b9 ds X Y _ _ a.g a.f.2.1 a.f.1) ?_;rintro _ _ _ kx ⟨dc,rfl,hb⟩;replace e:=e.trans (kx.m _);replace a:=a.step kx;replace a:=(a.add (K:=fun o=>RmH (l+1) o dc (.mk 4 0 0 ⟨#[]⟩ [X,Y])) hb);refine oJ 0 0 (bJ dc) a (fun _ B a=>?_);replace e:=e.put2 B i g a.g;exact lN (kX (a.retM e [(0,0,7)] (bO dc) ⟨_,_,H,rfl,d0,a.own 1,a.f.1,f2.two dx rfl⟩))
  have zx:=oT zf;refine lB 49 zf (lL a ac (ak (aa a ax (lI 52 ((l:Nat)-1) ?_))));refine lL a ac (gH 54 (M ((l:Nat)-1) oM oM u oM _ _ a.g (a.own 1) (a.jk 1) a.f.1) ?_);rintro _ _ _ mj ⟨c3,bd,S,rfl,r5,hc,h8,d5⟩;replace a:=(a.stepM 1 mj hc).to [⟨C,31,bJ ⟨0,0,false,none,0,0,none,0,0,⟨#[]⟩,none,0,0⟩⟩,⟨j,68,[qS A y.length x,nV S]⟩] [];replace e:=e.trans mj;replace a:=(a.add (K:=fun o=>RmH l o c3 bd) h8);refine lL a ax (lI 57 ((l:Nat)-1) ?_);refine lL a ac (gH 59 (M ((l:Nat)-1) oM oM S oM _ _ a.g (a.own 1) (a.jk 1) a.f.2.1) ?_);rintro _ _ _ k1 ⟨cm,Z,I,rfl,d4,f3,d3,d1⟩;replace a:=(a.stepM 1 k1 f3).to [⟨C,31,bJ ⟨0,0,false,none,0,0,none,0,0,⟨#[]⟩,none,0,0⟩⟩,⟨j,68,[qS A y.length x,nV I]⟩] [];replace e:=e.trans k1;replace a:=(a.add (K:=fun o=>RmH l o cm Z) d3);refine lz 60 (o4 3 c3 cm bd Z _ _ a.g a.f.2.1 a.f.1) ?_;rintro _ _ _ mf ⟨dn,rfl,h5⟩;replace e:=e.trans (mf.m _);replace a:=a.step mf;replace a:=(a.add (K:=fun o=>RmH (l+1) o dn (.mk 3 0 0 ⟨#[]⟩ [bd,Z])) h5);refine oJ 0 0 (bJ dn) a (fun _ B a=>?_);replace e:=e.put2 B i g a.g;exact lN (kX (a.retM e [(0,0,7)] (bO dn) ⟨_,_,I,rfl,d4,a.own 1,a.f.1,d5.two d1 rfl⟩))
 try rw[ze] at a
 try rw[ze]
 refine ck (aa a ac (gH 32 (Bo A x y hl hz j u oM _ _ a.g (a.own 1) (a.jk 1) a.f.1) ?_));rintro _ _ _ mp ⟨p,D,rfl,bn,b7,f9⟩;replace a:=(a.stepM 1 mp f9).to [⟨C,31,bJ ⟨0,0,false,none,0,0,none,0,0,⟨#[]⟩,none,0,0⟩⟩,⟨j,68,[qS A y.length x,nV D]⟩] [];replace e:=e.trans mp;have cr:=b7.1;have cz:=b7.2;have s3:=wl p 3 oM cr cz;refine lL a ac (ag (aa a ac (lz 34 (fh (p) 3 oM oM _ _ a.g) ?_)));rintro _ _ _ k4 rfl;replace e:=e.trans (k4.m _);replace a:=a.step k4;have sj:=cY (p) 3 oM;cases za:(((az (p) 3:Nat):Int) == (0:Int))
 .
  have zt:=aj za;refine lB 35 za (ah (cK (aA (lz 40 (CP _ _ a.g) ?_))));rintro _ _ _ mc ⟨bN,rfl,hN0⟩;replace e:=e.trans (mc.m _);replace a:=a.step mc;replace a:=a.aS hN0;have s5:dS.length=3:=rfl;refine lL a ac (lV 42 (iV ((p).tdiv 3)) ?_ (hr:=rS (((p).tdiv 3)) kR (pn oM oM)));refine lz 43 (fh ((p).tdiv 3) 3 oM oM _ _ a.g) ?_;rintro _ _ _ m3 rfl;replace e:=e.trans (m3.m _);replace a:=a.step m3;have st:=cY ((p).tdiv 3) 3 oM;refine lX 44 (sB bN) 3 3 1 (az ((p).tdiv 3) 3:Nat) (az ((p).tdiv 3) 3:Nat) ((a.f.1).ok oM) (lH 45 (.string (dS.getD (az ((p).tdiv 3) 3:Nat) ⟨#[]⟩)) a ((a.f.1).el (az ((p).tdiv 3) 3:Nat) oM) (lL a [.v (bO ⟨2,0,false,none,0,0,none,0,0,dS.getD (az ((p).tdiv 3) 3:Nat) ⟨#[]⟩,none,0,0⟩)] (oJ 0 0 (bJ ⟨2,0,false,none,0,0,none,0,0,dS.getD (az ((p).tdiv 3) 3:Nat) ⟨#[]⟩,none,0,0⟩) a (fun _ B a=>?_))));replace e:=e.put2 B i g a.g;exact lN (kX (a.retM e [(0,0,7)] (bO ⟨2,0,false,none,0,0,none,0,0,dS.getD (az ((p).tdiv 3) 3:Nat) ⟨#[]⟩,none,0,0⟩) ⟨⟨2,0,false,none,0,0,none,0,0,dS.getD (az ((p).tdiv 3) 3:Nat) ⟨#[]⟩,none,0,0⟩,_,D,rfl,bn,a.own 1,Em,GrT.name (Hm oM)⟩))
 have zt:=eq_of_beq za;refine lB 35 za (ak (aa a ac (lV 37 (iV ((p).tdiv 3)) ?_ (hr:=rS (((p).tdiv 3)) kR (pn oM oM)))));refine lz 38 (hR ((p).tdiv 3) oM oM _ _ a.g) ?_;rintro _ _ _ mb ⟨zQ,zR,zS,zU,rfl,zL,zM,zN,zP⟩;replace e:=e.trans (mb.m _);replace a:=a.step mb;replace a:=a.aP zN zP;refine lz 39 (Js (d:=l) (af (dZ ((p).tdiv 3)).num) zQ ((lim (ab (dZ ((p).tdiv 3)).num)).length) zR zS ((lim (dZ ((p).tdiv 3)).den).length) zU _ _ a.g ⟨true,⟨_,_,_,_,rfl,zL,zM,a.f.2.1,a.f.1⟩,fun o=>(by cases o)⟩) ?_;rintro _ _ _ j1 ⟨c8,rfl,h6⟩;replace e:=e.trans (j1.m _);replace a:=a.step j1;replace a:=(a.add (K:=fun o=>RmH (l+1) o c8 (.mk 1 0 (dZ ((p).tdiv 3)) ⟨#[]⟩ [])) h6);refine oJ 0 0 (bJ c8) a (fun _ B a=>?_);replace e:=e.put2 B i g a.g;exact lN (kX (a.retM e [(0,0,7)] (bO c8) ⟨_,_,D,rfl,bn,a.own 1,a.f.1,GrT.num (LQ.hand _)⟩))
theorem Gf (a):∀ (k:Nat) {z:Int},z=(k:Nat)->∀ (A:Z9) (cap:Nat) (zs:List Int) (hl:zs.length<=(2^63-1)) (hz:p7 zs) (dp:Nat),dp=k->dp<=1000->∀ (at_:Nat),at_<=zs.length->∀ (w:World) (h:Hp),G w h->Own w a 68 [.slice A zs.length cap,nV at_]->h[a]?=some bp->Si A zs h->Calls Tryz.prog 18 #[pB a,iV z,.bool false] w (fl a w h (fun v w' d=>∃ (r:RTm)(t:Tm)(at2:Nat),v=bO r/\at2<=zs.length/\Own w' a 68 [.slice A zs.length cap,nV at2]/\RmH (dp+1) d r t/\GrT (dp+1) t))
  | 0,z,e,A,cap,zs,hl,hz,dp,ed,hd,at_,ha,w,h,g,ho,hj,hA=>by
    subst ed e;exact B4 a A cap zs hl hz 0 hd (fun z h1 c=>by omega) at_ ha w h g ho hj hA
  | k+1,z,e,A,cap,zs,hl,hz,dp,ed,hd,at_,ha,w,h,g,ho,hj,hA=>by
    subst ed e;exact B4 a A cap zs hl hz (k+1) hd (fun z h1 c=>Gf a k (z:=z) oM A cap zs hl hz k rfl oM) at_ ha w h g ho hj hA
theorem EC (z)(h0 : -(2^63)<=z)(h1:z<=(2^63-1))(w h)(g:G w h):CR 16 #[iV z] w h (fun v h1=>∃ r,v=bO r/\RmH 1 h1 r (.mk 1 0 ((z:Int):Rat) ⟨#[]⟩ [])):=by
 have a:=sS g;refine go Tryz.func16 [(0,iV z)] rfl (aA (lA 2 31 (bJ ⟨0,0,false,none,0,0,none,0,0,⟨#[]⟩,none,0,0⟩) a (fun D w2 C a=>aG (lL a ac (lC 4 a (ud z h0 oM _ _ a.g) ?_)))));rintro _ _ _ a ⟨B,x,o,p,rfl,e,u,i,y⟩;replace a:=a.aP i y;refine lC 5 a (Js (d:=0) (af ((z:Int):Rat).num) B ((lim (ab ((z:Int):Rat).num)).length) x o ((lim ((z:Int):Rat).den).length) p _ _ a.g ⟨true,⟨_,_,_,_,rfl,e,u,a.f.2.1,a.f.1⟩,fun l=>(by cases l)⟩) ?_;rintro _ _ _ a ⟨c,rfl,j⟩;replace a:=(a.add (K:=fun l=>RmH 1 l c (.mk 1 0 ((z:Int):Rat) ⟨#[]⟩ [])) j);exact lP 0 0 (bJ c) a (fun _ a=>ae a [(0,0,7)] (bO c) (⟨c,rfl,a.f.1⟩))
theorem DO (z)(h0 : -(2^63)<=z)(h1:z<=(2^63-1))(w h)(g:G w h):CR 16 #[iV z] w h (fun v h1=>∃ r,v=bO r/\RmH 1 h1 r (.mk 1 0 ((z:Int):Rat) ⟨#[]⟩ [])):=EC z h0 h1 w h g
theorem Ln {d:Nat}:SmT1 gG (d+1) (.mk 1 0 ((1:Int):Rat) ⟨#[]⟩ []):=⟨by show 0<=3;decide,by show (-1000:Int)<=1/\(1:Int)<=1000;decide,by show (-1000:Int)<=0/\(0:Int)<=1000;decide,LQ.int kD kD,Fm,fun i hi=>absurd hi (O9 i)⟩
theorem AD  (d)(ih:∀ (r:RTm) (t:Tm) (way at_ e:Int) (w:World) (h:Hp),G w h->RmH d h r t->WfT1 Gp d t->Calls Tryz.prog 4 #[bO r,iV way,iV at_,iV e] w (Ret w h (fun v h1=>∃ O t1,v=bO O/\SpO d h1 O t1)))(op n)(D:Bool)(z B F C y x q s A c)(j:List RTm)(ks:List Tm)(X:j.length<=c)(way at_ e)(hl2:ks.length<=2)(b5:gQ op=(ks.length:Nat))(hn1 : -12<=n)(hn2:n<=12)(U:LQ 1 q)(J:gG s)(Q:∀ i,i<ks.length->WfT1 Gp d (ks.getD i di))(w h)(g:G w h)(hZ:RZ h (D,.slice z B F,.slice C y x) q)(hK:SlO 7 bJ bX h A j)(hKs:Rms d h j ks):CR 4 #[bO ⟨op,n,D,z,B,F,C,y,x,s,A,j.length,c⟩,iV way,iV at_,iV e] w h (fun v h1=>∃ O t1,v=bO O/\SpO (d+1) h1 O t1):=by
 have a:=((((sS g).add (K:=fun p=>RZ p (D,qS z B F,qS C y x) q) hZ).aS hK).add (K:=fun p=>Rms d p j ks) hKs);have hln:=(a.f.1).len;have hac:=aF op;have bk:([]:List RTm).length=0:=rfl;have bn:(([]:List RTm)++j).length=j.length:=rfl;refine go Tryz.func4 [(0,bO ⟨op,n,D,z,B,F,C,y,x,s,A,j.length,c⟩),(1,iV way),(2,iV at_),(3,iV e)] rfl (aA (lA 4 31 (bJ ⟨op,n,D,z,B,F,C,y,x,s,A,j.length,c⟩) a (fun I w2 h3 a=>lA 8 31 (bJ ⟨0,0,false,none,0,0,none,0,0,⟨#[]⟩,none,0,0⟩) a (fun b4 w5 h6 a=>aG (lL a ac (ar 12 a (fh (at_) 4 oM oM _ _ a.g) (fun w8 h9 a=>?_)))))));have lp7:=cY (at_) 4 oM;refine lL a ac (ag (CG.join (fun Γ w_=>∃ (zp:Bool)(p:Hp),Γ=[(1,iV way),(2,nV (az (at_) 4)),(3,iV e),(4,pB I),(8,pB b4),(20,.bool zp)]/\SS w h w_ p [⟨b4,31,bJ ⟨0,0,false,none,0,0,none,0,0,⟨#[]⟩,none,0,0⟩⟩,⟨I,31,bJ ⟨op,n,D,z,B,F,C,y,x,s,A,j.length,c⟩⟩] [] [fun p=>Rms d p j ks,fun p=>SlO 7 bJ bX p A j,fun p=>RZ p (D,qS z B F,qS C y x) q]/\(zp=true->¬(az at_ 4=0\/j.length=0))/\(zp=false->(az at_ 4=0\/j.length=0))) ?_ ?_))
 .
  refine kQ (lL a ac ?_);cases zd:(decide ((0:Int)<((az (at_) 4:Nat):Int)))
  .
   have zD:=oF zd;refine lB 14 zd (lL a ac (lG 16 ?_));refine lG 17 (lG 18 (lG 19 (lL a [.v qF] (lD ?_))));intro L H;exact ⟨_,⟨false,h9,rfl,a.to _ _,(fun p=>absurd p kD),(fun _=>by omega)⟩,H.to _ kR⟩
  have zD:=oT zd;refine lB 14 zd (lL a [.c,.v (qP I 6),.o (qS A j.length c) 1 6 1,.v (nV j.length)] ?_);cases ze:(decide ((0:Int)<(j.length:Int)))
  .
   have zE:=oF ze;refine lB 19 ze (lL a [.v qF] (lD ?_));intro L H;exact ⟨_,⟨false,h9,rfl,a.to _ _,(fun p=>absurd p kD),(fun _=>by omega)⟩,H.to _ kR⟩
  have zE:=oT ze;refine lB 19 ze (lL a [.v qT] (lD ?_));intro L H;exact ⟨_,⟨true,h9,rfl,a.to _ _,(fun _=>by omega),(fun p=>absurd p kD)⟩,H.to _ kR⟩
 rintro _ _ ⟨zp,_,rfl,a,zR,b2⟩;cases zf:(zp)
 .
  try rw[zf] at a
  try rw[zf]
  refine dE (cK (CG.join (fun Γ w_=>∃ (O:RTm)(t1:Tm)(p:Hp),Γ=[(4,pB I),(8,pB b4)]/\SS w h w_ p [⟨b4,31,bJ ⟨0,0,false,none,0,0,none,0,0,⟨#[]⟩,none,0,0⟩⟩,⟨I,31,bJ O⟩] [] [fun p=>SpO (d+1) p O t1,fun p=>Rms d p j ks,fun p=>SlO 7 bJ bX p A j,fun p=>RZ p (D,qS z B F,qS C y x) q]) ?_ ?_))
  .
   refine aa a ac (ar 48 a (fh (way) 9 oM oM _ _ a.g) (fun _ zP a=>?_));have b3:=cY (way) 9 oM;refine aZ (aA ?_);cases zg:(((az (way) 9:Nat):Int) == (0:Int))
   .
    have zG:=aj zg;refine lB 50 zg (lL a ac (ah (aA ?_)));cases zi:(((az (way) 9:Nat):Int) == (1:Int))
    .
     have zH:=aj zi;refine lB 56 zi (lL a ac (ah (aA ?_)));cases zj:(((az (way) 9:Nat):Int) == (2:Int))
     .
      have zI:=aj zj;refine lB 62 zj (lL a ac (ah (aA ?_)));cases zk:(((az (way) 9:Nat):Int) == (3:Int))
      .
       have zJ:=aj zk;refine lB 69 zk (lL a ac (ah (aA ?_)));cases zl:(((az (way) 9:Nat):Int) == (4:Int))
       .
        have zK:=aj zl;refine lB 75 zl (lL a ac (ah (aA ?_)));cases zm:(((az (way) 9:Nat):Int) == (5:Int))
        .
         have zL:=aj zm;refine lB 85 zm (lL a ac (ah (aA ?_)));cases zo:(((az (way) 9:Nat):Int) == (6:Int))
         .
          have zM:=aj zo;refine lB 88 zo (lL a ac (ah (CG.skip ?_)));intro L H;replace a:=(a.add (K:=fun p=>SpO (d+1) p (⟨op,n,D,z,B,F,C,y,x,s,A,j.length,c⟩:RTm) (.mk (op) (n) q (s) ks)) ⟨(RmH.mk a.f.r.1 a.f.1 X a.f.2.1).mono oM,iK oM (by omega:(-1000:Int)<=op/\(op:Int)<=1000) (by omega:(-1000:Int)<=n/\(n:Int)<=1000) U J (fun i hi=>(fQ (Q i hi)).mono oM)⟩);exact ⟨_,⟨(⟨op,n,D,z,B,F,C,y,x,s,A,j.length,c⟩:RTm),(.mk (op) (n) q (s) ks),zP,rfl,a.to _ _⟩,H.to _ kR⟩
         have zM:=eq_of_beq zo;refine lB 88 zo (lL a ac (ak (kQ (lL a [.o (bO ⟨op,n,D,z,B,F,C,y,x,s,A,j.length,c⟩) 1 0 7] (lC 90 a (uU (d:=d+1) ⟨op,n,D,z,B,F,C,y,x,s,A,j.length,c⟩ (.mk op n q s ks) (12) _ _ a.g (RmH.mk a.f.r.1 a.f.1 X a.f.2.1)) ?_)))));rintro _ _ _ a ⟨r32,rfl,bb⟩;replace a:=(a.add (K:=fun p=>RmH (d+2) p r32 (.mk 8 (12) 0 ⟨#[]⟩ [(.mk op n q s ks)])) bb);refine lL a ac (ar 92 a (fh (e) 20 oM oM _ _ a.g) (fun _ _ a=>?_));have bz:=cY (e) 20 oM;refine lI 93 ((az (e) 20:Nat)-10) (lC 94 a (uU (d:=d+2) r32 (.mk 8 (12) 0 ⟨#[]⟩ [(.mk op n q s ks)]) ((az (e) 20:Nat)-10) _ _ a.g a.f.1) ?_);rintro _ _ _ a ⟨r38,rfl,Y⟩;replace a:=(a.add (K:=fun p=>RmH (d+3) p r38 (.mk 8 ((az (e) 20:Nat)-10) 0 ⟨#[]⟩ [(.mk 8 (12) 0 ⟨#[]⟩ [(.mk op n q s ks)])])) Y);refine lC 95 a (uU (d:=d+3) r38 (.mk 8 ((az (e) 20:Nat)-10) 0 ⟨#[]⟩ [(.mk 8 (12) 0 ⟨#[]⟩ [(.mk op n q s ks)])]) (9) _ _ a.g a.f.1) ?_;rintro _ _ yf a ⟨W,rfl,bd⟩;replace a:=(a.add (K:=fun p=>RmH (d+4) p W (.mk 8 (9) 0 ⟨#[]⟩ [(.mk 8 ((az (e) 20:Nat)-10) 0 ⟨#[]⟩ [(.mk 8 (12) 0 ⟨#[]⟩ [(.mk op n q s ks)])])])) bd);refine lP 1 0 (bJ W) a (fun _ a=>lD ?_);intro L H;replace a:=(a.tl.tl.tl.add (K:=fun p=>SpO (d+1) p W (.mk 8 (9) 0 ⟨#[]⟩ [(.mk 8 ((az (e) 20:Nat)-10) 0 ⟨#[]⟩ [(.mk 8 (12) 0 ⟨#[]⟩ [(.mk op n q s ks)])])])) ⟨a.f.1,tY oM (tY oM (tY oM ((iK oM (by omega:(-1000:Int)<=op/\(op:Int)<=1000) (by omega:(-1000:Int)<=n/\(n:Int)<=1000) U J (fun i hi=>(fQ (Q i hi)).mono oM)))))⟩);exact ⟨_,⟨W,(.mk 8 (9) 0 ⟨#[]⟩ [(.mk 8 ((az (e) 20:Nat)-10) 0 ⟨#[]⟩ [(.mk 8 (12) 0 ⟨#[]⟩ [(.mk op n q s ks)])])]),yf,rfl,a.to _ _⟩,H.to _ kR⟩
        have zL:=eq_of_beq zm;refine lB 85 zm (lL a ac (ak (kQ (lL a [.v (qP I 6)] (lP 1 6 ([sZ]) a (fun _ a=>lD ?_))))));intro L H;replace a:=(a.add (K:=fun p=>SpO (d+1) p (⟨op,n,D,z,B,F,C,y,x,s,none,0,0⟩:RTm) (.mk op n q s [])) ⟨RmH.mk (ps:=[]) a.f.r.1 Rms.nil (nR _) SlO.nil,iK (by show 0<=3;decide) (by omega:(-1000:Int)<=op/\(op:Int)<=1000) (by omega:(-1000:Int)<=n/\(n:Int)<=1000) U J (fun i hi=>absurd hi (O9 i))⟩);exact ⟨_,⟨(⟨op,n,D,z,B,F,C,y,x,s,none,0,0⟩:RTm),(.mk op n q s []),zP,rfl,a.to _ _⟩,H.to _ kR⟩
       have zK:=eq_of_beq zl;refine lB 75 zl (lL a ac (ak (kQ (Jg 76 31 7 bJ ([]:List RTm) a (fun yg _ _ a=>lL a [.v (qP I 6),.o (qS A j.length c) 1 6 1] (Mi 79 0 31 7 ((([]:List RTm)).length) (sB yg) ([]:List RTm) bJ bX A j j.length c 112 (bO ⟨0,0,false,none,0,0,none,0,0,⟨#[]⟩,none,0,0⟩) a a.f.2.1 (fun yi yj _ _ a=>lC 80 a (DO 1 kD kD _ _ a.g) ?_)))))));rintro _ _ _ a ⟨u,rfl,hrw⟩;replace a:=(a.add (K:=fun p=>RmH 1 p u (.mk 1 0 (((1:Int)):Rat) ⟨#[]⟩ [])) hrw);refine lR 81 31 1 ([iV u.op,iV u.n,.bool u.neg,qS u.zA u.zn u.zc,qS u.dA u.dn u.dc,.string u.s,qS u.A u.m u.c]) a (fun zQ _ _ a=>?_);replace a:=a.aS (SlO.of_flat (sz:=7) (f:=bJ) (d:=bX) (b:=zQ) (o:=0) (l:=([u]:List RTm)) (fun _=>rfl) a.f.1);refine lY 82 0 31 7 yj yi (([]:List RTm)++j) bJ u 112 zQ (bO ⟨0,0,false,none,0,0,none,0,0,⟨#[]⟩,none,0,0⟩) a a.f.2.1 (fun zs zt _ _ a=>lL a [.v (qP I 6)] (lP 1 6 ([qS zs ((([]:List RTm)++j++[u]).length) zt]) a (fun _ a=>lD ?_)));obtain ⟨yk,a,zS⟩:=a.pubr 0 (A:=zs) (c:=zt) (l:=([]:List RTm)++j++[u]) (f:=bJ) (ty:=31) (sz:=7) bX (fun _=>rfl);intro L H;replace a:=(a.tl.tl.tl.tl.add (K:=fun p=>SpO (d+1) p (⟨op,n,D,z,B,F,C,y,x,s,zs,(([]:List RTm)++j++[u]).length,zt⟩:RTm) (.mk op n q s (ks++[.mk 1 0 (((1:Int)):Rat) ⟨#[]⟩ []]))) ⟨(RmH.mk a.f.q.r.1 (((a.f.q.1).mono (show d<=d+3 by omega)).snoc ((a.f.r.2.1).mono oM)) zS a.f.1),iK (by rw[zY,List.length_singleton];omega) (by omega:(-1000:Int)<=op/\(op:Int)<=1000) (by omega:(-1000:Int)<=n/\(n:Int)<=1000) U J (fun i hi=>uB (SmT1 gG (d+3)) (fun i hi=>(fQ (Q i hi)).mono oM) Ln hi)⟩);exact ⟨_,⟨(⟨op,n,D,z,B,F,C,y,x,s,zs,(([]:List RTm)++j++[u]).length,zt⟩:RTm),(.mk op n q s (ks++[.mk 1 0 (((1:Int)):Rat) ⟨#[]⟩ []])),yk,rfl,a.to _ _⟩,H.to _ kR⟩
      have zJ:=eq_of_beq zk;refine lB 69 zk (lL a ac (ak (kQ (lL a ac (ar 71 a (fh (e) 3 oM oM _ _ a.g) (fun _ _ a=>?_))))));have b0:=cY (e) 3 oM;refine lC 72 a (ud (az (e) 3:Nat) oM oM _ _ a.g) ?_;rintro _ _ yl a ⟨zu,zv,zw,zx,rfl,zU,zW,zX,ya⟩;replace a:=a.aP zX ya;refine lL a [.v (qP I 2)] (lP 1 2 (iT (((az (e) 3:Nat):Int):Rat) zu zv zw zx) a (fun _ a=>lD ?_));intro L H;replace a:=(a.tl.tl.add (K:=fun p=>SpO (d+1) p (⟨op,n,af (((az (e) 3:Nat):Int):Rat).num,zu,(lim (ab (((az (e) 3:Nat):Int):Rat).num)).length,zv,zw,(lim (((az (e) 3:Nat):Int):Rat).den).length,zx,s,A,j.length,c⟩:RTm) (.mk (op) (n) ((((az (e) 3:Nat):Int):Rat)) (s) ks)) ⟨(RmH.mk ⟨true,⟨_,_,_,_,rfl,zU,zW,a.f.2.1,a.f.1⟩,fun p=>(by cases p)⟩ a.f.r.1 X a.f.r.2.1).mono oM,iK oM (by omega:(-1000:Int)<=op/\(op:Int)<=1000) (by omega:(-1000:Int)<=n/\(n:Int)<=1000) (LQ.int oM oM) J (fun i hi=>(fQ (Q i hi)).mono oM)⟩);exact ⟨_,⟨(⟨op,n,af (((az (e) 3:Nat):Int):Rat).num,zu,(lim (ab (((az (e) 3:Nat):Int):Rat).num)).length,zv,zw,(lim (((az (e) 3:Nat):Int):Rat).den).length,zx,s,A,j.length,c⟩:RTm),(.mk (op) (n) ((((az (e) 3:Nat):Int):Rat)) (s) ks),yl,rfl,a.to _ _⟩,H.to _ kR⟩
     have zI:=eq_of_beq zj;refine lB 62 zj (lL a ac (ak (kQ (lL a [.v (.agg #[eS,.string (⟨#[109,97,120]⟩),.string (⟨#[120,95,49]⟩),.string (⟨#[49,120]⟩)]),.c] ?_))))
     rcases Jy e with hq0|hq1|hq2|hq3
     .
      refine ar 65 a ((by have S:=fh e 4 oM oM _ _ a.g;rw[hq0] at S;exact S)) (fun _ ym a=>lL a [.v (eS),.v (qP I 5)] (lP 1 5 ([eS]) a (fun _ a=>lD ?_)));intro L H;replace a:=(a.add (K:=fun p=>SpO (d+1) p (⟨op,n,D,z,B,F,C,y,x,⟨#[]⟩,A,j.length,c⟩:RTm) (.mk (op) (n) q (⟨#[]⟩) ks)) ⟨(RmH.mk a.f.r.1 a.f.1 X a.f.2.1).mono oM,iK oM (by omega:(-1000:Int)<=op/\(op:Int)<=1000) (by omega:(-1000:Int)<=n/\(n:Int)<=1000) U (by unfold gG;decide) (fun i hi=>(fQ (Q i hi)).mono oM)⟩);exact ⟨_,⟨(⟨op,n,D,z,B,F,C,y,x,⟨#[]⟩,A,j.length,c⟩:RTm),(.mk (op) (n) q (⟨#[]⟩) ks),ym,rfl,a.to _ _⟩,H.to _ kR⟩
     .
      refine ar 65 a ((by have S:=fh e 4 oM oM _ _ a.g;rw[hq1] at S;exact S)) (fun _ yn a=>lL a [.v (.string (⟨#[109,97,120]⟩)),.v (qP I 5)] (lP 1 5 ([.string (⟨#[109,97,120]⟩)]) a (fun _ a=>lD ?_)));intro L H;replace a:=(a.add (K:=fun p=>SpO (d+1) p (⟨op,n,D,z,B,F,C,y,x,⟨#[109,97,120]⟩,A,j.length,c⟩:RTm) (.mk (op) (n) q (⟨#[109,97,120]⟩) ks)) ⟨(RmH.mk a.f.r.1 a.f.1 X a.f.2.1).mono oM,iK oM (by omega:(-1000:Int)<=op/\(op:Int)<=1000) (by omega:(-1000:Int)<=n/\(n:Int)<=1000) U (by unfold gG;decide) (fun i hi=>(fQ (Q i hi)).mono oM)⟩);exact ⟨_,⟨(⟨op,n,D,z,B,F,C,y,x,⟨#[109,97,120]⟩,A,j.length,c⟩:RTm),(.mk (op) (n) q (⟨#[109,97,120]⟩) ks),yn,rfl,a.to _ _⟩,H.to _ kR⟩
     .
      refine ar 65 a ((by have S:=fh e 4 oM oM _ _ a.g;rw[hq2] at S;exact S)) (fun _ yo a=>lL a [.v (.string (⟨#[120,95,49]⟩)),.v (qP I 5)] (lP 1 5 ([.string (⟨#[120,95,49]⟩)]) a (fun _ a=>lD ?_)));intro L H;replace a:=(a.add (K:=fun p=>SpO (d+1) p (⟨op,n,D,z,B,F,C,y,x,⟨#[120,95,49]⟩,A,j.length,c⟩:RTm) (.mk (op) (n) q (⟨#[120,95,49]⟩) ks)) ⟨(RmH.mk a.f.r.1 a.f.1 X a.f.2.1).mono oM,iK oM (by omega:(-1000:Int)<=op/\(op:Int)<=1000) (by omega:(-1000:Int)<=n/\(n:Int)<=1000) U (by unfold gG;decide) (fun i hi=>(fQ (Q i hi)).mono oM)⟩);exact ⟨_,⟨(⟨op,n,D,z,B,F,C,y,x,⟨#[120,95,49]⟩,A,j.length,c⟩:RTm),(.mk (op) (n) q (⟨#[120,95,49]⟩) ks),yo,rfl,a.to _ _⟩,H.to _ kR⟩
     refine ar 65 a ((by have S:=fh e 4 oM oM _ _ a.g;rw[hq3] at S;exact S)) (fun _ yb a=>lL a [.v (.string (⟨#[49,120]⟩)),.v (qP I 5)] (lP 1 5 ([.string (⟨#[49,120]⟩)]) a (fun _ a=>lD ?_)));intro L H;replace a:=(a.add (K:=fun p=>SpO (d+1) p (⟨op,n,D,z,B,F,C,y,x,⟨#[49,120]⟩,A,j.length,c⟩:RTm) (.mk (op) (n) q (⟨#[49,120]⟩) ks)) ⟨(RmH.mk a.f.r.1 a.f.1 X a.f.2.1).mono oM,iK oM (by omega:(-1000:Int)<=op/\(op:Int)<=1000) (by omega:(-1000:Int)<=n/\(n:Int)<=1000) U (by unfold gG;decide) (fun i hi=>(fQ (Q i hi)).mono oM)⟩);exact ⟨_,⟨(⟨op,n,D,z,B,F,C,y,x,⟨#[49,120]⟩,A,j.length,c⟩:RTm),(.mk (op) (n) q (⟨#[49,120]⟩) ks),yb,rfl,a.to _ _⟩,H.to _ kR⟩
    have zH:=eq_of_beq zi;refine lB 56 zi (lL a ac (ak (kQ (lL a ac (ar 58 a (fh (e) 30 oM oM _ _ a.g) (fun _ yc a=>?_))))));have bl:=cY (e) 30 oM;refine lI 59 ((az (e) 30:Nat)-15) (lL a [.v (qP I 1)] (lP 1 1 ([iV ((az (e) 30:Nat)-15)]) a (fun _ a=>lD ?_)));intro L H;replace a:=(a.add (K:=fun p=>SpO (d+1) p (⟨op,(az (e) 30:Nat)-15,D,z,B,F,C,y,x,s,A,j.length,c⟩:RTm) (.mk (op) ((az (e) 30:Nat)-15) q (s) ks)) ⟨(RmH.mk a.f.r.1 a.f.1 X a.f.2.1).mono oM,iK oM (by omega:(-1000:Int)<=op/\(op:Int)<=1000) (by omega:(-1000:Int)<=(az (e) 30:Nat)-15/\((az (e) 30:Nat)-15:Int)<=1000) U J (fun i hi=>(fQ (Q i hi)).mono oM)⟩);exact ⟨_,⟨(⟨op,(az (e) 30:Nat)-15,D,z,B,F,C,y,x,s,A,j.length,c⟩:RTm),(.mk (op) ((az (e) 30:Nat)-15) q (s) ks),yc,rfl,a.to _ _⟩,H.to _ kR⟩
   have zG:=eq_of_beq zg;refine lB 50 zg (lL a ac (ak (kQ (lL a ac (ar 52 a (fh (e) 16 oM oM _ _ a.g) (fun _ yd a=>?_))))));have bj:=cY (e) 16 oM;refine lI 53 ((az (e) 16:Nat)-1) (lL a [.v (pB I)] (lP 1 0 ([iV ((az (e) 16:Nat)-1)]) a (fun _ a=>lD ?_)));intro L H;replace a:=(a.add (K:=fun p=>SpO (d+1) p (⟨(az (e) 16:Nat)-1,n,D,z,B,F,C,y,x,s,A,j.length,c⟩:RTm) (.mk ((az (e) 16:Nat)-1) (n) q (s) ks)) ⟨(RmH.mk a.f.r.1 a.f.1 X a.f.2.1).mono oM,iK oM (by omega:(-1000:Int)<=(az (e) 16:Nat)-1/\((az (e) 16:Nat)-1:Int)<=1000) (by omega:(-1000:Int)<=n/\(n:Int)<=1000) U J (fun i hi=>(fQ (Q i hi)).mono oM)⟩);exact ⟨_,⟨(⟨(az (e) 16:Nat)-1,n,D,z,B,F,C,y,x,s,A,j.length,c⟩:RTm),(.mk ((az (e) 16:Nat)-1) (n) q (s) ks),yd,rfl,a.to _ _⟩,H.to _ kR⟩
  rintro _ _ ⟨O,t1,_,rfl,a⟩;exact aa a [.o (bO O) 1 0 7] (lP 0 0 (bJ O) a (fun _ a=>ae a [(0,0,7)] (bO O) (⟨O,t1,rfl,a.f.1⟩)))
 try rw[zf] at a
 try rw[zf]
 refine ck (aA ?_);have br:=zR aM;refine lL a [.c,.v (qP I 6),.o (qS A j.length c) 1 6 1,.v (nV j.length)] (ar 25 a (fh (e) j.length oM oM _ _ a.g) (fun _ _ a=>?_));have bm:=cY (e) j.length oM;refine lL a ac (aG (lL a [.o (bO ⟨op,n,D,z,B,F,C,y,x,s,A,j.length,c⟩) 1 0 7] (lA 10 31 (bJ ⟨0,0,false,none,0,0,none,0,0,⟨#[]⟩,none,0,0⟩) a (fun zq _ _ a=>lP 0 0 (bJ ⟨op,n,D,z,B,F,C,y,x,s,A,j.length,c⟩) a (fun _ a=>aG (Jg 27 31 7 bJ ([]:List RTm) a (fun ye _ _ a=>lL a [.v (qP I 6),.o (qS A j.length c) 2 6 1] (Mi 30 0 31 7 ((([]:List RTm)).length) (sB ye) ([]:List RTm) bJ bX A j j.length c 112 (bO ⟨0,0,false,none,0,0,none,0,0,⟨#[]⟩,none,0,0⟩) a a.f.2.1 (fun zr M _ _ a=>lL a [.v (qP zq 6)] (lP 0 6 ([qS zr ((([]:List RTm)++j).length) M]) a (fun _ a=>ag (cR 13 [] mixed a ao ?_))))))))))));refine eV 0 32 (qP zq 6) (eO 1 33 [(0,6,1)] (qS zr ((([]:List RTm)++j).length) M) a (eV 2 34 (nV (az (e) j.length)) (eV 3 35 (qP I 6) (eO 4 36 [(2,6,1)] (qS A j.length c) a (eV 5 37 (nV (az (e) j.length)) (eX 6 38 A j.length c 7 (az (e) j.length:Nat) (az (e) j.length) ((a.f.2.1).ok oM) (eH 7 39 (bO (j.getD (az (e) j.length) bX)) a ((a.f.2.1).el (az (e) j.length) oM) (eV 8 40 (iV way) (eV 9 41 (nV (az (at_) 4)) (eI 10 42 ((az (at_) 4:Nat)-1) (eV 11 43 (iV e) (eC 12 44 a (fun _ _ a=>ih (j.getD (az e j.length) bX) (ks.getD (az e j.length) di) way ((az (at_) 4:Nat)-1) e _ _ a.g ((a.f.1).at_ (az e j.length) oM) (Q (az e j.length) oM)) ?_))))))))))));rintro _ _ _ _ _ a ⟨Z,tk,rfl,hrk⟩;replace a:=(a.add (K:=fun p=>SpO d p Z tk) hrk);refine bM a (fun _ _ a=>?_);obtain ⟨V,zB⟩:=a.rowA 0 (A:=zr) (c:=M) (m:=(([]:List RTm)++j).length) (ty:=31) (sz:=7) (cs:=(([]:List RTm)++j).flatMap bJ) oM;subst zB;refine tX 13 45 (sB V) ((([]:List RTm)++j).length) M 7 (az (e) j.length:Nat) (az (e) j.length) rfl (MB 14 (ty:=31) (c:=M) (b:=V) 0 (az (e) j.length) 0 (bJ Z) (([]:List RTm)++j) bJ 7 bX Z a oM (fun _ a=>?_));replace a:=a.to [⟨zq,31,[iV op,iV n,.bool D,qS z B F,qS C y x,.string s,qS (sB V) ((([]:List RTm)++j).length) M]⟩,⟨b4,31,bJ ⟨0,0,false,none,0,0,none,0,0,⟨#[]⟩,none,0,0⟩⟩,⟨I,31,bJ ⟨op,n,D,z,B,F,C,y,x,s,A,j.length,c⟩⟩] [⟨31,7,sB V,M,(([]:List RTm)++j).length,((([]:List RTm)++j).set (az (e) j.length) Z).flatMap bJ⟩];refine rm ?_;replace a:=a.rown [⟨31,7,sB V,M,((([]:List RTm)++j).set (az (e) j.length) Z).length,((([]:List RTm)++j).set (az (e) j.length) Z).flatMap bJ⟩] (by simp only[NI]);obtain ⟨_,a,zN⟩:=a.pubr 0 (A:=sB V) (c:=M) (l:=(([]:List RTm)++j).set (az (e) j.length) Z) (f:=bJ) (ty:=31) (sz:=7) bX (fun _=>rfl);exact lL a [.o (bO ⟨op,n,D,z,B,F,C,y,x,s,sB V,(([]:List RTm)++j).length,M⟩) 0 0 7] (lP 1 0 (bJ ⟨op,n,D,z,B,F,C,y,x,s,sB V,(([]:List RTm)++j).length,M⟩) a (fun _ a=>ae a [(1,0,7)] (bO ⟨op,n,D,z,B,F,C,y,x,s,sB V,(([]:List RTm)++j).length,M⟩) (⟨(⟨op,n,D,z,B,F,C,y,x,s,sB V,(([]:List RTm)++j).length,M⟩:RTm),(.mk op n q s (ks.set (az e j.length) tk)),rfl,(by have p:=RmH.mk (op:=op) (n:=n) (s:=s) a.f.q.1 (((a.f.r.1).mono (show d<=d+3 by omega)).set (az e j.length) (a.f.2.1).1) zN (a.f.1);rw[NI] at p;exact p),iK (by rw[NI];omega) oM oM U J (fun i hi=>xl (SmT1 gG (d+3)) (fun i hi=>(fQ (Q i hi)).mono oM) (a.f.2.1).2 hi)⟩)))
theorem sn:∀ (d:Nat) (r:RTm) (t:Tm) (way at_ a:Int) (w:World) (h:Hp),G w h->RmH d h r t->WfT1 Gp d t->Calls Tryz.prog 4 #[bO r,iV way,iV at_,iV a] w (Ret w h (fun v h1=>∃ r1 t1,v=bO r1/\SpO d h1 r1 t1))
  | 0,_,_,_,_,_,_,_,_,x,_=>x.elim
  | d+1,r,t,way,at_,a,w,h,g,x,wf=>by
    obtain ⟨op,n,b,zA,zn,zc,dA,dn,dc,q,s,A,c,rs,ks,rfl,rfl,hZ,hc,hK,hKs⟩:=x.open;have f:ks.length<=2:=wf.two;have e:gG s:=(fQ wf).2.2.2.2.1;obtain ⟨w1,w2,w3,o,u,p,j,l,i⟩:=wf;exact AD d (fun r t way at_ a w h=>sn d r t way at_ a w h) op n b zA zn zc dA dn dc q s A c rs ks hc way at_ a f w1 j l w3 e i w h g hZ hK hKs
theorem Hx {h:Hp}{b:Bool}{c d:Z9}{i f a j:Nat}{q:Rat}(x:RZ h (b,.slice c i f,.slice d a j) q)(e:a=0):q=0:=by subst e;exact KN x
theorem AT  (sm:ByteArray->Prop)(d)(ih:∀ (r:RTm) (t:Tm) (w:World) (h:Hp),G w h->RmH d h r t->ph sm d t->Tab h->Calls Tryz.prog 9 #[bO r] w (Ret w h (fun v h1=>∃ p,v=bW p/\TmH d h1 p t)))(op n)(I:Bool)(F H J C z B q s A c)(y:List RTm)(ks:List Tm)(hc:y.length<=c)(hk3:ks.length<=3)(hop : -1000<=op/\op<=1000)(hn : -1000<=n/\n<=1000)(hq:LQ 3000 q)(hsm:sm s)(hW:∀ i,i<ks.length->ph sm d (ks.getD i di))(w h)(g:G w h)(hZ:RZ h (I,.slice F H J,.slice C z B) q)(hK:SlO 7 bJ bX h A y)(hKs:Rms d h y ks)(tb:Tab h):CR 9 #[bO ⟨op,n,I,F,H,J,C,z,B,s,A,y.length,c⟩] w h (fun v h1=>∃ p,v=bW p/\TmH (d+1) h1 p (.mk op n q s ks)):=by
 have a:=(((((sS g).add (K:=fun e=>RZ e (I,qS F H J,qS C z B) q) hZ).aS hK).add (K:=fun e=>Rms d e y ks) hKs).add (K:=fun e=>Tab e) tb);have hln:=(a.f.2.1).len;refine go Tryz.func9 [(0,bO ⟨op,n,I,F,H,J,C,z,B,s,A,y.length,c⟩)] rfl (aA (lA 1 31 (bJ ⟨op,n,I,F,H,J,C,z,B,s,A,y.length,c⟩) a (fun D w2 h3 a=>lA 2 51 ca a (fun V w5 h6 a=>aG (lL a [.v (pB D),.o (iV op) 1 0 1,.v (qP D 1),.o (iV n) 1 1 1,.v (qP D 5),.o (.string s) 1 5 1,.v (.agg #[iV op,iV n,qF,uV 0,eS,uV 0,eS,.string s,sZ])] (lA 3 51 ca a (fun M w8 h9 a=>lP 0 0 ([iV op,iV n,qF,uV 0,eS,uV 0,eS,.string s,sZ]) a (fun _ a=>?_))))))));refine lN (CG.join (fun Γ w_=>∃ (L:Rat)(e:Hp),Γ=[(1,pB D),(2,pB V),(3,pB M)]/\SS w h w_ e [⟨M,51,dd ⟨op,n,L,s,none,0,0⟩⟩,⟨V,51,[iV 0,iV 0,qF,uV 0,eS,uV 0,eS,eS,sZ]⟩,⟨D,31,bJ ⟨op,n,I,F,H,J,C,z,B,s,A,y.length,c⟩⟩] [] [fun e=>Tab e,fun e=>Rms d e y ks,fun e=>SlO 7 bJ bX e A y,fun e=>RZ e (I,qS F H J,qS C z B) q]/\L=q) ?_ ?_)
 .
  refine aa a [.v (qP D 2),.v (qP D 4),.o (qS C z B) 2 4 1,.v (nV z)] ?_;cases S:(decide ((0:Int)<(z:Int)))
  .
   have zd:=oF S;refine lB 16 S (ah (CG.skip ?_));intro a_ Q;exact ⟨_,⟨0,h9,rfl,a.to _ _,((Hx a.f.r.2.1 oM).symm)⟩,Q.to _ kR⟩
  have zd:=oT S;refine lB 16 S (ak (kQ (lL a [.v (qP D 2),.o (.agg #[.bool I,qS F H J,qS C z B]) 2 2 3] (ar 19 a (Kh (.agg #[.bool I,qS F H J,qS C z B]) q (hq.mono oM) _ _ a.g (HM a.f.r.2.1 oM) a.f.1) (fun _ zj a=>lL a [.v (qP M 2)] (lP 0 2 (qc q) a (fun _ a=>lD ?_)))))));intro a_ Q;exact ⟨_,⟨q,zj,rfl,a.to _ _,rfl⟩,Q.to _ kR⟩
 rintro _ _ ⟨L,zk,rfl,a,X⟩;refine cQ (aa a ac (aZ ?_));replace a:=a.nil 51 9;replace a:=a.add (K:=fun e=>Tms d e ([]) (ks.take 0)) (Tms.nil);refine bH _ (CG.loop (fun μ_ Γ w_=>∃ (k:Nat)(u:Z9)(j:Nat)(x:List PTm)(e:Hp),μ_=y.length-k/\Γ=[(1,pB D),(2,pB V),(3,pB M),(4,nV k)]/\SS w h w_ e [⟨M,51,pG op n L s u ((x).length) j⟩,⟨V,51,[iV 0,iV 0,qF,uV 0,eS,uV 0,eS,eS,sZ]⟩,⟨D,31,bJ ⟨op,n,I,F,H,J,C,z,B,s,A,y.length,c⟩⟩] [⟨51,9,u,j,(x).length,(x).flatMap dd⟩] [fun e=>Tms d e x (ks.take k),fun e=>Tab e,fun e=>Rms d e y ks,fun e=>SlO 7 bJ bX e A y,fun e=>RZ e (I,qS F H J,qS C z B) q]/\k<=y.length) _ ⟨0,none,0,[],zk,rfl,rfl,a.to _ _,NY _⟩ ?_);rintro _ _ _ ⟨k,u,j,x,_,bb,rfl,a,hk⟩;have W:=(a.f.1).len;rw[MV] at W
 refine cQ (aa a [.c,.v (qP D 6),.o (qS A y.length c) 2 6 1,.v (nV y.length)] ?_);cases U:(decide ((k:Int)<(y.length:Int)))
 .
  have ze:=oF U;refine lB 25 U (ah (CG.exit ?_))
  show CG _ _ _ _ _ _ _ _
  refine aA ?_;have Y:k=ks.length:=by omega
  obtain ⟨_,a,zi⟩:=a.pubr 0 (A:=u) (c:=j) (l:=x) (f:=dd) (ty:=51) (sz:=9) cM (fun _=>rfl);exact lL a [.o (bW ⟨op,n,L,s,u,(x).length,j⟩) 0 0 9] (lP 1 0 (dd ⟨op,n,L,s,u,(x).length,j⟩) a (fun _ a=>ae a [(1,0,9)] (bW ⟨op,n,L,s,u,(x).length,j⟩) (⟨⟨op,n,L,s,u,x.length,j⟩,rfl,by subst X;exact TmH.mk (by have x_:=(a.f.2.1);rw[Y,y8] at x_;exact x_) zi a.f.1⟩)))
 have ze:=oT U;refine lB 25 U (ak (cK (cQ (kZ (CG.region ⟨((Value.slice u ((x).length) j).ownBlock.toList),none⟩ 10 [] mixed kR a.g ao (a.ro_lt 0 (ty:=51) (sz:=9) (A:=u) (c:=j) (m:=(x).length) (cs:=(x).flatMap dd)) ?_)))));refine eV 0 28 (qP M 8) (eO 1 29 [(0,8,1)] (qS u ((x).length) j) a ?_ (hM:=fun p Z=>by obtain rfl:=ti.1 Z;exact a.ro_ne 0 0 (ty:=51) (sz:=9) (A:=u) (c:=j) (m:=(x).length) (cs:=(x).flatMap dd)));refine eV 2 30 (qP D 6) (eO 3 31 [(2,6,1)] (qS A y.length c) a ?_ (hM:=fun p Z=>by obtain rfl:=ti.1 Z;exact a.ro_ne 2 0 (ty:=51) (sz:=9) (A:=u) (c:=j) (m:=(x).length) (cs:=(x).flatMap dd)));refine eV 4 32 (nV k) (eX 5 33 A y.length c 7 (k:Nat) k ((a.f.r.2.1).ok oM) (eH 6 34 (bO (y.getD k bX)) a ((a.f.r.2.1).el k oM) ?_ (hM:=a.ro_jk 0 (ty:=51) (sz:=9) (A:=u) (c:=j) (m:=(x).length) (cs:=(x).flatMap dd))));refine eC 7 35 a (fun _ _ a=>ih (y.getD k bX) (ks.getD k di) _ _ a.g ((a.f.r.1).at_ k oM) (hW k oM) a.f.2.1) ?_;rintro _ _ _ _ _ a ⟨O,rfl,hpk⟩;replace a:=(a.add (K:=fun e=>TmH d e O (ks.getD k di)) hpk);refine eR 8 36 51 1 (pC O) a (fun zl _ _ a=>eY 9 37 0 51 9 j u x dd O 112 zl (.agg #[iV 0,iV 0,qF,uV 0,eS,uV 0,eS,eS,sZ]) a (fun _ f_=>f_.1) (fun b hb=>O3.2 hb) (fun zf zg _ _ a=>bM a (fun _ zm a=>tV 10 38 (qP M 8) (tP 11 0 8 ([qS zf ((x++[O]).length) zg]) a (fun _ a=>tN (kQ (lL a ac (bw 27 ((k:Nat)+1) (k+1) ?_))))))));refine lL a ac (lD ?_);intro a_ Q;replace a:=(a.tl.tl.tl.add (K:=fun e=>Tms d e (x++[O]) (ks.take (k+1))) (by rw[mK di oM];exact (a.f.r.1).snoc a.f.2.1));refine ⟨_,_,?_,⟨k+1,zf,zg,x++[O],zm,rfl,rfl,a.to _ _,oM⟩,Q.to _ kR⟩
 omega
theorem uT (sm:ByteArray->Prop):∀ (d:Nat) (r:RTm) (t:Tm) (w:World) (h:Hp),G w h->RmH d h r t->ph sm d t->Tab h->Calls Tryz.prog 9 #[bO r] w (Ret w h (fun v h1=>∃ p,v=bW p/\TmH d h1 p t))
  | 0,_,_,_,_,_,x,_,_=>x.elim
  | d+1,r,t,w,h,g,x,wf,tb=>by
    obtain ⟨op,n,b,F,f,e,o,D,B,q,s,A,c,z,ks,rfl,rfl,I,u,j,a⟩:=x.open;obtain ⟨C,y,l,J,i,H⟩:=wf;exact AT sm d (fun r t w h=>uT sm d r t w h) op n b F f e o D B q s A c z ks u C y l J i H w h g I j a tb
theorem Cn (way w h)(g:G w h):CR 6 #[iV way] w h (fun v h1=>∃ (D:Z9)(c_:Nat)(ns:List ByteArray),v=.slice D ns.length c_/\ns.length<=c_/\NsD ns/\SlO 1 bA ⟨#[]⟩ h1 D ns):=by
 have a:=sS g;refine go Tryz.func6 [(0,iV way)] rfl (aa a ac (ag (aa a ac (ar 4 a (fh (way) 9 oM oM _ _ a.g) (fun w2 L a=>?_)))));have J:=cY (way) 9 oM;refine aZ (aA ?_);cases e:(((az (way) 9:Nat):Int) == (0:Int))
 .
  have y:=aj e;refine lB 6 e (lL a ac (ah (aA ?_)));cases i:(((az (way) 9:Nat):Int) == (1:Int))
  .
   have x:=aj i;refine lB 9 i (lL a ac (ah (aA ?_)));cases c:(((az (way) 9:Nat):Int) == (2:Int))
   .
    have p:=aj c;refine lB 12 c (lL a ac (ah (aA ?_)));cases j:(((az (way) 9:Nat):Int) == (3:Int))
    .
     have u:=aj j;refine lB 15 j (lL a ac (ah (cK (aA (lC 17 a (CP _ _ a.g) ?_)))));rintro _ M K a ⟨I,rfl,z⟩;replace a:=a.aS z;exact lL a ac (ae a [] (qS (sB I) 3 3) (⟨_,_,dS,rfl,by decide,.inr (.inr (.inr (.inr (.inl rfl)))),a.f.1⟩))
    have u:=eq_of_beq j;refine lB 15 j (lL a ac (ak (aA (lR 16 9 4 ([.string (⟨#[122]⟩),.string (⟨#[121]⟩),.string (⟨#[120]⟩),.string (⟨#[119]⟩)]) a (fun F _ _ a=>?_)))));replace a:=a.aS (SlO.of_flat (sz:=1) (f:=bA) (d:=⟨#[]⟩) (b:=F) (o:=0) (l:=([⟨#[122]⟩,⟨#[121]⟩,⟨#[120]⟩,⟨#[119]⟩]:List ByteArray)) (fun _=>rfl) a.f.1);exact lL a ac (ae a [] (qS (sB F) 4 4) (⟨_,_,([⟨#[122]⟩,⟨#[121]⟩,⟨#[120]⟩,⟨#[119]⟩]:List ByteArray),rfl,by decide,.inr (.inr (.inr (.inl rfl))),a.f.1⟩))
   have p:=eq_of_beq c;refine lB 12 c (lL a ac (ak (aA (lR 13 9 4 ([.string (⟨#[109,97,120]⟩),.string (⟨#[120]⟩),.string (⟨#[121]⟩),.string (⟨#[122]⟩)]) a (fun H _ _ a=>?_)))));replace a:=a.aS (SlO.of_flat (sz:=1) (f:=bA) (d:=⟨#[]⟩) (b:=H) (o:=0) (l:=([⟨#[109,97,120]⟩,⟨#[120]⟩,⟨#[121]⟩,⟨#[122]⟩]:List ByteArray)) (fun _=>rfl) a.f.1);exact lL a ac (ae a [] (qS (sB H) 4 4) (⟨_,_,([⟨#[109,97,120]⟩,⟨#[120]⟩,⟨#[121]⟩,⟨#[122]⟩]:List ByteArray),rfl,by decide,.inr (.inr (.inl rfl)),a.f.1⟩))
  have x:=eq_of_beq i;refine lB 9 i (lL a ac (ak (aA (lR 10 9 4 ([.string (⟨#[120]⟩),.string (⟨#[121]⟩),.string (⟨#[122]⟩),.string (⟨#[120]⟩)]) a (fun B _ _ a=>?_)))));replace a:=a.aS (SlO.of_flat (sz:=1) (f:=bA) (d:=⟨#[]⟩) (b:=B) (o:=0) (l:=([⟨#[120]⟩,⟨#[121]⟩,⟨#[122]⟩,⟨#[120]⟩]:List ByteArray)) (fun _=>rfl) a.f.1);exact lL a ac (ae a [] (qS (sB B) 4 4) (⟨_,_,([⟨#[120]⟩,⟨#[121]⟩,⟨#[122]⟩,⟨#[120]⟩]:List ByteArray),rfl,by decide,.inr (.inl rfl),a.f.1⟩))
 have y:=eq_of_beq e;refine lB 6 e (lL a ac (ak (aA (lR 7 9 2 ([.string (⟨#[120]⟩),.string (⟨#[121]⟩)]) a (fun C _ _ a=>?_)))));replace a:=a.aS (SlO.of_flat (sz:=1) (f:=bA) (d:=⟨#[]⟩) (b:=C) (o:=0) (l:=([⟨#[120]⟩,⟨#[121]⟩]:List ByteArray)) (fun _=>rfl) a.f.1);exact lL a ac (ae a [] (qS (sB C) 2 2) (⟨_,_,([⟨#[120]⟩,⟨#[121]⟩]:List ByteArray),rfl,by decide,.inl rfl,a.f.1⟩))
theorem Bw (A c)(l:List Int)(n way)(hn:n<=100)(z:l.length<=(2^63-1))(hz:p7 l)(w h)(g:G w h)(B:Si A l h):CR 7 #[.slice A l.length c,nV n,iV way] w h (fun v h1=>∃ (y:Z9)(c_:Nat)(ts:List RT)(fs:List Rat),v=.slice y ts.length c_/\ts.length<=c_/\Sr y ts h1/\RTs h1 ts fs/\(∀ i,LQ 1 (fs.getD i 0))/\fs.length<=n+1):=by
 have a:=((sS g).aS B);refine go Tryz.func7 [(0,qS A l.length c),(1,nV n),(2,iV way)] rfl (aa a ac (ag (aa a ac (ar 8 a (fh (way) 11 oM oM _ _ a.g) (fun w2 I a=>?_)))));have C:=cY (way) 11 oM;cases d:(((az (way) 11:Nat):Int) == (10:Int))
 .
  have p:=aj d;refine lB 9 d (ah (cK (aa a ax (lC 14 a (Jm A c l n oM z hz _ _ a.g a.f.1) ?_))));rintro _ J H a ⟨x,u,tr,rfl,e,o,j⟩;replace a:=((a.aS o).aT j);exact lL a ac (ae a [] (qS x tr.length u) (⟨_,_,tr,_,rfl,e,a.f.2.1,a.f.1,qD _ _,by rw[n5];omega⟩))
 have p:=eq_of_beq d;refine lB 9 d (ak (kQ (lL a ac (bw 11 ((n:Nat)+1) (n+1) ?_))));refine lL a ac (aG (lL a ax (lC 14 a (Jm A c l (n+1) oM z hz _ _ a.g a.f.1) ?_)));rintro _ F D a ⟨x,u,tr,rfl,e,o,j⟩;replace a:=((a.aS o).aT j);exact lL a ac (ae a [] (qS x tr.length u) (⟨_,_,tr,_,rfl,e,a.f.2.1,a.f.1,qD _ _,by rw[n5];omega⟩))
theorem He (A d)(e:List Int)(B:e.length<=(2^63-1))(hz:p7 e)(i)(j:i<=1000)(w h)(g:G w h)(x:Si A e h):CR 5 #[.slice A e.length d,nV i] w h (fun v h1=>∃ (r:RTm)(t:Tm),v=bO r/\RmH (i+1) h1 r t/\GrT (i+1) t):=by
 have a:=((sS g).aS x);refine go Tryz.func5 [(0,qS A e.length d),(1,nV i)] rfl (aA (lA 4 31 (bJ ⟨0,0,false,none,0,0,none,0,0,⟨#[]⟩,none,0,0⟩) a (fun z w2 J a=>aG (lL a [.c,.v (.agg #[qS A e.length d,iV 0])] (lA 7 68 ([qS A e.length d,iV 0]) a (fun o L I a=>lL a ac (gH 9 (Gf o i rfl A d e B hz i rfl j 0 (NY _) _ _ a.g (a.own 0) (a.jk 0) a.f.1) ?_)))))));rintro _ H F y ⟨r,t,l,rfl,p,D,hR,u⟩;replace a:=(a.stepM 0 y D).to [⟨o,68,[qS A e.length d,nV l]⟩,⟨z,31,bJ ⟨0,0,false,none,0,0,none,0,0,⟨#[]⟩,none,0,0⟩⟩] [];replace a:=(a.add (K:=fun C=>RmH (i+1) C r t) hR);exact lP 1 0 (bJ r) a (fun _ a=>ae a [(1,0,7)] (bO r) (⟨r,t,rfl,a.f.1,u⟩))
section laws
variable {M:Ms}{P:Program}{ops:Array Oper}{Q:Exit->Act->World->Prop}{k0:Nat}
theorem E.eventN {h0:Hp}{AL:List Al}{L:Array Bool}{a:Act}{w:World}{h:Hp}(I:List Nat)(i0)(V:i0∈I)
    (C:∀ i∈I,i<ops.size/\i<k0)(K:Region.noSelect ops=true)(hun:L.getD i0 true=false)
    (O:∀ j X,ops[j]?=some X->L.getD j true=false->j ∉ I->(∀ x∈AL,x.i≠j)->∃ e∈X.after,Region.binds .any e=true/\L.getD e.on false=false/\∀ x∈AL,x.i≠e.on)
    (J:∀ e∈(am ops i0).after,Region.binds .any e=true->L.getD e.on false=true)
    (hal:∀ i∈I,∀ x∈AL,x.i≠i/\x.t ∉ (am ops i).looksAt ops/\(am ops i).dst≠some x.t)(Y:∀ x∈AL,AlOk P ops k0 x)(hM:∀ b∈M.l,b<h0.size)(g:G w h)(hsz:h0.size<=h.size)
    (H:∀ i∈I,L.getD i true=false->∀ w' y,Up w h w' y->OpR P ops (am ops i) a w' (fun v o=>∃ f,UpM M.l w' y o f/\E M P ops Q k0 h0 AL (L.setIfInBounds i true) (a.put (am ops i).dst v) o f)):E M P ops Q k0 h0 AL L a w h:=by
  have key:∀ (m:Nat) (T:List Al),T.length=m->∀ w' y,Up w h w' y->∀ (S:List SA),(S.map (·.1)++T).Perm AL->(∀ s∈S,Blk h0 w' y s)->(S.map (·.2)).Nodup ->
      A M P ops Q k0 (e7 L S) (addA a S) w':=by
    intro m;induction m using Nat.strongRecOn with
    | _ m ih =>
      intro T hT w' y u S B W hn;have p:∀ i∈I,∀ s∈S,s.1.i≠i/\s.1.t ∉ (am ops i).looksAt ops/\(am ops i).dst≠some s.1.t:=fun i hi s d=>hal i hi _ (je B d)
      refine A.intro (fun h0'=>?_) (fun j hj=>?_)
      . exfalso
        have:i0∈Region.ready .any ops (e7 L S):=mem_ready.2 ⟨by rw[jt true (fun s d=>(p i0 V s d).1)];exact hun,_,bK (C i0 V).1,fun e U D=>kV (J e U D)⟩;rw[h0'] at this
        cases this
      . by_cases hji:j∈I
        . have z:=bK (ops:=ops) (C j hji).1
          have c:L.getD j true=false:=by
            obtain ⟨c,_⟩:=mem_ready.1 hj;exact ib c
          refine OpR.wpOp z ((H j hji c w' y u).addA (Region.noSelect_spec K j _ · · z) S (fun s d=>(p j hji s d).2.1)) ?_;rintro v o ⟨f,u2,H3⟩;refine ⟨Rl.mo (C j hji).2 u2.mo,?_⟩;rw[<-n3 L S j (fun s d=>(p j hji s d).1),<-mU a S _ v (fun s d=>(p j hji s d).2.2)];exact H3 o f (Up.refl u2.g) S T B (fun s d=>(W s d).up u2 hM) hn
        . obtain ⟨c,X,hoj,F⟩:=mem_ready.1 hj
          have hx:∃ x∈AL,x.i=j:=by
            refine Classical.byContradiction fun hno=>?_
            obtain ⟨e,U,D,hf,hne⟩:=O j X hoj (ib c) hji (fun x hx U=>hno ⟨x,hx,U⟩);have:=F e U D;rw[jt false (fun s d=>hne _ (je B d)),hf] at this
            cases this
          obtain ⟨x,hxA,rfl⟩:=hx;have hxT:=jm B hxA hj;exact pp Y hM u.g (ep hsz u.gr.size) B W hn hxT (fun w1 h1 S1 T1 u1 Z hb1 hn1 hlt=>ih T1.length oM T1 rfl w1 h1 (u.trans u1) S1 Z hb1 hn1)
  exact fun w' y u S T B W hn=>key _ T rfl w' y u S B W hn
end laws
section dag
variable {M:Ms}{P:Program}{n:Nat}{N R:Po}{X:Nat->Po}{ops:Array Oper}{k0:Nat}{hr:Hp}{AL:List Al}{L:Array Bool}{Γ:cC}{w:World}{h:Hp}
def SrD (P:Program)(ops:Array Oper)(Γ:cC)(i:Nat)(w:World)(h:Hp)(Φ:Value->World->Hp->Prop):Prop :=
  (∃ v w'' h'',(execOp (ev Γ) (am ops i)).run P w=.ok (.value v) w''/\Up w h w'' h''/\Φ v w'' h'') \/
  (∃ f args,(execOp (ev Γ) (am ops i)).run P w=.ok (.enter f args) w/\Calls P f args w (fun e w''=>∃ v h'',e=.returned v/\Up w h w'' h''/\Φ v w'' h''))
theorem SrD.mono {i:Nat}{Φ Φ':Value->World->Hp->Prop}(x:SrD P ops Γ i w h Φ)(k:∀ v w' a,Up w h w' a->Φ v w' a->Φ' v w' a):SrD P ops Γ i w h Φ':=by
 rcases x with ⟨v,w',a,e,u,p⟩|⟨f,args,e,c⟩
 ·exact .inl ⟨v,w',a,e,u,k _ _ _ u p⟩
 ·exact .inr ⟨f,args,e,c.mono fun e w' ⟨v,a,d,u,p⟩=>⟨v,a,d,u,k _ _ _ u p⟩⟩
theorem K7 {Γ:cC}{o:Oper}(h:o.guard.isNone=true):bu ops Γ o=some true:=by
 unfold bu;rw[PZ.1 h]
theorem SrD.opR {i:Nat}{a:Act}{K:Value->World->Hp->Prop}(B:Region.noSelect ops=true)(hi:i<ops.size)(hk:bc Γ (am ops i)=true)(o:(am ops i).guard.isNone=true)(j:Kn n a Γ)(x:SrD P ops Γ i w h K):
  OpR P ops (am ops i) a w (fun v w'=>∃ d,UpM M.l w h w' d/\K v w' d):=by
 have y:=j.exec (Region.noSelect_spec B i _ · · (bK hi)) hk;refine ⟨j.want (K7 o),?_⟩;rw[y]
 rcases x with ⟨v,w',d,e,u,p⟩|⟨f,args,e,c⟩
 ·exact .inl ⟨v,w',e,d,u.m M.l,p⟩
 ·exact .inr (.inr ⟨f,args,e,c.mono fun e w' ⟨v,d,z,u,p⟩=>⟨v,z,d,u.m M.l,p⟩⟩)
structure DS where
  i:Nat
  t:Nat
  K:Value->Hp->Prop
  D:List (Nat × Value)
structure DOk (P:Program) (ops:Array Oper) (Γ:cC) (s:DS):Prop where
  known:bc (s.D++Γ) (am ops s.i)=true
  run:∀ w h,G w h->SrD P ops (s.D++Γ) s.i w h (fun v _ h''=>s.K v h'')
  stay:∀ v h h',Gw h h'->s.K v h->s.K v h'
theorem DOk.row (i t ty m cs)(D:List (Nat × Value))(hk:bc (D++Γ) (am ops i)=true:=by kernel_rfl)
  (hv:∀ w,(execOp (ev (D++Γ)) (am ops i)).run P w=.ok (.value (.slice (some ⟨w.heap.size,0,none⟩) m m)) (w.alloc (.cells cs.toArray ty (0,0))):=by intro _;kernel_rfl):DOk P ops Γ ⟨i,t,fun v h=>∃ b,v=.slice (some ⟨b,0,none⟩) m m/\Seg h b 0 cs,D⟩ :=
 ⟨hk,fun w h g=>by
  have u:Up w h (w.alloc (.cells cs.toArray ty (0,0))) _:=Up.allocAny g (.cells cs.toArray ty (0,0)) (.cells cs.toArray ty (0,0)) (.inl rfl);exact .inl ⟨_,_,_,hv w,u,_,rfl,by rw[g.size];exact Seg.new cs ty⟩,fun v h a u ⟨b,e,s⟩=>⟨b,e,s.gw u⟩⟩
theorem DOk.call (i t){f:FuncId}{args:Array Value}(d)(D:List (Nat × Value))(c:∀ w h,G w h->Calls P f args w (Ret w h fun v _=>v=d))(hk:bc (D++Γ) (am ops i)=true:=by kernel_rfl)
  (hv:∀ w,(execOp (ev (D++Γ)) (am ops i)).run P w=.ok (.enter f args) w:=by intro _;kernel_rfl):DOk P ops Γ ⟨i,t,fun v _=>v=d,D⟩ :=
 ⟨hk,fun w h g=>.inr ⟨f,args,hv w,(c w h g).mono fun e w' ⟨v,j,l,u,a⟩=>⟨v,j,l,u,a⟩⟩,fun _ _ _ _ x=>x⟩
def sY (ops:Array Oper)(L:Array Bool)(i:Nat):Bool:=(am ops i).after.all fun e=>!Region.binds .any e || L.getD e.on false
def Mc (n:Nat)(ops:Array Oper)(k0:Nat)(AL:List Al)(L:Array Bool)(I:List (Nat × Nat)):Bool :=
  Region.noSelect ops && (I.all fun x=>decide (x.1<ops.size) && decide (x.1<k0) && vp ops AL x.1 (am ops x.1) && ((am ops x.1).dst == some x.2) && decide (x.2<n) && (am ops x.1).guard.isNone) &&
  (o2 ops.size).all fun j=>L.getD j true || I.any (·.1 == j) || AL.any (·.i == j) || (am ops j).after.any fun e=>Region.binds .any e && (L.getD e.on false == false) && AL.all (·.i != e.on)
abbrev SK:=Nat × Nat × List Nat
def oa (n:Nat)(ops:Array Oper)(k0:Nat)(AL:List Al)(Lf:Array Bool):Nat->Array Bool->List SK->Bool
  | 0,L,D=>D.isEmpty && (L.toList == Lf.toList)
  | m + 1,L,D=>((D.filter fun s=>sY ops L s.1).any fun s=>L.getD s.1 true == false) && Mc n ops k0 AL L ((D.filter fun s=>sY ops L s.1).map fun s=>(s.1,s.2.1)) &&
      (D.filter fun s=>sY ops L s.1).all fun s=>(s.2.2.all fun t=>D.all fun s'=>s'.2.1 != t) && (D.all fun s'=>s'.1 == s.1 || s'.2.1 != s.2.1) && oa n ops k0 AL Lf m (L.setIfInBounds s.1 true) (D.filter fun s'=>s'.1 != s.1)
def DS.k (s:DS):SK:=(s.i,s.t,s.D.map (·.1))
theorem ut {β:Type}{f:DS->β}:∀ {D:List DS},(D.map f).Nodup->∀ {s s':DS},s∈D->s'∈D->f s=f s'->s=s'
  | x :: D,h,s,s',hs,hs',e=>by
    rw[A7,List.nodup_cons] at h;rcases hC.1 hs with e1|hs
    . rcases hC.1 hs' with e2|hs'
      . rw[e1,e2]
      . exact absurd (g3.2 ⟨s',hs',by rw[<-e,e1]⟩) h.1
    . rcases hC.1 hs' with e2|hs'
      . exact absurd (g3.2 ⟨s,hs,by rw[e,e2]⟩) h.1
      . exact ut h.2 hs hs' e
def Ent (n:Nat)(a:Act)(x:Nat × Value):Prop:=x.1<n/\a.tmps[x.1]?=some x.2
theorem Ho {t:Nat}{v:Value}{D:List (Nat × Value)}(h:(D++Γ).lookup t=some v):(∃ x∈D,x.1=t/\x.2=v)\/(Γ.lookup t=some v/\∀ x∈D,x.1≠t):=by
  induction D with
  | nil=>exact .inr ⟨h,fun x c=>by cases c⟩
  | cons x D ih =>
    rw[MR,i3] at h;cases h0:t == x.1 with
    | true=>rw[h0] at h;injection h with h;exact .inl ⟨x,N5,(by simpa using h0:t=x.1).symm,h⟩
    | false =>
      rw[h0] at h;rcases ih h with ⟨y,a,e⟩|⟨h1,h2⟩
      . exact .inl ⟨y,N6 _ a,e⟩
      . refine .inr ⟨h1,fun y a=>?_⟩
        rcases hC.1 a with rfl|a
        . exact fun e=>by subst e;simp at h0
        . exact h2 y a
theorem HU {a:Act}{D:List (Nat × Value)}(nb:n<=1000000)(c:∀ x∈D,Ent n a x):gI (D++Γ)=gI Γ:=by
  induction D with
  | nil=>rfl
  | cons x D ih =>
    rw[<-ih (fun y d=>c y (N6 _ d))];have f:=(c x N5).1;have e:((1000000:Nat) == x.1)=false:=by simp;omega
    unfold gI;rw[MR,i3,e]
theorem AY {a:Act}{D:List (Nat × Value)}(k:Kn n a Γ)(c:∀ x∈D,Ent n a x):Kn n a (D++Γ):=by
 refine ⟨k.df.trans (HU k.nb c).symm,k.sz,k.nb,fun t v d hv=>?_⟩
 rcases Ho hv with ⟨x,hx,rfl,rfl⟩|⟨h1,_⟩
 ·exact (c x hx).2
 ·exact k.has t v d h1
theorem Ent.put {a:Act}{x:Nat × Value}(e:Ent n a x){t:Nat}(v)(h:x.1≠t):Ent n (a.put (some t) v) x:=⟨e.1,by
 have:(a.put (some t) v).tmps=a.tmps.setIfInBounds t v:=by simp[Act.put]
 rw[this,Array.getElem?_setIfInBounds_ne (fun c=>h c.symm)];exact e.2⟩
theorem Ent.new {a:Act}(k:Kn n a Γ){t:Nat}(c:t<n)(v):Ent n (a.put (some t) v) (t,v):=⟨c,(k.put c v).has t v (by have:=k.nb;omega) (by rw[i3];simp)⟩
theorem Dh {a:Act}(k:Kn n a Γ){t:Nat}(d:t<n)(v)(hn:Γ.lookup t=none):Kn n (a.put (some t) v) Γ:=by
  have k2:=k.put d v;have e:((1000000:Nat) == t)=false:=by have:=k.nb;simp;omega
  refine ⟨k2.df.trans (by unfold gI;rw[i3,e]),k2.sz,k2.nb,fun s u f c=>k2.has s u f ?_⟩;rw[i3];cases h0:s == t with
  | true => have:s=t:=by simpa using h0
            subst this;rw[hn] at c;cases c
  | false=>exact c
theorem JX (z:List DS)(Γ:cC)(ok:∀ s∈z,DOk P ops Γ s)(hdt:∀ s∈z,∀ x∈s.D,∃ c∈z,c.t=x.1/\∀ v h,c.K v h->v=x.2)(hfr:∀ s∈z,Γ.lookup s.t=none)(hni:(z.map (·.i)).Nodup)(hnt:(z.map (·.t)).Nodup){Lf:Array Bool}(oks:∀ x∈AL,AlOk P ops k0 x)(hM:∀ b∈M.l,b<hr.size):
    ∀ (m:Nat) (D:List DS) (L:Array Bool) (a:Act) (w:World) (h:Hp),oa n ops k0 AL Lf m L (D.map DS.k)=true->(∀ s∈D,s∈z)->(∀ s∈z,s∈D\/∃ v,Ent n a (s.t,v)/\s.K v h)->G w h->hr.size<=h.size->Kn n a Γ ->
      (∀ w' U a',Up w h w' U->(∀ s∈z,∃ v,Ent n a' (s.t,v)/\s.K v U)->Kn n a' Γ->E M P ops (iy N R X) k0 hr AL Lf a' w' U)->E M P ops (iy N R X) k0 hr AL L a w h:=by
  intro m;induction m with
  | zero =>
    intro D L a w h C hD hI g I S K;unfold oa at C;rw[lu] at C;have e0:D=[]:=by
      cases D with
      | nil=>rfl
      | cons x D=>simp at C
    have e:L=Lf:=Array.ext' (by simpa using C.2);subst e0;subst e;exact K w h a (Up.refl g) (fun s O=>(hI s O).resolve_left (by simp)) S
  | succ m ih =>
    intro D L a w h C hD hI g I S K;unfold oa at C;simp only[lu,s9,o0] at C;obtain ⟨⟨⟨V,hk0,hk1⟩,H⟩,W⟩:=C
    unfold Mc at H;simp only[lu,o0,decide_eq_true_eq,beq_iff_eq] at H;obtain ⟨⟨B,J⟩,Q⟩:=H
    have o:∀ i,i∈((D.map DS.k).filter fun s=>sY ops L s.1).map (·.1)->∃ s∈D,s.i=i/\DS.k s∈(D.map DS.k).filter fun s=>sY ops L s.1:=fun i hi=>by
      obtain ⟨x,f,rfl⟩:=g3.1 hi;obtain ⟨hx1,F⟩:=PT.1 f;obtain ⟨s,O,rfl⟩:=g3.1 hx1;exact ⟨s,O,rfl,f⟩
    refine E.eventN (((D.map DS.k).filter fun s=>sY ops L s.1).map (·.1)) V.1 (g3.2 ⟨V,hk0,rfl⟩) (fun i hi=>?_) B (by simpa using hk1) ?_ ?_ (fun i hi=>?_) oks hM g I (fun i hi hun w' U u=>?_)
    . obtain ⟨s,O,rfl,f⟩:=o i hi
      have:=J (s.i,s.t) (g3.2 ⟨_,f,rfl⟩);exact ⟨this.1.1.1.1.1,this.1.1.1.1.2⟩
    . intro j oj hj hun hji hal
      have hlt:=(Array.getElem?_eq_some_iff.1 hj).1;have e:oj=am ops j:=by have:=bK (ops:=ops) hlt;rw[hj] at this;injection this
      have:=Q j (pa.2 hlt)
      simp only[Bool.or_eq_true,hun,Bool.false_eq_true,false_or,s9,Array.any_eq_true,beq_iff_eq,lu] at this;rcases this with (⟨x,f,hxe⟩|⟨x,f,hxe⟩)|⟨x,f,⟨hb,hL⟩,hno⟩
      . exfalso
        obtain ⟨y,hy,rfl⟩:=g3.1 f;exact hji (g3.2 ⟨y,hy,hxe⟩)
      . exact absurd hxe (hal x f)
      . rw[e]
        refine ⟨_,Array.getElem_mem f,hb,hL,fun y hy=>?_⟩;have:=(o0.1 hno) y hy
        simpa using this
    . intro e he hb
      have:=(PT.1 hk0).2
      unfold sY at this;have:=(Array.all_eq_true_iff_forall_mem.1 this) e he
      simpa [hb] using this
    . obtain ⟨s,O,rfl,f⟩:=o i hi
      have:=J (s.i,s.t) (g3.2 ⟨_,f,rfl⟩);exact j4 this.1.1.1.2
    . obtain ⟨s,O,rfl,f⟩:=o i hi
      have hi2:=J (s.i,s.t) (g3.2 ⟨_,f,rfl⟩);obtain ⟨⟨⟨⟨⟨q1,q2⟩,q3⟩,q4⟩,q5⟩,q6⟩:=hi2;obtain ⟨⟨r1,r2⟩,r3⟩:=W _ f;have p:=hD s O;have okk:=ok s p
      have Y:∀ x∈s.D,Ent n a x:=fun x F=>by
        obtain ⟨c,d,e1,e2⟩:=hdt s p x F
        rcases hI c d with hm|⟨v,hv,hK⟩
        . exfalso
          have:=r1 x.1 (g3.2 ⟨x,F,rfl⟩);have:=this (DS.k c) (g3.2 ⟨c,hm,rfl⟩);have:c.t≠x.1:=by simpa [DS.k] using this
          exact this e1
        . have:=e2 v _ hK
          rw[e1,this] at hv;exact hv
      have Z:=AY S Y;rw[show (am ops s.i).dst=some s.t from q4];refine SrD.opR B q1 okk.known q6 Z (SrD.mono (okk.run w' U u.g) fun v w'' h'' u2 hK=>?_);refine ih (D.filter fun c=>c.i != s.i) _ _ w'' h'' ?_ (fun c d=>hD c (PT.1 d).1) (fun c d=>?_) u2.g (ep I (u.trans u2).gr.size) (Dh S q5 v (hfr s p)) (fun w3 h3 a3 u3=>K w3 h3 a3 ((u.trans u2).trans u3))
      . have e:(D.map DS.k).filter (fun c=>c.1 != s.i)=(D.filter fun c=>c.i != s.i).map DS.k:=by rw[List.filter_map];rfl
        rw[<-e];exact r3
      . by_cases es:c=s
        . subst es;exact .inr ⟨v,Ent.new S q5 v,hK⟩
        . rcases hI c d with hm|⟨v',hv',hK'⟩
          . refine .inl (PT.2 ⟨hm,?_⟩)
            simp only[bne_iff_ne,ne_eq];exact fun e=>es (ut hni d p e)
          . exact .inr ⟨v',hv'.put v (fun e=>es (ut hnt d p e)),(ok c d).stay _ _ _ (u.trans u2).gr.gw hK'⟩
def sU:List DS->List Value->Hp->Prop
  | [],vs,_=>vs=[]
  | s::D,vs,h=>∃ v vs',vs=v::vs'/\s.K v h/\sU D vs' h
def IG:List DS->List Value->List (Nat × Value)
  | s::D,v::vs=>(s.t,v)::IG D vs
  | _,_=>[]
theorem rY {a:Act}{h:Hp}:∀ (D:List DS),(∀ s∈D,∃ v,Ent n a (s.t,v)/\s.K v h)->∃ vs,sU D vs h/\∀ x∈IG D vs,Ent n a x
  | [],_=>⟨[],rfl,fun x c=>by cases c⟩
  | s::D,H=>by
    obtain ⟨vs,h1,e⟩:=rY D (fun s f=>H s (N6 _ f));obtain ⟨v,i,d⟩:=H s N5;refine ⟨v::vs,⟨v,vs,rfl,d,h1⟩,fun x c=>?_⟩
    rcases hC.1 c with rfl|c
    . exact i
    . exact e x c
def KB (L:Array Bool)(D:List SK):Array Bool:=D.foldl (fun L x=>L.setIfInBounds x.1 true) L
def DagOk (P:Program)(ops:Array Oper)(Γ:cC):List DS->Prop
  | []=>True
  | s::D=>DOk P ops Γ s/\DagOk P ops Γ D
theorem DagOk.nil {P:Program}{ops:Array Oper}{Γ:cC}:DagOk P ops Γ []:=trivial
theorem DagOk.cons {P:Program}{ops:Array Oper}{Γ:cC}{s:DS}{D:List DS}(h:DOk P ops Γ s)(r:DagOk P ops Γ D):DagOk P ops Γ (s::D):=⟨h,r⟩
theorem BQ {P:Program}{ops:Array Oper}{Γ:cC}:∀ {D:List DS},DagOk P ops Γ D->∀ s∈D,DOk P ops Γ s
  | _::_,h,s,hs=>by
    rcases hC.1 hs with rfl|hs
    . exact h.1
    . exact BQ h.2 s hs
theorem Rg.dag (D:List DS)(ks:List SK)(p:D.map DS.k=ks)(ok:DagOk P ops Γ D)(y:∀ s∈D,∀ x∈s.D,∃ s'∈D,s'.t=x.1/\∀ v h,s'.K v h->v=x.2)
  (H:∀ w' e vs,Up w h w' e->sU D vs e->EG M P n N R X ops k0 hr AL (KB L ks) (IG D vs++Γ) w' e)
  (B:oa n ops k0 AL (KB L ks) ks.length L ks=true:=by kernel_rfl)(l:(ks.all fun x=>(Γ.lookup x.2.1).isNone)=true:=by kernel_rfl)(f:(ks.map (·.1)).Nodup:=by decide)(i:(ks.map (·.2.1)).Nodup:=by decide):EG M P n N R X ops k0 hr AL L Γ w h:=by
 intro c hM g j a F;subst p;have d:∀ s∈D,Γ.lookup s.t=none:=fun s z=>by
  have:=o0.1 l (DS.k s) (g3.2 ⟨s,z,rfl⟩);exact PZ.1 this
 rw[List.map_map] at f i;refine JX D Γ (BQ ok) y d f i c hM _ D L a w h (by rw[PH] at B;exact B) (fun _ h=>h) (fun s z=>.inl z) g j F (fun w' e J u I o=>?_);obtain ⟨vs,h1,C⟩:=rY D I;exact H w' e vs u h1 c hM u.g (ep j u.gr.size) J (AY o C)
end dag
section
variable {M:Ms}{P:Program}{n:Nat}{N R:Po}{X:Nat->Po}{ops:Array Oper}{k0:Nat}{hr:Hp}{AL:List Al}{L:Array Bool}{Γ:cC}{w:World}{h:Hp}{w0:World}{h0:Hp}{B:List Bx}{Rs:List Rw}{F:List (Hp->Prop)}{M2:List Nat}{wa:World}{ha:Hp}
theorem SS.pubM (s:SS w0 h0 w h B Rs F)(u:UpM M2 wa ha w h)(j)(o:ha.size<=(aw B j).b)(y:decide (j<B.length)=true:=by kernel_rfl):∃ d,SS w0 h0 w d (B.eraseIdx j) Rs F/\UpM M2 wa ha w d/\Seg d (aw B j).b 0 (aw B j).vs:=by
 have c:=oT y;obtain ⟨d,l,gw,C,D,a⟩:=s.st.pubX j c;have z:=bC c;refine ⟨d,⟨s.g0,l,fun r hr=>((s.ro r hr).out (g3.2 ⟨_,z,rfl⟩) a).sub _ (fun b i=>?_),s.ap,s.mo,s.f.gw s.mo gw⟩,⟨u.mo,⟨ep u.gr.size gw.size,fun b i=>?_⟩,l.up.g⟩,C⟩
 ·obtain ⟨x,p,e⟩:=g3.1 i
  exact g3.2 ⟨x,List.mem_of_mem_eraseIdx p,e⟩
 ·exact (a b (fun e=>by subst e;omega)).trans (u.gr.blk b i)
theorem LA (i t){f:FuncId}{args:Array Value}{Φ:World->Hp->Value->Hp->Prop}(s:SS w0 h0 w h B Rs F)(m:UpM M2 wa ha w h)(c:∀ w1 h1,SS w0 h0 w1 h1 B Rs F->Calls P f args w1 (Ret w1 h1 (Φ w1 h1)))(H:∀ w1 h1 v w' a,UpM M2 wa ha w' a->SS w0 h0 w' a B Rs F->Φ w1 h1 v a->EG M P n N R X ops k0 hr AL (L.setIfInBounds i true) ((t,v)::Γ) w' a)(o:Gq n ops k0 AL L Γ i t=true:=by kernel_rfl)(hv:∀ w,(execOp (ev Γ) (am ops i)).run P w=.ok (.enter f args) w:=by intro _;kernel_rfl):EG M P n N R X ops k0 hr AL L Γ w h :=
 Rg.call i t f args (jK o).1 (jK o).2 hv (fun w1 h1 u=>(c w1 h1 (s.step u)).mono fun e w' ⟨v,a,p,d,j⟩=>⟨v,a,p,d.m M.l,H w1 h1 v w' a (m.trans ((u.m _).trans (d.m _))) ((s.step u).step d) j⟩)
theorem K4 {F1:List (Hp->Prop)}{wr:World}{x:Al}(a:List Bx)(j:SS w0 h0 wr hr B Rs F1)(s:SS w0 h0 w h (a++B) Rs F)(m:UpM M2 wa ha w h)(l:ha.size<=hr.size)(t vs)(H:∀ w' c b,UpM M2 wa ha w' c->ha.size<=b->SS w0 h0 w' c (⟨b,t,vs⟩::(a++B)) Rs F->AG M P n N R X ops k0 (L.setIfInBounds x.i true) ((x.t,.pointer (some ⟨b,0,none⟩))::Γ) w')(d:(gX ops [x] L && decide (x.t<n))=true:=by kernel_rfl)(e:x.o=.cells vs.toArray t (0,0):=by kernel_rfl)(f:a.all (fun y=>y.t != t)=true:=by kernel_rfl):EG M P n N R X ops k0 hr [x] L Γ w h :=
 Rg.fin1 d (fun w' c b u k=>H w' c b (m.trans (u.m _)) (ep l k.2.2) (SS.blkp a j (s.step u) k t vs e f))
theorem Mh (i j o cs)(s:SS w0 h0 w h B Rs F)(H:∀ w',Put (aw B j).b w w'->SS w0 h0 w' h (iH B j o cs) Rs F->AG M P n N R X ops k0 (L.setIfInBounds i true) Γ w')(c:Jb ops k0 L Γ i=true:=by kernel_rfl)
  (a:(decide (j<B.length) && decide (o+cs.length<=(aw B j).vs.length))=true:=by kernel_rfl)(f:d8 P (execOp (ev Γ) (am ops i))=some (.skip,od (aw B j).b o cs):=by kernel_rfl)(hz:∀ K bs,M.z=some (K,bs)->K<=(aw B j).b\/(aw B j).b∈bs:=by intro _ _ e;cases e):AG M P n N R X ops k0 L Γ w :=
 T.put i j o cs s.st s.g0 (lp c).1 (lp c).2 a f (fun w' p d=>H w' p (s.put0 (oT (lu _ _▸a).1) p d (qA (oT (lu _ _▸a).1)))) hz
end
def Hq (pb:Nat)(s:ByteArray)(t:Tm)(b:Nat)(bd:Int):Value->World->Hp->Prop:=fun v w' h'=>∃ (tb:Nat)(p:PTm),v=.pointer (some ⟨tb,0,none⟩)/\b<=s.size/\Own w' pb 137 [.string s,.int .i64 (b:Nat),.int .i64 bd]/\Seg h' tb 0 (dd p)/\PtH h' p t
def PC (nf:ByteArray->Option Rat)(f:FuncId)(n:Nat)(k:PKd):Prop:=∀ (pb:Nat) (s:ByteArray),s.size<=1000000->∀ (a:Nat),a<=s.size->∀ (bd:Int) (t:Tm) (b:Nat),gp nf s n k a=some (.ok t b)->∀ (w:World) (h:Hp),G w h->Own w pb 137 [.string s,nV a,iV bd]->h[pb]?=some bp->Tab h->Calls Tryz.prog f #[pB pb] w (fl pb w h (Hq pb s t b bd))
theorem Bi  (d s)(hsz:s.size<=1000000)(a)(ha:a<=s.size)(U w h)(g:G w h)(ho:Own w d 137 [.string s,nV a,iV U])(hj:h[d]?=some bp)(tb:Tab h):Calls Tryz.prog 77 #[pB d] w (fl d w h fun v w' _=>v=.int .u8 (ay s (sk s a):Nat)/\Own w' d 137 [.string s,nV (sk s a),iV U]):=by
 have f:UpM [d] w h w h:=UpM.refl g;obtain ⟨wz,D,e⟩:=SS.at_ g ho hj;replace e:=(e.add (K:=fun u=>Tab u) tb);refine go Tryz.func77 [(0,pB d)] rfl (aa e ac (ag (kZ ?_)));refine bH _ (CG.loop (fun S Γ X=>∃ (k:Nat)(u:Hp),S=s.size-k/\Γ=[(0,pB d),(2,.int .u8 0)]/\SS wz D X u [⟨d,137,[.string s,nV k,iV U]⟩] [] [fun u=>Tab u]/\a<=k/\k<=s.size/\UpM [d] w h X u/\(∀ i,a<=i->i<k->Ez (ay s i)=true)) _ ⟨a,h,rfl,rfl,e.to _ _,nR _,ha,f,(fun i h1 I=>absurd h1 oM)⟩ ?_);rintro _ _ w1 ⟨k,I,hm3,rfl,e,C,B,f,y⟩;refine cQ (cQ (cR 22 [] mixed e ao ?_));refine eV 0 3 (pB d) (eV 1 4 (pB d) (eV 2 5 (qP d 1) (eO 3 6 [(0,1,1)] (nV k) e (eV 4 7 (pB d) (eV 5 8 (pB d) (eV 6 9 (pB d) (eO 7 10 [(0,0,1)] (.string s) e (eV 8 11 (nV s.size) ?_))))))));cases l:(decide ((k:Int)<(s.size:Int)))
 .
  have F:=oF l;refine eB 9 12 l (eV 10 13 qF (eG 11 14 (eG 12 15 (eG 13 16 (eG 14 17 (eG 15 18 (eG 16 19 (eG 17 20 (eG 18 21 (eG 19 22 (eG 20 23 (eV 21 24 qF (kb e (fun w5 h6 u7 e=>?_))))))))))))));replace f:=f.trans (u7.m _);refine tN (dE (CG.exit ?_))
  show CG _ _ _ _ _ _ _ _
  refine cQ (cQ (cR 10 [] mixed e ao ?_));refine eV 0 32 (pB d) (eV 1 33 (pB d) (eV 2 34 (qP d 1) (eO 3 35 [(0,1,1)] (nV k) e (eV 4 36 (pB d) (eV 5 37 (pB d) (eV 6 38 (pB d) (eO 7 39 [(0,0,1)] (.string s) e (eV 8 40 (nV s.size) ?_))))))));have ⟨J,Y⟩:=dF (p:=(k:Int)<(s.size:Int)) oM;refine eB 9 41 J (kb e (fun w9 _ L e=>?_));replace f:=f.trans (L.m _);refine tN (dE (cK (aa e ac (lN (kX ?_)))));have z:sk s a=k:=q9 C B y (by first|exact .inl oM|exact .inr (decide_eq_false oM));exact e.retM f [] (.int .u8 0) (by rw[z,vG oM];exact ⟨rfl,e.own 0⟩)
 have F:=oT l;refine eB 9 12 l (eV 10 13 qT (eV 11 14 (pB d) (eV 12 15 (pB d) (eV 13 16 (pB d) (eO 14 17 [(0,0,1)] (.string s) e (eV 15 18 (pB d) (eV 16 19 (pB d) (eV 17 20 (qP d 1) (eO 18 21 [(0,1,1)] (nV k) e (eV 19 22 (.int .u8 (ay s k:Nat)) ?_ (hv:=fun _=>eh (tx:=9) (x:=.tmp 17) (i:=.tmp 21) (k:=.i64) (s:=s) (n:=k) (j:=(k:Int)) kR kR kR kR oM oM _)))))))))));cases H:(((ay s k:Nat):Int) == (32:Int))
 .
  have zb:=aj H;refine eB 20 23 H (eV 21 24 qF (kb e (fun _ _ W e=>?_)));replace f:=f.trans (W.m _);refine tN (dE (CG.exit ?_))
  show CG _ _ _ _ _ _ _ _
  refine cQ (cQ (cR 10 [] mixed e ao ?_));refine eV 0 32 (pB d) (eV 1 33 (pB d) (eV 2 34 (qP d 1) (eO 3 35 [(0,1,1)] (nV k) e (eV 4 36 (pB d) (eV 5 37 (pB d) (eV 6 38 (pB d) (eO 7 39 [(0,0,1)] (.string s) e (eV 8 40 (nV s.size) ?_))))))));have ⟨Z,O⟩:=dT (p:=(k:Int)<(s.size:Int)) oM;refine eB 9 41 Z (kb e (fun _ _ M e=>?_));replace f:=f.trans (M.m _);refine tN (ck (cQ (cR 9 [] mixed e ao ?_)));refine eV 0 42 (pB d) (eV 1 43 (pB d) (eV 2 44 (pB d) (eO 3 45 [(0,0,1)] (.string s) e (eV 4 46 (pB d) (eV 5 47 (pB d) (eV 6 48 (qP d 1) (eO 7 49 [(0,1,1)] (nV k) e (eV 8 50 (.int .u8 (ay s k:Nat)) ?_ (hv:=fun _=>eh (tx:=9) (x:=.tmp 45) (i:=.tmp 49) (k:=.i64) (s:=s) (n:=k) (j:=(k:Int)) kR kR kR kR oM oM _)))))))));refine kb e (fun _ _ Q e=>?_);replace f:=f.trans (Q.m _);refine tV 9 2 (.int .u8 (ay s k:Nat)) (tN (bH [(2,.int .u8 (ay s k:Nat))] ?_));refine kX ?_;have z:sk s a=k:=q9 C B y (by first|exact .inl oM|exact .inr (decide_eq_false oM));exact e.retM f [] (.int .u8 (ay s k:Nat)) (by rw[z];exact ⟨rfl,e.own 0⟩)
 have zb:=eq_of_beq H;refine eB 20 23 H (eV 21 24 qT (kb e (fun _ zd V e=>?_)));replace f:=f.trans (V.m _);refine tN (ck (cK (kZ (kQ (lL e [.c,.v (pB d),.v (qP d 1),.o (nV k) 0 1 1] (bw 29 ((k:Nat)+1) (k+1) ?_))))));refine lL e [.v (pB d),.v (qP d 1)] (oJ 0 1 ([nV (k+1)]) e (fun _ pu e=>?_));replace f:=f.put pu (ti.2 rfl) e.g;refine lD ?_;intro a_ ka;refine ⟨_,_,?_,⟨k+1,zd,rfl,rfl,e.to _ _,oM,oM,f,(fun i h1 I=>by rcases PJ.1 I with u|rfl;exact y i h1 u;exact decide_eq_true oM)⟩,ka.to _ kR⟩
 omega
theorem u5  (e)(s:ByteArray)(y:s.size<=1000000)(a)(ha:a<=s.size)(p:Int)(c)(L:c≠0)(w h)(g:G w h)(D:Own w e 137 [.string s,nV a,iV p])(H:h[e]?=some bp)(F:Tab h):Calls Tryz.prog 175 #[pB e,.int .u8 (c:Nat)] w (fl e w h fun v w' _=>(v=.bool true/\ay s (sk s a)=c/\sk s a<s.size/\Own w' e 137 [.string s,nV (sk s a+1),iV p])\/(v=.bool false/\ay s (sk s a)≠c/\Own w' e 137 [.string s,nV (sk s a),iV p])):=by
 have i:UpM [e] w h w h:=UpM.refl g;obtain ⟨wz,B,d⟩:=SS.at_ g D H;replace d:=(d.add (K:=fun J=>Tab J) F);refine go Tryz.func175 [(0,pB e),(1,.int .u8 (c:Nat))] rfl (aa d ac (ag (aa d ac ?_)));have x:=np (s:=s) (a:=a) oM;refine gH 6 (Bi e s y a ha p _ _ d.g (d.own 0) (d.jk 0) d.f.1) ?_;rintro _ w2 O C ⟨rfl,l⟩;replace d:=(d.stepM 0 C l).to [⟨e,137,[.string s,nV (sk s a),iV p]⟩] [];replace i:=i.trans C;refine lL d ac ?_;cases j:(((ay s (sk s a):Nat):Int) != (c:Int))
 .
  have u:=aU j;refine lB 8 j (ah (cK (aa d [.c,.v (pB e),.v (qP e 1),.o (nV (sk s a)) 0 1 1] (bw 13 ((sk s a:Nat)+1) ((sk s a)+1) ?_))));refine lL d [.v (pB e),.v (qP e 1)] (oJ 0 1 ([nV ((sk s a)+1)]) d (fun M I d=>?_));replace i:=i.put I (ti.2 rfl) d.g;refine aG (lL d ac (lN (kX ?_)));have z:=BD (s:=s) (a:=sk s a) oM;exact d.retM i [] qT (.inl ⟨rfl,by omega,by omega,d.own 0⟩)
 have u:=aJ j;exact lB 8 j (ak (aa d ac (lN (kX (d.retM i [] qF (.inr ⟨rfl,by omega,d.own 0⟩))))))
theorem HP (d)(s:ByteArray)(f:s.size<=1000000)(a)(ha:a<=s.size)(e:Int)(c)(j:c≠0)(i:sk s a=a)(w h)(g:G w h)(l:Own w d 137 [.string s,nV a,iV e])(o:h[d]?=some bp)(p:Tab h):Calls Tryz.prog 175 #[pB d,.int .u8 (c:Nat)] w (fl d w h fun v w' _=>(v=.bool true/\ay s a=c/\a<s.size/\Own w' d 137 [.string s,nV (a+1),iV e])\/(v=.bool false/\ay s a≠c/\Own w' d 137 [.string s,nV a,iV e])):=by
 have q:=u5 d s f a ha e c j w h g l o p;rw[i] at q;exact q
theorem H6 (d)(s:ByteArray)(l:s.size<=1000000)(a)(ha:a<=s.size)(i:Int)(c)(o:c≠0)(f:ay s (sk s a)=c)(w h)(g:G w h)(p:Own w d 137 [.string s,nV a,iV i])(z:h[d]?=some bp)(x:Tab h):Calls Tryz.prog 175 #[pB d,.int .u8 (c:Nat)] w (fl d w h fun v w' _=>v=.bool true/\sk s a<s.size/\Own w' d 137 [.string s,nV (sk s a+1),iV i]) :=
 (u5 d s l a ha i c o w h g p z x).mono fun e w' ⟨v,y,B,u,j⟩=>⟨v,y,B,u,by
  rcases j with ⟨h1,h2,h3,h4⟩|⟨h1,h2,h3⟩
  ·exact ⟨h1,h3,h4⟩
  ·exact absurd f h2⟩
theorem xV (d)(s:ByteArray)(l:s.size<=1000000)(a)(ha:a<=s.size)(i:Int)(c)(o:c≠0)(f:ay s (sk s a)≠c)(w h)(g:G w h)(p:Own w d 137 [.string s,nV a,iV i])(z:h[d]?=some bp)(x:Tab h):Calls Tryz.prog 175 #[pB d,.int .u8 (c:Nat)] w (fl d w h fun v w' _=>v=.bool false/\Own w' d 137 [.string s,nV (sk s a),iV i]) :=
 (u5 d s l a ha i c o w h g p z x).mono fun e w' ⟨v,y,B,u,j⟩=>⟨v,y,B,u,by
  rcases j with ⟨h1,h2,h3,h4⟩|⟨h1,h2,h3⟩
  ·exact absurd h2 f
  ·exact ⟨h1,h3⟩⟩
theorem J7  (B:FuncId)(p:Nat->Bool)(M:∀ (args:Array Value) (w:World),(callFunc B args).run Tryz.prog w=.ok (.enter B args) w)(W:∀ c,c<256->∀ (w:World) (h:Hp),G w h->Calls Tryz.prog B #[.int .u8 (c:Nat)] w (Ret w h fun v _=>v=.bool (p c)))(f s)(hsz:s.size<=1000000)(a)(ha:a<=s.size)(V w h)(g:G w h)(ho:Own w f 137 [.string s,nV a,iV V])(hj:h[f]?=some bp)(tb:Tab h):Calls Tryz.prog 217 #[pB f,.func (.func B) #[] #[]] w (fl f w h fun v w' _=>v=.string (s.extract a (rn p s a))/\Own w' f 137 [.string s,nV (rn p s a),iV V]):=by
 have l:UpM [f] w h w h:=UpM.refl g;obtain ⟨wz,H,d⟩:=SS.at_ g ho hj;replace d:=(d.add (K:=fun y=>Tab y) tb);refine go Tryz.func217 [(0,pB f),(1,.func (.func B) #[] #[])] rfl (aa d ac (aG (lL d [.c,.v (pB f),.v (qP f 1),.o (nV a) 0 1 1,.c] (ag (kZ ?_)))));refine bH _ (CG.loop (fun U Γ Y=>∃ (k:Nat)(y:Hp),U=s.size-k/\Γ=[(0,pB f),(1,.func (.func B) #[] #[]),(4,eS),(5,nV a)]/\SS wz H Y y [⟨f,137,[.string s,nV k,iV V]⟩] [] [fun y=>Tab y]/\a<=k/\k<=s.size/\UpM [f] w h Y y/\(∀ i,a<=i->i<k->p (ay s i)=true)) _ ⟨a,h,rfl,rfl,d.to _ _,nR _,ha,l,(fun i h1 J=>absurd h1 oM)⟩ ?_);rintro _ _ w1 ⟨k,J,Z,rfl,d,F,D,l,z⟩;refine cQ (cQ (cR 23 [] mixed d ao ?_));refine eV 0 10 (pB f) (eV 1 11 (pB f) (eV 2 12 (qP f 1) (eO 3 13 [(0,1,1)] (nV k) d (eV 4 14 (pB f) (eV 5 15 (pB f) (eV 6 16 (pB f) (eO 7 17 [(0,0,1)] (.string s) d (eV 8 18 (nV s.size) ?_))))))));cases u:(decide ((k:Int)<(s.size:Int)))
 .
  have I:=oF u;refine eB 9 19 u (eV 10 20 qF (eG 11 21 (eG 12 22 (eG 13 23 (eG 14 24 (eG 15 25 (eG 16 26 (eG 17 27 (eG 18 28 (eG 19 29 (eG 20 30 (eG 21 31 (eV 22 32 qF (kb d (fun w5 h6 u7 d=>?_)))))))))))))));replace l:=l.trans (u7.m _);refine tN (dE (CG.exit ?_))
  show CG _ _ _ _ _ _ _ _
  refine cQ (cR 10 [] mixed d ao ?_);refine eV 0 40 (pB f) (eV 1 41 (pB f) (eV 2 42 (pB f) (eO 3 43 [(0,0,1)] (.string s) d (eV 4 44 (nV a) (eV 5 45 (pB f) (eV 6 46 (pB f) (eV 7 47 (qP f 1) (eO 8 48 [(0,1,1)] (nV k) d (eV 9 49 (.string (s.extract a k)) ?_ (hv:=fun _=>Dk (tx:=9) (x:=.tmp 43) (i:=.tmp 44) (e:=.tmp 48) (k:=.i64) (k2:=.i64) (s:=s) (n:=a) (m:=k) (j:=(a:Int)) (j2:=(k:Int)) kR kR kR kR kR oM oM oM oM _))))))))));refine kb d (fun w8 h9 S d=>?_);replace l:=l.trans (S.m _);refine tV 10 4 (.string (s.extract a k)) (tN (kX ?_));have C:rn p s a=k:=q9 F D z (by first|exact .inl oM|exact .inr aM);exact d.retM l [] (.string (s.extract a k)) (by rw[C];exact ⟨rfl,d.own 0⟩)
 have I:=oT u;refine eB 9 19 u (eV 10 20 qT (eV 11 21 (.func (.func B) #[] #[]) (eV 12 22 (pB f) (eV 13 23 (pB f) (eV 14 24 (pB f) (eO 15 25 [(0,0,1)] (.string s) d (eV 16 26 (pB f) (eV 17 27 (pB f) (eV 18 28 (qP f 1) (eO 19 29 [(0,1,1)] (nV k) d (eV 20 30 (.int .u8 (ay s k:Nat)) ?_ (hv:=fun _=>eh (tx:=9) (x:=.tmp 25) (i:=.tmp 29) (k:=.i64) (s:=s) (n:=k) (j:=(k:Int)) kR kR kR kR oM oM _))))))))))));refine LA 21 31 d l (fun _ _ d=>W ((ay s k)) (cX _ _) _ _ d.g) ?_ (hv:=fun _=>Eq.trans kR (M _ _));rintro _ _ _ _ _ l d rfl;cases X:(p ((ay s k)))
 .
  refine eV 22 32 qF (kb d (fun _ _ L d=>?_));replace l:=l.trans (L.m _);refine tN (dE (CG.exit ?_))
  show CG _ _ _ _ _ _ _ _
  refine cQ (cR 10 [] mixed d ao ?_);refine eV 0 40 (pB f) (eV 1 41 (pB f) (eV 2 42 (pB f) (eO 3 43 [(0,0,1)] (.string s) d (eV 4 44 (nV a) (eV 5 45 (pB f) (eV 6 46 (pB f) (eV 7 47 (qP f 1) (eO 8 48 [(0,1,1)] (nV k) d (eV 9 49 (.string (s.extract a k)) ?_ (hv:=fun _=>Dk (tx:=9) (x:=.tmp 43) (i:=.tmp 44) (e:=.tmp 48) (k:=.i64) (k2:=.i64) (s:=s) (n:=a) (m:=k) (j:=(a:Int)) (j2:=(k:Int)) kR kR kR kR kR oM oM oM oM _))))))))));refine kb d (fun _ _ O d=>?_);replace l:=l.trans (O.m _);refine tV 10 4 (.string (s.extract a k)) (tN (kX ?_));have C:rn p s a=k:=q9 F D z (by first|exact .inl oM|exact .inr aM);exact d.retM l [] (.string (s.extract a k)) (by rw[C];exact ⟨rfl,d.own 0⟩)
 refine eV 22 32 qT (kb d (fun _ za Q d=>?_));replace l:=l.trans (Q.m _);refine tN (ck (cK (kZ (kQ (lL d [.c,.v (pB f),.v (qP f 1),.o (nV k) 0 1 1] (bw 37 ((k:Nat)+1) (k+1) ?_))))));refine lL d [.v (pB f),.v (qP f 1)] (oJ 0 1 ([nV (k+1)]) d (fun _ pu d=>?_));replace l:=l.put pu (ti.2 rfl) d.g;refine lD ?_;intro a_ ka;refine ⟨_,_,?_,⟨k+1,za,rfl,rfl,d.to _ _,oM,oM,l,(fun i h1 J=>by rcases PJ.1 J with y|rfl;exact z i h1 y;exact aM)⟩,ka.to _ kR⟩
 omega
end Go.Proofs.YtjljjeiejbhegaaGreatDoor
