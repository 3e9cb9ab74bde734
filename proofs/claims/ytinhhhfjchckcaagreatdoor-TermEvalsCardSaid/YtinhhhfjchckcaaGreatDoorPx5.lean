/- Laws and contracts that the card of this claim stands on, part 6. No condition of ours. -/
import Derived.Test.YtinhhhfjchckcaaGreatDoorPx0
import Derived.Test.YtinhhhfjchckcaaGreatDoorPx1
import Derived.Test.YtinhhhfjchckcaaGreatDoorPx2
import Derived.Test.YtinhhhfjchckcaaGreatDoorPx3
import Derived.Test.YtinhhhfjchckcaaGreatDoorPx4
set_option maxRecDepth 100000
set_option maxHeartbeats 4000000
namespace Go.Proofs.YtinhhhfjchckcaaGreatDoor
open Go.RowKit
open Go.RowKit Go.Shelf
open Go.RowKit Go.WideMaps
theorem Ez (ok:ByteArray→Prop)(RA:Option Addr)(cQ_:Nat)(rl:List RLt)(L:List PLt)(hLl:L.length≤1000)(cc:Nat)(hc3:3≤cc)(hcm:cc≤7000)(hLq:∀ i,LQ (cc-2) (L.getD i bK).q):∀ (d:Nat) (r:RTm) (t:Tm) (w:World) (h:Hp),G w h→RmH d h r t→WfT ok d t→cb d t≤1000→SlO 4 nU dE h RA rl→RLs h rl L→Calls Tryz.prog 23 #[e7 r,.slice RA rl.length cQ_] w (Ret w h (fun v h1=>∃ x,v=.tuple #[x,iV (aD L d t).1]∧RQ h1 x (aD L d t).2))
  | 0,_,_,_,_,_,x,_,_,_,_=>x.elim
  | d + 1,p,t,w,h,g,x,wf,hw,hL,hRL=>by
    obtain ⟨op,n,b,zA,zn,zc,dA,dn,dc,q,s,A,c,ps,ks,rfl,rfl,hZ,hc,hK,hKs⟩:=x.open;obtain ⟨w1,w2,w3,w4,w5,w6,w7,w8,w9⟩:=wf;replace w1:fs op=(ks.length:Nat):=w1;replace w2:op≠1→q=0:=w2;replace w9:∀ i,i<ks.length→WfT ok d (ks.getD i bz):=w9;have hac:=aF op;have ih:=fun p t w h=>Ez ok RA cQ_ rl L hLl cc hc3 hcm hLq d p t w h
    by_cases o2:op=2
    · subst o2;exact DZ RA cQ_ rl L d hLl cc hc3 hcm hLq n b zA zn zc dA dn dc q s A c ps ks w h g hZ hL hRL
    · rcases km w1 with rfl|⟨t1,rfl⟩|⟨t1,t2,rfl⟩
      · have e0:ps=[]:=List.eq_nil_of_length_eq_zero hKs.len
        subst e0
        simp only[List.length_nil] at w1
        obtain rfl:op=1:=by omega
        exact EX RA cQ_ rl L d n b zA zn zc dA dn dc q s A c w h g hZ hL hRL
      · obtain ⟨p1,rfl⟩:=List.length_eq_one_iff.1 (show ps.length=1 from hKs.len)
        simp only[List.length_cons,List.length_nil] at w1
        have f1:WfT ok d t1:=w9 0 (Nat.succ_pos _);have g1:cb d t1≤1000:=mR hw;exact E3 ok d RA cQ_ rl L hLl cc hc3 hcm hLq ih op n b zA zn zc dA dn dc q s A c p1 t1 f1 g1 (gT hc3 hLq f1 g1) oM ⟨w7,w8⟩ (w2 oM) w h g hZ hK (hKs.at_ 0 (Nat.succ_pos _)) hL hRL
      · obtain ⟨p1,p2,rfl⟩:=qu (show ps.length=2 from hKs.len)
        simp only[List.length_cons,List.length_nil] at w1
        have f1:WfT ok d t1:=w9 0 (Nat.succ_pos _);have f2:WfT ok d t2:=w9 1 (by show 1<2;decide);obtain ⟨g1,g2⟩:=mP hw;exact Ef ok d RA cQ_ rl L hLl cc hc3 hcm hLq ih op n b zA zn zc dA dn dc q s A c p1 t1 f1 g1 (gT hc3 hLq f1 g1) p2 t2 f2 g2 (gT hc3 hLq f2 g2) oM ⟨w7,w8⟩ (w2 oM) w h g hZ hK (hKs.at_ 0 (Nat.succ_pos _)) (hKs.at_ 1 (by show 1<2;decide)) hL hRL
theorem xX  (isb:ByteArray→Bool)(sm:ByteArray→Prop)(hIs:∀ s,sm s→∀ (w:World) (h:Hp),G w h→Calls Tryz.prog 85 #[.string s] w (Ret w h (fun v _=>∃ b,v=.bool b∧b=isb s)))(d:Nat)(r:RTm)(t:Tm)(hd:d≤24)(w:World)(h:Hp)(g:G w h)(hR:RmH d h r t)(hS:SmT sm d t):CR 22 #[.agg #[iV r.op,iV r.n,.bool r.neg,.slice r.zA r.zn r.zc,.slice r.dA r.dn r.dc,.string r.s,.slice r.A r.m r.c]] w h (fun v _=>∃ e:Int,v=iV e∧((WfT (fun s=>isb s=true) d t∧e=(if 1000<cb d t then 18 else 0))∨(¬WfT (fun s=>isb s=true) d t∧e=2))):=by
 have hs:=((sS g).add (K:=fun h_=>RmH d h_ r t) hR);refine go Tryz.func22 [(0,.agg #[iV r.op,iV r.n,.bool r.neg,qS r.zA r.zn r.zc,qS r.dA r.dn r.dc,.string r.s,qS r.A r.m r.c])] rfl (av (lA 1 31 ([iV r.op,iV r.n,.bool r.neg,qS r.zA r.zn r.zc,qS r.dA r.dn r.dc,.string r.s,qS r.A r.m r.c]) hs (fun b1 w2 h3 hs=>lL hs [.v 2 (iV 0)] (ah (kZ (ab hs [.o 4 (.agg #[iV r.op,iV r.n,.bool r.neg,qS r.zA r.zn r.zc,qS r.dA r.dn r.dc,.string r.s,qS r.A r.m r.c]) 0 0 7] (ai 5 hs (rR sm d r t _ _ hs.g hs.f.1 hS oM) (fun w4 h5 hs=>?_))))))));have hdl_:=mb d t;cases hb6:(decide ((24:Int)<((mj d t:Nat):Int)))
 ·
  have phb6:=oF hb6;refine lB 6 hb6 (lL hs [.m 3 6] (ag (ab hs [.o 8 (.agg #[iV r.op,iV r.n,.bool r.neg,qS r.zA r.zn r.zc,qS r.dA r.dn r.dc,.string r.s,qS r.A r.m r.c]) 0 0 7] (lC 9 hs (mG isb sm hIs d r t _ _ hs.g hs.f.1 hS) ?_))));rintro _ w7 h8 hs ⟨bf,rfl,hbf⟩;cases hb9:(bf)
  ·
   exact lL hs [.v 10 qT,.m 7 10] (ak (ab hs [.v 2 (iV 2)] (ae hs [] (iV 2) (⟨_,rfl,.inr ⟨fun h_=>Bool.noConfusion ((hbf.2 h_).symm.trans aM),rfl⟩⟩))))
  refine lL hs [.v 10 qF,.m 7 10] (ag (ab hs [.o 12 (.agg #[iV r.op,iV r.n,.bool r.neg,qS r.zA r.zn r.zc,qS r.dA r.dn r.dc,.string r.s,qS r.A r.m r.c]) 0 0 7] (ai 13 hs (pM sm d r t _ _ hs.g hs.f.1 hS) (fun _ _ hs=>?_))));cases za:(decide ((1000:Int)<(((min (cb d t) 1073741824:Nat):Int):Int)))
  ·
   have zb:=oF za;exact lB 14 za (lL hs [.m 11 14] (ag (cK (ab hs [.v 2 (iV 0)] (ae hs [] (iV 0) (⟨_,rfl,.inl ⟨hbf.1 aM,(if_neg oM).symm⟩⟩))))))
  have zb:=oT za;exact lB 14 za (lL hs [.m 11 14] (ak (ab hs [.v 2 (iV 18)] (ae hs [] (iV 18) (⟨_,rfl,.inl ⟨hbf.1 aM,(if_pos oM).symm⟩⟩)))))
 have phb6:=oT hb6;refine lB 6 hb6 (lL hs [.m 3 6] (ak (ab hs [.v 2 (iV 19)] (lN (kX ?_)))))
 exfalso;omega
theorem Dd  (isb:ByteArray→Bool)(sm:ByteArray→Prop)(hIs:∀ s,sm s→∀ (w:World) (h:Hp),G w h→Calls Tryz.prog 85 #[.string s] w (Ret w h (fun v _=>∃ b,v=.bool b∧b=isb s)))(RA:Option Addr)(cQ_:Nat)(rl:List RLt)(L:List PLt)(hLl:L.length≤1000)(cc:Nat)(hc3:3≤cc)(hcm:cc≤7000)(hLq:∀ i,LQ (cc-2) (L.getD i bK).q)(d:Nat)(r:RTm)(t:Tm)(hd:d≤24)(w:World)(h:Hp)(g:G w h)(hR:RmH d h r t)(hS:SmT sm d t)(hL:SlO 4 nU dE h RA rl)(hRL:RLs h rl L):CR 10 #[.agg #[iV r.op,iV r.n,.bool r.neg,.slice r.zA r.zn r.zc,.slice r.dA r.dn r.dc,.string r.s,.slice r.A r.m r.c],.slice RA rl.length cQ_] w h (fun v h1=>∃ (x:Value) (e:Int) (z:Rat),v=.tuple #[x,iV e]∧RQ h1 x z∧EvR (fun s=>isb s=true) L d t e z):=by
 have hs:=((((sS g).add (K:=fun h_=>RmH d h_ r t) hR).aS hL).add (K:=fun h_=>RLs h_ rl L) hRL);refine go Tryz.func10 [(0,.agg #[iV r.op,iV r.n,.bool r.neg,qS r.zA r.zn r.zc,qS r.dA r.dn r.dc,.string r.s,qS r.A r.m r.c]),(1,qS RA rl.length cQ_)] rfl (av (lA 2 31 ([iV r.op,iV r.n,.bool r.neg,qS r.zA r.zn r.zc,qS r.dA r.dn r.dc,.string r.s,qS r.A r.m r.c]) hs (fun b1 w2 h3 hs=>lA 4 28 ([qF,sZ,sZ]) hs (fun b4 w5 h6 hs=>lL hs [.v 5 (iV 0)] (ah (ab hs [.o 6 (.agg #[iV r.op,iV r.n,.bool r.neg,qS r.zA r.zn r.zc,qS r.dA r.dn r.dc,.string r.s,qS r.A r.m r.c]) 1 0 7] (lC 7 hs (xX isb sm hIs d r t hd _ _ hs.g hs.f.r.1 hS) ?_)))))));rintro _ w7 h8 hs ⟨ec,rfl,hec⟩;cases hb9:((ec:Int) != (0:Int))
 ·
  have phb9:=aY hb9;refine lB 8 hb9 (ag (cK (ab hs [.o 10 (.agg #[iV r.op,iV r.n,.bool r.neg,qS r.zA r.zn r.zc,qS r.dA r.dn r.dc,.string r.s,qS r.A r.m r.c]) 1 0 7,.m 11 1] (lC 12 hs (Ez (fun s=>isb s=true) RA cQ_ rl L hLl cc hc3 hcm hLq d r t _ _ hs.g hs.f.r.1 (f6 hec oM).1 (f6 hec oM).2 hs.f.2.1 hs.f.1) ?_))));rintro _ _ _ hs ⟨_,rfl,za,zb,zd,ze,rfl,zk,zl,zm,zo⟩;replace hs:=hs.aP zm zo;exact lL hs [.v 13 (rG ((aD L d t).2) za zb zd ze),.v 14 (iV ((aD L d t).1))] (lP 0 0 (ct ((aD L d t).2) za zb zd ze) hs (fun _ hs=>lL hs [.m 5 14] (ae hs [(0,0,3)] (.tuple #[rG ((aD L d t).2) za zb zd ze,iV ((aD L d t).1)]) (⟨_,_,_,rfl,⟨_,_,_,_,rfl,zk,zl,hs.f.2.1,hs.f.1⟩,.inl ⟨(f6 hec oM).1,(f6 hec oM).2,rfl,rfl⟩⟩))))
 have phb9:=ay hb9;refine lB 8 hb9 (ak (av (lC 9 hs (kr 0 oM oM _ _ hs.g) ?_)));rintro _ _ _ hs ⟨zf,zg,zi,zj,rfl,zp,zq,zr,zs⟩;replace hs:=hs.aP zr zs;exact lP 0 0 (ct ((0:Int):Rat) zf zg zi zj) hs (fun _ hs=>lL hs [.v 5 (iV 1)] (ae hs [(0,0,3)] (.tuple #[rG ((0:Int):Rat) zf zg zi zj,iV 1]) (⟨_,_,_,rfl,⟨_,_,_,_,rfl,zp,zq,hs.f.2.1,hs.f.1⟩,.inr ⟨vp hec oM,rfl,rfl⟩⟩)))
def fS (c:Nat):Prop:=(97≤c∧c≤122)∨(65≤c∧c≤90)
def mw (c:Nat):Prop:=((97≤c∧c≤122)∨(65≤c∧c≤90))∨(48≤c∧c≤57)∨c=95
instance (c:Nat):Decidable (fS c):=by unfold fS;infer_instance
instance (c:Nat):Decidable (mw c):=by unfold mw;infer_instance
def dh (s:ByteArray):Int:=if s=⟨#[97,98,115]⟩ then 9 else if s=⟨#[114,97,109,112]⟩ then 10 else if s=⟨#[98,101,110,100]⟩ then 11 else if s=⟨#[109,97,120]⟩ then 12 else if s=⟨#[109,105,110]⟩ then 13 else 0
def sh (s:ByteArray):Int:=if dh s=0 then 0 else if dh s≤11 then 1 else 2
def cB (s:ByteArray):Bool:=decide (dh s≠0)
def dK (s:ByteArray):Bool:=decide (1≤s.size∧s.size≤20∧fS (aE s 0)∧(∀ i,i<s.size→mw (aE s i))∧cB s=false)
theorem kT {s:ByteArray}(h:¬(1≤s.size∧s.size≤20∧fS (aE s 0))):Value.bool false=.bool (dK s):=congrArg Value.bool (decide_eq_false fun x=>h ⟨x.1,x.2.1,x.2.2.1⟩).symm
theorem AY {s:ByteArray}{i:Nat}(h:i<s.size)(h2:¬mw (aE s i)):Value.bool false=.bool (dK s):=congrArg Value.bool (decide_eq_false fun x=>h2 (x.2.2.2.1 i h)).symm
theorem wo {s:ByteArray}(h1:1≤s.size∧s.size≤20)(h2:fS (aE s 0))(h3:∀ i,i<s.size→mw (aE s i)):dK s = !cB s:=by
 unfold dK
 cases h:cB s
 ·exact decide_eq_true ⟨h1.1,h1.2,h2,h3,rfl⟩
 ·exact decide_eq_false fun x=>by cases x.2.2.2.2
def gN:List MapEntry:=[⟨.string ⟨#[97,98,115]⟩,.int .i64 9,0⟩,⟨.string ⟨#[114,97,109,112]⟩,.int .i64 10,1⟩,⟨.string ⟨#[98,101,110,100]⟩,.int .i64 11,2⟩,⟨.string ⟨#[109,97,120]⟩,.int .i64 12,3⟩,⟨.string ⟨#[109,105,110]⟩,.int .i64 13,4⟩]
theorem qn (s:ByteArray):(∃ i,Instr.findNow .string (.string s) gN 0=some (some (i,.int .i64 (dh s)))∧cB s=true)∨(Instr.findNow .string (.string s) gN 0=some none∧cB s=false∧dh s=0):=by
 by_cases h1:s=⟨#[97,98,115]⟩
 ·subst h1;exact .inl ⟨0,by kernel_rfl,by decide⟩
 by_cases h2:s=⟨#[114,97,109,112]⟩
 ·subst h2;exact .inl ⟨1,by kernel_rfl,by decide⟩
 by_cases h3:s=⟨#[98,101,110,100]⟩
 ·subst h3;exact .inl ⟨2,by kernel_rfl,by decide⟩
 by_cases h4:s=⟨#[109,97,120]⟩
 ·subst h4;exact .inl ⟨3,by kernel_rfl,by decide⟩
 by_cases h5:s=⟨#[109,105,110]⟩
 ·subst h5;exact .inl ⟨4,by kernel_rfl,by decide⟩
 have hc:dh s=0:=by unfold dh;rw[if_neg h1,if_neg h2,if_neg h3,if_neg h4,if_neg h5]
 refine .inr ⟨?_,by unfold cB;rw[hc];rfl,hc⟩
 rcases MapKept.findNow_spec (d:=.string) (k:=.string s) (by simp[MapKept.IsKey]) gN 0 (fun x hx=>by
  simp only[gN,List.mem_cons,List.not_mem_nil,or_false] at hx
  rcases hx with rfl|rfl|rfl|rfl|rfl<;>simp[MapKept.IsKey]) with ⟨a,_⟩|⟨j,e,a,b,c⟩
 ·exact a
 ·exfalso
  match j,b with
  | 0,b=>injection b with b;subst b;injection c with c;exact h1 c.symm
  | 1,b=>injection b with b;subst b;injection c with c;exact h2 c.symm
  | 2,b=>injection b with b;subst b;injection c with c;exact h3 c.symm
  | 3,b=>injection b with b;subst b;injection c with c;exact h4 c.symm
  | 4,b=>injection b with b;subst b;injection c with c;exact h5 c.symm
  | n+5,b=>cases b
def rL (p:Nat→Bool)(s:ByteArray):Nat→Nat→Nat
  | 0,a=>a
  | f+1,a=>if a<s.size∧p (aE s a)=true then rL p s f (a+1) else a
def rn (p:Nat→Bool)(s:ByteArray)(a:Nat):Nat:=rL p s (s.size-a) a
theorem vB (p:Nat→Bool)(s:ByteArray):∀ f a,a≤rL p s f a
  | 0,a=>Nat.le_refl a
  | f+1,a=>by
    unfold rL;split
    · exact Nat.le_trans (Nat.le_succ a) (vB p s f (a+1))
    · exact Nat.le_refl a
theorem ux (p:Nat→Bool)(s:ByteArray):∀ f a,a≤s.size→rL p s f a≤s.size
  | 0,a,h=>h
  | f+1,a,h=>by
    unfold rL;split
    · rename_i c;exact ux p s f (a+1) c.1
    · exact h
theorem AU (p:Nat→Bool)(s:ByteArray)(a:Nat):a≤rn p s a:=vB p s _ a
theorem m0 {p:Nat→Bool}{s:ByteArray}{a:Nat}(h:a≤s.size):rn p s a≤s.size:=ux p s _ a h
theorem uu {p:Nat→Bool}{s:ByteArray}{j:Nat}:∀ f a,s.size-a≤f→a≤j→j≤s.size→(∀ i,a≤i→i<j→p (aE s i)=true)→(j=s.size∨p (aE s j)=false)→rL p s f a=j
  | 0,a,h1,h2,h3,_,_=>by show a=j;omega
  | f + 1,a,h1,h2,h3,h4,h5=>by
    unfold rL
    by_cases e:a=j
    · subst e
      rw[if_neg];rintro ⟨h6,h7⟩
      rcases h5 with h5|h5
      · omega
      · rw[h5] at h7;cases h7
    · rw[if_pos ⟨by omega,h4 a (Nat.le_refl a) oM⟩]
      exact uu f (a+1) oM oM h3 (fun i hi hj=>h4 i oM hj) h5
theorem nj {p:Nat→Bool}{s:ByteArray}{a j:Nat}(h2:a≤j)(h3:j≤s.size)(h4:∀ i,a≤i→i<j→p (aE s i)=true)(h5:j=s.size∨p (aE s j)=false):rn p s a=j:=uu _ a (Nat.le_refl _) h2 h3 h4 h5
theorem mY (p:Nat→Bool)(s:ByteArray):∀ f a,s.size-a≤f→rL p s f a<s.size→p (aE s (rL p s f a))=false
  | 0,a,h1,h2=>by
    have h2:a<s.size:=h2
    omega
  | f + 1,a,h1,h2=>by
    unfold rL at h2 ⊢
    split
    · rename_i c;rw[if_pos c] at h2;exact mY p s f (a+1) oM h2
    · rename_i c;rw[if_neg c] at h2
      cases h:p (aE s a) with
      | true=>exact absurd ⟨h2,h⟩ c
      | false=>rfl
def xz (c:Nat):Bool:=decide (c=32)
def jh (c:Nat):Bool:=decide (48≤c∧c≤57)
def jV (c:Nat):Bool:=decide ((48≤c∧c≤57)∨c=46)
def dr (c:Nat):Bool:=decide (mw c)
def rg (c:Nat):Bool:=decide (c≠93)
def sk (s:ByteArray)(a:Nat):Nat:=rn xz s a
theorem gJ {s:ByteArray}{a:Nat}(h:a≤s.size):sk s a≤s.size:=m0 h
theorem Fi (s:ByteArray)(a:Nat):sk s (sk s a)=sk s a:=by
 rcases Nat.lt_or_ge (sk s a) s.size with h1|h1
 ·exact nj (Nat.le_refl _) (Nat.le_of_lt h1) (fun i h2 h3=>absurd h2 oM) (.inr (mY xz s (s.size-a) a (Nat.le_refl _) h1))
 ·show rL xz s (s.size-sk s a) (sk s a)=sk s a
  rw[show s.size-sk s a=0 by omega];rfl
theorem pL {s:ByteArray}{a:Nat}(h:s.size≤a):aE s a=0:=by
 unfold aE
 rw[List.getD_eq_getElem?_getD,List.getElem?_eq_none (by simpa using h)];rfl
theorem vk {s:ByteArray}{a:Nat}(h:aE s a≠0):a<s.size:=by
 rcases Nat.lt_or_ge a s.size with h1|h1
 ·exact h1
 ·exact absurd (pL h1) h
inductive PR where
  | ok (t:Tm) (a:Nat)
  | err (b:Nat)
inductive PKd where
  | sum|prod|sign|pow|atom
  | call (op:Int)
  | more (lv:Bool) (t:Tm)
def l7 (op:Int)(t:Tm):Tm:=.mk op 0 0 ⟨#[]⟩ [t]
def dk (op:Int)(t u:Tm):Tm:=.mk op 0 0 ⟨#[]⟩ [t,u]
def eP (q:Rat):Tm:=.mk 1 0 q ⟨#[]⟩ []
def dD (s:ByteArray):Tm:=.mk 2 0 0 s []
def kw (x:Option PR)(f:Tm→Nat→Option PR):Option PR:=match x with
  | none=>none
  | some (.ok t a)=>f t a
  | some (.err b)=>some (.err b)
def dv (s:ByteArray):Nat→Nat
  | 0=>0
  | n+1=>dv s n*10+(aE s n-48)
def jl (s:ByteArray):Option Nat:=if s.size=0∨(1<s.size∧aE s 0=48)∨¬(∀ i,i<s.size→jh (aE s i)=true) then none else some (dv s s.size)
theorem gt {x:ByteArray}{k:Nat}(h:jl x=some k):1≤x.size∧(1<x.size→aE x 0≠48)∧(∀ i,i<x.size→48≤aE x i∧aE x i≤57)∧k=dv x x.size:=by
 unfold jl at h
 by_cases c:x.size=0∨(1<x.size∧aE x 0=48)∨¬(∀ i,i<x.size→jh (aE x i)=true)
 ·rw[if_pos c] at h;cases h
 ·rw[if_neg c] at h;injection h with h
  refine ⟨by omega,fun h1 h2=>c (.inr (.inl ⟨h1,h2⟩)),fun i hi=>?_,h.symm⟩;exact oT (Decidable.byContradiction fun h2=>c (.inr (.inr (fun h3=>h2 (h3 i hi)))))
theorem pE {x:ByteArray}:∀ n,(∀ i,i<n→48≤aE x i∧aE x i≤57)→dv x n<10^n
  | 0,_=>Nat.one_pos
  | n+1,h=>by
    have h1:=pE n (fun i hi=>h i oM);have h2:=h n oM
    show dv x n*10+(aE x n-48)<10^(n+1)
    rw[Nat.pow_succ];omega
theorem oZ {x:ByteArray}{k:Nat}(h:jl x=some k)(h3:x.size≤3):k≤999:=by
 obtain ⟨h1,_,h2,rfl⟩:=gt h;have h4:=pE x.size h2;have h5:10^x.size≤10^3:=Nat.pow_le_pow_right kD h3
 omega
def c1 (lv:Bool):Nat:=if lv then 42 else 43
def c2 (lv:Bool):Nat:=if lv then 47 else 45
def vD (lv:Bool):Int:=if lv then 5 else 3
def p9 (lv:Bool):Int:=if lv then 6 else 4
def part (lv:Bool):PKd:=if lv then .sign else .prod
def wl (s:ByteArray)(t:Tm)(a:Nat):PR :=
  let m:Bool:=decide (aE s (sk s a)=45)
  let b:=sk s (if m then sk s a+1 else sk s a)
  let e:=rn jh s b
  if 3<e-b then .err b else match jl (s.extract b e) with
    | none=>.err b
    | some k=>.ok (.mk 8 (if m then -(k:Int) else k) 0 ⟨#[]⟩ [t]) e
section
variable (nf bf:ByteArray→Option Rat) (s:ByteArray)
def dq : Nat→PKd→Nat→Option PR
  | 0,_,_=>none
  | n+1,.sum,a=>kw (dq n .prod a) fun t b=>dq n (.more false t) b
  | n+1,.prod,a=>kw (dq n .sign a) fun t b=>dq n (.more true t) b
  | n+1,.more lv t,a =>
    if aE s (sk s a)=c1 lv then kw (dq n (part lv) (sk s a+1)) fun u b=>dq n (.more lv (dk (vD lv) t u)) b
    else if aE s (sk s a)=c2 lv then kw (dq n (part lv) (sk s a+1)) fun u b=>dq n (.more lv (dk (p9 lv) t u)) b
    else some (.ok t (sk s a))
  | n+1,.sign,a=>if aE s (sk s a)=45 then kw (dq n .sign (sk s a+1)) fun t b=>some (.ok (l7 7 t) b) else dq n .pow (sk s a)
  | n+1,.pow,a=>kw (dq n .atom a) fun t b=>if aE s (sk s b)=94 then some (wl s t (sk s b+1)) else some (.ok t (sk s b))
  | n + 1,.atom,a =>
    if jV (aE s (sk s a))=true then match nf (s.extract (sk s a) (rn jV s (sk s a))) with
      | some q=>some (.ok (eP q) (rn jV s (sk s a)))
      | none=>some (.err (sk s a))
    else if fS (aE s (sk s a))∨aE s (sk s a)=95 then
      if cB (s.extract (sk s a) (rn dr s (sk s a)))=true then dq n (.call (dh (s.extract (sk s a) (rn dr s (sk s a))))) (rn dr s (sk s a))
      else if dK (s.extract (sk s a) (rn dr s (sk s a)))=true then some (.ok (dD (s.extract (sk s a) (rn dr s (sk s a)))) (rn dr s (sk s a)))
      else some (.err (sk s a))
    else if aE s (sk s a)=91 then
      if rn rg s (sk s a+1)=s.size then some (.err (sk s a)) else match bf (s.extract (sk s a+1) (rn rg s (sk s a+1))) with
      | some q=>some (.ok (eP q) (rn rg s (sk s a+1)+1))
      | none=>some (.err (sk s a))
    else if aE s (sk s a)=40 then kw (dq n .sum (sk s a+1)) fun t b=>if aE s (sk s b)=41 then some (.ok t (sk s b+1)) else some (.err (sk s b))
    else some (.err (sk s a))
  | n + 1,.call op,a =>
    if aE s (sk s a)=40 then kw (dq n .sum (sk s a+1)) fun t b =>
      if op=12∨op=13 then
        if aE s (sk s b)=44 then kw (dq n .sum (sk s b+1)) fun u c=>if aE s (sk s c)=41 then some (.ok (dk op t u) (sk s c+1)) else some (.err (sk s c))
        else some (.err (sk s b))
      else if aE s (sk s b)=41 then some (.ok (l7 op t) (sk s b+1)) else some (.err (sk s b))
    else some (.err (sk s a))
variable {nf bf s}
theorem fj {x:Option PR}{f:Tm→Nat→Option PR}{t:Tm}{b:Nat}(h:kw x f=some (.ok t b)):∃ u a,x=some (.ok u a)∧f u a=some (.ok t b):=by
 match x,h with
 | some (.ok u a),h=>exact ⟨u,a,rfl,h⟩
def rK (lv:Bool):PKd:=if lv then .prod else .sum
section
variable {n a b:Nat} {t u:Tm} {lv:Bool} {op:Int}
theorem xU {k:PKd}{r:PR}(h:dq nf bf s n k a=some r):∃ m,n=m+1:=by
 cases n with
 | zero=>cases h
 | succ m=>exact ⟨m,rfl⟩
theorem wd (h:dq nf bf s (n+1) (rK lv) a=some (.ok t b)):∃ u c,dq nf bf s n (part lv) a=some (.ok u c)∧dq nf bf s n (.more lv u) c=some (.ok t b):=by
 cases lv<;>exact fj h
theorem qW (h:dq nf bf s (n+1) (.more lv u) a=some (.ok t b))(c:aE s (sk s a)=c1 lv):∃ v e,dq nf bf s n (part lv) (sk s a+1)=some (.ok v e)∧dq nf bf s n (.more lv (dk (vD lv) u v)) e=some (.ok t b):=by
 unfold dq at h;rw[if_pos c] at h;exact fj h
theorem qQ (h:dq nf bf s (n+1) (.more lv u) a=some (.ok t b))(d:aE s (sk s a)≠c1 lv)(c:aE s (sk s a)=c2 lv):∃ v e,dq nf bf s n (part lv) (sk s a+1)=some (.ok v e)∧dq nf bf s n (.more lv (dk (p9 lv) u v)) e=some (.ok t b):=by
 unfold dq at h;rw[if_neg d,if_pos c] at h;exact fj h
theorem rq (h:dq nf bf s (n+1) (.more lv u) a=some (.ok t b))(d:aE s (sk s a)≠c1 lv)(c:aE s (sk s a)≠c2 lv):t=u∧b=sk s a:=by
 unfold dq at h;rw[if_neg d,if_neg c] at h;injection h with h;injection h with h1 h2;exact ⟨h1.symm,h2.symm⟩
theorem xR (h:dq nf bf s (n+1) .sign a=some (.ok t b))(c:aE s (sk s a)=45):∃ v,dq nf bf s n .sign (sk s a+1)=some (.ok v b)∧t=l7 7 v:=by
 unfold dq at h;rw[if_pos c] at h
 obtain ⟨v,e,h1,h2⟩:=fj h
 injection h2 with h2;injection h2 with h2 h3;subst h3;exact ⟨v,h1,h2.symm⟩
theorem re (h:dq nf bf s (n+1) .sign a=some (.ok t b))(c:aE s (sk s a)≠45):dq nf bf s n .pow (sk s a)=some (.ok t b):=by
 unfold dq at h;rw[if_neg c] at h;exact h
theorem vQ (h:dq nf bf s (n+1) .pow a=some (.ok t b)):∃ v e,dq nf bf s n .atom a=some (.ok v e)∧(aE s (sk s e)≠94→t=v∧b=sk s e)∧(aE s (sk s e)=94→wl s v (sk s e+1)=.ok t b):=by
 unfold dq at h
 obtain ⟨v,e,h1,h2⟩:=fj h;refine ⟨v,e,h1,fun c=>?_,fun c=>?_⟩
 ·rw[if_neg c] at h2;injection h2 with h2;injection h2 with h2 h3;exact ⟨h2.symm,h3.symm⟩
 ·rw[if_pos c] at h2;injection h2
theorem xO {v:Tm}(h:wl s v a=.ok t b):∃ k,jl (s.extract (sk s (if aE s (sk s a)=45 then sk s a+1 else sk s a)) b)=some k∧b=rn jh s (sk s (if aE s (sk s a)=45 then sk s a+1 else sk s a))∧b-sk s (if aE s (sk s a)=45 then sk s a+1 else sk s a)≤3∧t=.mk 8 (if aE s (sk s a)=45 then -(k:Int) else k) 0 ⟨#[]⟩ [v]:=by
  have e1:∀ x y:Nat,(if decide (aE s (sk s a)=45)=true then x else y)=if aE s (sk s a)=45 then x else y:=fun x y=>by by_cases c:aE s (sk s a)=45<;>simp[c]
  have e2:∀ x y:Int,(if decide (aE s (sk s a)=45)=true then x else y)=if aE s (sk s a)=45 then x else y:=fun x y=>by by_cases c:aE s (sk s a)=45<;>simp[c]
  unfold wl at h
  dsimp only at h
  rw[e1] at h
  generalize sk s (if aE s (sk s a)=45 then sk s a+1 else sk s a)=B at h ⊢
  by_cases c:3<rn jh s B-B
  · rw[if_pos c] at h;cases h
  · rw[if_neg c] at h
    revert h
    cases hk:jl (s.extract B (rn jh s B)) with
    | none=>intro h;cases h
    | some k =>
      intro h
      injection h with h1 h2
      subst h2;rw[e2] at h1
      exact ⟨k,hk,rfl,by omega,h1.symm⟩
section
variable (h:dq nf bf s (n+1) .atom a=some (.ok t b))
include h
theorem xl (c:jV (aE s (sk s a))=true):∃ q,nf (s.extract (sk s a) (rn jV s (sk s a)))=some q∧t=eP q∧b=rn jV s (sk s a):=by
 unfold dq at h;rw[if_pos c] at h
 split at h
 ·rename_i q hq;injection h with h;injection h with h1 h2;exact ⟨q,hq,h1.symm,h2.symm⟩
 ·cases h
variable (c0:jV (aE s (sk s a))=false)
include c0
theorem CU (c:fS (aE s (sk s a))∨aE s (sk s a)=95)(d:cB (s.extract (sk s a) (rn dr s (sk s a)))=true):dq nf bf s n (.call (dh (s.extract (sk s a) (rn dr s (sk s a))))) (rn dr s (sk s a))=some (.ok t b):=by
 unfold dq at h;rw[if_neg (by rw[c0];decide),if_pos c,if_pos d] at h;exact h
theorem wY (c:fS (aE s (sk s a))∨aE s (sk s a)=95)(d:cB (s.extract (sk s a) (rn dr s (sk s a)))=false):dK (s.extract (sk s a) (rn dr s (sk s a)))=true∧t=dD (s.extract (sk s a) (rn dr s (sk s a)))∧b=rn dr s (sk s a):=by
 unfold dq at h;rw[if_neg (by rw[c0];decide),if_pos c,if_neg (by rw[d];decide)] at h
 split at h
 ·rename_i e;injection h with h;injection h with h1 h2;exact ⟨e,h1.symm,h2.symm⟩
 ·cases h
variable (cL:¬(fS (aE s (sk s a))∨aE s (sk s a)=95))
include cL
theorem Bu (c:aE s (sk s a)=91):rn rg s (sk s a+1)≠s.size∧∃ q,bf (s.extract (sk s a+1) (rn rg s (sk s a+1)))=some q∧t=eP q∧b=rn rg s (sk s a+1)+1:=by
 unfold dq at h;rw[if_neg (by rw[c0];decide),if_neg cL,if_pos c] at h
 split at h
 ·cases h
 ·rename_i d
  split at h
  ·rename_i q hq;injection h with h;injection h with h1 h2;exact ⟨d,q,hq,h1.symm,h2.symm⟩
  ·cases h
variable (c9:aE s (sk s a)≠91)
include c9
theorem wu (c:aE s (sk s a)=40):∃ e,dq nf bf s n .sum (sk s a+1)=some (.ok t e)∧aE s (sk s e)=41∧b=sk s e+1:=by
 unfold dq at h;rw[if_neg (by rw[c0];decide),if_neg cL,if_neg c9,if_pos c] at h
 obtain ⟨v,e,h1,h2⟩:=fj h
 split at h2
 ·rename_i d;injection h2 with h2;injection h2 with h2 h3;subst h2;exact ⟨e,h1,d,h3.symm⟩
 ·cases h2
theorem Cq (c:aE s (sk s a)≠40):False:=by
 unfold dq at h;rw[if_neg (by rw[c0];decide),if_neg cL,if_neg c9,if_neg c] at h;cases h
end
theorem sd (h:dq nf bf s (n+1) (.call op) a=some (.ok t b)):aE s (sk s a)=40∧∃ u e,dq nf bf s n .sum (sk s a+1)=some (.ok u e)∧((op=12∨op=13)→aE s (sk s e)=44∧∃ v f,dq nf bf s n .sum (sk s e+1)=some (.ok v f)∧aE s (sk s f)=41∧t=dk op u v∧b=sk s f+1)∧(¬(op=12∨op=13)→aE s (sk s e)=41∧t=l7 op u∧b=sk s e+1):=by
  unfold dq at h
  split at h
  · rename_i c
    obtain ⟨u,e,h1,h2⟩:=fj h;refine ⟨c,u,e,h1,fun ho=>?_,fun ho=>?_⟩
    · rw[if_pos ho] at h2
      split at h2
      · rename_i d
        obtain ⟨v,f,h3,h4⟩:=fj h2
        split at h4
        · rename_i g;injection h4 with h4;injection h4 with h4 h5;exact ⟨d,v,f,h3,g,h4.symm,h5.symm⟩
        · cases h4
      · cases h2
    · rw[if_neg ho] at h2
      split at h2
      · rename_i d;injection h2 with h2;injection h2 with h2 h3;exact ⟨d,h2.symm,h3.symm⟩
      · cases h2
  · cases h
end
end
def PtH (h:Hp)(p:PTm)(t:Tm):Prop:=∃ d,TmH d h p t
theorem PtH.gw {h h':Hp}{p:PTm}{t:Tm}(x:PtH h p t)(u:Gw h h'):PtH h' p t:=by obtain ⟨d,x⟩:=x;exact ⟨d,x.gw u⟩
theorem PtH.one {h:Hp}{op n:Int}{p:PTm}{t:Tm}{b:Nat}(x:PtH h p t)(hA:SlO 9 dg aU h (some ⟨b,0,none⟩) [p]):PtH h ⟨op,n,0,⟨#[]⟩,some ⟨b,0,none⟩,1,1⟩ (.mk op n 0 ⟨#[]⟩ [t]):=by
 obtain ⟨d,x⟩:=x
 exact ⟨d+1,TmH.mk (ps:=[p]) (ks:=[t]) ⟨rfl,fun i hi=>by
  have:i=0:=by have:i<1:=hi;omega
  subst this;exact x⟩ (Nat.le_refl _) hA⟩
theorem PtH.two {h:Hp}{op:Int}{p q:PTm}{t u:Tm}{b:Nat}(x:PtH h p t)(y:PtH h q u)(hA:SlO 9 dg aU h (some ⟨b,0,none⟩) [p,q]):PtH h ⟨op,0,0,⟨#[]⟩,some ⟨b,0,none⟩,2,2⟩ (dk op t u):=by
 obtain ⟨d,x⟩:=x;obtain ⟨e,y⟩:=y
 exact ⟨max d e+1,TmH.mk (ps:=[p,q]) (ks:=[t,u]) ⟨rfl,fun i hi=>by
  have:i=0∨i=1:=by have:i<2:=hi;omega
  rcases this with rfl|rfl
  ·exact x.mono (Nat.le_max_left _ _)
  ·exact y.mono (Nat.le_max_right _ _)⟩ (Nat.le_refl _) hA⟩
theorem PtH.num {h:Hp}{q:Rat}:PtH h ⟨1,0,q,⟨#[]⟩,none,0,0⟩ (eP q):=⟨1,TmH.mk (ps:=[]) (ks:=[]) Tms.nil (Nat.le_refl _) SlO.nil⟩
theorem PtH.nam {h:Hp}{s:ByteArray}:PtH h ⟨2,0,0,s,none,0,0⟩ (dD s):=⟨1,TmH.mk (ps:=[]) (ks:=[]) Tms.nil (Nat.le_refl _) SlO.nil⟩
section ops
variable {P:Program} {Γ:bM} {o:Oper}
theorem tU {tx:TypeId}{x i e:Operand}{k k2:IntKind}{s:ByteArray}{n m:Nat}{j j2:Int}(ho:o.op=.slice tx x (some i) (some e) none)(hx:ev Γ x=.string s)(hi:ev Γ i=.int k j)(he:ev Γ e=.int k2 j2)(hu:P.underlying tx=some .string)(hj:j=(n:Int))(hj2:j2=(m:Int))(hn:n≤m)(hm:m≤s.size)(w:World) :
  (execOp (ev Γ) o).run P w=.ok (.value (.string (s.extract n m))) w:=by
 unfold execOp;simp only[ho]
 subst hj;subst hj2;have h0:(m:Int)≤(s.size:Int):=by omega
 simp[Instr.sliceAt,hx,hi,he,Instr.slice,run_underlying hu,Instr.sliceBounds,Instr.sliceBound,asIntOf,Result.andThen,h0,hn,hm]
end ops
structure Whole (lo:Nat) (h:Hp) (b:Nat) (ty:TypeId) (vs:List Value):Prop where
  lo:lo≤b
  ty0:(ty == 0)=false
  at_:h[b]?=some (.cells vs.toArray ty (0,0))
section ss
variable {w0:World} {h0:Hp} {w:World} {h:Hp} {B:List Bx} {R:List Rw} {F:List (Hp→Prop)}
end ss
structure Poked (h h':Hp) (b:Nat):Prop where
  oth:∀ c,c≠b→c<h.size→h'[c]?=h[c]?
section ss
variable {w0:World} {h0:Hp} {w:World} {h:Hp} {B:List Bx} {R:List Rw} {F:List (Hp→Prop)}
end ss
section laws
variable {M:Ms} {P:Program} {n:Nat} {N R:Po} {X:Nat→Po} {ops:Array Oper} {k k0:Nat} {hr:Hp} {AL:List Al} {L:Array Bool} {Γ:bM} {w:World} {h:Hp} {w0:World} {h0:Hp} {B:List Bx} {Rs:List Rw} {F:List (Hp→Prop)}
theorem tC (i t:Nat){f:FuncId}{args:Array Value}(c:Calls P f args w fun e w'=>∃ v,e=.returned v∧Tl M w w'∧AG M P n N R X ops k0 (L.setIfInBounds i true) ((t,v)::Γ) w')(hc:(fI ops k0 L i && a7 Γ (ao ops i) && ((ao ops i).dst == some t) && decide (t<n))=true:=by kernel_rfl)(hw:bg ops Γ (ao ops i)=some true:=by kernel_rfl)
  (hr:(execOp (ev Γ) (ao ops i)).run P w=.ok (.enter f args) w:=by kernel_rfl):AG M P n N R X ops k0 L Γ w:=by
 simp only[Bool.and_eq_true,decide_eq_true_eq,beq_iff_eq] at hc
 obtain ⟨⟨⟨h1,h2⟩,h3⟩,h4⟩:=hc;obtain ⟨hg,hs⟩:=iA h1;intro a ka;refine A.one h1 hg (R':=fun v w'=>Tl M w w'∧AG M P n N R X ops k0 (L.setIfInBounds i true) ((t,v)::Γ) w') ⟨ka.want hw,.inr (.inr ⟨f,args,?_,c⟩)⟩ (fun v w' hq=>hq.1) (fun v w' hq=>?_)
 ·rw[ka.exec (Region.noSelect_spec hs i _ · · hg) h2];exact hr
 ·rw[h3];exact hq.2 _ (ka.put h4 v)
theorem vF (t:Nat)(ty:TypeId)(vs:List Value)(s:SS w0 h0 w h B Rs F)(H:∀ b w' h',Up w h w' h'→h.size≤b→SS w0 h0 w' h' (⟨b,ty,vs⟩::B) Rs F→LG P n N R X ops (k+1) ((t,.pointer (some ⟨b,0,none⟩))::Γ) w')(hc:cL ops Γ k t n=true:=by kernel_rfl)
  (hr:(execOp (ev Γ) (ao ops k)).run P w=.ok (.value (.pointer (some ⟨w.heap.size,0,none⟩))) (w.alloc (.cells vs.toArray ty (0,0))):=by kernel_rfl):LG P n N R X ops k Γ w :=
 LG.var t ty vs s.st (bv hc).1 (bv hc).2 hr (fun b w' h' hb u s'=>H b w' h' u hb (s.new u hb s'))
theorem UpM.put2 {M2:List Nat}{wa w':World}{ha:Hp}{b:Nat}(u:UpM M2 wa ha w h)(p:Put b w w')(hb:ha.size≤b)(ga:G wa ha)(g:G w' h):UpM M2 wa ha w' h :=
 ⟨⟨p.os.trans u.mo.os,p.tape.trans u.mo.tape,p.output.trans u.mo.output,by rw[p.size];exact u.mo.size,fun c hc hm=>(p.blk c (fun e=>by subst e;have:=ga.size;omega)).trans (u.mo.blk c hc hm)⟩,u.gr,g⟩
end laws
section
variable {M:Ms} {P:Program} {n:Nat} {N R:Po} {X:Nat→Po} {ops:Array Oper} {k0:Nat} {hr:Hp} {AL:List Al} {L:Array Bool} {Γ:bM} {w:World} {h:Hp} {w0:World} {h0:Hp} {B:List Bx} {Rs:List Rw} {F:List (Hp→Prop)} {M2:List Nat} {wa:World} {ha:Hp}
theorem SS.pubM (s:SS w0 h0 w h B Rs F)(u:UpM M2 wa ha w h)(j:Nat)(hlo:ha.size≤(aw B j).b)(hj:decide (j<B.length)=true:=by kernel_rfl):∃ h',SS w0 h0 w h' (B.eraseIdx j) Rs F∧UpM M2 wa ha w h'∧Seg h' (aw B j).b 0 (aw B j).vs:=by
 have hj':=oT hj;obtain ⟨h',s',gw,sg,hc,oth⟩:=s.st.pubX j hj';have hm:=bh hj';refine ⟨h',⟨s.g0,s',fun r hr=>((s.ro r hr).out (List.mem_map.2 ⟨_,hm,rfl⟩) oth).sub _ (fun b hb=>?_),s.ap,s.mo,s.f.gw s.mo gw⟩,⟨u.mo,⟨Nat.le_trans u.gr.size gw.size,fun b hb=>?_⟩,s'.up.g⟩,sg⟩
 ·obtain ⟨x,hx,e⟩:=List.mem_map.1 hb
  exact List.mem_map.2 ⟨x,List.mem_of_mem_eraseIdx hx,e⟩
 ·exact (oth b (fun e=>by subst e;omega)).trans (u.gr.blk b hb)
theorem DB (i t:Nat){f:FuncId}{args:Array Value}{Φ:World→Hp→Value→Hp→Prop}(s:SS w0 h0 w h B Rs F)(m:UpM M2 wa ha w h)(c:∀ w1 h1,SS w0 h0 w1 h1 B Rs F→Calls P f args w1 (Ret w1 h1 (Φ w1 h1)))(H:∀ w1 h1 v w' h',UpM M2 wa ha w' h'→SS w0 h0 w' h' B Rs F→Φ w1 h1 v h'→EG M P n N R X ops k0 hr AL (L.setIfInBounds i true) ((t,v)::Γ) w' h')(hc:B0 n ops k0 AL L Γ i t=true:=by kernel_rfl)(hv:∀ w,(execOp (ev Γ) (ao ops i)).run P w=.ok (.enter f args) w:=by intro _;kernel_rfl):EG M P n N R X ops k0 hr AL L Γ w h :=
 Rg.call i t f args (i9 hc).1 (i9 hc).2 hv (fun w1 h1 u=>(c w1 h1 (s.step u)).mono fun e w' ⟨v,h',he,u2,hΦ⟩=>⟨v,h',he,u2.m M.l,H w1 h1 v w' h' (m.trans ((u.m _).trans (u2.m _))) ((s.step u).step u2) hΦ⟩)
theorem DF {F1:List (Hp→Prop)}{wr:World}{x:Al}(pre:List Bx)(sr:SS w0 h0 wr hr B Rs F1)(s:SS w0 h0 w h (pre++B) Rs F)(m:UpM M2 wa ha w h)(hs:ha.size≤hr.size)(t:TypeId)(vs:List Value)(H:∀ w' h' b,UpM M2 wa ha w' h'→ha.size≤b→SS w0 h0 w' h' (⟨b,t,vs⟩::(pre++B)) Rs F→AG M P n N R X ops k0 (L.setIfInBounds x.i true) ((x.t,.pointer (some ⟨b,0,none⟩))::Γ) w')(hc:(eF ops [x] L && decide (x.t<n))=true:=by kernel_rfl)(ho:x.o=.cells vs.toArray t (0,0):=by kernel_rfl)(hp:pre.all (fun y=>y.t != t)=true:=by kernel_rfl):EG M P n N R X ops k0 hr [x] L Γ w h :=
 Rg.fin1 hc (fun w' h' b u k=>H w' h' b (m.trans (u.m _)) (Nat.le_trans hs k.2.2) (SS.blkp pre sr (s.step u) k t vs ho hp))
theorem FG (i j o:Nat)(cs:List Value)(s:SS w0 h0 w h B Rs F)(H:∀ w',Put (aw B j).b w w'→SS w0 h0 w' h (ft B j o cs) Rs F→AG M P n N R X ops k0 (L.setIfInBounds i true) Γ w')(hc:DA ops k0 L Γ i=true:=by kernel_rfl)
  (hj:(decide (j<B.length) && decide (o+cs.length≤(aw B j).vs.length))=true:=by kernel_rfl)(he:cP P (execOp (ev Γ) (ao ops i))=some (.skip,jE (aw B j).b o cs):=by kernel_rfl)(hz:∀ K bs,M.z=some (K,bs)→K≤(aw B j).b∨(aw B j).b∈bs:=by intro _ _ e;cases e):AG M P n N R X ops k0 L Γ w :=
 T.put i j o cs s.st s.g0 (jb hc).1 (jb hc).2 hj he (fun w' p s'=>H w' p (s.put0 (oT (Bool.and_eq_true _ _▸hj).1) p s' (kn (oT (Bool.and_eq_true _ _▸hj).1)))) hz
end
theorem jJ (c:Nat)(hc:c<256)(w:World)(h:Hp)(g:G w h):CV 125 #[.int .u8 (c:Nat)] w h (.bool (decide (fS (c)))):=by
 have hs:=sS g;refine go Tryz.func125 [(0,.int .u8 (c:Nat))] rfl (ab hs [.v 2 qF] (aG (lL hs [.m 3 0] ?_)));cases hb1:(decide ((97:Int)≤(c:Int)))
 ·
  have phb1:=oF hb1;refine lB 4 hb1 (lL hs [.m 5 4] (lG 6 ?_));refine lG 7 (lL hs [.v 8 qF,.m 9 8,.m 10 0] ?_);cases hb2:(decide ((65:Int)≤(c:Int)))
  ·
   have phb2:=oF hb2;refine lB 11 hb2 (lL hs [.m 12 11] (lG 13 ?_));exact lG 14 (lL hs [.v 15 qF,.v 16 qF,.m 2 16] (ae hs [] qF (congrArg Value.bool (decide_eq_false (by unfold fS;omega)).symm)))
  have phb2:=oT hb2;refine lB 11 hb2 (lL hs [.m 12 11,.m 13 0] ?_);cases hb3:(decide ((c:Int)≤(90:Int)))
  ·
   have phb3:=oF hb3;exact lB 14 hb3 (lL hs [.v 15 qF,.v 16 qF,.m 2 16] (ae hs [] qF (congrArg Value.bool (decide_eq_false (by unfold fS;omega)).symm)))
  have phb3:=oT hb3;exact lB 14 hb3 (lL hs [.v 15 qT,.v 16 qT,.m 2 16] (ae hs [] qT (congrArg Value.bool (decide_eq_true (by unfold fS;omega)).symm)))
 have phb1:=oT hb1;refine lB 4 hb1 (lL hs [.m 5 4,.m 6 0] ?_);cases hb4:(decide ((c:Int)≤(122:Int)))
 ·
  have phb4:=oF hb4;refine lB 7 hb4 (lL hs [.v 8 qF,.m 9 8,.m 10 0] ?_);have ⟨hb5,phb5⟩:=dT (p:=(65:Int)≤(c:Int)) oM;refine lB 11 hb5 (lL hs [.m 12 11,.m 13 0] ?_);have ⟨hb6,phb6⟩:=dF (p:=(c:Int)≤(90:Int)) oM;exact lB 14 hb6 (lL hs [.v 15 qF,.v 16 qF,.m 2 16] (ae hs [] qF (congrArg Value.bool (decide_eq_false (by unfold fS;omega)).symm)))
 have phb4:=oT hb4;refine lB 7 hb4 (lL hs [.v 8 qT,.m 9 8] (lG 10 ?_));exact lG 11 (lG 12 (lG 13 (lG 14 (lG 15 (lL hs [.v 16 qT,.m 2 16] (ae hs [] qT (congrArg Value.bool (decide_eq_true (by unfold fS;omega)).symm)))))))
theorem ig (c:Nat)(hc:c<256)(w:World)(h:Hp)(g:G w h):CV 166 #[.int .u8 (c:Nat)] w h (.bool (decide (48≤(c)∧(c)≤57))):=by
 have hs:=sS g;refine go Tryz.func166 [(0,.int .u8 (c:Nat))] rfl (ab hs [.v 2 qF] (aG (lL hs [.m 3 0] ?_)));cases hb1:(decide ((48:Int)≤(c:Int)))
 ·
  have phb1:=oF hb1;refine lB 4 hb1 (lL hs [.m 5 4] (lG 6 ?_));exact lG 7 (lL hs [.v 8 qF,.m 2 8] (ae hs [] qF (congrArg Value.bool (decide_eq_false oM).symm)))
 have phb1:=oT hb1;refine lB 4 hb1 (lL hs [.m 5 4,.m 6 0] ?_);cases hb2:(decide ((c:Int)≤(57:Int)))
 ·
  have phb2:=oF hb2;exact lB 7 hb2 (lL hs [.v 8 qF,.m 2 8] (ae hs [] qF (congrArg Value.bool (decide_eq_false oM).symm)))
 have phb2:=oT hb2;exact lB 7 hb2 (lL hs [.v 8 qT,.m 2 8] (ae hs [] qT (congrArg Value.bool (decide_eq_true oM).symm)))
theorem nB (c:Nat)(hc:c<256)(w:World)(h:Hp)(g:G w h):CV 126 #[.int .u8 (c:Nat)] w h (.bool (decide (mw (c)))):=by
 have hs:=sS g;refine go Tryz.func126 [(0,.int .u8 (c:Nat))] rfl (ab hs [.v 2 qF] (aG (lL hs [.m 3 0] (ai 4 hs (jJ c hc _ _ hs.g) (fun w1 h2 hs=>?_)))));cases hb3:(decide (fS (c)))
 ·
  have phb3:=oF hb3;refine lL hs [.m 5 4,.m 6 0] (ai 7 hs (ig c hc _ _ hs.g) (fun w4 h5 hs=>?_));cases hb6:(decide (48≤(c)∧(c)≤57))
  ·
   have phb6:=oF hb6;refine lL hs [.v 8 qF,.m 9 8,.m 10 0] ?_;cases hb7:((c:Int) == (95:Int))
   ·
    have phb7:=af hb7;exact lB 11 hb7 (lL hs [.v 12 qF,.m 2 12] (ae hs [] qF (congrArg Value.bool (decide_eq_false (by unfold fS at *;unfold mw;omega)).symm)))
   have phb7:=eq_of_beq hb7;exact lB 11 hb7 (lL hs [.v 12 qT,.m 2 12] (ae hs [] qT (congrArg Value.bool (decide_eq_true (by unfold fS at *;unfold mw;omega)).symm)))
  have phb6:=oT hb6;refine lL hs [.v 8 qT,.m 9 8] (lG 10 ?_);exact lG 11 (lL hs [.v 12 qT,.m 2 12] (ae hs [] qT (congrArg Value.bool (decide_eq_true (by unfold fS at *;unfold mw;omega)).symm)))
 have phb3:=oT hb3;refine lL hs [.m 5 4] (lG 6 ?_);refine lG 7 (lL hs [.v 8 qT,.m 9 8] (lG 10 ?_));exact lG 11 (lL hs [.v 12 qT,.m 2 12] (ae hs [] qT (congrArg Value.bool (decide_eq_true (by unfold fS at *;unfold mw;omega)).symm)))
theorem qe  (w:World)(h:Hp)(g:G w h):CR 127 #[] w h (fun v h1=>∃ b,v=.map (some b)∧MapS h1 b gN):=by
 have hs:=sS g;refine go Tryz.func127 [] rfl (ab hs [.v 0 (.map none)] (aG (GM 1 hs (fun b1 w2 h3 hs hmp4=>Ew 179 9 3 (⟨#[97,98,115]⟩) (iV 9) hs hmp4 (fun w5 hs hmp6=>Ew 179 9 3 (⟨#[114,97,109,112]⟩) (iV 10) hs hmp6 (fun w7 hs hmp8=>Ew 179 9 3 (⟨#[98,101,110,100]⟩) (iV 11) hs hmp8 (fun w9 hs hmp10=>Ew 179 9 3 (⟨#[109,97,120]⟩) (iV 12) hs hmp10 (fun _ hs hmp12=>Ew 179 9 3 (⟨#[109,105,110]⟩) (iV 13) hs hmp12 (fun _ hs hmp14=>lL hs [.m 2 1] ?_)))))))));obtain ⟨_,hs,sg16⟩:=hs.pubMap hmp14;replace hs:=hs.to [] [];replace hs:=hs.add (K:=fun h_=>MapS h_ b1 [⟨.string (⟨#[97,98,115]⟩),iV 9,0⟩,⟨.string (⟨#[114,97,109,112]⟩),iV 10,1⟩,⟨.string (⟨#[98,101,110,100]⟩),iV 11,2⟩,⟨.string (⟨#[109,97,120]⟩),iV 12,3⟩,⟨.string (⟨#[109,105,110]⟩),iV 13,4⟩]) sg16;exact lL hs [.m 0 2] (ae hs [] (.map (some b1)) (⟨_,rfl,hs.f.1⟩))
theorem Cm (s:ByteArray)(hs:s.size≤1000000)(w:World)(h:Hp)(g:G w h):CV 72 #[.string s] w h (.bool (dK s)):=by
 have hs:=sS g;refine go Tryz.func72 [(0,.string s)] rfl (ab hs [.v 2 qF] (ah (ab hs [.m 6 0,.v 7 (nV s.size)] ?_)));cases hb1:(decide ((s.size:Int)<(1:Int)))
 ·
  have phb1:=oF hb1;refine lB 8 hb1 (lL hs [.m 9 8,.m 10 0,.v 11 (nV s.size)] ?_);cases hb2:(decide ((20:Int)<(s.size:Int)))
  ·
   have phb2:=oF hb2;refine lB 12 hb2 (lL hs [.v 13 qF,.m 14 13,.m 15 0] (lV 16 (.int .u8 (aE s 0:Nat)) ?_ (hr:=ca (tx:=9) (x:=.tmp 15) (i:=.const (iV 0)) (k:=.i64) (s:=s) (n:=0) (j:=(0:Int)) kR kR kR kR oM oM _)));refine ai 17 hs (jJ ((aE s 0)) (bZ _ _) _ _ hs.g) (fun w3 h4 hs=>?_);cases hb5:(decide (fS ((aE s 0))))
   ·
    have phb5:=oF hb5;exact lL hs [.v 18 qT,.v 19 qT] (ak (ab hs [.v 2 qF] (ae hs [] qF (kT (fun h_=>by have h1_:=h_.1;have h2_:=h_.2.1;first|omega|exact absurd h_.2.2 aM)))))
   have phb5:=oT hb5;refine lL hs [.v 18 qF,.v 19 qF] (ag (cK (cQ (ab hs [.m 20 0,.v 21 (nV s.size),.v 22 (iV 0)] (a8 ?_)))));refine bI _ (CG.loop (fun μ_ Γ w_=>∃ (k:Nat) (h_:Hp),μ_=s.size-k∧Γ=[(0,.string s),(21,nV s.size),(22,nV k)]∧SS w h w_ h_ [] [] []∧k≤s.size∧(∀ i,i<k→mw (aE s i))) _ ⟨0,h4,rfl,rfl,hs.to _ _,Nat.zero_le _,(fun i hi=>absurd hi (Nat.not_lt_zero i))⟩ ?_);rintro _ _ w6 ⟨k,h7,hm8,rfl,hs,hk,hin⟩;refine av ?_;cases hb9:(decide ((k:Int)<(s.size:Int)))
   ·
    have phb9:=oF hb9;refine lB 23 hb9 (ah (cY (CG.exit ?_)))
    show CG _ _ _ _ _ _ _ _
    refine av (lC 32 hs (qe _ _ hs.g) ?_);rintro _ _ _ hs ⟨bm,rfl,hcm⟩;replace hs:=(hs.add (K:=fun h_=>MapS h_ bm gN) hcm);refine lL hs [.m 33 0] (Gi 34 179 9 3 (s) true (iV (dh s)) ((cB s)) hs hs.f.1 ?_ (hf:=(by rcases qn s with ⟨i_,e1_,e2_⟩|⟨e1_,e2_,e3_⟩;exact .inl ⟨i_,e1_,e2_⟩;exact .inr ⟨e1_,e2_,fun _=>by rw[e3_];kernel_rfl⟩)));refine lL hs [.m 31 34,.v 35 (iV (dh s)),.v 36 (.bool (cB s)),.m 4 35,.m 5 36] (aG (lL hs [.m 37 5] ?_));cases za:(!(cB s))
    ·
     refine lB 38 za (lL hs [.m 2 38] (lN (kX ?_)));have hq_:=wo (s:=s) ⟨by omega,by omega⟩ aM (fun i hi=>hin i oM);exact hs.ret [] qF (congrArg Value.bool (by rw[hq_];exact (by assumption:(!cB s)=false).symm))
    refine lB 38 za (lL hs [.m 2 38] (lN (kX ?_)));have hq_:=wo (s:=s) ⟨by omega,by omega⟩ aM (fun i hi=>hin i oM);exact hs.ret [] qT (congrArg Value.bool (by rw[hq_];exact (by assumption:(!cB s)=true).symm))
   have phb9:=oT hb9;refine lB 23 hb9 (ah (cl (cK (cQ (kZ (ab hs [.m 24 22,.m 3 24] (aG (lL hs [.m 25 0,.m 26 3] (lV 27 (.int .u8 (aE s k:Nat)) ?_ (hr:=ca (tx:=9) (x:=.tmp 25) (i:=.tmp 26) (k:=.i64) (s:=s) (n:=k) (j:=(k:Int)) kR kR kR kR oM oM _))))))))));refine ai 28 hs (nB ((aE s k)) (bZ _ _) _ _ hs.g) (fun _ zd hs=>?_);cases zb:(decide (mw ((aE s k))))
   ·
    have zc:=oF zb;exact lL hs [.v 29 qT] (ak (ab hs [.v 2 qF] (ae hs [] qF (AY (i:=k) oM aM))))
   have zc:=oT zb;refine lL hs [.v 29 qF] (ag (cK (kQ (bn 30 ((k:Nat)+1) (k+1) ?_))));refine lL hs [.m 22 30] (lD ?_);intro a_ ka;refine ⟨_,_,?_,⟨k+1,zd,rfl,rfl,hs.to _ _,oM,(fun i hi=>by rcases Nat.lt_succ_iff_lt_or_eq.1 hi with h_|rfl;exact hin i h_;assumption)⟩,ka.to _ kR⟩
   omega
  have phb2:=oT hb2;refine lB 12 hb2 (lL hs [.v 13 qT,.m 14 13] (lG 15 ?_));exact lG 16 (lG 17 (lG 18 (lL hs [.v 19 qT] (ak (ab hs [.v 2 qF] (ae hs [] qF (kT (fun h_=>by have h1_:=h_.1;have h2_:=h_.2.1;first|omega|exact absurd h_.2.2 aM))))))))
 have phb1:=oT hb1;refine lB 8 hb1 (lL hs [.m 9 8] (lG 10 ?_));refine lG 11 (lG 12 (lL hs [.v 13 qT,.m 14 13] (lG 15 ?_)));exact lG 16 (lG 17 (lG 18 (lL hs [.v 19 qT] (ak (ab hs [.v 2 qF] (ae hs [] qF (kT (fun h_=>by have h1_:=h_.1;have h2_:=h_.2.1;first|omega|exact absurd h_.2.2 aM))))))))
theorem nM (c:Nat)(hc:c<256)(w:World)(h:Hp)(g:G w h):CV 134 #[.int .u8 (c:Nat)] w h (.bool (decide (fS (c)))):=by
 have hs:=sS g;refine go Tryz.func134 [(0,.int .u8 (c:Nat))] rfl (ab hs [.v 2 qF] (aG (lL hs [.m 3 0] ?_)));cases hb1:(decide ((97:Int)≤(c:Int)))
 ·
  have phb1:=oF hb1;refine lB 4 hb1 (lL hs [.m 5 4] (lG 6 ?_));refine lG 7 (lL hs [.v 8 qF,.m 9 8,.m 10 0] ?_);cases hb2:(decide ((65:Int)≤(c:Int)))
  ·
   have phb2:=oF hb2;refine lB 11 hb2 (lL hs [.m 12 11] (lG 13 ?_));exact lG 14 (lL hs [.v 15 qF,.v 16 qF,.m 2 16] (ae hs [] qF (congrArg Value.bool (decide_eq_false (by unfold fS;omega)).symm)))
  have phb2:=oT hb2;refine lB 11 hb2 (lL hs [.m 12 11,.m 13 0] ?_);cases hb3:(decide ((c:Int)≤(90:Int)))
  ·
   have phb3:=oF hb3;exact lB 14 hb3 (lL hs [.v 15 qF,.v 16 qF,.m 2 16] (ae hs [] qF (congrArg Value.bool (decide_eq_false (by unfold fS;omega)).symm)))
  have phb3:=oT hb3;exact lB 14 hb3 (lL hs [.v 15 qT,.v 16 qT,.m 2 16] (ae hs [] qT (congrArg Value.bool (decide_eq_true (by unfold fS;omega)).symm)))
 have phb1:=oT hb1;refine lB 4 hb1 (lL hs [.m 5 4,.m 6 0] ?_);cases hb4:(decide ((c:Int)≤(122:Int)))
 ·
  have phb4:=oF hb4;refine lB 7 hb4 (lL hs [.v 8 qF,.m 9 8,.m 10 0] ?_);have ⟨hb5,phb5⟩:=dT (p:=(65:Int)≤(c:Int)) oM;refine lB 11 hb5 (lL hs [.m 12 11,.m 13 0] ?_);have ⟨hb6,phb6⟩:=dF (p:=(c:Int)≤(90:Int)) oM;exact lB 14 hb6 (lL hs [.v 15 qF,.v 16 qF,.m 2 16] (ae hs [] qF (congrArg Value.bool (decide_eq_false (by unfold fS;omega)).symm)))
 have phb4:=oT hb4;refine lB 7 hb4 (lL hs [.v 8 qT,.m 9 8] (lG 10 ?_));exact lG 11 (lG 12 (lG 13 (lG 14 (lG 15 (lL hs [.v 16 qT,.m 2 16] (ae hs [] qT (congrArg Value.bool (decide_eq_true (by unfold fS;omega)).symm)))))))
theorem xW (c:Nat)(hc:c<256)(w:World)(h:Hp)(g:G w h):CV 135 #[.int .u8 (c:Nat)] w h (.bool (decide (48≤(c)∧(c)≤57))):=by
 have hs:=sS g;refine go Tryz.func135 [(0,.int .u8 (c:Nat))] rfl (ab hs [.v 2 qF] (aG (lL hs [.m 3 0] ?_)));cases hb1:(decide ((48:Int)≤(c:Int)))
 ·
  have phb1:=oF hb1;refine lB 4 hb1 (lL hs [.m 5 4] (lG 6 ?_));exact lG 7 (lL hs [.v 8 qF,.m 2 8] (ae hs [] qF (congrArg Value.bool (decide_eq_false oM).symm)))
 have phb1:=oT hb1;refine lB 4 hb1 (lL hs [.m 5 4,.m 6 0] ?_);cases hb2:(decide ((c:Int)≤(57:Int)))
 ·
  have phb2:=oF hb2;exact lB 7 hb2 (lL hs [.v 8 qF,.m 2 8] (ae hs [] qF (congrArg Value.bool (decide_eq_false oM).symm)))
 have phb2:=oT hb2;exact lB 7 hb2 (lL hs [.v 8 qT,.m 2 8] (ae hs [] qT (congrArg Value.bool (decide_eq_true oM).symm)))
theorem CF (s:ByteArray)(w:World)(h:Hp)(g:G w h):CV 136 #[.string s] w h (.tuple #[iV (dh s),iV (sh s)]):=by
 have hs:=sS g;refine go Tryz.func136 [(0,.string s)] rfl (ab hs [.v 2 (iV 0),.v 3 (iV 0)] (ah (ab hs [.m 4 0] (a8 (av ?_)))));cases hb1:(jj s (⟨#[97,98,115]⟩))
 ·
  have phb1:=fX hb1;refine lB 6 hb1 (lL hs [.m 5 6] (ag (av ?_)));cases hb2:(jj s (⟨#[114,97,109,112]⟩))
  ·
   have phb2:=fX hb2;refine lB 8 hb2 (lL hs [.m 7 8] (ag (av ?_)));cases hb3:(jj s (⟨#[98,101,110,100]⟩))
   ·
    have phb3:=fX hb3;refine lB 10 hb3 (lL hs [.m 9 10] (ag (av ?_)));cases hb4:(jj s (⟨#[109,97,120]⟩))
    ·
     have phb4:=fX hb4;refine lB 12 hb4 (lL hs [.m 11 12] (ag (av ?_)));cases hb5:(jj s (⟨#[109,105,110]⟩))
     ·
      have phb5:=fX hb5;refine lB 14 hb5 (lL hs [.m 13 14] (ag (cK (ab hs [.v 2 (iV 0),.v 3 (iV 0)] (lN (kX ?_))))));have hc_:dh s=0:=by unfold dh;rw[if_neg (by assumption:¬s=⟨#[97,98,115]⟩),if_neg (by assumption:¬s=⟨#[114,97,109,112]⟩),if_neg (by assumption:¬s=⟨#[98,101,110,100]⟩),if_neg (by assumption:¬s=⟨#[109,97,120]⟩),if_neg (by assumption:¬s=⟨#[109,105,110]⟩)]
      exact hs.ret [] (.tuple #[iV 0,iV 0]) (by unfold sh;rw[hc_];rfl)
     have phb5:=fY hb5;exact lB 14 hb5 (lL hs [.m 13 14] (ak (ab hs [.v 2 (iV 13),.v 3 (iV 2)] (ae hs [] (.tuple #[iV 13,iV 2]) (by rw[(by assumption:s=⟨#[109,105,110]⟩)];rfl)))))
    have phb4:=fY hb4;exact lB 12 hb4 (lL hs [.m 11 12] (ak (ab hs [.v 2 (iV 12),.v 3 (iV 2)] (ae hs [] (.tuple #[iV 12,iV 2]) (by rw[(by assumption:s=⟨#[109,97,120]⟩)];rfl)))))
   have phb3:=fY hb3;exact lB 10 hb3 (lL hs [.m 9 10] (ak (ab hs [.v 2 (iV 11),.v 3 (iV 1)] (ae hs [] (.tuple #[iV 11,iV 1]) (by rw[(by assumption:s=⟨#[98,101,110,100]⟩)];rfl)))))
  have phb2:=fY hb2;exact lB 8 hb2 (lL hs [.m 7 8] (ak (ab hs [.v 2 (iV 10),.v 3 (iV 1)] (ae hs [] (.tuple #[iV 10,iV 1]) (by rw[(by assumption:s=⟨#[114,97,109,112]⟩)];rfl)))))
 have phb1:=fY hb1;exact lB 6 hb1 (lL hs [.m 5 6] (ak (ab hs [.v 2 (iV 9),.v 3 (iV 1)] (ae hs [] (.tuple #[iV 9,iV 1]) (by rw[(by assumption:s=⟨#[97,98,115]⟩)];rfl)))))
theorem Gh (s:ByteArray)(hs:s.size≤1000000)(w:World)(h:Hp)(g:G w h):CV 85 #[.string s] w h (.bool (dK s)):=by
 have hs:=sS g;refine go Tryz.func85 [(0,.string s)] rfl (ab hs [.v 2 qF] (ah (ab hs [.m 6 0,.v 7 (nV s.size)] ?_)));cases hb1:(decide ((s.size:Int)<(1:Int)))
 ·
  have phb1:=oF hb1;refine lB 8 hb1 (lL hs [.m 9 8,.m 10 0,.v 11 (nV s.size)] ?_);cases hb2:(decide ((20:Int)<(s.size:Int)))
  ·
   have phb2:=oF hb2;refine lB 12 hb2 (lL hs [.v 13 qF,.m 14 13,.m 15 0] (lV 16 (.int .u8 (aE s 0:Nat)) ?_ (hr:=ca (tx:=9) (x:=.tmp 15) (i:=.const (iV 0)) (k:=.i64) (s:=s) (n:=0) (j:=(0:Int)) kR kR kR kR oM oM _)));refine ai 17 hs (nM ((aE s 0)) (bZ _ _) _ _ hs.g) (fun w3 h4 hs=>?_);cases hb5:(decide (fS ((aE s 0))))
   ·
    have phb5:=oF hb5;exact lL hs [.v 18 qT,.v 19 qT] (ak (ab hs [.v 2 qF] (ae hs [] qF (kT (fun h_=>by have h1_:=h_.1;have h2_:=h_.2.1;first|omega|exact absurd h_.2.2 aM)))))
   have phb5:=oT hb5;refine lL hs [.v 18 qF,.v 19 qF] (ag (cK (cQ (ab hs [.v 3 (iV 0)] (a8 ?_)))));refine bI _ (CG.loop (fun μ_ Γ w_=>∃ (k:Nat) (h_:Hp),μ_=s.size-k∧Γ=[(0,.string s),(3,nV k)]∧SS w h w_ h_ [] [] []∧k≤s.size∧(∀ i,i<k→mw (aE s i))) _ ⟨0,h4,rfl,rfl,hs.to _ _,Nat.zero_le _,(fun i hi=>absurd hi (Nat.not_lt_zero i))⟩ ?_);rintro _ _ w6 ⟨k,h7,hm8,rfl,hs,hk,hin⟩;refine cQ (ab hs [.m 20 3,.m 21 0,.v 22 (nV s.size)] ?_);cases hb9:(decide ((k:Int)<(s.size:Int)))
   ·
    have phb9:=oF hb9;refine lB 23 hb9 (ag (CG.exit ?_))
    show CG _ _ _ _ _ _ _ _
    refine ab hs [.m 45 0] (ai 46 hs (CF s _ _ hs.g) (fun _ _ hs=>lL hs [.m 44 46,.v 47 (iV (dh s)),.v 48 (iV (sh s)),.m 4 47,.m 5 48] (aG (lL hs [.m 49 4] ?_))));cases za:(((dh s):Int) == (0:Int))
    ·
     have ze:=af za;refine lB 50 za (lL hs [.m 2 50] (lN (kX ?_)));have hq_:=wo (s:=s) ⟨by omega,by omega⟩ aM (fun i hi=>hin i oM);exact hs.ret [] qF (congrArg Value.bool (by rw[hq_];unfold cB;simp only[ne_eq,decide_not,Bool.not_not];exact (decide_eq_false oM).symm))
    have ze:=eq_of_beq za;refine lB 50 za (lL hs [.m 2 50] (lN (kX ?_)));have hq_:=wo (s:=s) ⟨by omega,by omega⟩ aM (fun i hi=>hin i oM);exact hs.ret [] qT (congrArg Value.bool (by rw[hq_];unfold cB;simp only[ne_eq,decide_not,Bool.not_not];exact (decide_eq_true oM).symm))
   have phb9:=oT hb9;refine lB 23 hb9 (ak (cK (cQ (kZ (ab hs [.m 26 0,.m 27 3] (lV 28 (.int .u8 (aE s k:Nat)) ?_ (hr:=ca (tx:=9) (x:=.tmp 26) (i:=.tmp 27) (k:=.i64) (s:=s) (n:=k) (j:=(k:Int)) kR kR kR kR oM oM _)))))));refine ai 29 hs (nM ((aE s k)) (bZ _ _) _ _ hs.g) (fun _ zk hs=>?_);cases zc:(decide (fS ((aE s k))))
   ·
    have zf:=oF zc;refine lL hs [.v 30 qT,.m 31 30,.m 32 0,.m 33 3] (lV 34 (.int .u8 (aE s k:Nat)) ?_ (hr:=ca (tx:=9) (x:=.tmp 32) (i:=.tmp 33) (k:=.i64) (s:=s) (n:=k) (j:=(k:Int)) kR kR kR kR oM oM _));refine ai 35 hs (xW ((aE s k)) (bZ _ _) _ _ hs.g) (fun _ zj hs=>?_);cases zd:(decide (48≤((aE s k))∧((aE s k))≤57))
    ·
     have zg:=oF zd;refine lL hs [.v 36 qT,.v 37 qT,.m 38 37,.m 39 0,.m 40 3] (lV 41 (.int .u8 (aE s k:Nat)) ?_ (hr:=ca (tx:=9) (x:=.tmp 39) (i:=.tmp 40) (k:=.i64) (s:=s) (n:=k) (j:=(k:Int)) kR kR kR kR oM oM _));cases zb:(((aE s k:Nat):Int) != (95:Int))
     ·
      have zi:=aY zb;refine lB 42 zb (lL hs [.v 43 qF] (ag (cK (kQ (lL hs [.m 24 3] (bn 25 ((k:Nat)+1) (k+1) ?_))))));refine lL hs [.m 3 25] (lD ?_);intro a_ ka;refine ⟨_,_,?_,⟨k+1,zj,rfl,rfl,hs.to _ _,oM,(fun i hi=>by rcases Nat.lt_succ_iff_lt_or_eq.1 hi with h_|rfl;exact hin i h_;unfold mw;unfold fS at *;omega)⟩,ka.to _ kR⟩
      omega
     have zi:=ay zb;exact lB 42 zb (lL hs [.v 43 qT] (ak (ab hs [.v 2 qF] (ae hs [] qF (AY (i:=k) oM (fun h_=>by unfold mw at h_;unfold fS at *;omega))))))
    have zg:=oT zd;refine lL hs [.v 36 qF,.v 37 qF,.m 38 37] (lG 39 ?_);refine lG 40 (lG 41 (lG 42 (lL hs [.v 43 qF] (ag (cK (kQ (lL hs [.m 24 3] (bn 25 ((k:Nat)+1) (k+1) ?_))))))));refine lL hs [.m 3 25] (lD ?_);intro a_ ka;refine ⟨_,_,?_,⟨k+1,zj,rfl,rfl,hs.to _ _,oM,(fun i hi=>by rcases Nat.lt_succ_iff_lt_or_eq.1 hi with h_|rfl;exact hin i h_;unfold mw;unfold fS at *;omega)⟩,ka.to _ kR⟩
    omega
   have zf:=oT zc;refine lL hs [.v 30 qF,.m 31 30] (lG 32 ?_);refine lG 33 (lG 34 (lG 35 (lG 36 (lL hs [.v 37 qF,.m 38 37] (lG 39 ?_)))));refine lG 40 (lG 41 (lG 42 (lL hs [.v 43 qF] (ag (cK (kQ (lL hs [.m 24 3] (bn 25 ((k:Nat)+1) (k+1) ?_))))))));refine lL hs [.m 3 25] (lD ?_);intro a_ ka;refine ⟨_,_,?_,⟨k+1,zk,rfl,rfl,hs.to _ _,oM,(fun i hi=>by rcases Nat.lt_succ_iff_lt_or_eq.1 hi with h_|rfl;exact hin i h_;unfold mw;unfold fS at *;omega)⟩,ka.to _ kR⟩
   omega
  have phb2:=oT hb2;refine lB 12 hb2 (lL hs [.v 13 qT,.m 14 13] (lG 15 ?_));exact lG 16 (lG 17 (lG 18 (lL hs [.v 19 qT] (ak (ab hs [.v 2 qF] (ae hs [] qF (kT (fun h_=>by have h1_:=h_.1;have h2_:=h_.2.1;first|omega|exact absurd h_.2.2 aM))))))))
 have phb1:=oT hb1;refine lB 8 hb1 (lL hs [.m 9 8] (lG 10 ?_));refine lG 11 (lG 12 (lL hs [.v 13 qT,.m 14 13] (lG 15 ?_)));exact lG 16 (lG 17 (lG 18 (lL hs [.v 19 qT] (ak (ab hs [.v 2 qF] (ae hs [] qF (kT (fun h_=>by have h1_:=h_.1;have h2_:=h_.2.1;first|omega|exact absurd h_.2.2 aM))))))))
def xD (pb:Nat)(s:ByteArray)(t:Tm)(b:Nat)(bd:Int):Value→World→Hp→Prop:=fun v w' h'=>∃ (tb:Nat) (p:PTm),v=.pointer (some ⟨tb,0,none⟩)∧b≤s.size∧Own w' pb 110 [.string s,.int .i64 (b:Nat),.int .i64 bd]∧Seg h' tb 0 (dg p)∧PtH h' p t
def PC (nf bf:ByteArray→Option Rat)(f:FuncId)(n:Nat)(k:PKd):Prop:=∀ (pb:Nat) (s:ByteArray),s.size≤1000000→∀ (a:Nat),a≤s.size→∀ (bd:Int) (t:Tm) (b:Nat),dq nf bf s n k a=some (.ok t b)→∀ (w:World) (h:Hp),G w h→Own w pb 110 [.string s,nV a,iV bd]→h[pb]?=some junk→Calls Tryz.prog f #[pB pb] w (dQ pb w h (xD pb s t b bd))
theorem m7  (pb:Nat)(s:ByteArray)(hsz:s.size≤1000000)(a:Nat)(ha:a≤s.size)(bd:Int)(w:World)(h:Hp)(g:G w h)(ho:Own w pb 110 [.string s,nV a,iV bd])(hj:h[pb]?=some junk):Calls Tryz.prog 50 #[pB pb] w (dQ pb w h fun v w' _=>v=.int .u8 (aE s (sk s a):Nat)∧Own w' pb 110 [.string s,nV (sk s a),iV bd]):=by
 have hmo:UpM [pb] w h w h:=UpM.refl g;obtain ⟨wz,hz0_,hs⟩:=SS.at_ g ho hj;refine go Tryz.func50 [(0,pB pb)] rfl (ab hs [.v 2 (.int .u8 0)] (ah (kZ ?_)));refine bI _ (CG.loop (fun μ_ Γ w_=>∃ (k:Nat) (h_:Hp),μ_=s.size-k∧Γ=[(0,pB pb),(2,.int .u8 0)]∧SS wz hz0_ w_ h_ [⟨pb,110,[.string s,nV k,iV bd]⟩] [] []∧a≤k∧k≤s.size∧UpM [pb] w h w_ h_∧(∀ i,a≤i→i<k→xz (aE s i)=true)) _ ⟨a,h,rfl,rfl,hs.to _ _,nR _,ha,hmo,(fun i h1 h2=>absurd h1 oM)⟩ ?_);rintro _ _ w1 ⟨k,h2,hm3,rfl,hs,hk1,hk2,hmo,hkb⟩;refine cQ (cQ (cR 22 [] mixed hs ar ?_));refine eV 0 3 (pB pb) (eV 1 4 (pB pb) (eV 2 5 (qP pb 1) (eO 3 6 [(0,1,1)] (nV k) hs (eV 4 7 (pB pb) (eV 5 8 (pB pb) (eV 6 9 (pB pb) (eO 7 10 [(0,0,1)] (.string s) hs (eV 8 11 (nV s.size) ?_))))))));cases hb4:(decide ((k:Int)<(s.size:Int)))
 ·
  have phb4:=oF hb4;refine eB 9 12 hb4 (eV 10 13 qF (eG 11 14 (eG 12 15 (eG 13 16 (eG 14 17 (eG 15 18 (eG 16 19 (eG 17 20 (eG 18 21 (eG 19 22 (eG 20 23 (eV 21 24 qF (gM hs (fun w5 h6 u7 hs=>?_))))))))))))));replace hmo:=hmo.trans (u7.m _);refine tN (cY (CG.exit ?_))
  show CG _ _ _ _ _ _ _ _
  refine cQ (cQ (cR 10 [] mixed hs ar ?_));refine eV 0 32 (pB pb) (eV 1 33 (pB pb) (eV 2 34 (qP pb 1) (eO 3 35 [(0,1,1)] (nV k) hs (eV 4 36 (pB pb) (eV 5 37 (pB pb) (eV 6 38 (pB pb) (eO 7 39 [(0,0,1)] (.string s) hs (eV 8 40 (nV s.size) ?_))))))));have ⟨hb8,phb8⟩:=dF (p:=(k:Int)<(s.size:Int)) oM;refine eB 9 41 hb8 (gM hs (fun w9 _ u11 hs=>?_));replace hmo:=hmo.trans (u11.m _);refine tN (cY (cK (ab hs [.v 2 (.int .u8 0)] (lN (kX ?_)))));have hk_:sk s a=k:=nj hk1 hk2 hkb (by first|exact .inl oM|exact .inr (decide_eq_false oM));exact hs.retM hmo [] (.int .u8 0) (by rw[hk_,pL oM];exact ⟨rfl,hs.own 0⟩)
 have phb4:=oT hb4;refine eB 9 12 hb4 (eV 10 13 qT (eV 11 14 (pB pb) (eV 12 15 (pB pb) (eV 13 16 (pB pb) (eO 14 17 [(0,0,1)] (.string s) hs (eV 15 18 (pB pb) (eV 16 19 (pB pb) (eV 17 20 (qP pb 1) (eO 18 21 [(0,1,1)] (nV k) hs (eV 19 22 (.int .u8 (aE s k:Nat)) ?_ (hv:=fun _=>ca (tx:=9) (x:=.tmp 17) (i:=.tmp 21) (k:=.i64) (s:=s) (n:=k) (j:=(k:Int)) kR kR kR kR oM oM _)))))))))));cases za:(((aE s k:Nat):Int) == (32:Int))
 ·
  have zb:=af za;refine eB 20 23 za (eV 21 24 qF (gM hs (fun _ _ u15 hs=>?_)));replace hmo:=hmo.trans (u15.m _);refine tN (cY (CG.exit ?_))
  show CG _ _ _ _ _ _ _ _
  refine cQ (cQ (cR 10 [] mixed hs ar ?_));refine eV 0 32 (pB pb) (eV 1 33 (pB pb) (eV 2 34 (qP pb 1) (eO 3 35 [(0,1,1)] (nV k) hs (eV 4 36 (pB pb) (eV 5 37 (pB pb) (eV 6 38 (pB pb) (eO 7 39 [(0,0,1)] (.string s) hs (eV 8 40 (nV s.size) ?_))))))));have ⟨zc,phb16⟩:=dT (p:=(k:Int)<(s.size:Int)) oM;refine eB 9 41 zc (gM hs (fun _ _ u19 hs=>?_));replace hmo:=hmo.trans (u19.m _);refine tN (cl (cQ (cR 9 [] mixed hs ar ?_)));refine eV 0 42 (pB pb) (eV 1 43 (pB pb) (eV 2 44 (pB pb) (eO 3 45 [(0,0,1)] (.string s) hs (eV 4 46 (pB pb) (eV 5 47 (pB pb) (eV 6 48 (qP pb 1) (eO 7 49 [(0,1,1)] (nV k) hs (eV 8 50 (.int .u8 (aE s k:Nat)) ?_ (hv:=fun _=>ca (tx:=9) (x:=.tmp 45) (i:=.tmp 49) (k:=.i64) (s:=s) (n:=k) (j:=(k:Int)) kR kR kR kR oM oM _)))))))));refine gM hs (fun _ _ u22 hs=>?_);replace hmo:=hmo.trans (u22.m _);refine tV 9 2 (.int .u8 (aE s k:Nat)) (tN (bI [(2,.int .u8 (aE s k:Nat))] ?_));refine kX ?_;have hk_:sk s a=k:=nj hk1 hk2 hkb (by first|exact .inl oM|exact .inr (decide_eq_false oM));exact hs.retM hmo [] (.int .u8 (aE s k:Nat)) (by rw[hk_];exact ⟨rfl,hs.own 0⟩)
 have zb:=eq_of_beq za;refine eB 20 23 za (eV 21 24 qT (gM hs (fun _ zd u25 hs=>?_)));replace hmo:=hmo.trans (u25.m _);refine tN (cl (cK (kZ (kQ (lL hs [.m 25 0,.v 26 (pB pb),.v 27 (qP pb 1),.o 28 (nV k) 0 1 1] (bn 29 ((k:Nat)+1) (k+1) ?_))))));refine lL hs [.v 30 (pB pb),.v 31 (qP pb 1)] (ip 0 1 ([nV (k+1)]) hs (fun _ pu hs=>?_));replace hmo:=hmo.put pu (List.mem_singleton.2 rfl) hs.g;refine lD ?_;intro a_ ka;refine ⟨_,_,?_,⟨k+1,zd,rfl,rfl,hs.to _ _,oM,oM,hmo,(fun i h1 h2=>by rcases Nat.lt_succ_iff_lt_or_eq.1 h2 with h_|rfl;exact hkb i h1 h_;exact decide_eq_true oM)⟩,ka.to _ kR⟩
 omega
theorem k9  (pb:Nat)(s:ByteArray)(hsz:s.size≤1000000)(a:Nat)(ha:a≤s.size)(bd:Int)(c:Nat)(hc:c≠0)(w:World)(h:Hp)(g:G w h)(ho:Own w pb 110 [.string s,nV a,iV bd])(hj:h[pb]?=some junk):Calls Tryz.prog 144 #[pB pb,.int .u8 (c:Nat)] w (dQ pb w h fun v w' _=>(v=.bool true∧aE s (sk s a)=c∧sk s a<s.size∧Own w' pb 110 [.string s,nV (sk s a+1),iV bd])∨(v=.bool false∧aE s (sk s a)≠c∧Own w' pb 110 [.string s,nV (sk s a),iV bd])):=by
 have hmo:UpM [pb] w h w h:=UpM.refl g;obtain ⟨wz,hz0_,hs⟩:=SS.at_ g ho hj;refine go Tryz.func144 [(0,pB pb),(1,.int .u8 (c:Nat))] rfl (ab hs [.v 4 qF] (ah (ab hs [.m 5 0] ?_)));have hskq1:=gJ (s:=s) (a:=a) oM;refine dL 6 (m7 pb s hsz a ha bd _ _ hs.g (hs.own 0) (hs.jk 0)) ?_;rintro _ w2 h3 u4 ⟨rfl,hOq1⟩;replace hs:=(hs.stepM 0 u4 hOq1).to [⟨pb,110,[.string s,nV (sk s a),iV bd]⟩] [];replace hmo:=hmo.trans u4;refine lL hs [.m 7 1] ?_;cases hb5:(((aE s (sk s a):Nat):Int) != (c:Int))
 ·
  have phb5:=aY hb5;refine lB 8 hb5 (ag (cK (ab hs [.m 9 0,.v 10 (pB pb),.v 11 (qP pb 1),.o 12 (nV (sk s a)) 0 1 1] (bn 13 ((sk s a:Nat)+1) ((sk s a)+1) ?_))));refine lL hs [.v 14 (pB pb),.v 15 (qP pb 1)] (ip 0 1 ([nV ((sk s a)+1)]) hs (fun w6 pu hs=>?_));replace hmo:=hmo.put pu (List.mem_singleton.2 rfl) hs.g;refine aG (lL hs [.v 4 qT] (lN (kX ?_)));have hin_:=vk (s:=s) (a:=sk s a) oM;exact hs.retM hmo [] qT (.inl ⟨rfl,by omega,by omega,hs.own 0⟩)
 have phb5:=ay hb5;exact lB 8 hb5 (ak (ab hs [.v 4 qF] (lN (kX (hs.retM hmo [] qF (.inr ⟨rfl,by omega,hs.own 0⟩))))))
theorem B3 (pb:Nat)(s:ByteArray)(hsz:s.size≤1000000)(a:Nat)(ha:a≤s.size)(bd:Int)(c:Nat)(hc:c≠0)(hka:sk s a=a)(w:World)(h:Hp)(g:G w h)(ho:Own w pb 110 [.string s,nV a,iV bd])(hj:h[pb]?=some junk):Calls Tryz.prog 144 #[pB pb,.int .u8 (c:Nat)] w (dQ pb w h fun v w' _=>(v=.bool true∧aE s a=c∧a<s.size∧Own w' pb 110 [.string s,nV (a+1),iV bd])∨(v=.bool false∧aE s a≠c∧Own w' pb 110 [.string s,nV a,iV bd])):=by
 have q:=k9 pb s hsz a ha bd c hc w h g ho hj;rw[hka] at q;exact q
theorem j6 (pb:Nat)(s:ByteArray)(hsz:s.size≤1000000)(a:Nat)(ha:a≤s.size)(bd:Int)(c:Nat)(hc:c≠0)(hka:aE s (sk s a)=c)(w:World)(h:Hp)(g:G w h)(ho:Own w pb 110 [.string s,nV a,iV bd])(hj:h[pb]?=some junk):Calls Tryz.prog 144 #[pB pb,.int .u8 (c:Nat)] w (dQ pb w h fun v w' _=>v=.bool true∧sk s a<s.size∧Own w' pb 110 [.string s,nV (sk s a+1),iV bd]) :=
 (k9 pb s hsz a ha bd c hc w h g ho hj).mono fun e w' ⟨v,h',he,u,hΦ⟩=>⟨v,h',he,u,by
  rcases hΦ with ⟨h1,h2,h3,h4⟩|⟨h1,h2,h3⟩
  ·exact ⟨h1,h3,h4⟩
  ·exact absurd hka h2⟩
theorem As  (fo:FuncId)(p:Nat→Bool)(hen:∀ (args:Array Value) (w:World),(callFunc fo args).run Tryz.prog w=.ok (.enter fo args) w)(hfo:∀ c,c<256→∀ (w:World) (h:Hp),G w h→Calls Tryz.prog fo #[.int .u8 (c:Nat)] w (Ret w h fun v _=>v=.bool (p c)))(pb:Nat)(s:ByteArray)(hsz:s.size≤1000000)(a:Nat)(ha:a≤s.size)(bd:Int)(w:World)(h:Hp)(g:G w h)(ho:Own w pb 110 [.string s,nV a,iV bd])(hj:h[pb]?=some junk):Calls Tryz.prog 198 #[pB pb,.func (.func fo) #[] #[]] w (dQ pb w h fun v w' _=>v=.string (s.extract a (rn p s a))∧Own w' pb 110 [.string s,nV (rn p s a),iV bd]):=by
 have hmo:UpM [pb] w h w h:=UpM.refl g;obtain ⟨wz,hz0_,hs⟩:=SS.at_ g ho hj;refine go Tryz.func198 [(0,pB pb),(1,.func (.func fo) #[] #[])] rfl (ab hs [.v 4 (eS)] (aG (lL hs [.m 6 0,.v 7 (pB pb),.v 8 (qP pb 1),.o 9 (nV a) 0 1 1,.m 5 9] (ah (kZ ?_)))));refine bI _ (CG.loop (fun μ_ Γ w_=>∃ (k:Nat) (h_:Hp),μ_=s.size-k∧Γ=[(0,pB pb),(1,.func (.func fo) #[] #[]),(4,eS),(5,nV a)]∧SS wz hz0_ w_ h_ [⟨pb,110,[.string s,nV k,iV bd]⟩] [] []∧a≤k∧k≤s.size∧UpM [pb] w h w_ h_∧(∀ i,a≤i→i<k→p (aE s i)=true)) _ ⟨a,h,rfl,rfl,hs.to _ _,nR _,ha,hmo,(fun i h1 h2=>absurd h1 oM)⟩ ?_);rintro _ _ w1 ⟨k,h2,hm3,rfl,hs,hk1,hk2,hmo,hkb⟩;refine cQ (cQ (cR 23 [] mixed hs ar ?_));refine eV 0 10 (pB pb) (eV 1 11 (pB pb) (eV 2 12 (qP pb 1) (eO 3 13 [(0,1,1)] (nV k) hs (eV 4 14 (pB pb) (eV 5 15 (pB pb) (eV 6 16 (pB pb) (eO 7 17 [(0,0,1)] (.string s) hs (eV 8 18 (nV s.size) ?_))))))));cases hb4:(decide ((k:Int)<(s.size:Int)))
 ·
  have phb4:=oF hb4;refine eB 9 19 hb4 (eV 10 20 qF (eG 11 21 (eG 12 22 (eG 13 23 (eG 14 24 (eG 15 25 (eG 16 26 (eG 17 27 (eG 18 28 (eG 19 29 (eG 20 30 (eG 21 31 (eV 22 32 qF (gM hs (fun w5 h6 u7 hs=>?_)))))))))))))));replace hmo:=hmo.trans (u7.m _);refine tN (cY (CG.exit ?_))
  show CG _ _ _ _ _ _ _ _
  refine cQ (cR 10 [] mixed hs ar ?_);refine eV 0 40 (pB pb) (eV 1 41 (pB pb) (eV 2 42 (pB pb) (eO 3 43 [(0,0,1)] (.string s) hs (eV 4 44 (nV a) (eV 5 45 (pB pb) (eV 6 46 (pB pb) (eV 7 47 (qP pb 1) (eO 8 48 [(0,1,1)] (nV k) hs (eV 9 49 (.string (s.extract a k)) ?_ (hv:=fun _=>tU (tx:=9) (x:=.tmp 43) (i:=.tmp 44) (e:=.tmp 48) (k:=.i64) (k2:=.i64) (s:=s) (n:=a) (m:=k) (j:=(a:Int)) (j2:=(k:Int)) kR kR kR kR kR oM oM oM oM _))))))))));refine gM hs (fun w8 h9 u10 hs=>?_);replace hmo:=hmo.trans (u10.m _);refine tV 10 4 (.string (s.extract a k)) (tN (kX ?_));have hk_:rn p s a=k:=nj hk1 hk2 hkb (by first|exact .inl oM|exact .inr aM);exact hs.retM hmo [] (.string (s.extract a k)) (by rw[hk_];exact ⟨rfl,hs.own 0⟩)
 have phb4:=oT hb4;refine eB 9 19 hb4 (eV 10 20 qT (eV 11 21 (.func (.func fo) #[] #[]) (eV 12 22 (pB pb) (eV 13 23 (pB pb) (eV 14 24 (pB pb) (eO 15 25 [(0,0,1)] (.string s) hs (eV 16 26 (pB pb) (eV 17 27 (pB pb) (eV 18 28 (qP pb 1) (eO 19 29 [(0,1,1)] (nV k) hs (eV 20 30 (.int .u8 (aE s k:Nat)) ?_ (hv:=fun _=>ca (tx:=9) (x:=.tmp 25) (i:=.tmp 29) (k:=.i64) (s:=s) (n:=k) (j:=(k:Int)) kR kR kR kR oM oM _))))))))))));refine DB 21 31 hs hmo (fun _ _ hs=>hfo ((aE s k)) (bZ _ _) _ _ hs.g) ?_ (hv:=fun _=>Eq.trans kR (hen _ _));rintro _ _ _ _ _ hmo hs rfl;cases hb13:(p ((aE s k)))
 ·
  refine eV 22 32 qF (gM hs (fun _ _ u16 hs=>?_));replace hmo:=hmo.trans (u16.m _);refine tN (cY (CG.exit ?_))
  show CG _ _ _ _ _ _ _ _
  refine cQ (cR 10 [] mixed hs ar ?_);refine eV 0 40 (pB pb) (eV 1 41 (pB pb) (eV 2 42 (pB pb) (eO 3 43 [(0,0,1)] (.string s) hs (eV 4 44 (nV a) (eV 5 45 (pB pb) (eV 6 46 (pB pb) (eV 7 47 (qP pb 1) (eO 8 48 [(0,1,1)] (nV k) hs (eV 9 49 (.string (s.extract a k)) ?_ (hv:=fun _=>tU (tx:=9) (x:=.tmp 43) (i:=.tmp 44) (e:=.tmp 48) (k:=.i64) (k2:=.i64) (s:=s) (n:=a) (m:=k) (j:=(a:Int)) (j2:=(k:Int)) kR kR kR kR kR oM oM oM oM _))))))))));refine gM hs (fun _ _ u19 hs=>?_);replace hmo:=hmo.trans (u19.m _);refine tV 10 4 (.string (s.extract a k)) (tN (kX ?_));have hk_:rn p s a=k:=nj hk1 hk2 hkb (by first|exact .inl oM|exact .inr aM);exact hs.retM hmo [] (.string (s.extract a k)) (by rw[hk_];exact ⟨rfl,hs.own 0⟩)
 refine eV 22 32 qT (gM hs (fun _ za u22 hs=>?_));replace hmo:=hmo.trans (u22.m _);refine tN (cl (cK (kZ (kQ (lL hs [.m 33 0,.v 34 (pB pb),.v 35 (qP pb 1),.o 36 (nV k) 0 1 1] (bn 37 ((k:Nat)+1) (k+1) ?_))))));refine lL hs [.v 38 (pB pb),.v 39 (qP pb 1)] (ip 0 1 ([nV (k+1)]) hs (fun _ pu hs=>?_));replace hmo:=hmo.put pu (List.mem_singleton.2 rfl) hs.g;refine lD ?_;intro a_ ka;refine ⟨_,_,?_,⟨k+1,za,rfl,rfl,hs.to _ _,oM,oM,hmo,(fun i h1 h2=>by rcases Nat.lt_succ_iff_lt_or_eq.1 h2 with h_|rfl;exact hkb i h1 h_;exact aM)⟩,ka.to _ kR⟩
 omega
theorem AK (op:Int)(pa pc:PTm)(w:World)(h:Hp)(g:G w h):CR 145 #[iV op,pX pa,pX pc] w h (fun v h1=>∃ b,v=fe ⟨op,0,0,⟨#[]⟩,sB b,2,2⟩∧SlO 9 dg aU h1 (sB b) [pa,pc]):=by
 have hs:=sS g;refine go Tryz.func145 [(0,iV op),(1,pX pa),(2,pX pc)] rfl (av (lA 4 51 (pC pa) hs (fun b1 w2 h3 hs=>lA 5 51 (pC pc) hs (fun b4 w5 h6 hs=>lA 6 51 ([iV 0,iV 0,qF,uV 0,eS,uV 0,eS,eS,sZ]) hs (fun b7 w8 h9 hs=>aG (lL hs [.m 7 0,.o 8 (pX pa) 2 0 9,.o 9 (pX pc) 1 0 9] (lR 10 51 2 ([iV pa.op,iV pa.n,.bool (ac pa.q.num),uV (lo (aa pa.q.num)),.string (hi (aa pa.q.num)),uV (lo (qd pa.q)),.string (hi (qd pa.q)),.string pa.s,qS pa.A pa.m pa.c,iV pc.op,iV pc.n,.bool (ac pc.q.num),uV (lo (aa pc.q.num)),.string (hi (aa pc.q.num)),uV (lo (qd pc.q)),.string (hi (qd pc.q)),.string pc.s,qS pc.A pc.m pc.c]) hs (fun za _ _ hs=>?_))))))));replace hs:=hs.aS (SlO.of_flat (sz:=9) (f:=dg) (d:=aU) (b:=za) (o:=0) (l:=([pa,pc]:List PTm)) (fun _=>rfl) hs.f.1);exact lL hs [.v 11 (.agg #[iV op,iV 0,qF,uV 0,eS,uV 0,eS,eS,qS (sB za) 2 2])] (lP 0 0 ([iV op,iV 0,qF,uV 0,eS,uV 0,eS,eS,qS (sB za) 2 2]) hs (fun _ hs=>ae hs [(0,0,9)] (.agg #[iV op,iV 0,qF,uV 0,eS,uV 0,eS,eS,qS (sB za) 2 2]) (⟨_,rfl,hs.f.1⟩)))
theorem Bm (op:Int)(pa:PTm)(w:World)(h:Hp)(g:G w h):CR 155 #[iV op,pX pa] w h (fun v h1=>∃ b,v=fe ⟨op,0,0,⟨#[]⟩,sB b,1,1⟩∧SlO 9 dg aU h1 (sB b) [pa]):=by
 have hs:=sS g;refine go Tryz.func155 [(0,iV op),(1,pX pa)] rfl (av (lA 3 51 (pC pa) hs (fun b1 w2 h3 hs=>lA 4 51 ([iV 0,iV 0,qF,uV 0,eS,uV 0,eS,eS,sZ]) hs (fun b4 w5 h6 hs=>aG (lL hs [.m 5 0,.o 6 (pX pa) 1 0 9] (lR 7 51 1 (pC pa) hs (fun b7 w8 h9 hs=>?_)))))));replace hs:=hs.aS (SlO.of_flat (sz:=9) (f:=dg) (d:=aU) (b:=b7) (o:=0) (l:=([pa]:List PTm)) (fun _=>rfl) hs.f.1);exact lL hs [.v 8 (.agg #[iV op,iV 0,qF,uV 0,eS,uV 0,eS,eS,qS (sB b7) 1 1])] (lP 0 0 ([iV op,iV 0,qF,uV 0,eS,uV 0,eS,eS,qS (sB b7) 1 1]) hs (fun _ hs=>ae hs [(0,0,9)] (.agg #[iV op,iV 0,qF,uV 0,eS,uV 0,eS,eS,qS (sB b7) 1 1]) (⟨_,rfl,hs.f.1⟩)))
theorem xF (q:Rat)(w:World)(h:Hp)(g:G w h):CR 152 #[qv q] w h (fun v h1=>∃ p,v=fe p∧PtH h1 p (eP q)):=by
 have hs:=sS g;exact go Tryz.func152 [(0,qv q)] rfl (av (lA 1 45 (qc q) hs (fun b1 w2 h3 hs=>lA 2 51 ([iV 0,iV 0,qF,uV 0,eS,uV 0,eS,eS,sZ]) hs (fun b4 w5 h6 hs=>aG (lL hs [.o 3 (qv q) 1 0 5,.v 4 (.agg #[iV 1,iV 0,.bool (ac q.num),uV (lo (aa q.num)),.string (hi (aa q.num)),uV (lo (qd q)),.string (hi (qd q)),eS,sZ])] (lP 0 0 ([iV 1,iV 0,.bool (ac q.num),uV (lo (aa q.num)),.string (hi (aa q.num)),uV (lo (qd q)),.string (hi (qd q)),eS,sZ]) hs (fun w7 hs=>ae hs [(0,0,9)] (.agg #[iV 1,iV 0,.bool (ac q.num),uV (lo (aa q.num)),.string (hi (aa q.num)),uV (lo (qd q)),.string (hi (qd q)),eS,sZ]) (⟨⟨1,0,q,⟨#[]⟩,none,0,0⟩,rfl,PtH.num⟩))))))))
theorem C4 (op:Int)(pa pc:PTm)(t u:Tm)(w:World)(h:Hp)(g:G w h)(x:PtH h pa t)(y:PtH h pc u):CR 145 #[iV op,fe pa,fe pc] w h (fun v h1=>∃ p,v=fe p∧PtH h1 p (dk op t u)) :=
 (AK op pa pc w h g).mono fun e w' ⟨v,h',e1,up,b,e2,e3⟩=>⟨v,h',e1,up,_,e2,(x.gw up.gr.gw).two (y.gw up.gr.gw) e3⟩
theorem xV (op:Int)(pa:PTm)(t:Tm)(w:World)(h:Hp)(g:G w h)(x:PtH h pa t):CR 155 #[iV op,fe pa] w h (fun v h1=>∃ p,v=fe p∧PtH h1 p (l7 op t)) :=
 (Bm op pa w h g).mono fun e w' ⟨v,h',e1,up,b,e2,e3⟩=>⟨v,h',e1,up,_,e2,(x.gw up.gr.gw).one e3⟩
section
variable {nf bf:ByteArray→Option Rat} (n:Nat)
theorem uE  (lv:Bool)(fp:FuncId)(hen:∀ (args:Array Value) (w:World),(callFunc fp args).run Tryz.prog w=.ok (.enter fp args) w)(hp:∀ m,m≤n→PC nf bf fp m (part lv))(pb:Nat)(s:ByteArray)(hsz:s.size≤1000000)(a:Nat)(ha:a≤s.size)(bd:Int)(t:Tm)(b:Nat)(hq:dq nf bf s (n+1) (rK lv) a=some (.ok t b))(w:World)(h:Hp)(g:G w h)(ho:Own w pb 110 [.string s,nV a,iV bd])(hj:h[pb]?=some junk):Calls Tryz.prog 97 #[pB pb,.func (.func fp) #[pB pb] #[],.int .u8 (c1 lv:Nat),iV (vD lv),.int .u8 (c2 lv:Nat),iV (p9 lv)] w (dQ pb w h (xD pb s t b bd)):=by
 have hmo:UpM [pb] w h w h:=UpM.refl g;obtain ⟨wz,hz0_,hs⟩:=SS.at_ g ho hj;obtain ⟨t1,b1,hq1,hq2⟩:=wd hq;have hc1_:c1 lv≠0:=by cases lv<;>decide
 have hc2_:c2 lv≠0:=by cases lv<;>decide
 refine go Tryz.func97 [(0,pB pb),(1,.func (.func fp) #[pB pb] #[]),(2,.int .u8 (c1 lv:Nat)),(3,iV (vD lv)),(4,.int .u8 (c2 lv:Nat)),(5,iV (p9 lv))] rfl (ab hs [.v 12 (.pointer none)] (aG (lL hs [.m 17 1] (dL 18 (hp n (nR _) pb s hsz a ha bd t1 b1 hq1 _ _ hs.g (hs.own 0) (hs.jk 0)) ?_ (hr:=Eq.trans kR (hen _ _))))));rintro _ w2 h3 u4 ⟨tbq1,pq1,rfl,hbq1,hOq1,hSq1,hTq1⟩;replace hs:=(hs.stepM 0 u4 hOq1).to [⟨pb,110,[.string s,nV b1,iV bd]⟩] [];replace hmo:=hmo.trans u4;replace hs:=((hs.a_Seg hSq1).add (K:=fun h_=>PtH h_ pq1 t1) hTq1);refine lL hs [.m 13 18] (ah (kZ ?_));replace hs:=hs.add (K:=fun h_=>PtH h_ pq1 t1) (hs.f.1);replace hs:=hs.add (K:=fun h_=>Seg h_ tbq1 0 (dg pq1)) (hs.f.r.1);refine bI _ (CG.loop (fun μ_ Γ w_=>∃ (m:Nat) (tb:Nat) (p:PTm) (u:Tm) (k:Nat) (h_:Hp),μ_=m∧Γ=[(0,pB pb),(1,.func (.func fp) #[pB pb] #[]),(2,.int .u8 (c1 lv:Nat)),(3,iV (vD lv)),(4,.int .u8 (c2 lv:Nat)),(5,iV (p9 lv)),(13,pB tb)]∧SS wz hz0_ w_ h_ [⟨pb,110,[.string s,nV k,iV bd]⟩] [] [fun h_=>Seg h_ tb 0 (dg p),fun h_=>PtH h_ p u,fun h_=>PtH h_ pq1 t1,fun h_=>Seg h_ tbq1 0 (dg pq1)]∧m≤n∧k≤s.size∧UpM [pb] w h w_ h_∧dq nf bf s m (.more lv u) k=some (.ok t b)) _ ⟨n,tbq1,pq1,t1,b1,h3,rfl,rfl,hs.to _ _,nR _,hbq1,hmo,hq2⟩ ?_);rintro _ _ w5 ⟨m,tb,p,u,k,h6,hm7,rfl,hs,hm,hk,hmo,hq⟩;obtain ⟨m1,rfl⟩:=xU hq;have hskk:=gJ (s:=s) (a:=k) hk;refine cQ (ab hs [.m 19 13,.v 20 qT] (ak (cK (kZ (ab hs [.v 14 (iV 0)] (ah (ab hs [.m 21 0,.m 22 2] ?_)))))));have hskq8:=gJ (s:=s) (a:=k) oM;refine dL 23 (k9 pb s hsz k oM bd (c1 lv) hc1_ _ _ hs.g (hs.own 0) (hs.jk 0)) ?_;rintro _ w9 _ u11 (⟨rfl,hcq8,hlq8,hOq8⟩|⟨rfl,hcq8,hOq8⟩)
 ·
  replace hs:=(hs.stepM 0 u11 hOq8).to [⟨pb,110,[.string s,nV (sk s k+1),iV bd]⟩] [];replace hmo:=hmo.trans u11;obtain ⟨vq8,eq8,hvq8,hwq8⟩:=qW hq hcq8;refine ak (kQ (lL hs [.m 24 3,.m 14 24] (aG (lL hs [.m 30 1] (dL 31 (hp m1 oM pb s hsz (sk s k+1) oM bd vq8 eq8 hvq8 _ _ hs.g (hs.own 0) (hs.jk 0)) ?_ (hr:=Eq.trans kR (hen _ _)))))));rintro _ _ _ u15 ⟨tbq12,pq12,rfl,hbq12,hOq12,hSq12,hTq12⟩;replace hs:=(hs.stepM 0 u15 hOq12).to [⟨pb,110,[.string s,nV eq8,iV bd]⟩] [];replace hmo:=hmo.trans u15;replace hs:=((hs.a_Seg hSq12).add (K:=fun h_=>PtH h_ pq12 vq8) hTq12);refine lL hs [.m 15 31] (ah (ab hs [.m 32 15,.v 33 qF] (ag (cK (cQ ?_)))));have hsr:=hs;have hge_:=hmo.gr.size;refine cR 9 [⟨8,16,.cells (List.toArray [iV 0,iV 0,qF,uV 0,eS,uV 0,eS,eS,sZ]) 51 (0,0)⟩] mixed hs (bP (fb kR (fun _ _=>by kernel_rfl)) ar) (eV 0 34 (iV (vD lv)) (eV 1 35 (pB tb) (eV 2 36 (pB tb) (eH 3 37 (pX p) hs hs.f.r.1 (eV 4 38 (pB tbq12) (eV 5 39 (pB tbq12) (eH 6 40 (pX pq12) hs hs.f.2.1 (DB 7 41 hs hmo (fun _ _ hs=>C4 (vD lv) p pq12 u vq8 _ _ hs.g hs.f.r.2.1 hs.f.1) ?_))))))));rintro _ _ _ _ _ hmo hs ⟨pq16,rfl,hTq16⟩;replace hs:=(hs.add (K:=fun h_=>PtH h_ pq16 (dk (vD lv) u vq8)) hTq16);refine DF [] hsr hs hmo hge_ 51 [iV 0,iV 0,qF,uV 0,eS,uV 0,eS,eS,sZ] (fun _ _ za hmo hlo_b21 hs=>FG 9 0 0 (pC pq16) hs (fun _ pu hs=>?_));replace hmo:=hmo.put2 pu hlo_b21 g hs.g;refine tN ?_;obtain ⟨zc,hs,hmo,sg24⟩:=hs.pubM hmo 0 hlo_b21;replace hs:=hs.to [⟨pb,110,[.string s,nV eq8,iV bd]⟩] [];have sg26:Seg zc za 0 (dg pq16):=sg24;replace hs:=hs.a_Seg sg26;refine kQ (lL hs [.m 13 16] (lD ?_));intro a_ ka;replace hs:=((hs.tl.tl.tl.tl.tl.tl.add (K:=fun h_=>PtH h_ pq16 (dk (vD lv) u vq8)) hs.f.2.1).add (K:=fun h_=>Seg h_ za 0 (dg pq16)) hs.f.1);refine ⟨_,_,?_,⟨m1,za,pq16,dk (vD lv) u vq8,eq8,zc,rfl,rfl,hs.to _ _,oM,hbq12,hmo,hwq8⟩,ka.to _ kR⟩
  omega
 replace hs:=(hs.stepM 0 u11 hOq8).to [⟨pb,110,[.string s,nV (sk s k),iV bd]⟩] [];replace hmo:=hmo.trans u11;have hcF:=hcq8;refine ag (ab hs [.m 25 0,.m 26 4] ?_);have hskq33:=gJ (s:=s) (a:=(sk s k)) oM;refine dL 27 (B3 pb s hsz (sk s k) oM bd (c2 lv) hc2_ (Fi _ _) _ _ hs.g (hs.own 0) (hs.jk 0)) ?_;rintro _ _ _ u36 (⟨rfl,hcq33,hlq33,hOq33⟩|⟨rfl,hcq33,hOq33⟩)
 ·
  replace hs:=(hs.stepM 0 u36 hOq33).to [⟨pb,110,[.string s,nV ((sk s k)+1),iV bd]⟩] [];replace hmo:=hmo.trans u36;obtain ⟨vq33,eq33,hvq33,hwq33⟩:=qQ hq hcF hcq33;refine ak (kQ (lL hs [.m 28 5,.m 14 28] (aG (lL hs [.m 30 1] (dL 31 (hp m1 oM pb s hsz ((sk s k)+1) oM bd vq33 eq33 hvq33 _ _ hs.g (hs.own 0) (hs.jk 0)) ?_ (hr:=Eq.trans kR (hen _ _)))))));rintro _ _ _ u40 ⟨tbq37,pq37,rfl,hbq37,hOq37,hSq37,hTq37⟩;replace hs:=(hs.stepM 0 u40 hOq37).to [⟨pb,110,[.string s,nV eq33,iV bd]⟩] [];replace hmo:=hmo.trans u40;replace hs:=((hs.a_Seg hSq37).add (K:=fun h_=>PtH h_ pq37 vq33) hTq37);refine lL hs [.m 15 31] (ah (ab hs [.m 32 15,.v 33 qF] (ag (cK (cQ ?_)))));have hsr:=hs;have hge_:=hmo.gr.size;refine cR 9 [⟨8,16,.cells (List.toArray [iV 0,iV 0,qF,uV 0,eS,uV 0,eS,eS,sZ]) 51 (0,0)⟩] mixed hs (bP (fb kR (fun _ _=>by kernel_rfl)) ar) (eV 0 34 (iV (p9 lv)) (eV 1 35 (pB tb) (eV 2 36 (pB tb) (eH 3 37 (pX p) hs hs.f.r.1 (eV 4 38 (pB tbq37) (eV 5 39 (pB tbq37) (eH 6 40 (pX pq37) hs hs.f.2.1 (DB 7 41 hs hmo (fun _ _ hs=>C4 (p9 lv) p pq37 u vq33 _ _ hs.g hs.f.r.2.1 hs.f.1) ?_))))))));rintro _ _ _ _ _ hmo hs ⟨pq41,rfl,hTq41⟩;replace hs:=(hs.add (K:=fun h_=>PtH h_ pq41 (dk (p9 lv) u vq33)) hTq41);refine DF [] hsr hs hmo hge_ 51 [iV 0,iV 0,qF,uV 0,eS,uV 0,eS,eS,sZ] (fun _ _ zb hmo hlo_b46 hs=>FG 9 0 0 (pC pq41) hs (fun _ pu hs=>?_));replace hmo:=hmo.put2 pu hlo_b46 g hs.g;refine tN ?_;obtain ⟨zd,hs,hmo,sg49⟩:=hs.pubM hmo 0 hlo_b46;replace hs:=hs.to [⟨pb,110,[.string s,nV eq33,iV bd]⟩] [];have sg51:Seg zd zb 0 (dg pq41):=sg49;replace hs:=hs.a_Seg sg51;refine kQ (lL hs [.m 13 16] (lD ?_));intro a_ ka;replace hs:=((hs.tl.tl.tl.tl.tl.tl.add (K:=fun h_=>PtH h_ pq41 (dk (p9 lv) u vq33)) hs.f.2.1).add (K:=fun h_=>Seg h_ zb 0 (dg pq41)) hs.f.1);refine ⟨_,_,?_,⟨m1,zb,pq41,dk (p9 lv) u vq33,eq33,zd,rfl,rfl,hs.to _ _,oM,hbq37,hmo,hwq33⟩,ka.to _ kR⟩
  omega
 replace hs:=(hs.stepM 0 u36 hOq33).to [⟨pb,110,[.string s,nV (sk s k),iV bd]⟩] [];replace hmo:=hmo.trans u36;have hcF2:=hcq33;refine ag (ab hs [.m 29 13,.m 12 29] (lN (kX ?_)));obtain ⟨ht_,hb_⟩:=rq hq hcF hcF2;exact hs.retM hmo [] (pB tb) (by rw[ht_];rw[hb_];exact ⟨tb,p,rfl,by first|assumption|omega,hs.own 0,hs.f.1,hs.f.2.1⟩)
theorem FS  (hp:∀ m,m≤n→PC nf bf 98 m .prod)(pb:Nat)(s:ByteArray)(hsz:s.size≤1000000)(a:Nat)(ha:a≤s.size)(bd:Int)(t:Tm)(b:Nat)(hq:dq nf bf s (n+1) .sum a=some (.ok t b))(w:World)(h:Hp)(g:G w h)(ho:Own w pb 110 [.string s,nV a,iV bd])(hj:h[pb]?=some junk):Calls Tryz.prog 49 #[pB pb] w (dQ pb w h (xD pb s t b bd)):=by
 have hmo:UpM [pb] w h w h:=UpM.refl g;obtain ⟨wz,hz0_,hs⟩:=SS.at_ g ho hj;refine go Tryz.func49 [(0,pB pb)] rfl (ab hs [.v 2 (.pointer none)] (aG (lL hs [.m 3 0,.m 4 0,.v 5 (.func (.func 98) #[pB pb] #[])] (dL 6 (uE n false 98 (fun _ _=>by kernel_rfl) hp pb s hsz a ha bd t b hq _ _ hs.g (hs.own 0) (hs.jk 0)) ?_))));rintro _ w2 h3 u4 ⟨tbq1,pq1,rfl,hbq1,hOq1,hSq1,hTq1⟩;replace hs:=(hs.stepM 0 u4 hOq1).to [⟨pb,110,[.string s,nV b,iV bd]⟩] [];replace hmo:=hmo.trans u4;replace hs:=((hs.a_Seg hSq1).add (K:=fun h_=>PtH h_ pq1 t) hTq1);exact lL hs [.m 2 6] (lN (kX (hs.retM hmo [] (pB tbq1) (by exact ⟨tbq1,pq1,rfl,by first|assumption|omega,hs.own 0,hs.f.2.1,hs.f.1⟩))))
theorem uy  (hp:∀ m,m≤n→PC nf bf 146 m .sign)(pb:Nat)(s:ByteArray)(hsz:s.size≤1000000)(a:Nat)(ha:a≤s.size)(bd:Int)(t:Tm)(b:Nat)(hq:dq nf bf s (n+1) .prod a=some (.ok t b))(w:World)(h:Hp)(g:G w h)(ho:Own w pb 110 [.string s,nV a,iV bd])(hj:h[pb]?=some junk):Calls Tryz.prog 98 #[pB pb] w (dQ pb w h (xD pb s t b bd)):=by
 have hmo:UpM [pb] w h w h:=UpM.refl g;obtain ⟨wz,hz0_,hs⟩:=SS.at_ g ho hj;refine go Tryz.func98 [(0,pB pb)] rfl (ab hs [.v 2 (.pointer none)] (aG (lL hs [.m 3 0,.m 4 0,.v 5 (.func (.func 146) #[pB pb] #[])] (dL 6 (uE n true 146 (fun _ _=>by kernel_rfl) hp pb s hsz a ha bd t b hq _ _ hs.g (hs.own 0) (hs.jk 0)) ?_))));rintro _ w2 h3 u4 ⟨tbq1,pq1,rfl,hbq1,hOq1,hSq1,hTq1⟩;replace hs:=(hs.stepM 0 u4 hOq1).to [⟨pb,110,[.string s,nV b,iV bd]⟩] [];replace hmo:=hmo.trans u4;replace hs:=((hs.a_Seg hSq1).add (K:=fun h_=>PtH h_ pq1 t) hTq1);exact lL hs [.m 2 6] (lN (kX (hs.retM hmo [] (pB tbq1) (by exact ⟨tbq1,pq1,rfl,by first|assumption|omega,hs.own 0,hs.f.2.1,hs.f.1⟩))))
theorem vY  (ihs:PC nf bf 146 n .sign)(ihp:PC nf bf 175 n .pow)(pb:Nat)(s:ByteArray)(hsz:s.size≤1000000)(a:Nat)(ha:a≤s.size)(bd:Int)(t:Tm)(b:Nat)(hq:dq nf bf s (n+1) .sign a=some (.ok t b))(w:World)(h:Hp)(g:G w h)(ho:Own w pb 110 [.string s,nV a,iV bd])(hj:h[pb]?=some junk):Calls Tryz.prog 146 #[pB pb] w (dQ pb w h (xD pb s t b bd)):=by
 have hmo:UpM [pb] w h w h:=UpM.refl g;obtain ⟨wz,hz0_,hs⟩:=SS.at_ g ho hj;refine go Tryz.func146 [(0,pB pb)] rfl (ab hs [.v 2 (.pointer none)] (ah (ab hs [.m 5 0] ?_)));have hskq1:=gJ (s:=s) (a:=a) oM;refine dL 6 (k9 pb s hsz a ha bd 45 kD _ _ hs.g (hs.own 0) (hs.jk 0)) ?_;rintro _ w2 h3 u4 (⟨rfl,hcq1,hlq1,hOq1⟩|⟨rfl,hcq1,hOq1⟩)
 ·
  replace hs:=(hs.stepM 0 u4 hOq1).to [⟨pb,110,[.string s,nV (sk s a+1),iV bd]⟩] [];replace hmo:=hmo.trans u4;obtain ⟨v1,hv1,ht_⟩:=xR hq hcq1;refine lL hs [.v 7 qF] (ag (cK (ab hs [.m 10 0] (dL 11 (ihs pb s hsz (sk s a+1) oM bd v1 b hv1 _ _ hs.g (hs.own 0) (hs.jk 0)) ?_))));rintro _ w6 h7 u8 ⟨tbq5,pq5,rfl,hbq5,hOq5,hSq5,hTq5⟩;replace hs:=(hs.stepM 0 u8 hOq5).to [⟨pb,110,[.string s,nV b,iV bd]⟩] [];replace hmo:=hmo.trans u8;replace hs:=((hs.a_Seg hSq5).add (K:=fun h_=>PtH h_ pq5 v1) hTq5);refine lL hs [.m 3 11] (ah (ab hs [.m 12 3,.v 13 qF] (ag (cK (ab hs [.m 14 3,.v 15 (pB tbq5)] (lH 16 (pX pq5) hs hs.f.2.1 ?_))))));refine f7 17 (xV 7 pq5 v1 _ _ hs.g hs.f.1) ?_;rintro _ _ _ u12 ⟨pq9,rfl,hTq9⟩;replace hmo:=hmo.trans (u12.m _);replace hs:=hs.step u12;replace hs:=(hs.add (K:=fun h_=>PtH h_ pq9 (l7 7 v1)) hTq9);refine vF 4 51 ([iV 0,iV 0,qF,uV 0,eS,uV 0,eS,eS,sZ]) hs (fun za _ _ u16 hlo_b13 hs=>?_);replace hlo_b13:=Nat.le_trans hmo.gr.size hlo_b13;replace hmo:=hmo.trans (u16.m _);refine ip 0 0 (pC pq9) hs (fun _ pu hs=>?_);replace hmo:=hmo.put2 pu hlo_b13 g hs.g;refine aG (lL hs [.m 2 4] (lN (kX ?_)));obtain ⟨zb,hs,hmo,sg19⟩:=hs.pubM hmo 0 hlo_b13;replace hs:=hs.to [⟨pb,110,[.string s,nV b,iV bd]⟩] [];have sg21:Seg zb za 0 (dg pq9):=sg19;replace hs:=hs.a_Seg sg21;exact hs.retM hmo [] (pB za) (by rw[ht_];exact ⟨za,pq9,rfl,by first|assumption|omega,hs.own 0,hs.f.1,hs.f.2.1⟩)
 replace hs:=(hs.stepM 0 u4 hOq1).to [⟨pb,110,[.string s,nV (sk s a),iV bd]⟩] [];replace hmo:=hmo.trans u4;have hcF:=hcq1;refine lL hs [.v 7 qT] (ak (ab hs [.m 8 0] (dL 9 (ihp pb s hsz (sk s a) oM bd t b (re hq hcF) _ _ hs.g (hs.own 0) (hs.jk 0)) ?_)));rintro _ _ _ u25 ⟨tbq22,pq22,rfl,hbq22,hOq22,hSq22,hTq22⟩;replace hs:=(hs.stepM 0 u25 hOq22).to [⟨pb,110,[.string s,nV b,iV bd]⟩] [];replace hmo:=hmo.trans u25;replace hs:=((hs.a_Seg hSq22).add (K:=fun h_=>PtH h_ pq22 t) hTq22);exact lL hs [.m 2 9] (lN (kX (hs.retM hmo [] (pB tbq22) (by exact ⟨tbq22,pq22,rfl,by first|assumption|omega,hs.own 0,hs.f.2.1,hs.f.1⟩))))
end
theorem Gb (c:Nat)(hc:c<256)(w:World)(h:Hp)(g:G w h):CV 221 #[.int .u8 (c:Nat)] w h (.bool (jV c)):=by
 have hs:=sS g;refine go Tryz.func221 [(0,.int .u8 (c:Nat))] rfl (ab hs [.v 2 qF] (aG (lL hs [.m 3 0] (ai 4 hs (ig c hc _ _ hs.g) (fun w1 h2 hs=>?_)))));cases hb3:(decide (48≤c∧c≤57))
 ·
  have phb3:=oF hb3;refine lL hs [.m 5 4,.m 6 0] ?_;cases hb4:((c:Int) == (46:Int))
  ·
   have phb4:=af hb4;exact lB 7 hb4 (lL hs [.v 8 qF,.m 2 8] (ae hs [] qF (congrArg Value.bool (decide_eq_false oM).symm)))
  have phb4:=eq_of_beq hb4;exact lB 7 hb4 (lL hs [.v 8 qT,.m 2 8] (ae hs [] qT (congrArg Value.bool (decide_eq_true oM).symm)))
 have phb3:=oT hb3;refine lL hs [.m 5 4] (lG 6 ?_);exact lG 7 (lL hs [.v 8 qT,.m 2 8] (ae hs [] qT (congrArg Value.bool (decide_eq_true oM).symm)))
theorem PtH.setN {h:Hp}{p:PTm}{op n:Int}{q:Rat}{s:ByteArray}{ks:List Tm}(x:PtH h p (.mk op n q s ks))(m:Int):PtH h ⟨p.op,m,p.q,p.s,p.A,p.m,p.c⟩ (.mk op m q s ks):=by
 obtain ⟨d,x⟩:=x
 match d,x with
 | d+1,⟨h1,_,h3,h4,h5,h6,h7⟩=>exact ⟨d+1,h1,rfl,h3,h4,h5,h6,h7⟩
theorem sT {x:ByteArray}(h:cB x=true):9≤dh x∧dh x≤13:=by
 have h:=oT h
 revert h
 unfold dh
 repeat' split
 all_goals intro h;first|(constructor<;>decide)|exact absurd rfl h
theorem xA {op:Int}(h:9≤op∧op≤13):((op=12∨op=13)∧fs op=2)∨(¬(op=12∨op=13)∧fs op=1):=by
 have:=aF op
 omega
def Gs (nf bf:ByteArray→Option Rat)(n:Nat):Prop:=∀ (op:Int),9≤op∧op≤13→∀ (pb:Nat) (s:ByteArray),s.size≤1000000→∀ (a:Nat),a≤s.size→∀ (bd:Int) (t:Tm) (b:Nat),dq nf bf s n (.call op) a=some (.ok t b)→∀ (w:World) (h:Hp),G w h→Own w pb 110 [.string s,nV a,iV bd]→h[pb]?=some junk→Calls Tryz.prog 222 #[pB pb,iV op] w (dQ pb w h (xD pb s t b bd))
def Bt (nf:ByteArray→Option Rat):Prop:=∀ x q,nf x=some q→∀ (w:World) (h:Hp),G w h→CV 220 #[.string x] w h (.tuple #[qv q,.bool true])
def Do:Prop:=∀ (x:ByteArray) (k:Nat),x.size≤3→jl x=some k→∀ (w:World) (h:Hp),G w h→CV 199 #[.string x] w h (.tuple #[nv k,.bool true])
section
variable {nf bf:ByteArray→Option Rat} (n:Nat)
theorem BP  (hnp:Do)(iha:PC nf bf 197 n .atom)(pb:Nat)(s:ByteArray)(hsz:s.size≤1000000)(a:Nat)(ha:a≤s.size)(bd:Int)(t:Tm)(b:Nat)(hq:dq nf bf s (n+1) .pow a=some (.ok t b))(w:World)(h:Hp)(g:G w h)(ho:Own w pb 110 [.string s,nV a,iV bd])(hj:h[pb]?=some junk):Calls Tryz.prog 175 #[pB pb] w (dQ pb w h (xD pb s t b bd)):=by
 have hmo:UpM [pb] w h w h:=UpM.refl g;obtain ⟨wz,hz0_,hs⟩:=SS.at_ g ho hj;obtain ⟨v1,e1,hv1,hP0,hP1⟩:=vQ hq;refine go Tryz.func175 [(0,pB pb)] rfl (ab hs [.v 2 (.pointer none)] (aG (lL hs [.m 12 0] (dL 13 (iha pb s hsz a ha bd v1 e1 hv1 _ _ hs.g (hs.own 0) (hs.jk 0)) ?_))));rintro _ w2 h3 u4 ⟨tbq1,pq1,rfl,hbq1,hOq1,hSq1,hTq1⟩;replace hs:=(hs.stepM 0 u4 hOq1).to [⟨pb,110,[.string s,nV e1,iV bd]⟩] [];replace hmo:=hmo.trans u4;replace hs:=((hs.a_Seg hSq1).add (K:=fun h_=>PtH h_ pq1 v1) hTq1);refine lL hs [.m 3 13] (ah (ab hs [.m 14 3,.v 15 qF,.m 16 15,.m 17 0] ?_));have hskq5:=gJ (s:=s) (a:=e1) oM;refine dL 18 (k9 pb s hsz e1 oM bd 94 kD _ _ hs.g (hs.own 0) (hs.jk 0)) ?_;rintro _ w6 h7 u8 (⟨rfl,hcq5,hlq5,hOq5⟩|⟨rfl,hcq5,hOq5⟩)
 ·
  replace hs:=(hs.stepM 0 u8 hOq5).to [⟨pb,110,[.string s,nV (sk s e1+1),iV bd]⟩] [];replace hmo:=hmo.trans u8;have zb:=hcq5;obtain ⟨k,hnat,hbe_,hb3_,ht_⟩:=xO (hP1 zb);refine lL hs [.v 19 qF,.v 20 qF] (ag (cK (ab hs [.m 22 0] ?_)));have hskq9:=gJ (s:=s) (a:=(sk s e1+1)) oM;refine dL 23 (k9 pb s hsz (sk s e1+1) oM bd 45 kD _ _ hs.g (hs.own 0) (hs.jk 0)) ?_;rintro _ _ _ u12 (⟨rfl,hcq9,hlq9,hOq9⟩|⟨rfl,hcq9,hOq9⟩)
  ·
   replace hs:=(hs.stepM 0 u12 hOq9).to [⟨pb,110,[.string s,nV (sk s (sk s e1+1)+1),iV bd]⟩] [];replace hmo:=hmo.trans u12;rw[if_pos hcq9] at hnat hbe_ hb3_ ht_
   generalize hB1:sk s (sk s (sk s e1+1)+1)=B at hnat hbe_ hb3_ ht_
   rw[←Int.zero_sub] at ht_
   refine lL hs [.m 4 23] (aG (lL hs [.m 24 0] ?_));have hskB:=gJ (s:=s) (a:=(sk s (sk s e1+1)+1)) oM;refine dL 25 (m7 pb s hsz (sk s (sk s e1+1)+1) oM bd _ _ hs.g (hs.own 0) (hs.jk 0)) ?_;rintro _ _ _ u15 ⟨rfl,hOp⟩;rw[hB1] at hOp hskB
   rw[hB1];replace hs:=(hs.stepM 0 u15 hOp).to [⟨pb,110,[.string s,nV B,iV bd]⟩] [];replace hmo:=hmo.trans u15;have hdge:=AU jh s B;have hdgl:=m0 (p:=jh) (s:=s) (a:=B) hskB;rw[←hbe_] at hdge hdgl
   have hxs:(s.extract B b).size=b-B:=by rw[ByteArray.size_extract];omega
   have hk9:=oZ hnat oM;refine aG (lL hs [.m 26 0,.v 27 (pB pb),.v 28 (qP pb 1),.o 29 (nV B) 0 1 1,.m 5 29] (aG (lL hs [.m 30 0] (dL 31 (As 166 jh (fun _ _=>by kernel_rfl) (fun c hc w h g=>ig c hc w h g) pb s hsz B oM bd _ _ hs.g (hs.own 0) (hs.jk 0)) ?_))));rintro _ _ _ u18 ⟨rfl,hOr⟩;rw[←hbe_] at hOr
   rw[←hbe_];replace hs:=(hs.stepM 0 u18 hOr).to [⟨pb,110,[.string s,nV b,iV bd]⟩] [];replace hmo:=hmo.trans u18;refine lL hs [.m 6 31] (ah (ab hs [.m 32 6,.v 33 (nV ((s.extract B b).size))] ?_));have zd:(decide ((3:Int)<(((s.extract B b).size:Nat):Int)))=false:=decide_eq_false oM;refine lB 34 zd (ag (cK (ab hs [.m 39 6] (f7 40 (hnp (s.extract B b) k oM hnat _ _ hs.g) ?_))));rintro _ _ _ u22 rfl;replace hmo:=hmo.trans (u22.m _);replace hs:=hs.step u22;refine lL hs [.m 38 40,.v 41 (nv k),.v 42 qT] (vF 7 41 ([uV 0,eS]) hs (fun zf _ _ u26 hlo_b23 hs=>?_));replace hlo_b23:=Nat.le_trans hmo.gr.size hlo_b23;replace hmo:=hmo.trans (u26.m _);refine ip 0 0 (nc k) hs (fun _ pu hs=>?_);replace hmo:=hmo.put2 pu hlo_b23 g hs.g;refine lL hs [.m 8 42] (ah (ab hs [.m 43 8,.v 44 qF] (ag (cK (ab hs [.o 49 (nv k) 0 0 2] (f7 50 (g7 k oM _ _ hs.g) ?_))))));rintro _ _ _ u30 rfl;replace hmo:=hmo.trans (u30.m _);replace hs:=hs.step u30;refine lL hs [.m 48 50,.v 51 (mV k),.v 52 qT,.m 9 51,.m 10 52] (lN (bI [(2,.pointer none),(3,pB tbq1),(4,qT),(9,mV k)] ?_));refine ab hs [.m 53 3,.v 54 (pB tbq1)] (lH 55 (pX pq1) hs hs.f.2.1 ?_);refine f7 56 (xV 8 pq1 v1 _ _ hs.g hs.f.1) ?_;rintro _ _ _ u34 ⟨pq31,rfl,hTq31⟩;replace hmo:=hmo.trans (u34.m _);replace hs:=hs.step u34;replace hs:=(hs.add (K:=fun h_=>PtH h_ pq31 (l7 8 v1)) hTq31);refine vF 11 51 ([iV 0,iV 0,qF,uV 0,eS,uV 0,eS,eS,sZ]) hs (fun za _ _ u38 hlo_b35 hs=>?_);replace hlo_b35:=Nat.le_trans hmo.gr.size hlo_b35;replace hmo:=hmo.trans (u38.m _);refine ip 0 0 (pC pq31) hs (fun _ pu hs=>?_);replace hmo:=hmo.put2 pu hlo_b35 g hs.g;refine aG (lL hs [.m 57 9] (lV 58 (nV k) ?_ (hr:=rS ((k:Int)) kR (g5 oM oM))));refine lL hs [.v 59 (qP za 1)] (ip 0 1 ([nV k]) hs (fun _ pu hs=>?_));replace hmo:=hmo.put2 pu hlo_b35 g hs.g;refine ah (ab hs [.m 60 4] (ak (kQ (lL hs [.v 61 (qP za 1),.o 62 (nV k) 0 1 1] (lI 63 (0-(k:Nat)) ?_)))));refine lL hs [.v 64 (qP za 1)] (ip 0 1 ([iV (0-(k:Nat))]) hs (fun _ pu hs=>?_));replace hmo:=hmo.put2 pu hlo_b35 g hs.g;refine aG (lL hs [.m 2 11] (lN (kX ?_)));obtain ⟨zg,hs,hmo,sg43⟩:=hs.pubM hmo 0 hlo_b35;replace hs:=hs.to [⟨zf,41,nc k⟩,⟨pb,110,[.string s,nV b,iV bd]⟩] [];have sg45:Seg zg za 0 (dg ⟨pq31.op,0-(k:Nat),pq31.q,pq31.s,pq31.A,pq31.m,pq31.c⟩):=sg43;replace hs:=hs.a_Seg sg45;exact hs.retM hmo [] (pB za) (by rw[ht_];exact ⟨za,⟨pq31.op,0-(k:Nat),pq31.q,pq31.s,pq31.A,pq31.m,pq31.c⟩,rfl,by first|assumption|omega,hs.own 1,hs.f.1,(PtH.setN hs.f.2.1 _)⟩)
  replace hs:=(hs.stepM 0 u12 hOq9).to [⟨pb,110,[.string s,nV (sk s (sk s e1+1)),iV bd]⟩] [];replace hmo:=hmo.trans u12;rw[if_neg hcq9] at hnat hbe_ hb3_ ht_
  generalize hB1:sk s (sk s (sk s e1+1))=B at hnat hbe_ hb3_ ht_
  refine lL hs [.m 4 23] (aG (lL hs [.m 24 0] ?_));have hskB:=gJ (s:=s) (a:=(sk s (sk s e1+1))) oM;refine dL 25 (m7 pb s hsz (sk s (sk s e1+1)) oM bd _ _ hs.g (hs.own 0) (hs.jk 0)) ?_;rintro _ _ _ u48 ⟨rfl,hOp⟩;rw[hB1] at hOp hskB
  rw[hB1];replace hs:=(hs.stepM 0 u48 hOp).to [⟨pb,110,[.string s,nV B,iV bd]⟩] [];replace hmo:=hmo.trans u48;have hdge:=AU jh s B;have hdgl:=m0 (p:=jh) (s:=s) (a:=B) hskB;rw[←hbe_] at hdge hdgl
  have hxs:(s.extract B b).size=b-B:=by rw[ByteArray.size_extract];omega
  have hk9:=oZ hnat oM;refine aG (lL hs [.m 26 0,.v 27 (pB pb),.v 28 (qP pb 1),.o 29 (nV B) 0 1 1,.m 5 29] (aG (lL hs [.m 30 0] (dL 31 (As 166 jh (fun _ _=>by kernel_rfl) (fun c hc w h g=>ig c hc w h g) pb s hsz B oM bd _ _ hs.g (hs.own 0) (hs.jk 0)) ?_))));rintro _ _ _ u51 ⟨rfl,hOr⟩;rw[←hbe_] at hOr
  rw[←hbe_];replace hs:=(hs.stepM 0 u51 hOr).to [⟨pb,110,[.string s,nV b,iV bd]⟩] [];replace hmo:=hmo.trans u51;refine lL hs [.m 6 31] (ah (ab hs [.m 32 6,.v 33 (nV ((s.extract B b).size))] ?_));have ze:(decide ((3:Int)<(((s.extract B b).size:Nat):Int)))=false:=decide_eq_false oM;refine lB 34 ze (ag (cK (ab hs [.m 39 6] (f7 40 (hnp (s.extract B b) k oM hnat _ _ hs.g) ?_))));rintro _ _ _ u55 rfl;replace hmo:=hmo.trans (u55.m _);replace hs:=hs.step u55;refine lL hs [.m 38 40,.v 41 (nv k),.v 42 qT] (vF 7 41 ([uV 0,eS]) hs (fun zi _ _ u59 hlo_b56 hs=>?_));replace hlo_b56:=Nat.le_trans hmo.gr.size hlo_b56;replace hmo:=hmo.trans (u59.m _);refine ip 0 0 (nc k) hs (fun _ pu hs=>?_);replace hmo:=hmo.put2 pu hlo_b56 g hs.g;refine lL hs [.m 8 42] (ah (ab hs [.m 43 8,.v 44 qF] (ag (cK (ab hs [.o 49 (nv k) 0 0 2] (f7 50 (g7 k oM _ _ hs.g) ?_))))));rintro _ _ _ u63 rfl;replace hmo:=hmo.trans (u63.m _);replace hs:=hs.step u63;refine lL hs [.m 48 50,.v 51 (mV k),.v 52 qT,.m 9 51,.m 10 52] (lN (bI [(2,.pointer none),(3,pB tbq1),(4,qF),(9,mV k)] ?_));refine ab hs [.m 53 3,.v 54 (pB tbq1)] (lH 55 (pX pq1) hs hs.f.2.1 ?_);refine f7 56 (xV 8 pq1 v1 _ _ hs.g hs.f.1) ?_;rintro _ _ _ u67 ⟨pq64,rfl,hTq64⟩;replace hmo:=hmo.trans (u67.m _);replace hs:=hs.step u67;replace hs:=(hs.add (K:=fun h_=>PtH h_ pq64 (l7 8 v1)) hTq64);refine vF 11 51 ([iV 0,iV 0,qF,uV 0,eS,uV 0,eS,eS,sZ]) hs (fun zc _ _ u71 hlo_b68 hs=>?_);replace hlo_b68:=Nat.le_trans hmo.gr.size hlo_b68;replace hmo:=hmo.trans (u71.m _);refine ip 0 0 (pC pq64) hs (fun _ pu hs=>?_);replace hmo:=hmo.put2 pu hlo_b68 g hs.g;refine aG (lL hs [.m 57 9] (lV 58 (nV k) ?_ (hr:=rS ((k:Int)) kR (g5 oM oM))));refine lL hs [.v 59 (qP zc 1)] (ip 0 1 ([nV k]) hs (fun _ pu hs=>?_));replace hmo:=hmo.put2 pu hlo_b68 g hs.g;refine ah (ab hs [.m 60 4] (ag (cK (ab hs [.m 2 11] (lN (kX ?_))))));obtain ⟨zj,hs,hmo,sg75⟩:=hs.pubM hmo 0 hlo_b68;replace hs:=hs.to [⟨zi,41,nc k⟩,⟨pb,110,[.string s,nV b,iV bd]⟩] [];have sg77:Seg zj zc 0 (dg ⟨pq64.op,(k:Nat),pq64.q,pq64.s,pq64.A,pq64.m,pq64.c⟩):=sg75;replace hs:=hs.a_Seg sg77;exact hs.retM hmo [] (pB zc) (by rw[ht_];exact ⟨zc,⟨pq64.op,(k:Nat),pq64.q,pq64.s,pq64.A,pq64.m,pq64.c⟩,rfl,by first|assumption|omega,hs.own 1,hs.f.1,(PtH.setN hs.f.2.1 _)⟩)
 replace hs:=(hs.stepM 0 u8 hOq5).to [⟨pb,110,[.string s,nV (sk s e1),iV bd]⟩] [];replace hmo:=hmo.trans u8;have zb:=hcq5;refine lL hs [.v 19 qT,.v 20 qT] (ak (ab hs [.m 21 3,.m 2 21] (lN (kX ?_))));obtain ⟨ht_,hb_⟩:=hP0 zb;exact hs.retM hmo [] (pB tbq1) (by rw[ht_];rw[hb_];exact ⟨tbq1,pq1,rfl,by first|assumption|omega,hs.own 0,hs.f.2.1,hs.f.1⟩)
theorem D3  (hnf:Bt nf)(ihc:Gs nf (fun _=>none) n)(ihs:PC nf (fun _=>none) 49 n .sum)(pb:Nat)(s:ByteArray)(hsz:s.size≤1000000)(a:Nat)(ha:a≤s.size)(bd:Int)(t:Tm)(b:Nat)(hq:dq nf (fun _=>none) s (n+1) .atom a=some (.ok t b))(w:World)(h:Hp)(g:G w h)(ho:Own w pb 110 [.string s,nV a,iV bd])(hj:h[pb]?=some junk):Calls Tryz.prog 197 #[pB pb] w (dQ pb w h (xD pb s t b bd)):=by
 have hmo:UpM [pb] w h w h:=UpM.refl g;obtain ⟨wz,hz0_,hs⟩:=SS.at_ g ho hj;refine go Tryz.func197 [(0,pB pb)] rfl (ab hs [.v 2 (.pointer none)] (aG (lL hs [.m 12 0] ?_)));have hskq1:=gJ (s:=s) (a:=a) oM;refine dL 13 (m7 pb s hsz a ha bd _ _ hs.g (hs.own 0) (hs.jk 0)) ?_;rintro _ w2 h3 u4 ⟨rfl,hOq1⟩;replace hs:=(hs.stepM 0 u4 hOq1).to [⟨pb,110,[.string s,nV (sk s a),iV bd]⟩] [];replace hmo:=hmo.trans u4;refine lL hs [.m 3 13] (aG (lL hs [.m 14 0,.v 15 (pB pb),.v 16 (qP pb 1),.o 17 (nV (sk s a)) 0 1 1,.m 4 17] (ah (kZ (CG.join (fun Γ w_=>∃ (ze:Bool) (h_:Hp),Γ=[(0,pB pb),(2,.pointer none),(3,.int .u8 (aE s (sk s a):Nat)),(4,nV (sk s a)),(18,.bool ze)]∧SS wz hz0_ w_ h_ [⟨pb,110,[.string s,nV (sk s a),iV bd]⟩] [] []∧(ze=true→¬¬((48≤aE s (sk s a)∧aE s (sk s a)≤57)∨aE s (sk s a)=46))∧(ze=false→jV (aE s (sk s a))=false)∧UpM [pb] w h w_ h_) ?_ ?_)))))
 ·
  refine kQ (lL hs [.m 19 3] (f7 20 (ig (aE s (sk s a)) (bZ _ _) _ _ hs.g) ?_));rintro _ w5 h6 u7 rfl;replace hmo:=hmo.trans (u7.m _);replace hs:=hs.step u7;cases hb8:(decide (48≤aE s (sk s a)∧aE s (sk s a)≤57))
  ·
   have phb8:=oF hb8;refine lL hs [.m 21 20,.m 22 3] ?_;cases hb9:(((aE s (sk s a):Nat):Int) == (46:Int))
   ·
    have phb9:=af hb9;refine lB 23 hb9 (lL hs [.v 24 qF,.m 18 24] (lD ?_));intro a_ ka;exact ⟨_,⟨false,h6,rfl,hs.to _ _,(fun h_=>absurd h_ kD),(fun _=>decide_eq_false oM),hmo⟩,ka.to _ kR⟩
   have phb9:=eq_of_beq hb9;refine lB 23 hb9 (lL hs [.v 24 qT,.m 18 24] (lD ?_));intro a_ ka;exact ⟨_,⟨true,h6,rfl,hs.to _ _,(fun _=>by omega),(fun h_=>absurd h_ kD),hmo⟩,ka.to _ kR⟩
  have phb8:=oT hb8;refine lL hs [.m 21 20] (lG 22 ?_);refine lG 23 (lL hs [.v 24 qT,.m 18 24] (lD ?_));intro a_ ka;exact ⟨_,⟨true,h6,rfl,hs.to _ _,(fun _=>by omega),(fun h_=>absurd h_ kD),hmo⟩,ka.to _ kR⟩
 rintro _ _ ⟨ze,_,rfl,hs,zo,hD18,hmo⟩;cases za:(ze)
 ·
  try rw[za] at hs
  try rw[za]
  refine cY (CG.join (fun Γ w_=>∃ (zf:Bool) (h_:Hp),Γ=[(0,pB pb),(2,.pointer none),(3,.int .u8 (aE s (sk s a):Nat)),(4,nV (sk s a)),(38,.bool zf)]∧SS wz hz0_ w_ h_ [⟨pb,110,[.string s,nV (sk s a),iV bd]⟩] [] []∧(zf=true→fS (aE s (sk s a))∨aE s (sk s a)=95)∧(zf=false→¬(fS (aE s (sk s a))∨aE s (sk s a)=95))∧UpM [pb] w h w_ h_) ?_ ?_)
  ·
   refine kQ (lL hs [.m 39 3] (f7 40 (jJ (aE s (sk s a)) (bZ _ _) _ _ hs.g) ?_));rintro _ _ zg u24 rfl;replace hmo:=hmo.trans (u24.m _);replace hs:=hs.step u24;cases zi:(decide (fS (aE s (sk s a))))
   ·
    have zl:=oF zi;refine lL hs [.m 41 40,.m 42 3] ?_;cases zb:(((aE s (sk s a):Nat):Int) == (95:Int))
    ·
     have zm:=af zb;refine lB 43 zb (lL hs [.v 44 qF,.m 38 44] (lD ?_));intro a_ ka;exact ⟨_,⟨false,zg,rfl,hs.to _ _,(fun h_=>absurd h_ kD),(fun _ h_=>by rcases h_ with h_|h_;exact absurd h_ aM;omega),hmo⟩,ka.to _ kR⟩
    have zm:=eq_of_beq zb;refine lB 43 zb (lL hs [.v 44 qT,.m 38 44] (lD ?_));intro a_ ka;exact ⟨_,⟨true,zg,rfl,hs.to _ _,(fun _=>by first|exact .inl aM|exact .inr oM),(fun h_=>absurd h_ kD),hmo⟩,ka.to _ kR⟩
   have zl:=oT zi;refine lL hs [.m 41 40] (lG 42 ?_);refine lG 43 (lL hs [.v 44 qT,.m 38 44] (lD ?_));intro a_ ka;exact ⟨_,⟨true,zg,rfl,hs.to _ _,(fun _=>by first|exact .inl aM|exact .inr oM),(fun h_=>absurd h_ kD),hmo⟩,ka.to _ kR⟩
  rintro _ _ ⟨zf,_,rfl,hs,hW38,hN38,hmo⟩;cases zc:(zf)
  ·
   try rw[zc] at hs
   try rw[zc]
   refine cY (ab hs [.m 67 3] ?_);have zn:aE s (sk s a)≠91:=fun e_=>by obtain ⟨_,q_,h_,_⟩:=Bu hq (hD18 aM) (hN38 aM) e_;cases h_
   have zp:(((aE s (sk s a):Nat):Int) == (91:Int))=false:=cw oM;refine lB 68 zp (lL hs [.m 66 68] (ag (ab hs [.m 72 3] ?_)));have zr:aE s (sk s a)=40:=Decidable.byContradiction fun e_=>Cq hq (hD18 aM) (hN38 aM) zn e_
   obtain ⟨e1,hq1,hd1,hbe_⟩:=wu hq (hD18 aM) (hN38 aM) zn zr;have hin_:=vk (s:=s) (a:=sk s a) oM;have zq:(((aE s (sk s a):Nat):Int) == (40:Int))=true:=jg oM;refine lB 73 zq (lL hs [.m 71 73] (ak (ab hs [.m 74 0,.v 75 (pB pb),.v 76 (qP pb 1),.o 77 (nV (sk s a)) 0 1 1] (bn 78 ((sk s a:Nat)+1) ((sk s a)+1) ?_))));refine lL hs [.v 79 (pB pb),.v 80 (qP pb 1)] (ip 0 1 ([nV ((sk s a)+1)]) hs (fun _ pu hs=>?_));replace hmo:=hmo.put pu (List.mem_singleton.2 rfl) hs.g;refine aG (lL hs [.m 81 0] (dL 82 (ihs pb s hsz ((sk s a)+1) oM bd t e1 hq1 _ _ hs.g (hs.own 0) (hs.jk 0)) ?_));rintro _ _ _ u45 ⟨tbq42,pq42,rfl,hbq42,hOq42,hSq42,hTq42⟩;replace hs:=(hs.stepM 0 u45 hOq42).to [⟨pb,110,[.string s,nV e1,iV bd]⟩] [];replace hmo:=hmo.trans u45;replace hs:=((hs.a_Seg hSq42).add (K:=fun h_=>PtH h_ pq42 t) hTq42);refine lL hs [.m 11 82] (ah (ab hs [.m 83 11,.v 84 qT,.m 85 84,.m 86 0] (dL 87 (j6 pb s hsz e1 oM bd 41 kD hd1 _ _ hs.g (hs.own 0) (hs.jk 0)) ?_)));rintro _ _ _ u49 ⟨rfl,hlq46,hOq46⟩;replace hs:=(hs.stepM 0 u49 hOq46).to [⟨pb,110,[.string s,nV (sk s e1+1),iV bd]⟩] [];replace hmo:=hmo.trans u49;exact lL hs [.v 88 qF,.v 89 qF] (ag (cK (ab hs [.m 96 11,.m 2 96] (lN (kX (hs.retM hmo [] (pB tbq42) (by rw[hbe_];exact ⟨tbq42,pq42,rfl,by first|assumption|omega,hs.own 0,hs.f.2.1,hs.f.1⟩)))))))
  try rw[zc] at hs
  try rw[zc]
  refine cl (ab hs [.m 45 0] ?_);have hcW:=hW38 aM;have hbl_:=m0 (p:=dr) (s:=s) (a:=sk s a) oM;refine dL 46 (As 126 dr (fun _ _=>by kernel_rfl) (fun c hc w h g=>nB c hc w h g) pb s hsz (sk s a) oM bd _ _ hs.g (hs.own 0) (hs.jk 0)) ?_;rintro _ _ _ u52 ⟨rfl,hOr⟩;replace hs:=(hs.stepM 0 u52 hOr).to [⟨pb,110,[.string s,nV (rn dr s (sk s a)),iV bd]⟩] [];replace hmo:=hmo.trans u52;refine lL hs [.m 8 46] (ah (av (f7 48 (qe _ _ hs.g) ?_)));rintro _ _ _ u55 ⟨bm,rfl,hcm⟩;replace hmo:=hmo.trans (u55.m _);replace hs:=hs.step u55;replace hs:=(hs.add (K:=fun h_=>MapS h_ bm gN) hcm);refine lL hs [.m 49 8] (Gi 50 179 9 3 (s.extract (sk s a) (rn dr s (sk s a))) true (iV (dh (s.extract (sk s a) (rn dr s (sk s a))))) ((cB (s.extract (sk s a) (rn dr s (sk s a))))) hs hs.f.1 ?_ (hf:=(by rcases qn (s.extract (sk s a) (rn dr s (sk s a))) with ⟨i_,e1_,e2_⟩|⟨e1_,e2_,e3_⟩;exact .inl ⟨i_,e1_,e2_⟩;exact .inr ⟨e1_,e2_,fun _=>by rw[e3_];kernel_rfl⟩)));refine lL hs [.m 47 50,.v 51 (iV (dh (s.extract (sk s a) (rn dr s (sk s a))))),.v 52 (.bool (cB (s.extract (sk s a) (rn dr s (sk s a))))),.m 9 51,.m 10 52] (aG (lL hs [.m 53 10] (lN ?_)));cases zd:((cB (s.extract (sk s a) (rn dr s (sk s a)))))
  ·
   try rw[zd] at hs
   try rw[zd]
   refine cY (cK (cQ (ab hs [.m 57 8] ?_)));obtain ⟨hnm,ht_,hbe_⟩:=wY hq (hD18 aM) hcW aM;refine f7 58 ((by have q_:=Cm (s.extract (sk s a) (rn dr s (sk s a))) (by rw[ByteArray.size_extract];omega) _ _ hs.g;rw[hnm] at q_;exact q_)) ?_;rintro _ _ _ u59 rfl;replace hmo:=hmo.trans (u59.m _);replace hs:=hs.step u59;refine lL hs [.v 59 qF] (ag (cK (ab hs [.m 63 8,.v 64 (.agg #[iV 2,iV 0,qF,uV 0,eS,uV 0,eS,.string (s.extract (sk s a) (rn dr s (sk s a))),sZ])] (vF 65 51 ([iV 2,iV 0,qF,uV 0,eS,uV 0,eS,.string (s.extract (sk s a) (rn dr s (sk s a))),sZ]) hs (fun zj _ _ u63 hlo_b60 hs=>?_)))));replace hlo_b60:=Nat.le_trans hmo.gr.size hlo_b60;replace hmo:=hmo.trans (u63.m _);refine lL hs [.m 2 65] (lN (kX ?_));obtain ⟨zs,hs,hmo,sg65⟩:=hs.pubM hmo 0 hlo_b60;replace hs:=hs.to [⟨pb,110,[.string s,nV (rn dr s (sk s a)),iV bd]⟩] [];have sg67:Seg zs zj 0 (dg ⟨2,0,0,(s.extract (sk s a) (rn dr s (sk s a))),none,0,0⟩):=sg65;replace hs:=hs.a_Seg sg67;exact hs.retM hmo [] (pB zj) (by rw[ht_];rw[hbe_];exact ⟨zj,⟨2,0,0,(s.extract (sk s a) (rn dr s (sk s a))),none,0,0⟩,rfl,by first|assumption|omega,hs.own 0,hs.f.1,PtH.nam⟩)
  try rw[zd] at hs
  try rw[zd]
  refine cl (ab hs [.m 54 0,.m 55 9] (dL 56 (ihc (dh (s.extract (sk s a) (rn dr s (sk s a)))) (sT aM) pb s hsz (rn dr s (sk s a)) oM bd t b (CU hq (hD18 aM) hcW aM) _ _ hs.g (hs.own 0) (hs.jk 0)) ?_));rintro _ _ _ u71 ⟨tbq68,pq68,rfl,hbq68,hOq68,hSq68,hTq68⟩;replace hs:=(hs.stepM 0 u71 hOq68).to [⟨pb,110,[.string s,nV b,iV bd]⟩] [];replace hmo:=hmo.trans u71;replace hs:=((hs.a_Seg hSq68).add (K:=fun h_=>PtH h_ pq68 t) hTq68);exact lL hs [.m 2 56] (lN (kX (hs.retM hmo [] (pB tbq68) (by exact ⟨tbq68,pq68,rfl,by first|assumption|omega,hs.own 0,hs.f.2.1,hs.f.1⟩))))
 try rw[za] at hs
 try rw[za]
 refine cl (ab hs [.m 26 0] ?_);obtain ⟨q,hnq,ht_,hbe_⟩:=xl hq (decide_eq_true (Decidable.byContradiction fun h_=>zo aM h_));have hbl_:=m0 (p:=jV) (s:=s) (a:=sk s a) oM;refine dL 27 (As 221 jV (fun _ _=>by kernel_rfl) (fun c hc w h g=>Gb c hc w h g) pb s hsz (sk s a) oM bd _ _ hs.g (hs.own 0) (hs.jk 0)) ?_;rintro _ _ _ u74 ⟨rfl,hOr⟩;rw[←hbe_] at hOr hbl_
 replace hs:=(hs.stepM 0 u74 hOr).to [⟨pb,110,[.string s,nV b,iV bd]⟩] [];replace hmo:=hmo.trans u74;refine f7 28 (hnf _ _ hnq _ _ hs.g) ?_;rintro _ _ _ u77 rfl;replace hmo:=hmo.trans (u77.m _);replace hs:=hs.step u77;refine lL hs [.m 25 28,.v 29 (qv q),.v 30 qT] (vF 5 45 ([qF,uV 0,eS,uV 0,eS]) hs (fun zt _ _ u81 hlo_b78 hs=>?_));replace hlo_b78:=Nat.le_trans hmo.gr.size hlo_b78;replace hmo:=hmo.trans (u81.m _);refine ip 0 0 (qc q) hs (fun _ pu hs=>?_);replace hmo:=hmo.put2 pu hlo_b78 g hs.g;refine lL hs [.m 6 30] (ah (ab hs [.m 31 6,.v 32 qF] (ag (cK (ab hs [.o 36 (qv q) 0 0 5] (f7 37 (xF q _ _ hs.g) ?_))))));rintro _ _ _ u86 ⟨pq83,rfl,hTq83⟩;replace hmo:=hmo.trans (u86.m _);replace hs:=hs.step u86;replace hs:=(hs.add (K:=fun h_=>PtH h_ pq83 (eP q)) hTq83);refine vF 7 51 ([iV 0,iV 0,qF,uV 0,eS,uV 0,eS,eS,sZ]) hs (fun zk _ _ u90 hlo_b87 hs=>?_);replace hlo_b87:=Nat.le_trans hmo.gr.size hlo_b87;replace hmo:=hmo.trans (u90.m _);refine ip 0 0 (pC pq83) hs (fun _ pu hs=>?_);replace hmo:=hmo.put2 pu hlo_b87 g hs.g;refine aG (lL hs [.m 2 7] (lN (kX ?_)));obtain ⟨zu,hs,hmo,sg93⟩:=hs.pubM hmo 0 hlo_b87;replace hs:=hs.to [⟨zt,45,qc q⟩,⟨pb,110,[.string s,nV b,iV bd]⟩] [];have sg95:Seg zu zk 0 (dg pq83):=sg93;replace hs:=hs.a_Seg sg95;exact hs.retM hmo [] (pB zk) (by rw[ht_];exact ⟨zk,pq83,rfl,by first|assumption|omega,hs.own 1,hs.f.1,hs.f.2.1⟩)
theorem Dy  (op:Int)(hop:9≤op∧op≤13)(ihs:PC nf bf 49 n .sum)(pb:Nat)(s:ByteArray)(hsz:s.size≤1000000)(a:Nat)(ha:a≤s.size)(bd:Int)(t:Tm)(b:Nat)(hq:dq nf bf s (n+1) (.call op) a=some (.ok t b))(w:World)(h:Hp)(g:G w h)(ho:Own w pb 110 [.string s,nV a,iV bd])(hj:h[pb]?=some junk):Calls Tryz.prog 222 #[pB pb,iV op] w (dQ pb w h (xD pb s t b bd)):=by
 have hmo:UpM [pb] w h w h:=UpM.refl g;obtain ⟨wz,hz0_,hs⟩:=SS.at_ g ho hj;obtain ⟨zb,u1,e1,hq1,hA,hB⟩:=sd hq;refine go Tryz.func222 [(0,pB pb),(1,iV op)] rfl (ab hs [.v 4 (.pointer none)] (ah (ab hs [.m 8 0] (dL 9 (j6 pb s hsz a ha bd 40 kD zb _ _ hs.g (hs.own 0) (hs.jk 0)) ?_))));rintro _ w2 h3 u4 ⟨rfl,hlq1,hOq1⟩;replace hs:=(hs.stepM 0 u4 hOq1).to [⟨pb,110,[.string s,nV (sk s a+1),iV bd]⟩] [];replace hmo:=hmo.trans u4;refine lL hs [.v 10 qF] (ag (cK (ab hs [.m 17 0] (dL 18 (ihs pb s hsz (sk s a+1) oM bd u1 e1 hq1 _ _ hs.g (hs.own 0) (hs.jk 0)) ?_))));rintro _ w6 h7 u8 ⟨tbq5,pq5,rfl,hbq5,hOq5,hSq5,hTq5⟩;replace hs:=(hs.stepM 0 u8 hOq5).to [⟨pb,110,[.string s,nV e1,iV bd]⟩] [];replace hmo:=hmo.trans u8;replace hs:=((hs.a_Seg hSq5).add (K:=fun h_=>PtH h_ pq5 u1) hTq5);refine lL hs [.m 5 18] (ah (ab hs [.m 19 5,.v 20 qF] (ag (cK (ab hs [.m 21 1,.m 22 5,.v 23 (pB tbq5)] (lH 24 (pX pq5) hs hs.f.2.1 ?_))))));refine f7 25 (xV op pq5 u1 _ _ hs.g hs.f.1) ?_;rintro _ _ _ u12 ⟨pq9,rfl,hTq9⟩;replace hmo:=hmo.trans (u12.m _);replace hs:=hs.step u12;replace hs:=(hs.add (K:=fun h_=>PtH h_ pq9 (l7 op u1)) hTq9);refine vF 6 51 ([iV 0,iV 0,qF,uV 0,eS,uV 0,eS,eS,sZ]) hs (fun za _ _ u16 hlo_b13 hs=>?_);replace hlo_b13:=Nat.le_trans hmo.gr.size hlo_b13;replace hmo:=hmo.trans (u16.m _);refine ip 0 0 (pC pq9) hs (fun _ pu hs=>?_);replace hmo:=hmo.put2 pu hlo_b13 g hs.g;refine ah (ab hs [.m 26 1] (f7 27 (pS op _ _ hs.g) ?_));rintro _ _ _ u20 rfl;replace hmo:=hmo.trans (u20.m _);replace hs:=hs.step u20
 rcases xA hop with ⟨ho2,har⟩|⟨ho2,har⟩
 ·
  have zc:((fs op:Int) == (2:Int))=true:=by rw[har];rfl
  refine lB 28 zc ?_;obtain ⟨hA1,v1,f1,hA2,hA3,hA4,hA5⟩:=hA ho2;refine ak (cQ (ab hs [.m 29 0] (dL 30 (j6 pb s hsz e1 oM bd 44 kD hA1 _ _ hs.g (hs.own 1) (hs.jk 1)) ?_)));rintro _ _ _ u25 ⟨rfl,hlq22,hOq22⟩;replace hs:=(hs.stepM 1 u25 hOq22).to [⟨za,51,pC pq9⟩,⟨pb,110,[.string s,nV (sk s e1+1),iV bd]⟩] [];replace hmo:=hmo.trans u25;refine lL hs [.v 31 qF] (ag (cK (ab hs [.m 38 0] (dL 39 (ihs pb s hsz (sk s e1+1) oM bd v1 f1 hA2 _ _ hs.g (hs.own 1) (hs.jk 1)) ?_))));rintro _ _ _ u29 ⟨tbq26,pq26,rfl,hbq26,hOq26,hSq26,hTq26⟩;replace hs:=(hs.stepM 1 u29 hOq26).to [⟨za,51,pC pq9⟩,⟨pb,110,[.string s,nV f1,iV bd]⟩] [];replace hmo:=hmo.trans u29;replace hs:=((hs.a_Seg hSq26).add (K:=fun h_=>PtH h_ pq26 v1) hTq26);refine lL hs [.m 7 39] (ah (ab hs [.m 40 7,.v 41 qF] (ag (cK (cR 8 [] mixed hs ar ?_)))));refine eV 0 42 (iV op) (eV 1 43 (pB tbq5) (eV 2 44 (pB tbq5) (eH 3 45 (pX pq5) hs hs.f.q.1 (eV 4 46 (pB tbq26) (eV 5 47 (pB tbq26) (eH 6 48 (pX pq26) hs hs.f.2.1 (DB 7 49 hs hmo (fun _ _ hs=>C4 op pq5 pq26 u1 v1 _ _ hs.g hs.f.r.2.1 hs.f.1) ?_)))))));rintro _ _ _ _ _ hmo hs ⟨pq30,rfl,hTq30⟩;replace hs:=(hs.add (K:=fun h_=>PtH h_ pq30 (dk op u1 v1)) hTq30);refine gM hs (fun _ _ u35 hs=>?_);replace hmo:=hmo.trans (u35.m _);refine FG 8 0 0 (pC pq30) hs (fun _ pu hs=>?_);replace hmo:=hmo.put2 pu hlo_b13 g hs.g;refine tN (cQ (ab hs [.m 50 0] (dL 51 (j6 pb s hsz f1 oM bd 41 kD hA3 _ _ hs.g (hs.own 1) (hs.jk 1)) ?_)));rintro _ _ _ u40 ⟨rfl,hlq37,hOq37⟩;replace hs:=(hs.stepM 1 u40 hOq37).to [⟨za,51,pC pq30⟩,⟨pb,110,[.string s,nV (sk s f1+1),iV bd]⟩] [];replace hmo:=hmo.trans u40;refine lL hs [.v 52 qF] (ag (cK (ab hs [.m 4 6] (lN (kX ?_)))));obtain ⟨ze,hs,hmo,sg42⟩:=hs.pubM hmo 0 hlo_b13;replace hs:=hs.to [⟨pb,110,[.string s,nV (sk s f1+1),iV bd]⟩] [];have sg44:Seg ze za 0 (dg pq30):=sg42;replace hs:=hs.a_Seg sg44;exact hs.retM hmo [] (pB za) (by rw[hA4];rw[hA5];exact ⟨za,pq30,rfl,by first|assumption|omega,hs.own 0,hs.f.1,hs.f.2.1⟩)
 have zd:((fs op:Int) == (2:Int))=false:=by rw[har];rfl
 refine lB 28 zd ?_;obtain ⟨hB1,hB2,hB3⟩:=hB ho2;refine ag (cK (cQ (ab hs [.m 50 0] (dL 51 (j6 pb s hsz e1 oM bd 41 kD hB1 _ _ hs.g (hs.own 1) (hs.jk 1)) ?_))));rintro _ _ _ u49 ⟨rfl,hlq46,hOq46⟩;replace hs:=(hs.stepM 1 u49 hOq46).to [⟨za,51,pC pq9⟩,⟨pb,110,[.string s,nV (sk s e1+1),iV bd]⟩] [];replace hmo:=hmo.trans u49;refine lL hs [.v 52 qF] (ag (cK (ab hs [.m 4 6] (lN (kX ?_)))));obtain ⟨zf,hs,hmo,sg51⟩:=hs.pubM hmo 0 hlo_b13;replace hs:=hs.to [⟨pb,110,[.string s,nV (sk s e1+1),iV bd]⟩] [];have sg53:Seg zf za 0 (dg pq9):=sg51;replace hs:=hs.a_Seg sg53;exact hs.retM hmo [] (pB za) (by rw[hB2];rw[hB3];exact ⟨za,pq9,rfl,by first|assumption|omega,hs.own 0,hs.f.1,hs.f.2.1⟩)
end
section
variable {nf:ByteArray→Option Rat} (hnf:Bt nf) (hnp:Do)
include hnf hnp
def FM (nf:ByteArray→Option Rat)(n:Nat):Prop:=PC nf (fun _=>none) 49 n .sum∧PC nf (fun _=>none) 98 n .prod∧PC nf (fun _=>none) 146 n .sign∧PC nf (fun _=>none) 175 n .pow∧PC nf (fun _=>none) 197 n .atom∧Gs nf (fun _=>none) n
theorem F5 (n:Nat):FM nf n:=by
  induction n using Nat.strongRecOn with
  | ind n ih =>
    cases n with
    | zero=>exact ⟨fun _ _ _ _ _ _ _ _ h=>(by cases h),fun _ _ _ _ _ _ _ _ h=>(by cases h),fun _ _ _ _ _ _ _ _ h=>(by cases h),fun _ _ _ _ _ _ _ _ h=>(by cases h),fun _ _ _ _ _ _ _ _ h=>(by cases h),fun _ _ _ _ _ _ _ _ _ _ h=>(by cases h)⟩
    | succ n =>
      have i:=ih n (Nat.lt_succ_self n);refine ⟨?_,?_,?_,?_,?_,?_⟩
      · exact fun pb s h1 a h2 bd t b hq w h g ho hj=>FS n (fun m hm=>(ih m oM).2.1) pb s h1 a h2 bd t b hq w h g ho hj
      · exact fun pb s h1 a h2 bd t b hq w h g ho hj=>uy n (fun m hm=>(ih m oM).2.2.1) pb s h1 a h2 bd t b hq w h g ho hj
      · exact fun pb s h1 a h2 bd t b hq w h g ho hj=>vY n i.2.2.1 i.2.2.2.1 pb s h1 a h2 bd t b hq w h g ho hj
      · exact fun pb s h1 a h2 bd t b hq w h g ho hj=>BP n hnp i.2.2.2.2.1 pb s h1 a h2 bd t b hq w h g ho hj
      · exact fun pb s h1 a h2 bd t b hq w h g ho hj=>D3 n hnf i.2.2.2.2.2 i.1 pb s h1 a h2 bd t b hq w h g ho hj
      · exact fun op hop pb s h1 a h2 bd t b hq w h g ho hj=>Dy n op hop i.1 pb s h1 a h2 bd t b hq w h g ho hj
end
theorem DT (a b:Nat)(h1:b≤a)(h2:a<256):IntKind.wrap .u8 ((a:Int)-(b:Int))=((a-b:Nat):Int):=by
 rw[show (a:Int)-(b:Int)=((a-b:Nat):Int) by omega];exact ER oM oM
theorem mi {a:Nat}(h:a<18446744073709551616):Wd (if a=0 then [] else [a]):=by
 split
 ·exact Dg.nil
 ·intro x hx
  rw[List.mem_singleton] at hx;rw[hx];exact h
theorem io (a:Nat):aA (if a=0 then [] else [a])=a:=by
 split
 ·rename_i e;rw[e];rfl
 ·show a+18446744073709551616*0=a;omega
theorem n0 {c:UInt8}:∀ (l:List UInt8),(∀ b∈l,b≠c)→Lib.indexByte l c = -1
  | [],_=>rfl
  | b::l,h=>by
    have h1:(b == c)=false:=by simpa using h b List.mem_cons_self
    unfold Lib.indexByte
    rw[h1,n0 l (fun b hb=>h b (List.mem_cons_of_mem _ hb))];rfl
theorem x7 {s:ByteArray}{b:UInt8}(h:b∈s.data.toList):∃ i,i<s.size∧aE s i=b.toNat:=by
 obtain ⟨i,hi,e⟩:=List.mem_iff_getElem.1 h;refine ⟨i,by simpa using hi,?_⟩
 unfold aE
 rw[List.getD_eq_getElem?_getD,List.getElem?_eq_getElem hi,e];rfl
theorem vH (x:ByteArray)(c:UInt8)(hn:∀ i,i<x.size→aE x i≠c.toNat)(w:World)(h:Hp)(g:G w h):CV 180 #[.string x,.string ⟨#[c]⟩] w h (iV (-1)):=by
 have q:=Ret.of_same g (Tryz.stringslite_Index_one x c w)
 rw[n0 _ (fun b hb e=>by
  obtain ⟨i,hi,h1⟩:=x7 hb;exact hn i hi (by rw[h1,e]))] at q
 exact q
theorem BN {x:ByteArray}{c:UInt8}(h:aE x 0≠c.toNat):Lib.hasPrefix x.data.toList [c]=false:=by
  unfold Lib.hasPrefix
  unfold aE at h
  cases e:x.data.toList with
  | nil=>rfl
  | cons b l =>
    rw[e] at h
    have:b≠c:=fun e2=>h (by rw[e2];rfl)
    simp[List.isPrefixOf,Ne.symm this]
theorem nI (x:ByteArray)(c:UInt8)(hn:aE x 0≠c.toNat)(w:World)(h:Hp)(g:G w h):CV 240 #[.string x,.string ⟨#[c]⟩] w h (.tuple #[.string x,.bool false]):=by
 have q:=Ret.of_same g (Tryz.strings_CutPrefix x ⟨#[c]⟩ w);have e:Lib.hasPrefix x.data.toList [c]=false:=BN hn;have e2:(⟨(Lib.trimPrefix x.data.toList [c]).toArray⟩:ByteArray)=x:=by unfold Lib.trimPrefix;rw[e];simp
 have q2:CV 240 #[.string x,.string ⟨#[c]⟩] w h (.tuple #[.string ⟨(Lib.trimPrefix x.data.toList [c]).toArray⟩,.bool (Lib.hasPrefix x.data.toList [c])]):=q;rw[e,e2] at q2;exact q2
theorem qg (m a:Nat)(ha:a<18446744073709551616)(w:World)(h:Hp)(g:G w h):CR 224 #[.slice none ((([]:List Nat)).length) 0,mV m,mV a] w h (fun v h1=>∃ (A:Option Addr) (c:Nat) (l:List Nat),v=.slice A l.length c∧l.length≤c∧SlO 1 am 0 h1 A l∧l=if a=0 then [] else [a]):=by
 have hs:=(sS g).nil 39 1;have hnil:([]:List Nat).length=0:=rfl;refine go Tryz.func224 [(0,qS none ((([]:List Nat)).length) 0),(1,mV m),(2,mV a)] rfl (ab hs [.v 6 (sZ)] (aG (lL hs [.m 13 2,.m 7 13] (ah (ab hs [.m 14 0,.v 15 (iV 0),.v 16 (iV 0)] (a8 (cU ?_)))))));refine cN (ab hs [.v 17 qF] (ah (cY (CG.exit ?_))))
 show CG _ _ _ _ _ _ _ _
 refine cQ (ab hs [.m 42 7] ?_);cases hb1:((a:Int) != (0:Int))
 ·
  have phb1:=aY hb1;exact lB 43 hb1 (ag (cK (ab hs [.m 48 0,.m 6 48] (ae hs [] (qS none ((([]:List Nat)).length) 0) (⟨none,0,[],rfl,nR _,SlO.nil,by rw[if_pos oM]⟩)))))
 have phb1:=ay hb1;refine lB 43 hb1 (ak (kQ (lL hs [.m 44 0,.m 45 7] (lR 46 39 1 ([mV a]) hs (fun b2 w3 h4 hs=>lY 47 0 39 1 0 none ([]:List Nat) am a 8 b2 (uV 0) hs hs.f.1 (fun A6 c7 w8 h9 hs=>lL hs [.m 0 47] (aG (lL hs [.m 48 0,.m 6 48] (lN (kX ?_))))))))));obtain ⟨_,hs,za⟩:=hs.pubr 0 (A:=A6) (c:=c7) (l:=([]:List Nat)++[a]) (f:=am) (ty:=39) (sz:=1) 0 (fun _=>rfl);have hfin:=(hs.f.1);exact hs.ret [] (qS A6 ((([]:List Nat)++[a]).length) c7) (⟨_,_,_,rfl,za,hfin,by rw[if_neg oM];rfl⟩)
theorem qk (x:ByteArray)(k:Nat)(hx:x.size≤18)(hk_:jl x=some k)(w:World)(h:Hp)(g:G w h):CV 199 #[.string x] w h (.tuple #[nv k,.bool true]):=by
 have hs:=sS g;obtain ⟨h1,h0,hdg,hkd⟩:=gt hk_;refine go Tryz.func199 [(0,.string x)] rfl (av (lA 2 41 ([uV 0,eS]) hs (fun b1 w2 h3 hs=>lL hs [.v 3 qF] (ah (ab hs [.m 8 0,.v 9 (nV x.size)] ?_)))));cases hb4:((x.size:Int) == (0:Int))
 ·
  have phb4:=af hb4;refine lB 10 hb4 (lL hs [.m 11 10,.m 12 0,.v 13 (nV x.size)] ?_);cases hb5:(decide ((200:Int)<(x.size:Int)))
  ·
   have phb5:=oF hb5;refine lB 14 hb5 (lL hs [.v 15 qF,.m 16 15,.m 17 0,.v 18 (nV x.size)] ?_);cases hb6:(decide ((1:Int)<(x.size:Int)))
   ·
    have phb6:=oF hb6;refine lB 19 hb6 (lL hs [.m 20 19] (lG 21 ?_));refine lG 22 (lG 23 (lL hs [.v 24 qF,.v 25 qF] (ag (cK (ab hs [.v 4 (sZ)] (aG (lL hs [.v 5 (uV 0),.v 6 (uV 1)] (ah (ab hs [.m 27 0,.v 28 (nV x.size),.v 29 (iV 0)] (a8 ?_))))))))));replace hs:=hs.add (K:=fun h_=>SlO 1 am 0 h_ none ([])) (SlO.nil);refine bI _ (CG.loop (fun μ_ Γ w_=>∃ (j:Nat) (A:Option Addr) (c:Nat) (l:List Nat) (pt:Nat) (un:Nat) (h_:Hp),μ_=x.size-j∧Γ=[(0,.string x),(2,pB b1),(28,nV x.size),(29,nV j),(4,qS A l.length c),(5,mV pt),(6,mV un)]∧SS w h w_ h_ [⟨b1,41,[uV 0,eS]⟩] [] [fun h_=>SlO 1 am 0 h_ A l]∧j≤x.size∧l.length≤c∧(j<x.size→A=none∧c=0∧l=[]∧pt=dv x j∧un=10^j)∧(j=x.size→l.length≤1)∧(j=x.size→Wd l)∧(j=x.size→aA l=dv x j)) _ ⟨0,none,0,[],0,1,h3,rfl,rfl,hs.to _ _,Nat.zero_le _,nR _,(fun _=>⟨rfl,rfl,rfl,rfl,rfl⟩),(fun _=>Nat.zero_le _),(fun _=>Dg.nil),(fun h_=>absurd h_ oM)⟩ ?_);rintro _ _ w7 ⟨j,A,c,l,pt,un,h8,hm9,rfl,hs,hk,hcl,hI,hL,hW,hV⟩;have hd_:=hdg j;have hb_:=pE (x:=x) j (fun i hi=>hdg i oM);have hp_:10^j≤10^18:=Nat.pow_le_pow_right kD oM;have hs_:dv x (j+1)=dv x j*10+(aE x j-48):=rfl;have ht_:10^(j+1)=10^j*10:=Nat.pow_succ ..;refine av ?_;cases za:(decide ((j:Int)<(x.size:Int)))
    ·
     have zm:=oF za;refine lB 30 za (ah (cY (CG.exit ?_)))
     show CG _ _ _ _ _ _ _ _
     exact ab hs [.m 67 4] (ai 68 hs (ti A c l (hW oM) (by have:=hL oM;omega) hcl _ _ hs.g hs.f.1) (fun _ _ hs=>lP 0 0 (nc (aA l)) hs (fun _ hs=>lL hs [.v 3 qT] (ae hs [(0,0,2)] (.tuple #[nv (aA l),qT]) (by rw[hV oM,show j=x.size by omega,←hkd])))))
    have zm:=oT za;refine lB 30 za (ah (cl (cK (cQ (kZ ?_)))));obtain ⟨hA0,hc0,hl0,hpt,hun⟩:=hI oM;have hd2_:=hd_ oM;have hp2_:10^(j+1)≤10^18:=Nat.pow_le_pow_right kD oM;refine ab hs [.m 31 29,.m 7 31] (ah (ab hs [.m 32 0,.m 33 7] (lV 34 (.int .u8 (aE x j:Nat)) ?_ (hr:=ca (tx:=9) (x:=.tmp 32) (i:=.tmp 33) (k:=.i64) (s:=x) (n:=j) (j:=(j:Int)) kR kR kR kR oM oM _))));cases zb:(decide (((aE x j:Nat):Int)<(48:Int)))
    ·
     have zn:=oF zb;refine lB 35 zb (lL hs [.m 36 35,.m 37 0,.m 38 7] (lV 39 (.int .u8 (aE x j:Nat)) ?_ (hr:=ca (tx:=9) (x:=.tmp 37) (i:=.tmp 38) (k:=.i64) (s:=x) (n:=j) (j:=(j:Int)) kR kR kR kR oM oM _)));cases zc:(decide ((57:Int)<((aE x j:Nat):Int)))
     ·
      have zo:=oF zc;refine lB 40 zc (lL hs [.v 41 qF] (ag (cK (ab hs [.m 43 5] (lV 44 (mV (pt*10)) ?_ (hr:=rU (((pt:Int)*(10:Int))) kR (fl pt 10 oM)))))));refine lL hs [.m 45 0,.m 46 7] (lV 47 (.int .u8 (aE x j:Nat)) ?_ (hr:=ca (tx:=9) (x:=.tmp 45) (i:=.tmp 46) (k:=.i64) (s:=x) (n:=j) (j:=(j:Int)) kR kR kR kR oM oM _));refine lV 48 (.int .u8 ((aE x j)-48:Nat)) ?_ (hr:=aI (n:=IntKind.wrap .u8 (((aE x j:Nat):Int)-(48:Int))) kR (DT (aE x j) 48 oM oM));refine lV 49 (mV ((aE x j)-48)) ?_ (hr:=rU ((((aE x j)-48:Nat):Int)) kR (aZ oM oM));refine lV 50 (mV ((pt*10)+((aE x j)-48))) ?_ (hr:=rU ((((pt*10:Nat):Int)+(((aE x j)-48:Nat):Int))) kR (de (pt*10) ((aE x j)-48) oM));refine lL hs [.m 51 6] (lV 52 (mV (un*10)) ?_ (hr:=rU (((un:Int)*(10:Int))) kR (fl un 10 oM)));refine lL hs [.m 5 50,.m 6 52] (aG (lL hs [.m 53 6] ?_));cases zd:(((un*10:Nat):Int) == (10000000000000000000:Int))
      ·
       have zp:=af zd;refine lB 54 zd (lL hs [.m 55 54,.m 56 7,.m 57 0,.v 58 (nV x.size)] (lI 59 ((x.size:Nat)-1) ?_));cases ze:((j:Int) == ((x.size:Nat)-1:Int))
       ·
        have zq:=af ze;refine lB 60 ze (lL hs [.v 61 qF] (ag (cK (kQ (bn 66 ((j:Nat)+1) (j+1) ?_)))));refine lL hs [.m 29 66] (lD ?_);intro a_ ka;replace hs:=(hs.tl.add (K:=fun h_=>SlO 1 am 0 h_ A l) hs.f.1);refine ⟨_,_,?_,⟨j+1,A,c,l,((pt*10)+((aE x j)-48):Nat),(un*10),h8,rfl,rfl,hs.to _ _,oM,hcl,(fun _=>⟨hA0,hc0,hl0,by omega,by omega⟩),(fun h_=>absurd h_ oM),(fun h_=>absurd h_ oM),(fun h_=>absurd h_ oM)⟩,ka.to _ kR⟩
        omega
       have zq:=eq_of_beq ze;refine lB 60 ze (lL hs [.v 61 qT] (ak ?_));subst hA0 hc0 hl0;refine ab hs [.m 62 4,.m 63 6,.m 64 5] (lC 65 hs (qg ((un*10)) (((pt*10)+((aE x j)-48):Nat)) oM _ _ hs.g) ?_);rintro _ _ zx hs ⟨A2,c2,l2,rfl,hc2,hA2,hl2⟩;replace hs:=hs.aS hA2;refine lL hs [.m 4 65] (lN (bI [(0,.string x),(2,pB b1),(28,nV x.size),(29,nV j),(4,qS A2 l2.length c2),(5,mV ((pt*10)+((aE x j)-48))),(6,mV (un*10))] ?_));refine kQ (lL hs [.v 5 (uV 0),.v 6 (uV 1)] (lN (kQ (bn 66 ((j:Nat)+1) (j+1) ?_))));refine lL hs [.m 29 66] (lD ?_);intro a_ ka;replace hs:=(hs.tl.tl.add (K:=fun h_=>SlO 1 am 0 h_ A2 l2) hs.f.1);refine ⟨_,_,?_,⟨j+1,A2,c2,l2,0,1,zx,rfl,rfl,hs.to _ _,oM,hc2,(fun h_=>absurd h_ oM),(fun _=>by rw[hl2];split<;>simp),(fun _=>by rw[hl2];exact mi oM),(fun _=>by rw[hl2,io];omega)⟩,ka.to _ kR⟩
       omega
      have zp:=eq_of_beq zd;refine lB 54 zd (lL hs [.m 55 54] (lG 56 ?_));refine lG 57 (lG 58 (lG 59 (lG 60 (lL hs [.v 61 qT] (ak ?_)))));subst hA0 hc0 hl0;refine ab hs [.m 62 4,.m 63 6,.m 64 5] (lC 65 hs (qg ((un*10)) (((pt*10)+((aE x j)-48):Nat)) oM _ _ hs.g) ?_);rintro _ _ zA hs ⟨A2,c2,l2,rfl,hc2,hA2,hl2⟩;replace hs:=hs.aS hA2;refine lL hs [.m 4 65] (lN (bI [(0,.string x),(2,pB b1),(28,nV x.size),(29,nV j),(4,qS A2 l2.length c2),(5,mV ((pt*10)+((aE x j)-48))),(6,mV (un*10))] ?_));refine kQ (lL hs [.v 5 (uV 0),.v 6 (uV 1)] (lN (kQ (bn 66 ((j:Nat)+1) (j+1) ?_))));refine lL hs [.m 29 66] (lD ?_);intro a_ ka;replace hs:=(hs.tl.tl.add (K:=fun h_=>SlO 1 am 0 h_ A2 l2) hs.f.1);refine ⟨_,_,?_,⟨j+1,A2,c2,l2,0,1,zA,rfl,rfl,hs.to _ _,oM,hc2,(fun h_=>absurd h_ oM),(fun _=>by rw[hl2];split<;>simp),(fun _=>by rw[hl2];exact mi oM),(fun _=>by rw[hl2,io];omega)⟩,ka.to _ kR⟩
      omega
     have zo:=oT zc;refine lB 40 zc (lL hs [.v 41 qT] (ak (ab hs [.v 42 (.agg #[uV 0,eS])] (lP 0 0 ([uV 0,eS]) hs (fun _ hs=>lL hs [.v 3 qF] (lN (kX ?_)))))))
     exfalso
     omega
    have zn:=oT zb;refine lB 35 zb (lL hs [.m 36 35] (lG 37 ?_));refine lG 38 (lG 39 (lG 40 (lL hs [.v 41 qT] (ak (ab hs [.v 42 (.agg #[uV 0,eS])] (lP 0 0 ([uV 0,eS]) hs (fun _ hs=>lL hs [.v 3 qF] (lN (kX ?_)))))))))
    exfalso
    omega
   have phb6:=oT hb6;refine lB 19 hb6 (lL hs [.m 20 19,.m 21 0] (lV 22 (.int .u8 (aE x 0:Nat)) ?_ (hr:=ca (tx:=9) (x:=.tmp 21) (i:=.const (iV 0)) (k:=.i64) (s:=x) (n:=0) (j:=(0:Int)) kR kR kR kR oM oM _)));cases zf:(((aE x 0:Nat):Int) == (48:Int))
   ·
    have zr:=af zf;refine lB 23 zf (lL hs [.v 24 qF,.v 25 qF] (ag (cK (ab hs [.v 4 (sZ)] (aG (lL hs [.v 5 (uV 0),.v 6 (uV 1)] (ah (ab hs [.m 27 0,.v 28 (nV x.size),.v 29 (iV 0)] (a8 ?_)))))))));replace hs:=hs.add (K:=fun h_=>SlO 1 am 0 h_ none ([])) (SlO.nil);refine bI _ (CG.loop (fun μ_ Γ w_=>∃ (j:Nat) (A:Option Addr) (c:Nat) (l:List Nat) (pt:Nat) (un:Nat) (h_:Hp),μ_=x.size-j∧Γ=[(0,.string x),(2,pB b1),(28,nV x.size),(29,nV j),(4,qS A l.length c),(5,mV pt),(6,mV un)]∧SS w h w_ h_ [⟨b1,41,[uV 0,eS]⟩] [] [fun h_=>SlO 1 am 0 h_ A l]∧j≤x.size∧l.length≤c∧(j<x.size→A=none∧c=0∧l=[]∧pt=dv x j∧un=10^j)∧(j=x.size→l.length≤1)∧(j=x.size→Wd l)∧(j=x.size→aA l=dv x j)) _ ⟨0,none,0,[],0,1,h3,rfl,rfl,hs.to _ _,Nat.zero_le _,nR _,(fun _=>⟨rfl,rfl,rfl,rfl,rfl⟩),(fun _=>Nat.zero_le _),(fun _=>Dg.nil),(fun h_=>absurd h_ oM)⟩ ?_);rintro _ _ _ ⟨j,A,c,l,pt,un,zB,hm48,rfl,hs,hk,hcl,hI,hL,hW,hV⟩;have hd_:=hdg j;have hb_:=pE (x:=x) j (fun i hi=>hdg i oM);have hp_:10^j≤10^18:=Nat.pow_le_pow_right kD oM;have hs_:dv x (j+1)=dv x j*10+(aE x j-48):=rfl;have ht_:10^(j+1)=10^j*10:=Nat.pow_succ ..;refine av ?_;cases zg:(decide ((j:Int)<(x.size:Int)))
    ·
     have zs:=oF zg;refine lB 30 zg (ah (cY (CG.exit ?_)))
     show CG _ _ _ _ _ _ _ _
     exact ab hs [.m 67 4] (ai 68 hs (ti A c l (hW oM) (by have:=hL oM;omega) hcl _ _ hs.g hs.f.1) (fun _ _ hs=>lP 0 0 (nc (aA l)) hs (fun _ hs=>lL hs [.v 3 qT] (ae hs [(0,0,2)] (.tuple #[nv (aA l),qT]) (by rw[hV oM,show j=x.size by omega,←hkd])))))
    have zs:=oT zg;refine lB 30 zg (ah (cl (cK (cQ (kZ ?_)))));obtain ⟨hA0,hc0,hl0,hpt,hun⟩:=hI oM;have hd2_:=hd_ oM;have hp2_:10^(j+1)≤10^18:=Nat.pow_le_pow_right kD oM;refine ab hs [.m 31 29,.m 7 31] (ah (ab hs [.m 32 0,.m 33 7] (lV 34 (.int .u8 (aE x j:Nat)) ?_ (hr:=ca (tx:=9) (x:=.tmp 32) (i:=.tmp 33) (k:=.i64) (s:=x) (n:=j) (j:=(j:Int)) kR kR kR kR oM oM _))));cases zi:(decide (((aE x j:Nat):Int)<(48:Int)))
    ·
     have zt:=oF zi;refine lB 35 zi (lL hs [.m 36 35,.m 37 0,.m 38 7] (lV 39 (.int .u8 (aE x j:Nat)) ?_ (hr:=ca (tx:=9) (x:=.tmp 37) (i:=.tmp 38) (k:=.i64) (s:=x) (n:=j) (j:=(j:Int)) kR kR kR kR oM oM _)));cases zj:(decide ((57:Int)<((aE x j:Nat):Int)))
     ·
      have zu:=oF zj;refine lB 40 zj (lL hs [.v 41 qF] (ag (cK (ab hs [.m 43 5] (lV 44 (mV (pt*10)) ?_ (hr:=rU (((pt:Int)*(10:Int))) kR (fl pt 10 oM)))))));refine lL hs [.m 45 0,.m 46 7] (lV 47 (.int .u8 (aE x j:Nat)) ?_ (hr:=ca (tx:=9) (x:=.tmp 45) (i:=.tmp 46) (k:=.i64) (s:=x) (n:=j) (j:=(j:Int)) kR kR kR kR oM oM _));refine lV 48 (.int .u8 ((aE x j)-48:Nat)) ?_ (hr:=aI (n:=IntKind.wrap .u8 (((aE x j:Nat):Int)-(48:Int))) kR (DT (aE x j) 48 oM oM));refine lV 49 (mV ((aE x j)-48)) ?_ (hr:=rU ((((aE x j)-48:Nat):Int)) kR (aZ oM oM));refine lV 50 (mV ((pt*10)+((aE x j)-48))) ?_ (hr:=rU ((((pt*10:Nat):Int)+(((aE x j)-48:Nat):Int))) kR (de (pt*10) ((aE x j)-48) oM));refine lL hs [.m 51 6] (lV 52 (mV (un*10)) ?_ (hr:=rU (((un:Int)*(10:Int))) kR (fl un 10 oM)));refine lL hs [.m 5 50,.m 6 52] (aG (lL hs [.m 53 6] ?_));cases zk:(((un*10:Nat):Int) == (10000000000000000000:Int))
      ·
       have zv:=af zk;refine lB 54 zk (lL hs [.m 55 54,.m 56 7,.m 57 0,.v 58 (nV x.size)] (lI 59 ((x.size:Nat)-1) ?_));cases zl:((j:Int) == ((x.size:Nat)-1:Int))
       ·
        have zw:=af zl;refine lB 60 zl (lL hs [.v 61 qF] (ag (cK (kQ (bn 66 ((j:Nat)+1) (j+1) ?_)))));refine lL hs [.m 29 66] (lD ?_);intro a_ ka;replace hs:=(hs.tl.add (K:=fun h_=>SlO 1 am 0 h_ A l) hs.f.1);refine ⟨_,_,?_,⟨j+1,A,c,l,((pt*10)+((aE x j)-48):Nat),(un*10),zB,rfl,rfl,hs.to _ _,oM,hcl,(fun _=>⟨hA0,hc0,hl0,by omega,by omega⟩),(fun h_=>absurd h_ oM),(fun h_=>absurd h_ oM),(fun h_=>absurd h_ oM)⟩,ka.to _ kR⟩
        omega
       have zw:=eq_of_beq zl;refine lB 60 zl (lL hs [.v 61 qT] (ak ?_));subst hA0 hc0 hl0;refine ab hs [.m 62 4,.m 63 6,.m 64 5] (lC 65 hs (qg ((un*10)) (((pt*10)+((aE x j)-48):Nat)) oM _ _ hs.g) ?_);rintro _ _ zD hs ⟨A2,c2,l2,rfl,hc2,hA2,hl2⟩;replace hs:=hs.aS hA2;refine lL hs [.m 4 65] (lN (bI [(0,.string x),(2,pB b1),(28,nV x.size),(29,nV j),(4,qS A2 l2.length c2),(5,mV ((pt*10)+((aE x j)-48))),(6,mV (un*10))] ?_));refine kQ (lL hs [.v 5 (uV 0),.v 6 (uV 1)] (lN (kQ (bn 66 ((j:Nat)+1) (j+1) ?_))));refine lL hs [.m 29 66] (lD ?_);intro a_ ka;replace hs:=(hs.tl.tl.add (K:=fun h_=>SlO 1 am 0 h_ A2 l2) hs.f.1);refine ⟨_,_,?_,⟨j+1,A2,c2,l2,0,1,zD,rfl,rfl,hs.to _ _,oM,hc2,(fun h_=>absurd h_ oM),(fun _=>by rw[hl2];split<;>simp),(fun _=>by rw[hl2];exact mi oM),(fun _=>by rw[hl2,io];omega)⟩,ka.to _ kR⟩
       omega
      have zv:=eq_of_beq zk;refine lB 54 zk (lL hs [.m 55 54] (lG 56 ?_));refine lG 57 (lG 58 (lG 59 (lG 60 (lL hs [.v 61 qT] (ak ?_)))));subst hA0 hc0 hl0;refine ab hs [.m 62 4,.m 63 6,.m 64 5] (lC 65 hs (qg ((un*10)) (((pt*10)+((aE x j)-48):Nat)) oM _ _ hs.g) ?_);rintro _ _ zE hs ⟨A2,c2,l2,rfl,hc2,hA2,hl2⟩;replace hs:=hs.aS hA2;refine lL hs [.m 4 65] (lN (bI [(0,.string x),(2,pB b1),(28,nV x.size),(29,nV j),(4,qS A2 l2.length c2),(5,mV ((pt*10)+((aE x j)-48))),(6,mV (un*10))] ?_));refine kQ (lL hs [.v 5 (uV 0),.v 6 (uV 1)] (lN (kQ (bn 66 ((j:Nat)+1) (j+1) ?_))));refine lL hs [.m 29 66] (lD ?_);intro a_ ka;replace hs:=(hs.tl.tl.add (K:=fun h_=>SlO 1 am 0 h_ A2 l2) hs.f.1);refine ⟨_,_,?_,⟨j+1,A2,c2,l2,0,1,zE,rfl,rfl,hs.to _ _,oM,hc2,(fun h_=>absurd h_ oM),(fun _=>by rw[hl2];split<;>simp),(fun _=>by rw[hl2];exact mi oM),(fun _=>by rw[hl2,io];omega)⟩,ka.to _ kR⟩
      omega
     have zu:=oT zj;refine lB 40 zj (lL hs [.v 41 qT] (ak (ab hs [.v 42 (.agg #[uV 0,eS])] (lP 0 0 ([uV 0,eS]) hs (fun _ hs=>lL hs [.v 3 qF] (lN (kX ?_)))))))
     exfalso
     omega
    have zt:=oT zi;refine lB 35 zi (lL hs [.m 36 35] (lG 37 ?_));refine lG 38 (lG 39 (lG 40 (lL hs [.v 41 qT] (ak (ab hs [.v 42 (.agg #[uV 0,eS])] (lP 0 0 ([uV 0,eS]) hs (fun _ hs=>lL hs [.v 3 qF] (lN (kX ?_)))))))))
    exfalso
    omega
   have zr:=eq_of_beq zf;refine lB 23 zf (lL hs [.v 24 qT,.v 25 qT] (ak (ab hs [.v 26 (.agg #[uV 0,eS])] (lP 0 0 ([uV 0,eS]) hs (fun _ hs=>lL hs [.v 3 qF] (lN (kX ?_)))))))
   exfalso
   first|omega|exact h0 oM oM
  have phb5:=oT hb5;refine lB 14 hb5 (lL hs [.v 15 qT,.m 16 15] (lG 17 ?_));refine lG 18 (lG 19 (lG 20 (lG 21 (lG 22 (lG 23 (lG 24 (lL hs [.v 25 qT] (ak (ab hs [.v 26 (.agg #[uV 0,eS])] (lP 0 0 ([uV 0,eS]) hs (fun _ hs=>lL hs [.v 3 qF] (lN (kX ?_)))))))))))))
  exfalso
  first|omega|exact h0 oM oM
 have phb4:=eq_of_beq hb4;refine lB 10 hb4 (lL hs [.m 11 10] (lG 12 ?_));refine lG 13 (lG 14 (lL hs [.v 15 qT,.m 16 15] (lG 17 ?_)));refine lG 18 (lG 19 (lG 20 (lG 21 (lG 22 (lG 23 (lG 24 (lL hs [.v 25 qT] (ak (ab hs [.v 26 (.agg #[uV 0,eS])] (lP 0 0 ([uV 0,eS]) hs (fun _ hs=>lL hs [.v 3 qF] (lN (kX ?_)))))))))))))
 exfalso
 first|omega|exact h0 oM oM
theorem D4 (x:ByteArray)(c:UInt8)(hn:∀ i,i<x.size→aE x i≠c.toNat)(w:World)(h:Hp)(g:G w h):CV 239 #[.string x,.string (⟨#[c]⟩)] w h (.tuple #[.string x,eS,.bool false]):=by
 have hs:=sS g;exact go Tryz.func239 [(0,.string x),(1,.string (⟨#[c]⟩))] rfl (ab hs [.v 4 (eS),.v 5 (eS),.v 6 qF] (ah (ab hs [.m 8 0,.m 9 1] (ai 10 hs (vH x c hn _ _ hs.g) (fun w1 h2 hs=>lL hs [.m 7 10] (aG (lL hs [.m 11 7,.v 12 qF] (ag (cK (ab hs [.m 22 0,.m 4 22,.v 5 (eS),.v 6 qF] (ae hs [] (.tuple #[.string x,eS,qF]) rfl)))))))))))
theorem Bk (x:ByteArray)(c:UInt8)(hn:∀ i,i<x.size→aE x i≠c.toNat)(w:World)(h:Hp)(g:G w h):CV 233 #[.string x,.string (⟨#[c]⟩)] w h (.tuple #[.string x,eS,.bool false]):=by
 have hs:=sS g;exact go Tryz.func233 [(0,.string x),(1,.string (⟨#[c]⟩))] rfl (ab hs [.v 4 (eS),.v 5 (eS),.v 6 qF] (aG (lL hs [.m 7 0,.m 8 1] (ai 9 hs (D4 x c hn _ _ hs.g) (fun w1 h2 hs=>lL hs [.v 10 (.string x),.v 11 (eS),.v 12 qF,.m 4 10,.m 5 11,.m 6 12] (ae hs [] (.tuple #[.string x,eS,qF]) rfl))))))
theorem Ac (x:ByteArray)(k:Nat)(hx:x.size≤18)(hk_:jl x=some k)(w:World)(h:Hp)(g:G w h):CV 236 #[.string x] w h (.tuple #[iv (k:Int),.bool true]):=by
 have hs:=sS g;obtain ⟨h1,h0,hdg,hkd⟩:=gt hk_;refine go Tryz.func236 [(0,.string x)] rfl (av (lA 2 43 ([qF,uV 0,eS]) hs (fun b1 w2 h3 hs=>lL hs [.v 3 qF] (aG (lL hs [.m 9 0] (ai 10 hs (nI x 45 (by have:=hdg 0 oM;show aE x 0≠45;omega) _ _ hs.g) (fun w4 h5 hs=>lL hs [.m 8 10,.v 11 (.string x),.v 12 qF,.m 4 11,.m 5 12] (aG (lL hs [.m 14 4] (ai 15 hs (qk x k hx hk_ _ _ hs.g) (fun w6 h7 hs=>lL hs [.m 13 15,.v 16 (nv k),.v 17 qT] (lA 6 41 ([uV 0,eS]) hs (fun b8 w9 _ hs=>lP 0 0 (nc k) hs (fun _ hs=>lL hs [.m 7 17] (ah (ab hs [.m 18 7,.v 19 qF,.m 20 19,.m 21 5,.m 22 21] (lG 23 ?_)))))))))))))))));exact lG 24 (lG 25 (lL hs [.v 26 qF,.v 27 qF] (ag (cK (ab hs [.m 29 5,.o 30 (nv k) 0 0 2] (ai 31 hs (dt k _ _ hs.g) (fun _ _ hs=>lP 1 0 (ic (k:Int)) hs (fun _ hs=>lL hs [.v 3 qT] (ae hs [(1,0,3)] (.tuple #[iv (k:Int),qT]) rfl)))))))))
theorem wg (x:ByteArray)(k:Nat)(hx:x.size≤18)(hk_:jl x=some k)(w:World)(h:Hp)(g:G w h):CV 220 #[.string x] w h (.tuple #[qv ((k:Nat):Rat),.bool true]):=by
 have hs:=sS g;obtain ⟨h1,h0,hdg,hkd⟩:=gt hk_;exact go Tryz.func220 [(0,.string x)] rfl (av (lA 2 45 ([qF,uV 0,eS,uV 0,eS]) hs (fun b1 w2 h3 hs=>lL hs [.v 3 qF] (ah (ab hs [.m 13 0] (ai 14 hs (Bk x 47 (fun i hi=>by have:=hdg i hi;show aE x i≠47;omega) _ _ hs.g) (fun w4 h5 hs=>lL hs [.m 12 14,.v 15 (.string x),.v 16 (eS),.v 17 qF,.m 4 15,.m 5 16,.m 6 17] (aG (lL hs [.m 18 6] (ag (cK (cQ (ab hs [.m 25 0] (ai 26 hs (Bk x 46 (fun i hi=>by have:=hdg i hi;show aE x i≠46;omega) _ _ hs.g) (fun w6 h7 hs=>lL hs [.m 24 26,.v 27 (.string x),.v 28 (eS),.v 29 qF,.m 7 27,.m 8 28,.m 9 29] (aG (lL hs [.m 30 9] (ag (cK (ab hs [.m 37 0] (ai 38 hs (Ac x k hx hk_ _ _ hs.g) (fun w8 h9 hs=>lL hs [.m 36 38,.v 39 (iv (k:Int)),.v 40 qT] (lA 10 43 ([qF,uV 0,eS]) hs (fun b10 _ _ hs=>lP 0 0 (ic (k:Int)) hs (fun _ hs=>lL hs [.m 11 40] (aG (lL hs [.o 41 (iv (k:Int)) 0 0 3,.v 42 (.agg #[.bool (ac (k:Int)),uV (lo (aa (k:Int))),.string (hi (aa (k:Int))),uV 0,eS]),.m 43 11] (lP 1 0 ([.bool (ac (k:Int)),uV (lo (aa (k:Int))),.string (hi (aa (k:Int))),uV 0,eS]) hs (fun _ hs=>lL hs [.m 3 43] (ae hs [(1,0,5)] (.tuple #[.agg #[.bool (ac (k:Int)),uV (lo (aa (k:Int))),.string (hi (aa (k:Int))),uV 0,eS],qT]) (congrArg (fun v_=>Value.tuple #[v_,qT]) (ge (d:=0) (Rat.num_natCast k) (jM (Rat.den_natCast k))))))))))))))))))))))))))))))))))
def DJ (x:ByteArray):Option Rat:=if x.size≤18 then (jl x).map (fun k=>((k:Nat):Rat)) else none
theorem BQ:Bt DJ:=fun x q h w hh g=>by
  unfold DJ at h
  split at h
  · rename_i hx
    cases hk:jl x with
    | none=>rw[hk] at h;cases h
    | some k =>
      rw[hk] at h;injection h with h;subst h
      exact wg x k hx hk w hh g
  · cases h
theorem Bz:Do:=fun x k hx hk w h g=>qk x k oM hk w h g
def AP (s:ByteArray):Prop:=s=⟨#[120]⟩∨s=⟨#[121]⟩∨s=⟨#[122]⟩
theorem Co:∀ {k:Nat},k<3→AP (([⟨#[120]⟩,⟨#[121]⟩,⟨#[122]⟩]:List ByteArray).getD k ⟨#[]⟩)
 | 0,_=>.inl rfl
 | 1,_=>.inr (.inl rfl)
 | 2,_=>.inr (.inr rfl)
def GrT (d:Nat)(t:Tm):Prop:=WfT AP d t∧3*cb d t≤3^d
theorem GrT.num {d:Nat}{q:Rat}(h:LQ 1 q):GrT (d+1) (.mk 1 0 q ⟨#[]⟩ []) :=
 ⟨⟨rfl,fun h=>absurd rfl h,h,fun h=>absurd (show (1:Int)=2 from h) kD,fun _=>rfl,fun _=>rfl,by show (-12:Int)≤0;decide,by show (0:Int)≤12;decide,fun i hi=>absurd hi (Nat.not_lt_zero i)⟩,by
  have:=Nat.two_pow_pos d;have:0<3^d:=Nat.pow_pos kD
  show 3*1≤3^(d+1)
  rw[Nat.pow_succ];omega⟩
theorem GrT.name {d:Nat}{s:ByteArray}(h:AP s):GrT (d+1) (.mk 2 0 0 s []) :=
 ⟨⟨rfl,fun _=>rfl,rN kD,fun _=>h,fun h=>absurd rfl h,fun _=>rfl,by show (-12:Int)≤0;decide,by show (0:Int)≤12;decide,fun i hi=>absurd hi (Nat.not_lt_zero i)⟩,by
  have:0<3^d:=Nat.pow_pos kD
  show 3*1≤3^(d+1)
  rw[Nat.pow_succ];omega⟩
theorem GrT.one {d:Nat}{op n:Int}{t:Tm}(x:GrT d t)(ha:fs op=1)(h8:op≠8→n=0)(h1 : -3≤n)(h2:n≤3):GrT (d+1) (.mk op n 0 ⟨#[]⟩ [t]):=by
 refine ⟨⟨ha,fun _=>rfl,rN kD,fun h=>?_,fun _=>rfl,h8,by show (-12:Int)≤n;omega,by show n≤12;omega,fun i hi=>?_⟩,?_⟩
 ·have h:op=2:=h
  rw[h] at ha;exact absurd ha kD
 ·have:i=0:=by have:i<1:=hi;omega
  subst this;exact x.1
 ·show 3*((if op=11 then 2 else if op=8 then bR n else 1)*(0+cb d t))≤3^(d+1)
  have hf:(if op=11 then 2 else if op=8 then bR n else 1)≤3:=by
   unfold bR
   repeat' split
   all_goals omega
  have:=Nat.mul_le_mul hf x.2;rw[Nat.pow_succ,Nat.zero_add,Nat.mul_left_comm,Nat.mul_comm (3^d)];exact this
theorem GrT.two {d:Nat}{op:Int}{t u:Tm}(x:GrT d t)(y:GrT d u)(ha:fs op=2):GrT (d+1) (.mk op 0 0 ⟨#[]⟩ [t,u]):=by
 have h8:op≠8:=fun h=>by rw[h] at ha;exact absurd ha kD
 have h11:op≠11:=fun h=>by rw[h] at ha;exact absurd ha kD
 refine ⟨⟨ha,fun _=>rfl,rN kD,fun h=>?_,fun _=>rfl,fun _=>rfl,by show (-12:Int)≤0;decide,by show (0:Int)≤12;decide,fun i hi=>?_⟩,?_⟩
 ·have h:op=2:=h
  rw[h] at ha;exact absurd ha kD
 ·have:i=0∨i=1:=by have:i<2:=hi;omega
  rcases this with rfl|rfl
  ·exact x.1
  ·exact y.1
 ·show 3*((if op=11 then 2 else if op=8 then bR 0 else 1)*(0+cb d t+cb d u))≤3^(d+1)
  rw[if_neg h11,if_neg h8,Nat.pow_succ];have:=x.2;have:=y.2
  omega
section
variable {d:Nat} {h:Hp}
theorem oR:RZ h (false,.slice none 0 0,.slice none 0 0) 0:=⟨false,⟨none,0,none,0,rfl,Nat.le_refl _,Nat.le_refl _,SlO.nil,SlO.nil⟩,fun _=>rfl⟩
theorem C1 {b:Bool}{zA dA:Option Addr}{zn zc dn dc:Nat}{q:Rat}(hz:RZ h (b,.slice zA zn zc,.slice dA dn dc) q):RmH (d+1) h ⟨1,0,b,zA,zn,zc,dA,dn,dc,⟨#[]⟩,none,0,0⟩ (.mk 1 0 q ⟨#[]⟩ []) :=
 ⟨rfl,rfl,hz,rfl,rfl,Nat.le_refl _,[],rfl,SlO.nil,fun i hi=>absurd hi (Nat.not_lt_zero i)⟩
theorem xg {s:ByteArray}:RmH (d+1) h ⟨2,0,false,none,0,0,none,0,0,s,none,0,0⟩ (.mk 2 0 0 s []) :=
 ⟨rfl,rfl,oR,rfl,rfl,Nat.le_refl _,[],rfl,SlO.nil,fun i hi=>absurd hi (Nat.not_lt_zero i)⟩
theorem va {op n:Int}{p:RTm}{t:Tm}{b:Nat}(x:RmH d h p t)(hA:SlO 7 fO ax h (some ⟨b,0,none⟩) [p]):RmH (d+1) h ⟨op,n,false,none,0,0,none,0,0,⟨#[]⟩,some ⟨b,0,none⟩,1,1⟩ (.mk op n 0 ⟨#[]⟩ [t]) :=
 ⟨rfl,rfl,oR,rfl,rfl,Nat.le_refl _,[p],rfl,hA,fun i hi=>by
  have:i=0:=by have:i<1:=hi;omega
  subst this;exact x⟩
theorem Dk {op:Int}{p q:RTm}{t u:Tm}{b:Nat}(x:RmH d h p t)(y:RmH d h q u)(hA:SlO 7 fO ax h (some ⟨b,0,none⟩) [p,q]):RmH (d+1) h ⟨op,0,false,none,0,0,none,0,0,⟨#[]⟩,some ⟨b,0,none⟩,2,2⟩ (.mk op 0 0 ⟨#[]⟩ [t,u]) :=
 ⟨rfl,rfl,oR,rfl,rfl,Nat.le_refl _,[p,q],rfl,hA,fun i hi=>by
  have:i=0∨i=1:=by have:i<2:=hi;omega
  rcases this with rfl|rfl
  ·exact x
  ·exact y⟩
end
theorem Rms.mono {d e:Nat}{h:Hp}{rs:List RTm}{ts:List Tm}(x:Rms d h rs ts)(u:d≤e):Rms e h rs ts:=⟨x.len,fun i hi=>(x.at_ i hi).mono u⟩
theorem Rms.set {d:Nat}{h:Hp}{rs:List RTm}{ts:List Tm}{r:RTm}{t:Tm}(x:Rms d h rs ts)(k:Nat)(y:RmH d h r t):Rms d h (rs.set k r) (ts.set k t):=by
 refine ⟨by simp[x.len],fun i hi=>?_⟩;rw[List.length_set] at hi
 rw[List.getD_eq_getElem?_getD,List.getD_eq_getElem?_getD,List.getElem?_set,List.getElem?_set,x.len]
 by_cases e:k=i
 ·subst e
  rw[if_pos rfl,if_pos rfl,if_pos hi,if_pos hi];exact y
 ·rw[if_neg e,if_neg e,←List.getD_eq_getElem?_getD,←List.getD_eq_getElem?_getD];exact x.at_ i hi
def fT (s:ByteArray):Prop:=s.size≤1000
theorem wD {s:ByteArray}(h:AP s):fT s:=by
 rcases h with rfl|rfl|rfl<;>(unfold fT;decide)
theorem od:fT ⟨#[]⟩:=by unfold fT;decide
def SpO (d:Nat)(h:Hp)(r:RTm)(t:Tm):Prop:=RmH (d+3) h r t∧SmT fT (d+3) t
theorem SpO.gw {d:Nat}{h h':Hp}{r:RTm}{t:Tm}(x:SpO d h r t)(u:Gw h h'):SpO d h' r t:=⟨x.1.gw u,x.2⟩
theorem dZ {d:Nat}{t:Tm}(w:WfT AP d t):SmT fT d t:=w.sm (sm:=fT) (fun _ h=>wD h) od
theorem rm {α:Type}{l:List α}{k i:Nat}{x d:α}(p:α→Prop)(h:∀ i,i<l.length→p (l.getD i d))(hx:p x)(hi:i<(l.set k x).length):p ((l.set k x).getD i d):=by
 rw[List.length_set] at hi
 rw[List.getD_eq_getElem?_getD,List.getElem?_set]
 by_cases e:k=i
 ·subst e
  rw[if_pos rfl,if_pos hi];exact hx
 ·rw[if_neg e,←List.getD_eq_getElem?_getD];exact h i hi
theorem nX {α:Type}{l:List α}{i:Nat}{x d:α}(p:α→Prop)(h:∀ i,i<l.length→p (l.getD i d))(hx:p x)(hi:i<(l++[x]).length):p ((l++[x]).getD i d):=by
 rw[List.length_append,List.length_singleton] at hi
 rw[cu]
 by_cases e:i<l.length
 ·rw[if_pos e];exact h i e
 ·rw[if_neg e,if_pos oM];exact hx
theorem fN {d:Nat}{op n:Int}{q:Rat}{s:ByteArray}{ks:List Tm}(hk:ks.length≤3)(ho : -1000≤op∧op≤1000)(hn : -1000≤n∧n≤1000)(hq:LQ 1 q)(hs:fT s)(hW:∀ i,i<ks.length→SmT fT d (ks.getD i bz)):SmT fT (d+1) (.mk op n q s ks):=⟨hk,ho,hn,hq,hs,hW⟩
theorem oW {d:Nat}{n:Int}{t:Tm}(hn : -1000≤n∧n≤1000)(h:SmT fT d t):SmT fT (d+1) (.mk 8 n 0 ⟨#[]⟩ [t]) :=
 ⟨by show 1≤3;decide,by show (-1000:Int)≤8∧(8:Int)≤1000;decide,hn,rN kD,od,fun i hi=>by
  have:i=0:=by have:i<1:=hi;omega
  subst this;exact h⟩
theorem EF (e:Int):aK e 4=0∨aK e 4=1∨aK e 4=2∨aK e 4=3:=by have:=ck e 4 oM;omega
theorem mc {s:ByteArray}(h:dK s=true):fT s:=by
 have:=oT h
 unfold fT;omega
theorem wO:∀ s,fT s→∀ (w:World) (h:Hp),G w h→Calls Tryz.prog 72 #[.string s] w (Ret w h (fun v _=>∃ b,v=.bool b∧b=dK s)):=fun s hs w h g=>(Cm s (by unfold fT at hs;omega) w h g).mono fun e w' ⟨v,h',e1,u,e2⟩=>⟨v,h',e1,u,_,e2,rfl⟩
theorem TmH.cut {ok:ByteArray→Prop}{h:Hp}:∀ {e d:Nat} {p:PTm} {t:Tm},TmH e h p t→WfT ok d t→TmH d h p t
 | _,0,_,_,_,x=>x.elim
 | 0,_,_,_,x,_=>x.elim
 | e+1,d+1,p,t,⟨h1,h2,h3,h4,h5,h6,ps,h7,h8,h9⟩,⟨_,_,_,_,_,_,_,_,k⟩=>⟨h1,h2,h3,h4,h5,h6,ps,h7,h8,fun i hi=>(h9 i hi).cut (k i hi)⟩
theorem PtH.cut {ok:ByteArray→Prop}{h:Hp}{d:Nat}{p:PTm}{t:Tm}(x:PtH h p t)(y:WfT ok d t):TmH d h p t:=by obtain ⟨e,x⟩:=x;exact x.cut y
theorem vx (s:ByteArray)(hsz:s.size≤65536)(n:Nat)(t:Tm)(b:Nat)(hq:dq DJ (fun _=>none) s n .sum 0=some (.ok t b))(hb:sk s b=s.size)(d:Nat)(hd:d≤24)(hW:WfT (fun s=>dK s=true) d t)(hw:cb d t≤1000)(w:World)(h:Hp)(g:G w h):CR 24 #[.string s] w h (fun v h1=>∃ p,v=.tuple #[fe p,.agg #[iV 0,iV 0,iV 0]]∧TmH d h1 p t):=by
 have hs:=sS g;refine go Tryz.func24 [(0,.string s)] rfl (av (lA 2 51 ([iV 0,iV 0,qF,uV 0,eS,uV 0,eS,eS,sZ]) hs (fun b1 w2 h3 hs=>lA 3 78 ([iV 0,iV 0,iV 0]) hs (fun b4 w5 h6 hs=>ah (ab hs [.m 7 0,.v 8 (nV s.size)] ?_)))));have hb7:(decide ((65536:Int)<(s.size:Int)))=false:=decide_eq_false oM;refine lB 9 hb7 (ag (cK (ab hs [.m 12 0,.v 13 (.agg #[.string s,iV 0,iV 0])] (lA 14 110 ([.string s,iV 0,iV 0]) hs (fun b8 w9 _ hs=>lL hs [.m 4 14] (aG (lL hs [.m 15 4] (dL 16 ((F5 BQ Bz n).1 b8 s oM 0 (Nat.zero_le _) 0 t b hq _ _ hs.g (hs.own 0) (hs.jk 0)) ?_))))))));rintro _ _ _ u13 ⟨tb,p,rfl,hbl,hO,hS,hT⟩;replace hs:=(hs.stepM 0 u13 hO).to [⟨b8,110,[.string s,nV b,iV 0]⟩,⟨b4,78,[iV 0,iV 0,iV 0]⟩,⟨b1,51,[iV 0,iV 0,qF,uV 0,eS,uV 0,eS,eS,sZ]⟩] [];replace hs:=((hs.a_Seg hS).add (K:=fun h_=>PtH h_ p t) hT);refine lL hs [.m 5 16] (ah (ab hs [.m 17 5,.v 18 qT] (ak (ab hs [.m 19 4] (dL 20 (m7 b8 s oM b hbl 0 _ _ hs.g (hs.own 0) (hs.jk 0)) ?_)))));rintro _ _ _ u16 ⟨rfl,hO2⟩;rw[hb] at hO2
 rw[hb];replace hs:=(hs.stepM 0 u16 hO2).to [⟨b8,110,[.string s,nV s.size,iV 0]⟩,⟨b4,78,[iV 0,iV 0,iV 0]⟩,⟨b1,51,[iV 0,iV 0,qF,uV 0,eS,uV 0,eS,eS,sZ]⟩] [];refine aG (lL hs [.m 21 4,.v 22 (pB b8),.v 23 (qP b8 1),.o 24 (nV s.size) 0 1 1,.m 25 0,.v 26 (nV s.size)] ?_);have za:(decide ((s.size:Int)<(s.size:Int)))=false:=decide_eq_false oM;refine lB 27 za (ag (cK (cQ (ab hs [.m 34 5,.v 35 qF] (ag (cK (cQ (ab hs [.m 42 5,.v 43 (pB tb)] (lH 44 (pX p) hs hs.f.2.1 ?_)))))))));refine ai 45 hs ((by have q_:=o9 dK fT wO (fun s h_=>mc h_) od d p t hd _ _ hs.g ((hs.f.1).cut hW) hW;rw[if_neg oM] at q_;exact q_)) (fun _ _ hs=>lL hs [.m 6 45] (aG (lL hs [.m 46 6,.v 47 qF] (ag (cK (ab hs [.m 51 5,.v 52 (pB tb)] (lH 53 (pX p) hs hs.f.2.1 ?_)))))));exact lL hs [.v 54 (.agg #[iV 0,iV 0,iV 0])] (lP 2 0 (pC p) hs (fun _ hs=>lP 1 0 ([iV 0,iV 0,iV 0]) hs (fun _ hs=>ae hs [(2,0,9),(1,0,3)] (.tuple #[pX p,.agg #[iV 0,iV 0,iV 0]]) (⟨p,rfl,(hs.f.1).cut hW⟩))))
theorem uT (q:Rat)(w:World)(h:Hp)(g:G w h):CV 152 #[qv q] w h (fe ⟨1,0,q,⟨#[]⟩,none,0,0⟩):=by
 have hs:=sS g;exact go Tryz.func152 [(0,qv q)] rfl (av (lA 1 45 (qc q) hs (fun b1 w2 h3 hs=>lA 2 51 ([iV 0,iV 0,qF,uV 0,eS,uV 0,eS,eS,sZ]) hs (fun b4 w5 h6 hs=>aG (lL hs [.o 3 (qv q) 1 0 5,.v 4 (.agg #[iV 1,iV 0,.bool (ac q.num),uV (lo (aa q.num)),.string (hi (aa q.num)),uV (lo (qd q)),.string (hi (qd q)),eS,sZ])] (lP 0 0 ([iV 1,iV 0,.bool (ac q.num),uV (lo (aa q.num)),.string (hi (aa q.num)),uV (lo (qd q)),.string (hi (qd q)),eS,sZ]) hs (fun w7 hs=>ae hs [(0,0,9)] (.agg #[iV 1,iV 0,.bool (ac q.num),uV (lo (aa q.num)),.string (hi (aa q.num)),uV (lo (qd q)),.string (hi (qd q)),eS,sZ]) rfl)))))))
theorem n8 (n:Int)(h0 : -1000≤n)(h1:n≤1000)(w:World)(h:Hp)(g:G w h):CV 106 #[iV n] w h (fe ⟨1,0,((n:Int):Rat),⟨#[]⟩,none,0,0⟩):=by
 have hs:=sS g;exact go Tryz.func106 [(0,iV n)] rfl (av (lA 2 51 ([iV 0,iV 0,qF,uV 0,eS,uV 0,eS,eS,sZ]) hs (fun b1 w2 h3 hs=>aG (lL hs [.m 3 0] (ai 4 hs (Bh (n) oM oM _ _ hs.g) (fun w4 h5 hs=>ai 5 hs (uT (((n:Int):Rat)) _ _ hs.g) (fun w6 h7 hs=>lP 0 0 (pC (⟨1,0,((n:Int):Rat),⟨#[]⟩,none,0,0⟩:PTm)) hs (fun w8 hs=>ae hs [(0,0,9)] (pX (⟨1,0,((n:Int):Rat),⟨#[]⟩,none,0,0⟩:PTm)) rfl))))))))
theorem Fn (p:PTm)(n:Int)(e:Bool)(h0 : -1000≤n)(h1:n≤1000)(hlq:LQ 100000000 p.q)(he:p.op=1→(du p.q ((n:Int):Rat) == 0)=e)(he2:p.op≠1→e=false)(w:World)(h:Hp)(g:G w h):CV 154 #[pX p,iV n] w h (.bool e):=by
 have hs:=sS g;refine go Tryz.func154 [(0,pX p),(1,iV n)] rfl (av (lA 2 51 (pC p) hs (fun b1 w2 h3 hs=>lL hs [.v 4 qF] (ah (cR 11 [] mixed hs ar ?_)))));refine eV 0 5 (pB b1) (eO 1 6 [(0,0,1)] (iV p.op) hs ?_);cases hb4:((p.op:Int) == (1:Int))
 ·
  have phb4:=af hb4;exact eB 2 7 hb4 (eV 3 8 qF (eG 4 9 (eG 5 10 (eG 6 11 (eG 7 12 (eG 8 13 (eG 9 14 (eV 10 15 qF (ce hs (fun w5 h6 hs=>tV 11 4 qF (tN (kX (hs.ret [] qF (congrArg Value.bool (by first|exact (he2 oM).symm|(rw[←he oM];exact (by assumption:(_ == _)=_).symm))))))))))))))))
 have phb4:=eq_of_beq hb4;refine eB 2 7 hb4 (eV 3 8 qT (eV 4 9 (qP b1 2) (eO 5 10 [(0,2,5)] (qv p.q) hs (eV 6 11 (iV n) (aq 7 12 hs (fun _ _ hs=>Bh (n) oM oM _ _ hs.g) (fun w7 h8 hs=>aq 8 13 hs (fun _ _ hs=>Bq p.q ((n:Int):Rat) hlq ((LQ.int oM oM).mono oM) _ _ hs.g) (fun w9 _ hs=>?_)))))));cases za:((du p.q ((n:Int):Rat):Int) == (0:Int))
 ·
  have zb:=af za;exact eB 9 14 za (eV 10 15 qF (ce hs (fun _ _ hs=>tV 11 4 qF (tN (kX (hs.ret [] qF (congrArg Value.bool (by first|exact (he2 oM).symm|(rw[←he oM];exact (by assumption:(_ == _)=_).symm)))))))))
 have zb:=eq_of_beq za;exact eB 9 14 za (eV 10 15 qT (ce hs (fun _ _ hs=>tV 11 4 qT (tN (kX (hs.ret [] qT (congrArg Value.bool (by first|exact (he2 oM).symm|(rw[←he oM];exact (by assumption:(_ == _)=_).symm)))))))))
theorem sH (op n:Int)(q:Rat)(s:ByteArray)(A:Option Addr)(c:Nat)(ps:List PTm)(hlp:ps.length≤2)(hnf:∃ i,i<ps.length∧(ps.getD i aU).op≠1)(w:World)(h:Hp)(g:G w h)(hA:SlO 9 dg aU h A ps):CV 153 #[pW op n q s A ps.length c] w h (.tuple #[.agg #[.bool false,uV 0,eS,uV 0,eS],.bool false]):=by
 have hs:=((sS g).aS hA);refine go Tryz.func153 [(0,pW op n q s A ps.length c)] rfl (av (lA 1 51 (pG op n q s A ps.length c) hs (fun b1 w2 h3 hs=>lA 2 45 ([qF,uV 0,eS,uV 0,eS]) hs (fun b4 w5 h6 hs=>lL hs [.v 3 qF] (ah (ab hs [.v 8 (qP b1 8),.o 9 (qS A ps.length c) 1 8 1,.v 10 (nV ps.length)] ?_))))));cases hb7:((ps.length:Int) == (0:Int))
 ·
  have phb7:=af hb7;refine lB 11 hb7 (ag (cK (cQ (ab hs [.v 13 (qP b1 8),.o 14 (qS A ps.length c) 1 8 1,.v 15 (nV ps.length),.v 16 (iV 0)] (a8 ?_)))));refine bI _ (CG.loop (fun μ_ Γ w_=>∃ (k:Nat) (h_:Hp),μ_=ps.length-k∧Γ=[(1,pB b1),(2,pB b4),(14,qS A ps.length c),(15,nV ps.length),(16,nV k)]∧SS w h w_ h_ [⟨b4,45,[qF,uV 0,eS,uV 0,eS]⟩,⟨b1,51,pG op n q s A ps.length c⟩] [] [fun h_=>SlO 9 dg aU h_ A ps]∧k≤ps.length∧(∀ i,i<k→(ps.getD i aU).op=1)) _ ⟨0,h6,rfl,rfl,hs.to _ _,Nat.zero_le _,(fun i hi=>absurd hi (Nat.not_lt_zero i))⟩ ?_);rintro _ _ w8 ⟨k,h9,hm10,rfl,hs,hk,hal⟩;refine av ?_;cases za:(decide ((k:Int)<(ps.length:Int)))
  ·
   have zc:=oF za;refine lB 17 za (ah (cY (CG.exit ?_)))
   show CG _ _ _ _ _ _ _ _
   refine av ?_
   exfalso
   obtain ⟨i,hi,hop⟩:=hnf;exact hop (hal i oM)
  have zc:=oT za;refine lB 17 za (ah (cl (cK (cQ (kZ (av (lX 18 A ps.length c 9 (k:Nat) k ((hs.f.1).ok oM) ?_)))))));refine lH 19 (pX (ps.getD k aU)) hs ((hs.f.1).el k oM) (lA 5 51 ([iV 0,iV 0,qF,uV 0,eS,uV 0,eS,eS,sZ]) hs (fun ze _ zf hs=>lP 0 0 (pC (ps.getD k aU)) hs (fun _ hs=>aG (lL hs [.v 20 (pB ze),.o 21 (iV ((ps.getD k aU).op)) 0 0 1] ?_))));cases zb:(((ps.getD k aU).op:Int) != (1:Int))
  ·
   have zd:=aY zb;refine lB 22 zb (ag (cK (kQ (bn 24 ((k:Nat)+1) (k+1) ?_))));refine lL hs [.m 16 24] (lD ?_);intro a_ ka;replace hs:=hs.drop 1 0;refine ⟨_,_,?_,⟨k+1,zf,rfl,rfl,hs.to _ _,oM,(fun i hi=>by rcases Nat.lt_succ_iff_lt_or_eq.1 hi with h_|rfl;exact hal i h_;omega)⟩,ka.to _ kR⟩
   omega
  have zd:=ay zb;exact lB 22 zb (ak (ab hs [.v 23 (.agg #[qF,uV 0,eS,uV 0,eS])] (lP 1 0 ([qF,uV 0,eS,uV 0,eS]) hs (fun _ hs=>lL hs [.v 3 qF] (ae hs [(1,0,5)] (.tuple #[.agg #[qF,uV 0,eS,uV 0,eS],qF]) rfl)))))
 have phb7:=eq_of_beq hb7;exact lB 11 hb7 (ak (ab hs [.v 12 (.agg #[qF,uV 0,eS,uV 0,eS])] (lP 0 0 ([qF,uV 0,eS,uV 0,eS]) hs (fun _ hs=>lL hs [.v 3 qF] (ae hs [(0,0,5)] (.tuple #[.agg #[qF,uV 0,eS,uV 0,eS],qF]) rfl)))))
theorem uK (n:Int)(q:Rat)(s:ByteArray)(A:Option Addr)(c:Nat)(pa pc:PTm)(hnf:∃ i,i<([pa,pc]:List PTm).length∧(([pa,pc]:List PTm).getD i aU).op≠1)(e:Bool)(hl0:LQ 100000000 pa.q)(hl1:LQ 100000000 pc.q)(hi1_:(((pa):PTm).op=1→(du ((pa):PTm).q ((0:Int):Rat) == 0)=false)∧(((pa):PTm).op≠1→false=false))(hi2_:(((pc):PTm).op=1→(du ((pc):PTm).q ((0:Int):Rat) == 0)=false)∧(((pc):PTm).op≠1→false=false))(hi3_:(((pa):PTm).op=1→(du ((pa):PTm).q ((1:Int):Rat) == 0)=false)∧(((pa):PTm).op≠1→false=false))(hi4_:(((pc):PTm).op=1→(du ((pc):PTm).q ((1:Int):Rat) == 0)=e)∧(((pc):PTm).op≠1→e=false))  (w:World)(h:Hp)(g:G w h)(hA:SlO 9 dg aU h A ([pa,pc]:List PTm)):CV 107 #[pW 5 n q s A 2 c] w h (fe (if e=true then pa else ⟨5,n,q,s,A,2,c⟩)):=by
 have hs:=((sS g).aS hA);have hln:([pa,pc]:List PTm).length=2:=rfl;refine go Tryz.func107 [(0,pW 5 n q s A 2 c)] rfl (av (lA 1 51 (pG 5 n q s A 2 c) hs (fun b1 w2 h3 hs=>lA 2 51 ([iV 0,iV 0,qF,uV 0,eS,uV 0,eS,eS,sZ]) hs (fun b4 w5 h6 hs=>ah (ab hs [.o 6 (pW 5 n q s A 2 c) 1 0 9] (ai 7 hs (sH 5 n q s A c ([pa,pc]:List PTm) (by rw[hln];omega) hnf _ _ hs.g hs.f.1) (fun w7 h8 hs=>lL hs [.m 5 7,.v 8 (.agg #[qF,uV 0,eS,uV 0,eS]),.v 9 qF] (lA 3 45 ([qF,uV 0,eS,uV 0,eS]) hs (fun b9 _ _ hs=>lP 0 0 ([qF,uV 0,eS,uV 0,eS]) hs (fun _ hs=>lL hs [.m 4 9] (aG (lL hs [.m 10 4] (ag (cK (cQ (ab hs [.v 13 (pB b1),.o 14 (iV 5) 2 0 1] (a8 (ab hs [.v 16 qF,.m 15 16] (ag (ab hs [.v 36 qF,.m 35 36] (ag (ab hs [.v 58 qT,.m 57 58] (ak (cQ (ab hs [.v 59 (qP b1 8),.o 60 (qS A 2 c) 2 8 1] (lX 61 A 2 c 9 0 0 ((hs.f.1).ok oM) ?_))))))))))))))))))))))))));refine lH 62 (pX (([pa,pc]:List PTm).getD 0 aU)) hs ((hs.f.1).el 0 oM) (ai 63 hs (Fn (([pa,pc]:List PTm).getD 0 aU) 0 false kD kD hl0 hi1_.1 hi1_.2 _ _ hs.g) (fun _ _ hs=>lL hs [.m 64 63,.v 65 (qP b1 8),.o 66 (qS A 2 c) 2 8 1] (lX 67 A 2 c 9 1 1 ((hs.f.1).ok oM) ?_)));refine lH 68 (pX (([pa,pc]:List PTm).getD 1 aU)) hs ((hs.f.1).el 1 oM) (ai 69 hs (Fn (([pa,pc]:List PTm).getD 1 aU) 0 false kD kD hl1 hi2_.1 hi2_.2 _ _ hs.g) (fun _ _ hs=>lL hs [.v 70 qF] (ag (cK (cQ (ab hs [.v 72 (qP b1 8),.o 73 (qS A 2 c) 2 8 1] (lX 74 A 2 c 9 0 0 ((hs.f.1).ok oM) ?_)))))));refine lH 75 (pX (([pa,pc]:List PTm).getD 0 aU)) hs ((hs.f.1).el 0 oM) (ai 76 hs (Fn (([pa,pc]:List PTm).getD 0 aU) 1 false kD kD hl0 hi3_.1 hi3_.2 _ _ hs.g) (fun _ _ hs=>ag (cK (ab hs [.v 81 (qP b1 8),.o 82 (qS A 2 c) 2 8 1] (lX 83 A 2 c 9 1 1 ((hs.f.1).ok oM) ?_)))));refine lH 84 (pX (([pa,pc]:List PTm).getD 1 aU)) hs ((hs.f.1).el 1 oM) (ai 85 hs (Fn (([pa,pc]:List PTm).getD 1 aU) 1 e kD kD hl1 hi4_.1 hi4_.2 _ _ hs.g) (fun _ _ hs=>?_));cases hb21:(e)
 ·
  refine lN (bI [(1,pB b1),(2,pB b4),(85,qF)] ?_);exact cY (cK (ab hs [.o 129 (pW 5 n q s A 2 c) 2 0 9] (lP 1 0 (pG 5 n q s A 2 c) hs (fun _ hs=>ae hs [(1,0,9)] (pW 5 n q s A 2 c) (by first|rfl|(rw[(by assumption:e=false)];rfl))))))
 refine lN (bI [(1,pB b1),(2,pB b4),(85,qT)] ?_);refine cl (ab hs [.v 86 (qP b1 8),.o 87 (qS A 2 c) 2 8 1] (lX 88 A 2 c 9 0 0 ((hs.f.1).ok oM) ?_));exact lH 89 (pX (([pa,pc]:List PTm).getD 0 aU)) hs ((hs.f.1).el 0 oM) (lP 1 0 (pC (([pa,pc]:List PTm).getD 0 aU)) hs (fun _ hs=>ae hs [(1,0,9)] (pX (([pa,pc]:List PTm).getD 0 aU)) (by first|rfl|(rw[(by assumption:e=true)];rfl))))
theorem nr (n:Int)(q:Rat)(s:ByteArray)(A:Option Addr)(c:Nat)(pa:PTm)(hnf:∃ i,i<([pa]:List PTm).length∧(([pa]:List PTm).getD i aU).op≠1)(hn0:n≠0)(w:World)(h:Hp)(g:G w h)(hA:SlO 9 dg aU h A ([pa]:List PTm)):CV 107 #[pW 8 n q s A 1 c] w h (fe (if n=1 then pa else ⟨8,n,q,s,A,1,c⟩)):=by
 have hs:=((sS g).aS hA);have hln:([pa]:List PTm).length=1:=rfl;refine go Tryz.func107 [(0,pW 8 n q s A 1 c)] rfl (av (lA 1 51 (pG 8 n q s A 1 c) hs (fun b1 w2 h3 hs=>lA 2 51 ([iV 0,iV 0,qF,uV 0,eS,uV 0,eS,eS,sZ]) hs (fun b4 w5 h6 hs=>ah (ab hs [.o 6 (pW 8 n q s A 1 c) 1 0 9] (ai 7 hs (sH 8 n q s A c ([pa]:List PTm) (by rw[hln];omega) hnf _ _ hs.g hs.f.1) (fun w7 h8 hs=>lL hs [.m 5 7,.v 8 (.agg #[qF,uV 0,eS,uV 0,eS]),.v 9 qF] (lA 3 45 ([qF,uV 0,eS,uV 0,eS]) hs (fun b9 _ _ hs=>lP 0 0 ([qF,uV 0,eS,uV 0,eS]) hs (fun _ hs=>lL hs [.m 4 9] (aG (lL hs [.m 10 4] (ag (cK (cQ (ab hs [.v 13 (pB b1),.o 14 (iV 8) 2 0 1] (a8 (ab hs [.v 16 qF,.m 15 16] (ag (ab hs [.v 36 qF,.m 35 36] (ag (ab hs [.v 58 qF,.m 57 58] (ag (ab hs [.v 91 qF,.m 90 91] (ag (ab hs [.v 102 qF,.m 101 102] (ag (ab hs [.v 117 qT,.m 116 117] (ak (cQ (ab hs [.v 118 (qP b1 1),.o 119 (iV n) 2 1 1] ?_)))))))))))))))))))))))))))))));have zc:((n:Int) == (0:Int))=false:=cw oM;refine lB 120 zc (ag (cK (ab hs [.v 122 (qP b1 1),.o 123 (iV n) 2 1 1] ?_)));cases za:((n:Int) == (1:Int))
 ·
  have zb:=af za;exact lB 124 za (ag (cK (ab hs [.o 129 (pW 8 n q s A 1 c) 2 0 9] (lP 1 0 (pG 8 n q s A 1 c) hs (fun _ hs=>ae hs [(1,0,9)] (pW 8 n q s A 1 c) (by rw[if_neg oM];rfl))))))
 have zb:=eq_of_beq za;refine lB 124 za (ak (ab hs [.v 125 (qP b1 8),.o 126 (qS A 1 c) 2 8 1] (lX 127 A 1 c 9 0 0 ((hs.f.1).ok oM) ?_)));exact lH 128 (pX (([pa]:List PTm).getD 0 aU)) hs ((hs.f.1).el 0 oM) (lP 1 0 (pC (([pa]:List PTm).getD 0 aU)) hs (fun _ hs=>ae hs [(1,0,9)] (pX (([pa]:List PTm).getD 0 aU)) (by rw[if_pos oM];rfl)))
section
variable {M:Ms} {P:Program} {n:Nat} {N R:Po} {X:Nat→Po} {ops:Array Oper} {k0:Nat} {L:Array Bool} {Γ:bM} {w:World} {h:Hp} {w0:World} {h0:Hp} {B:List Bx} {Rs:List Rw} {F:List (Hp→Prop)}
def pY (ops:Array Oper)(k0:Nat)(L:Array Bool)(i j:Nat):Bool :=
  decide (i<ops.size) && decide (j<ops.size) && decide (k0≤i) && decide (k0≤j) && Region.noSelect ops && (Region.ready .any ops L == [i,j])
theorem A.two {a:Act}{i j:Nat}(hc:pY ops k0 L i j=true){Q:Exit→Act→World→Prop}{R1 R2:Value→World→Prop}(h1:OpR P ops (ao ops i) a w R1)(h2:OpR P ops (ao ops j) a w R2)(hT1:∀ v w',R1 v w'→Tl M w w')(hT2:∀ v w',R2 v w'→Tl M w w')
  (hK1:∀ v w',R1 v w'→A M P ops Q k0 (L.setIfInBounds i true) (a.put (ao ops i).dst v) w')(hK2:∀ v w',R2 v w'→A M P ops Q k0 (L.setIfInBounds j true) (a.put (ao ops j).dst v) w'):A M P ops Q k0 L a w:=by
 unfold pY at hc
 simp only[Bool.and_eq_true,decide_eq_true_eq,beq_iff_eq] at hc
 obtain ⟨⟨⟨⟨⟨c1,c2⟩,c3⟩,c4⟩,_⟩,c6⟩:=hc;refine A.intro (fun h0=>by rw[c6] at h0;cases h0) (fun q hq=>?_);rw[c6] at hq
 rcases List.mem_cons.1 hq with rfl|hq
 ·exact OpR.wpOp (bE c1) h1 (fun v w' hr=>⟨Rl.tl c3 (hT1 v w' hr),hK1 v w' hr⟩)
 ·rw[List.mem_singleton] at hq
  subst hq;exact OpR.wpOp (bE c2) h2 (fun v w' hr=>⟨Rl.tl c4 (hT2 v w' hr),hK2 v w' hr⟩)
def Ep (n:Nat)(ops:Array Oper)(Γ:bM)(i t:Nat):Bool:=Region.noSelect ops && decide (i<ops.size) && a7 Γ (ao ops i) && ((ao ops i).dst == some t) && decide (t<n) && (bg ops Γ (ao ops i) == some true)
theorem oD {i t:Nat}{v:Value}(hc:Ep n ops Γ i t=true)(hr:(execOp (ev Γ) (ao ops i)).run P w=.ok (.value v) w){a:Act}(ka:Kn n a Γ):OpR P ops (ao ops i) a w (fun u w1=>u=v∧w1=w)∧(ao ops i).dst=some t∧t<n:=by
 unfold Ep at hc
 simp only[Bool.and_eq_true,decide_eq_true_eq,beq_iff_eq] at hc
 obtain ⟨⟨⟨⟨⟨hs,h0⟩,h2⟩,h3⟩,h4⟩,h5⟩:=hc;exact ⟨⟨ka.want h5,.inl ⟨v,w,by rw[ka.exec (Region.noSelect_spec hs i _ · · (bE h0)) h2];exact hr,rfl,rfl⟩⟩,h3,h4⟩
def FV (ops:Array Oper)(Γ:bM)(i:Nat):Bool:=Region.noSelect ops && decide (i<ops.size) && a7 Γ (ao ops i) && ((ao ops i).dst == none) && (bg ops Γ (ao ops i) == some true)
theorem B8 {i:Nat}{w':World}(hc:FV ops Γ i=true)(hr:(execOp (ev Γ) (ao ops i)).run P w=.ok .skip w'){a:Act}(ka:Kn n a Γ):OpR P ops (ao ops i) a w (fun u w1=>u=undef∧w1=w')∧(ao ops i).dst=none:=by
 unfold FV at hc
 simp only[Bool.and_eq_true,decide_eq_true_eq,beq_iff_eq] at hc
 obtain ⟨⟨⟨⟨hs,h0⟩,h2⟩,h3⟩,h5⟩:=hc;exact ⟨⟨ka.want h5,.inr (.inl ⟨w',by rw[ka.exec (Region.noSelect_spec hs i _ · · (bE h0)) h2];exact hr,rfl,rfl⟩)⟩,h3⟩
theorem GH (i t:Nat)(ps:List (Nat × Nat × Nat))(v:Value)(j t2:Nat)(ps2:List (Nat × Nat × Nat))(v2:Value)(s:SS w0 h0 w h B Rs F)(H1:AG M P n N R X ops k0 (L.setIfInBounds i true) ((t,v)::Γ) w)(H2:AG M P n N R X ops k0 (L.setIfInBounds j true) ((t2,v2)::Γ) w)
  (hc:(pY ops k0 L i j && Ep n ops Γ i t && Ep n ops Γ j t2)=true:=by kernel_rfl)(hp:(bO B ps && bO B ps2)=true:=by kernel_rfl)(he:bF P (execOp (ev Γ) (ao ops i)) (cg B ps)=some (.value v,bH B ps):=by kernel_rfl)(he2:bF P (execOp (ev Γ) (ao ops j)) (cg B ps2)=some (.value v2,bH B ps2):=by kernel_rfl):AG M P n N R X ops k0 L Γ w:=by
 simp only[Bool.and_eq_true] at hc hp
 intro a ka;obtain ⟨o1,d1,l1⟩:=oD hc.1.2 (bx _ _ _ _ he (cd s.st.own ps hp.1)) ka;obtain ⟨o2,d2,l2⟩:=oD hc.2 (bx _ _ _ _ he2 (cd s.st.own ps2 hp.2)) ka;refine A.two hc.1.1 o1 o2 (fun _ _ e=>e.2▸Tl.refl _ _) (fun _ _ e=>e.2▸Tl.refl _ _) ?_ ?_
 ·rintro _ _ ⟨rfl,rfl⟩;rw[d1];exact H1 _ (ka.put l1 _)
 ·rintro _ _ ⟨rfl,rfl⟩;rw[d2];exact H2 _ (ka.put l2 _)
theorem GI (i t:Nat)(ps:List (Nat × Nat × Nat))(v:Value)(q j o:Nat)(cs:List Value)(s:SS w0 h0 w h B Rs F)(H1:AG M P n N R X ops k0 (L.setIfInBounds i true) ((t,v)::Γ) w)(H2:∀ w',SS w0 h0 w' h (ft B j o cs) Rs F→AG M P n N R X ops k0 (L.setIfInBounds q true) Γ w')
  (hc:(pY ops k0 L i q && Ep n ops Γ i t && FV ops Γ q)=true:=by kernel_rfl)(hp:bO B ps=true:=by kernel_rfl)(he:bF P (execOp (ev Γ) (ao ops i)) (cg B ps)=some (.value v,bH B ps):=by kernel_rfl)
  (hj:(decide (j<B.length) && decide (o+cs.length≤(aw B j).vs.length))=true:=by kernel_rfl)(he2:cP P (execOp (ev Γ) (ao ops q))=some (.skip,jE (aw B j).b o cs):=by kernel_rfl)(hz:M.z=none:=by rfl):AG M P n N R X ops k0 L Γ w:=by
 simp only[Bool.and_eq_true] at hc
 have hj2:=hj
 simp only[Bool.and_eq_true,decide_eq_true_eq] at hj2
 intro a ka;obtain ⟨o1,d1,l1⟩:=oD hc.1.2 (bx _ _ _ _ he (cd s.st.own ps hp)) ka;obtain ⟨w',hrun,hput,hown⟩:=dO _ _ _ _ _ w he2 (s.st.own _ (bh hj2.1)) hj2.2;obtain ⟨o2,d2⟩:=B8 hc.2 hrun ka;refine A.two hc.1.1 o1 o2 (fun _ _ e=>e.2▸Tl.refl _ _) (fun _ _ _=>Tl.none hz _ _) ?_ ?_
 ·rintro _ _ ⟨rfl,rfl⟩;rw[d1];exact H1 _ (ka.put l1 _)
 ·rintro _ _ ⟨rfl,rfl⟩
  rw[d2];exact H2 _ (s.put0 hj2.1 hput (s.st.put s.g0 hj2.1 hput hown) (kn hj2.1)) _ ka
end
theorem E6 (pa pc:PTm)(hnf:∃ i,i<([pa,pc]:List PTm).length∧(([pa,pc]:List PTm).getD i aU).op≠1)(e:Bool)(hl0:LQ 100000000 pa.q)(hl1:LQ 100000000 pc.q)(hi1_:(((pa):PTm).op=1→(du ((pa):PTm).q ((0:Int):Rat) == 0)=false)∧(((pa):PTm).op≠1→false=false))(hi2_:(((pc):PTm).op=1→(du ((pc):PTm).q ((0:Int):Rat) == 0)=false)∧(((pc):PTm).op≠1→false=false))(hi3_:(((pa):PTm).op=1→(du ((pa):PTm).q ((1:Int):Rat) == 0)=false)∧(((pa):PTm).op≠1→false=false))(hi4_:(((pc):PTm).op=1→(du ((pc):PTm).q ((1:Int):Rat) == 0)=e)∧(((pc):PTm).op≠1→e=false))  (w:World)(h:Hp)(g:G w h):CR 108 #[iV 5,pX pa,pX pc] w h (fun v h1=>∃ b,v=fe (if e=true then pa else ⟨5,0,0,⟨#[]⟩,sB b,2,2⟩)∧SlO 9 dg aU h1 (sB b) ([pa,pc]:List PTm)):=by
 have hs:=sS g;refine go Tryz.func108 [(0,iV 5),(1,pX pa),(2,pX pc)] rfl (av (lA 4 51 (pC pa) hs (fun b1 w2 h3 hs=>lA 5 51 (pC pc) hs (fun b4 w5 h6 hs=>lA 6 51 ([iV 0,iV 0,qF,uV 0,eS,uV 0,eS,eS,sZ]) hs (fun b7 w8 h9 hs=>aG (lL hs [.m 7 0,.o 8 (pX pa) 2 0 9,.o 9 (pX pc) 1 0 9] (lC 10 hs (AK 5 pa pc _ _ hs.g) ?_)))))));rintro _ _ _ hs ⟨b2,rfl,hA2⟩;replace hs:=hs.aS hA2;exact ai 11 hs (uK 0 0 ⟨#[]⟩ (sB b2) 2 pa pc hnf e hl0 hl1 hi1_ hi2_ hi3_ hi4_ _ _ hs.g hs.f.1) (fun _ _ hs=>lP 0 0 (pC (if e=true then pa else ⟨5,0,0,⟨#[]⟩,sB b2,2,2⟩)) hs (fun _ hs=>ae hs [(0,0,9)] (pX (if e=true then pa else ⟨5,0,0,⟨#[]⟩,sB b2,2,2⟩)) (⟨b2,rfl,hs.f.1⟩)))
theorem xy (pa:PTm)(hpa:pa.op≠1)(w:World)(h:Hp)(g:G w h):CV 109 #[pX pa,iV 1] w h (fe pa):=by
 have hs:=sS g;refine go Tryz.func109 [(0,pX pa),(1,iV 1)] rfl (av (lA 2 51 (pC pa) hs (fun b1 w2 h3 hs=>lA 4 51 ([iV 0,iV 0,qF,uV 0,eS,uV 0,eS,eS,sZ]) hs (fun b4 w5 h6 hs=>aG (lL hs [.o 6 (pX pa) 1 0 9] (lC 7 hs (Bm 8 pa _ _ hs.g) ?_))))));rintro _ w7 h8 hs ⟨b1,rfl,hA1⟩;replace hs:=hs.aS hA1;exact lA 5 51 ([iV 0,iV 0,qF,uV 0,eS,uV 0,eS,eS,sZ]) hs (fun b9 _ _ hs=>lP 0 0 (pC (⟨8,0,0,⟨#[]⟩,sB b1,1,1⟩:PTm)) hs (fun _ hs=>aG (lL hs [.m 8 1,.v 9 (qP b9 1)] (lP 0 1 ([iV 1]) hs (fun _ hs=>aG (lL hs [.o 10 (pW ((⟨8,0,0,⟨#[]⟩,sB b1,1,1⟩:PTm).op) 1 ((⟨8,0,0,⟨#[]⟩,sB b1,1,1⟩:PTm).q) ((⟨8,0,0,⟨#[]⟩,sB b1,1,1⟩:PTm).s) ((⟨8,0,0,⟨#[]⟩,sB b1,1,1⟩:PTm).A) ((⟨8,0,0,⟨#[]⟩,sB b1,1,1⟩:PTm).m) ((⟨8,0,0,⟨#[]⟩,sB b1,1,1⟩:PTm).c)) 0 0 9] (ai 11 hs (nr 1 0 ⟨#[]⟩ (sB b1) 1 pa ⟨0,Nat.one_pos,hpa⟩ kD _ _ hs.g hs.f.1) (fun _ _ hs=>lP 1 0 (pC pa) hs (fun _ hs=>ae hs [(1,0,9)] (pX pa) rfl)))))))))
theorem xa (s:ByteArray)(Ax:Option Addr)(cx:Nat)(w:World)(h:Hp)(g:G w h):CV 54 #[.agg #[iV 2,iV 0,.bool false,uV 0,eS,uV 0,eS,.string s,.slice Ax 0 cx],.string s] w h (.tuple #[.agg #[iV 2,iV 0,.bool false,uV 0,eS,uV 0,eS,.string s,.slice Ax 0 cx],fe (⟨1,0,((1:Int):Rat),⟨#[]⟩,none,0,0⟩:PTm)]):=by
 have hs:=sS g;refine go Tryz.func54 [(0,.agg #[iV 2,iV 0,qF,uV 0,eS,uV 0,eS,.string s,qS Ax 0 cx]),(1,.string s)] rfl (av (lA 2 51 ([iV 2,iV 0,qF,uV 0,eS,uV 0,eS,.string s,qS Ax 0 cx]) hs (fun b1 w2 h3 hs=>lA 4 51 ([iV 0,iV 0,qF,uV 0,eS,uV 0,eS,eS,sZ]) hs (fun b4 w5 h6 hs=>lA 5 51 ([iV 0,iV 0,qF,uV 0,eS,uV 0,eS,eS,sZ]) hs (fun b7 w8 h9 hs=>ah (ab hs [.v 12 (qP b1 8),.o 13 (qS Ax 0 cx) 2 8 1,.v 14 (iV 0),.v 15 qT] (ak (cQ (ab hs [.v 16 (pB b1),.o 17 (iV 2) 2 0 1,.v 18 qT,.m 19 18,.v 20 (qP b1 7),.o 21 (.string s) 2 7 1,.m 22 1] (lV 23 qT ?_ (hr:=rb kR (Fy s))))))))))));refine lL hs [.v 24 qT] (ak (cQ (cR 2 [] mixed hs ar ?_)));exact eO 0 25 [(2,0,9)] (.agg #[iV 2,iV 0,qF,uV 0,eS,uV 0,eS,.string s,qS Ax 0 cx]) hs (aq 1 26 hs (fun _ _ hs=>n8 1 kD kD _ _ hs.g) (fun _ _ hs=>ce hs (fun _ _ hs=>tP 2 1 0 ([iV 2,iV 0,qF,uV 0,eS,uV 0,eS,.string s,qS Ax 0 cx]) hs (fun _ hs=>tP 3 0 0 (pC (⟨1,0,((1:Int):Rat),⟨#[]⟩,none,0,0⟩:PTm)) hs (fun _ hs=>tN (kX (hs.ret [(1,0,9),(0,0,9)] (.tuple #[.agg #[iV 2,iV 0,qF,uV 0,eS,uV 0,eS,.string s,qS Ax 0 cx],pX (⟨1,0,((1:Int):Rat),⟨#[]⟩,none,0,0⟩:PTm)]) rfl)))))))
theorem D5:LQ 100000000 (0:Rat):=rN kD
theorem FE:LQ 100000000 (((1:Int)):Rat):=(LQ.int kD kD).mono kD
theorem FZ:LQ 100000000 (((2:Int)):Rat):=(LQ.int kD kD).mono kD
theorem xk (s:ByteArray)(Ax:Option Addr)(cx:Nat)(A:Option Addr)(c:Nat)(w:World)(h:Hp)(g:G w h)(hA:SlO 9 dg aU h A ([(⟨2,0,0,s,Ax,0,cx⟩:PTm)]:List PTm)):CR 54 #[.agg #[iV 8,iV 2,.bool false,uV 0,eS,uV 0,eS,eS,.slice A 1 c],.string s] w h (fun v h1=>∃ b0 b,v=.tuple #[fe ⟨8,2,0,⟨#[]⟩,sB b0,1,1⟩,fe ⟨5,0,0,⟨#[]⟩,sB b,2,2⟩]∧SlO 9 dg aU h1 (sB b) [(⟨1,0,((2:Int):Rat),⟨#[]⟩,none,0,0⟩:PTm),(⟨2,0,0,s,Ax,0,cx⟩:PTm)]):=by
 have hs:=((sS g).aS hA);have hln:([(⟨2,0,0,s,Ax,0,cx⟩:PTm)]:List PTm).length=1:=rfl;refine go Tryz.func54 [(0,.agg #[iV 8,iV 2,qF,uV 0,eS,uV 0,eS,eS,qS A 1 c]),(1,.string s)] rfl (av (lA 2 51 ([iV 8,iV 2,qF,uV 0,eS,uV 0,eS,eS,qS A 1 c]) hs (fun b1 w2 h3 hs=>lA 4 51 ([iV 0,iV 0,qF,uV 0,eS,uV 0,eS,eS,sZ]) hs (fun b4 w5 h6 hs=>lA 5 51 ([iV 0,iV 0,qF,uV 0,eS,uV 0,eS,eS,sZ]) hs (fun b7 w8 h9 hs=>ah (ab hs [.v 12 (qP b1 8),.o 13 (qS A 1 c) 2 8 1,.v 14 (iV 1),.v 15 qF] (ag (cK (ab hs [.v 30 (qP b1 8),.o 31 (qS A 1 c) 2 8 1] (lX 32 A 1 c 9 0 0 ((hs.f.1).ok oM) ?_))))))))));refine lH 33 (pX (([(⟨2,0,0,s,Ax,0,cx⟩:PTm)]:List PTm).getD 0 aU)) hs ((hs.f.1).el 0 oM) (lL hs [.m 34 1] (ai 35 hs (xa s Ax cx _ _ hs.g) (fun _ _ hs=>lL hs [.m 29 35,.v 36 (.agg #[iV 2,iV 0,qF,uV 0,eS,uV 0,eS,.string s,qS Ax 0 cx]),.v 37 (pX (⟨1,0,((1:Int):Rat),⟨#[]⟩,none,0,0⟩:PTm))] (lA 6 51 ([iV 0,iV 0,qF,uV 0,eS,uV 0,eS,eS,sZ]) hs (fun zb _ _ hs=>lA 7 51 ([iV 0,iV 0,qF,uV 0,eS,uV 0,eS,eS,sZ]) hs (fun zc _ _ hs=>lP 1 0 ([iV 2,iV 0,qF,uV 0,eS,uV 0,eS,.string s,qS Ax 0 cx]) hs (fun _ hs=>lP 0 0 (pC (⟨1,0,((1:Int):Rat),⟨#[]⟩,none,0,0⟩:PTm)) hs (fun _ hs=>aG (lL hs [.o 38 (.agg #[iV 2,iV 0,qF,uV 0,eS,uV 0,eS,.string s,qS Ax 0 cx]) 1 0 9] (lR 39 51 1 ([iV 2,iV 0,qF,uV 0,eS,uV 0,eS,.string s,qS Ax 0 cx]) hs (fun za _ _ hs=>?_)))))))))));replace hs:=hs.aS (SlO.of_flat (sz:=9) (f:=dg) (d:=aU) (b:=za) (o:=0) (l:=([(⟨2,0,0,s,Ax,0,cx⟩:PTm)]:List PTm)) (fun _=>rfl) hs.f.1);refine lL hs [.m 8 39] (aG (lL hs [.v 40 (.agg #[iV 0,iV 0,qF,uV 0,eS,uV 0,eS,eS,sZ]),.v 41 (.agg #[iV 0,iV 0,qF,uV 0,eS,uV 0,eS,eS,sZ])] (lA 9 51 ([iV 0,iV 0,qF,uV 0,eS,uV 0,eS,eS,sZ]) hs (fun zd _ _ hs=>lA 10 51 ([iV 0,iV 0,qF,uV 0,eS,uV 0,eS,eS,sZ]) hs (fun ze _ _ hs=>lP 1 0 ([iV 0,iV 0,qF,uV 0,eS,uV 0,eS,eS,sZ]) hs (fun _ hs=>lP 0 0 ([iV 0,iV 0,qF,uV 0,eS,uV 0,eS,eS,sZ]) hs (fun _ hs=>ah (ab hs [.v 42 (qP b1 8),.o 43 (qS A 1 c) 6 8 1,.v 44 (iV 1),.v 45 qF] (ag (cK (ab hs [.v 59 (pB b1),.o 60 (iV 8) 6 0 1,.v 61 (qP b1 1),.o 62 (iV 2) 6 1 1,.m 63 8,.v 64 (.agg #[iV 8,iV 2,qF,uV 0,eS,uV 0,eS,eS,qS (sB za) 1 1])] (ai 65 hs (nr 2 0 ⟨#[]⟩ (sB za) 1 (⟨2,0,0,s,Ax,0,cx⟩:PTm) ⟨0,Nat.one_pos,by show ¬(2:Int)=1;decide⟩ kD _ _ hs.g hs.f.1) (fun _ _ hs=>lP 5 0 (pC (⟨8,2,0,⟨#[]⟩,sB za,1,1⟩:PTm)) hs (fun _ hs=>ah (ab hs [.v 66 (pB b1),.o 67 (iV 8) 6 0 1] (a8 (cQ (ab hs [.v 69 qF,.m 68 69] (lN (bI [(2,pB b1),(4,pB b4),(5,pB b7),(6,pB zb),(7,pB zc),(9,pB zd),(10,pB ze),(67,iV 8),(68,qF)] ?_))))))))))))))))))));refine cY (kQ (lL hs [.v 70 qF,.m 68 70] (ag (ab hs [.v 77 qF,.m 76 77] (ag (ab hs [.v 86 qF,.m 85 86] (ag (ab hs [.v 98 qF,.m 97 98] (ag (ab hs [.v 102 qT,.m 101 102] (ak (av (ai 103 hs (n8 0 kD kD _ _ hs.g) (fun _ _ hs=>lP 4 0 (pC (⟨1,0,((0:Int):Rat),⟨#[]⟩,none,0,0⟩:PTm)) hs (fun _ hs=>aG (lL hs [.v 104 (qP b1 1),.o 105 (iV 2) 6 1 1,.v 106 qT] (ak (cR 11 [] mixed hs ar ?_))))))))))))))))));refine eV 0 107 (qP b1 1) (eO 1 108 [(6,1,1)] (iV 2) hs (eO 3 110 [(3,0,9)] (.agg #[iV 2,iV 0,qF,uV 0,eS,uV 0,eS,.string s,qS Ax 0 cx]) hs (eV 4 111 (qP b1 1) (eO 5 112 [(6,1,1)] (iV 2) hs (eV 6 113 (iV 1) (eO 9 116 [(2,0,9)] (pX (⟨1,0,((1:Int):Rat),⟨#[]⟩,none,0,0⟩:PTm)) hs (aq 2 109 hs (fun _ _ hs=>n8 2 kD kD _ _ hs.g) (fun _ _ hs=>aq 7 114 hs (fun _ _ hs=>xy (⟨2,0,0,s,Ax,0,cx⟩:PTm) (by show ¬(2:Int)=1;decide) _ _ hs.g) (fun _ _ hs=>eC 8 115 hs (fun _ _ hs=>E6 (⟨1,0,((2:Int):Rat),⟨#[]⟩,none,0,0⟩:PTm) (⟨2,0,0,s,Ax,0,cx⟩:PTm) ⟨1,Nat.one_lt_two,by show ¬(2:Int)=1;decide⟩ false FZ D5 ⟨fun _=>by decide +kernel,fun h_=>absurd rfl h_⟩ ⟨fun h_=>absurd h_ (by show ¬(2:Int)=1;decide),fun _=>rfl⟩ ⟨fun _=>by decide +kernel,fun h_=>absurd rfl h_⟩ ⟨fun h_=>absurd h_ (by show ¬(2:Int)=1;decide),fun _=>rfl⟩ _ _ hs.g) ?_)))))))));rintro _ _ _ _ _ hs ⟨bm,rfl,hAm⟩;replace hs:=hs.aS hAm;refine eC 10 117 hs (fun _ _ hs=>E6 (⟨5,0,0,⟨#[]⟩,sB bm,2,2⟩:PTm) (⟨1,0,((1:Int):Rat),⟨#[]⟩,none,0,0⟩:PTm) ⟨0,Nat.zero_lt_two,by show ¬(5:Int)=1;decide⟩ true D5 FE ⟨fun h_=>absurd h_ (by show ¬(5:Int)=1;decide),fun _=>rfl⟩ ⟨fun _=>by decide +kernel,fun h_=>absurd rfl h_⟩ ⟨fun h_=>absurd h_ (by show ¬(5:Int)=1;decide),fun _=>rfl⟩ ⟨fun _=>by decide +kernel,fun h_=>absurd rfl h_⟩ _ _ hs.g) ?_;rintro _ _ _ _ _ hs ⟨_,rfl,-⟩;refine ce hs (fun _ _ hs=>tP 11 4 0 (pC (⟨5,0,0,⟨#[]⟩,sB bm,2,2⟩:PTm)) hs (fun _ hs=>tN (cQ (sb ⟨[],none⟩ 0 mixed ?_))));replace hs:=hs.drew;refine GH 0 182 [(5,0,9)] (pX (⟨8,2,0,⟨#[]⟩,sB za,1,1⟩:PTm)) 1 183 [(4,0,9)] (pX (⟨5,0,0,⟨#[]⟩,sB bm,2,2⟩:PTm)) hs ?_ ?_
 ·
  refine GI 1 183 [(4,0,9)] (pX (⟨5,0,0,⟨#[]⟩,sB bm,2,2⟩:PTm)) 2 5 0 (pC (⟨8,2,0,⟨#[]⟩,sB za,1,1⟩:PTm)) hs ?_ (fun _ hs=>?_)
  ·
   exact tP 2 5 0 (pC (⟨8,2,0,⟨#[]⟩,sB za,1,1⟩:PTm)) hs (fun _ hs=>tP 3 4 0 (pC (⟨5,0,0,⟨#[]⟩,sB bm,2,2⟩:PTm)) hs (fun _ hs=>tN (kX (hs.ret [(5,0,9),(4,0,9)] (.tuple #[pX (⟨8,2,0,⟨#[]⟩,sB za,1,1⟩:PTm),pX (⟨5,0,0,⟨#[]⟩,sB bm,2,2⟩:PTm)]) (⟨za,bm,rfl,hs.f.1⟩)))))
  exact tO 1 183 [(4,0,9)] (pX (⟨5,0,0,⟨#[]⟩,sB bm,2,2⟩:PTm)) hs (tP 3 4 0 (pC (⟨5,0,0,⟨#[]⟩,sB bm,2,2⟩:PTm)) hs (fun _ hs=>tN (kX (hs.ret [(5,0,9),(4,0,9)] (.tuple #[pX (⟨8,2,0,⟨#[]⟩,sB za,1,1⟩:PTm),pX (⟨5,0,0,⟨#[]⟩,sB bm,2,2⟩:PTm)]) (⟨za,bm,rfl,hs.f.1⟩)))))
 exact tO 0 182 [(5,0,9)] (pX (⟨8,2,0,⟨#[]⟩,sB za,1,1⟩:PTm)) hs (tP 2 5 0 (pC (⟨8,2,0,⟨#[]⟩,sB za,1,1⟩:PTm)) hs (fun _ hs=>tP 3 4 0 (pC (⟨5,0,0,⟨#[]⟩,sB bm,2,2⟩:PTm)) hs (fun _ hs=>tN (kX (hs.ret [(5,0,9),(4,0,9)] (.tuple #[pX (⟨8,2,0,⟨#[]⟩,sB za,1,1⟩:PTm),pX (⟨5,0,0,⟨#[]⟩,sB bm,2,2⟩:PTm)]) (⟨za,bm,rfl,hs.f.1⟩))))))
theorem vm  (ok:ByteArray→Prop)(d:Nat)(ih:∀ (p:PTm) (t:Tm) (w:World) (h:Hp),G w h→TmH d h p t→WfT ok d t →  Calls Tryz.prog 55 #[fe p] w (Ret w h (fun v h1=>∃ p2,v=fe p2∧TmH d h1 p2 t)))(op n:Int)(q:Rat)(s:ByteArray)(A:Option Addr)(c:Nat)(ps:List PTm)(ks:List Tm)(hc:ps.length≤c)(hlp:ps.length≤2)(hari:fs op=(ks.length:Nat))(hq0:op≠1→q=0)(hq:LQ 1 q)(hok:op=2→ok s)(hs0:op≠2→s=⟨#[]⟩)(hn0:op≠8→n=0)(hn1 : -12≤n)(hn2:n≤12)(hW:∀ i,i<ks.length→WfT ok d (ks.getD i bz))(w:World)(h:Hp)(g:G w h)(hK:SlO 9 dg aU h A ps)(hKs:Tms d h ps ks):CR 55 #[pW op n q s A ps.length c] w h (fun v h1=>∃ p2,v=fe p2∧TmH (d+1) h1 p2 (.mk op n q s ks)):=by
 have hs:=(((sS g).aS hK).add (K:=fun h_=>Tms d h_ ps ks) hKs);have hln:=(hs.f.1).len;refine go Tryz.func55 [(0,pW op n q s A ps.length c)] rfl (av (lA 1 51 (pG op n q s A ps.length c) hs (fun b1 w2 h3 hs=>lA 2 51 ([iV 0,iV 0,qF,uV 0,eS,uV 0,eS,eS,sZ]) hs (fun b4 w5 h6 hs=>ah (ab hs [.v 6 (qP b1 8),.o 7 (qS A ps.length c) 1 8 1,.v 8 (nV ps.length)] ?_)))));cases hb7:((ps.length:Int) == (0:Int))
 ·
  have phb7:=af hb7;refine lB 9 hb7 (ag (cK (ab hs [.v 12 (qP b1 8),.o 13 (qS A ps.length c) 1 8 1,.v 14 (nV ps.length)] (lK 15 51 ps.length 9 112 (.agg #[iV 0,iV 0,qF,uV 0,eS,uV 0,eS,eS,sZ]) dg aU hs (fun b8 w9 zd hs=>?_)))));have hl11:(List.replicate ps.length aU).length=ps.length:=by simp
  refine lL hs [.m 3 15] (ah (ab hs [.v 16 (qP b1 8),.o 17 (qS A ps.length c) 2 8 1,.v 18 (nV ps.length),.v 19 (iV 0)] (a8 ?_)));replace hs:=hs.add (K:=fun h_=>TmsU d h_ 0 (List.replicate ps.length aU) ks) ((fun i hi=>absurd hi (Nat.not_lt_zero i)));refine bI _ (CG.loop (fun μ_ Γ w_=>∃ (k:Nat) (L:List PTm) (h_:Hp),μ_=ps.length-k∧Γ=[(1,pB b1),(2,pB b4),(3,qS (sB b8) ps.length ps.length),(17,qS A ps.length c),(18,nV ps.length),(19,nV k)]∧SS w h w_ h_ [⟨b8,51,(L).flatMap dg⟩,⟨b4,51,[iV 0,iV 0,qF,uV 0,eS,uV 0,eS,eS,sZ]⟩,⟨b1,51,pG op n q s A ps.length c⟩] [] [fun h_=>TmsU d h_ k L ks,fun h_=>Tms d h_ ps ks,fun h_=>SlO 9 dg aU h_ A ps]∧k≤ps.length∧L.length=ps.length) _ ⟨0,List.replicate ps.length aU,zd,rfl,rfl,hs.to _ _,Nat.zero_le _,(by simp)⟩ ?_);rintro _ _ _ ⟨k,L,_,hm14,rfl,hs,hk,hLl⟩;refine av ?_;cases za:(decide ((k:Int)<(ps.length:Int)))
  ·
   have zb:=oF za;refine lB 20 za (ah (cY (CG.exit ?_)))
   show CG _ _ _ _ _ _ _ _
   refine ab hs [.m 30 3,.v 31 (qP b1 8)] (lP 2 8 ([qS (sB b8) ps.length ps.length]) hs (fun _ hs=>aG ?_));have hkn:k=ps.length:=by omega
   obtain ⟨_,hs,sg18,lo19,bc20⟩:=hs.pub 0;replace hs:=(hs.to [⟨b4,51,[iV 0,iV 0,qF,uV 0,eS,uV 0,eS,eS,sZ]⟩,⟨b1,51,pG op n q s (sB b8) ps.length ps.length⟩] []).aS (SlO.of_flat (sz:=9) (f:=dg) (d:=aU) (b:=b8) (o:=0) (l:=L) (fun _=>rfl) sg18);replace hs:=hs.to [⟨b4,51,[iV 0,iV 0,qF,uV 0,eS,uV 0,eS,eS,sZ]⟩,⟨b1,51,pG op n q s (sB b8) ps.length ps.length⟩] [];exact lL hs [.o 32 (pW op n q s (sB b8) ps.length ps.length) 1 0 9] (lP 0 0 (pG op n q s (sB b8) ps.length ps.length) hs (fun _ hs=>ae hs [(0,0,9)] (pW op n q s (sB b8) ps.length ps.length) (⟨⟨op,n,q,s,sB b8,ps.length,ps.length⟩,rfl,by have h_:=TmH.mk (op:=op) (n:=n) (q:=q) (s:=s) (c:=L.length) (Tms.of_u oM oM hs.f.2.1) (nR _) (hs.f.1);rw[hLl] at h_;exact h_⟩)))
  have zb:=oT za;refine lB 20 za (ah (cl (cK (cQ (kZ (ab hs [.m 21 19] (lX 22 A ps.length c 9 (k:Nat) k ((hs.f.r.1).ok oM) ?_)))))));refine lH 23 (pX (ps.getD k aU)) hs ((hs.f.r.1).el k oM) (lA 5 51 ([iV 0,iV 0,qF,uV 0,eS,uV 0,eS,eS,sZ]) hs (fun ze _ _ hs=>lL hs [.m 4 21] (lP 0 0 (pC (ps.getD k aU)) hs (fun _ hs=>lN (kQ (lL hs [.m 24 3,.m 25 4,.o 26 (pX (ps.getD k aU)) 0 0 9] (lC 27 hs (ih (ps.getD k aU) (ks.getD k bz) _ _ hs.g ((hs.f.2.1).at_ k oM) (hW k oM)) ?_)))))));rintro _ _ zf hs ⟨pk,rfl,hpk⟩;replace hs:=(hs.add (K:=fun h_=>TmH d h_ pk (ks.getD k bz)) hpk);refine lX 28 (sB b8) ps.length ps.length 9 (k:Nat) k rfl (lW 1 L dg 9 k pk hs oM (fun _ hs=>?_));have zc:((L).set k pk).length=ps.length:=by rw[List.length_set];exact hLl
  replace hs:=hs.to [⟨ze,51,pC (ps.getD k aU)⟩,⟨b8,51,((L).set k pk).flatMap dg⟩,⟨b4,51,[iV 0,iV 0,qF,uV 0,eS,uV 0,eS,eS,sZ]⟩,⟨b1,51,pG op n q s A ps.length c⟩] [];refine lN (kQ (bn 29 ((k:Nat)+1) (k+1) ?_));refine lL hs [.m 19 29] (lD ?_);intro a_ ka;replace hs:=(hs.tl.tl.add (K:=fun h_=>TmsU d h_ (k+1) ((L).set k pk) ks) ((hs.f.2.1).set oM hs.f.1));replace hs:=hs.drop 1 0;refine ⟨_,_,?_,⟨k+1,(L).set k pk,zf,rfl,rfl,hs.to _ _,oM,zc⟩,ka.to _ kR⟩
  omega
 have phb7:=eq_of_beq hb7;exact lB 9 hb7 (ak (ab hs [.v 10 (qP b1 8)] (lP 1 8 ([sZ]) hs (fun _ hs=>aG (lL hs [.o 11 (.agg #[iV op,iV n,.bool (ac q.num),uV (lo (aa q.num)),.string (hi (aa q.num)),uV (lo (qd q)),.string (hi (qd q)),.string s,sZ]) 1 0 9] (lP 0 0 ([iV op,iV n,.bool (ac q.num),uV (lo (aa q.num)),.string (hi (aa q.num)),uV (lo (qd q)),.string (hi (qd q)),.string s,sZ]) hs (fun _ hs=>ae hs [(0,0,9)] (.agg #[iV op,iV n,.bool (ac q.num),uV (lo (aa q.num)),.string (hi (aa q.num)),uV (lo (qd q)),.string (hi (qd q)),.string s,sZ]) (⟨⟨op,n,q,s,none,0,0⟩,rfl,by have h_:ks=[]:=List.length_eq_zero_iff.1 oM;subst h_;exact TmH.mk (ps:=[]) Tms.nil (nR _) SlO.nil⟩))))))))
theorem pH (ok:ByteArray→Prop):∀ (d:Nat) (p:PTm) (t:Tm) (w:World) (h:Hp),G w h→TmH d h p t→WfT ok d t →  Calls Tryz.prog 55 #[fe p] w (Ret w h (fun v h1=>∃ p2,v=fe p2∧TmH d h1 p2 t))
  | 0,_,_,_,_,_,x,_=>x.elim
  | d + 1,p,t,w,h,g,x,wf=>by
    obtain ⟨op,n,q,s,A,c,ps,ks,rfl,rfl,hc,hK,hKs⟩:=x.open;obtain ⟨w1,w2,w3,w4,w5,w6,w7,w8,w9⟩:=wf
    have hl2:ps.length≤2:=by
      have e1:fs op=ks.length:=w1;have:=aF op;have:=hKs.len
      omega
    exact vm ok d (fun p t w h=>pH ok d p t w h) op n q s A c ps ks hc hl2 w1 w2 w3 w4 w5 w6 w7 w8 w9 w h g hK hKs
theorem vJ (n:Nat)(hn:n<100)(w:World)(h:Hp)(g:G w h):Calls Tryz.prog 209 #[nV n] w (Ret w h (fun v _=>v=.string ⟨(Lib.decDigits n).toArray⟩)):=Ret.of_same g (Tryz.internal_strconv_small n hn w)
theorem C7 (n:Nat)(hn:n<100)(w:World)(h:Hp)(g:G w h):Calls Tryz.prog 104 #[nV n] w (Ret w h (fun v _=>v=.string ⟨(Lib.decDigits n).toArray⟩)):=Ret.of_same g (Tryz.strconv_Itoa_small n hn w)
theorem BC (z:Int)(n:Nat)(hz:z=(n:Nat))(hn:n<100)(w:World)(h:Hp)(g:G w h):Calls Tryz.prog 104 #[iV z] w (Ret w h (fun v _=>v=.string ⟨(Lib.decDigits n).toArray⟩)):=by
 subst hz;exact C7 n hn w h g
theorem BE (n:Nat)(hn:n<100)(w:World)(h:Hp)(g:G w h):CV 200 #[mV n,iV 10] w h (.string ⟨(Lib.decDigits n).toArray⟩):=by
 have hs:=sS g;refine go Tryz.func200 [(0,mV n),(1,iV 10)] rfl (ab hs [.v 4 (eS)] (ah (ab hs [.m 9 1,.v 10 qT] (ak (cQ (ab hs [.m 11 0] ?_))))));have ⟨hb1,phb1⟩:=dT (p:=(n:Int)<(100:Int)) oM;refine lB 12 hb1 (ak (ab hs [.m 13 0] (lV 14 (nV n) ?_ (hr:=rS ((n:Int)) kR (g5 oM oM)))));exact ai 15 hs (vJ n hn _ _ hs.g) (fun w2 h3 hs=>lL hs [.m 4 15] (ae hs [] (.string (⟨(Lib.decDigits n).toArray⟩)) rfl))
theorem Fc (n:Nat)(hn:n<100)(w:World)(h:Hp)(g:G w h):CV 177 #[mV n,iV 10] w h (.string ⟨(Lib.decDigits n).toArray⟩):=by
 have hs:=sS g;exact go Tryz.func177 [(0,mV n),(1,iV 10)] rfl (ab hs [.v 4 (eS)] (aG (lL hs [.m 5 0,.m 6 1] (ai 7 hs (BE n hn _ _ hs.g) (fun w1 h2 hs=>lL hs [.m 4 7] (ae hs [] (.string (⟨(Lib.decDigits n).toArray⟩)) rfl))))))
theorem ue (z:Int)(n:Nat)(hz:z=(n:Nat))(hn:n<100)(w:World)(h:Hp)(g:G w h):Calls Tryz.prog 177 #[uV z,iV 10] w (Ret w h (fun v _=>v=.string ⟨(Lib.decDigits n).toArray⟩)):=by
 subst hz;exact Fc n hn w h g
theorem xP (n:Nat)(h0:0<n)(hn:n<100)(w:World)(h:Hp)(g:G w h):CV 149 #[nv n] w h (.string ⟨(Lib.decDigits n).toArray⟩):=by
 have hs:=sS g;have hlo_:=ii (show n<18446744073709551616 by omega);have hwl:=congrArg List.length (iz h0 (show n<18446744073709551616 by omega))
 simp only[List.length_singleton] at hwl
 refine go Tryz.func149 [(0,nv n)] rfl (av (lA 1 41 (nc n) hs (fun b1 w2 h3 hs=>lL hs [.v 2 (eS)] (aG (lL hs [.o 9 (nv n) 0 0 2] (lC 10 hs (d7 n oM oM _ _ hs.g) ?_))))));rintro _ w4 h5 hs ⟨bw,rfl,hbw_,hbc_,hbs_⟩;replace hs:=hs.aS hbs_;refine lL hs [.m 3 10] (ah (ab hs [.m 11 3,.v 12 (nV ((wds n).length))] ?_));have ⟨hb6,phb6⟩:=dT (p:=(((wds n).length:Nat):Int)≤(1:Int)) oM;exact lB 13 hb6 (ak (ab hs [.v 14 (pB b1),.o 15 (mV (n%18446744073709551616)) 0 0 1] (ai 16 hs (ue _ n hlo_ hn _ _ hs.g) (fun w7 h8 hs=>lL hs [.m 2 16] (ae hs [] (.string (⟨(Lib.decDigits n).toArray⟩)) rfl)))))
theorem xq (n:Nat)(hn:n<100)(hlo_:(0:Int)=(n:Nat))(w:World)(h:Hp)(g:G w h):CV 149 #[nv 0] w h (.string ⟨(Lib.decDigits n).toArray⟩):=by
 have hs:=sS g;exact go Tryz.func149 [(0,nv 0)] rfl (av (lA 1 41 ([uV 0,eS]) hs (fun b1 w2 h3 hs=>lL hs [.v 2 (eS)] (aG (lL hs [.o 9 (.agg #[uV 0,eS]) 0 0 2] (ai 10 hs (ie _ _ hs.g) (fun w4 h5 hs=>lL hs [.m 3 10] (ah (ab hs [.m 11 3,.v 12 (iV 0),.v 13 qT] (ak (ab hs [.v 14 (pB b1),.o 15 (uV 0) 0 0 1] (ai 16 hs (ue _ n hlo_ hn _ _ hs.g) (fun w6 h7 hs=>lL hs [.m 2 16] (ae hs [] (.string (⟨(Lib.decDigits n).toArray⟩)) rfl))))))))))))))
theorem De (n:Nat)(hn:n<100)(w:World)(h:Hp)(g:G w h):Calls Tryz.prog 149 #[nv n] w (Ret w h (fun v _=>v=.string ⟨(Lib.decDigits n).toArray⟩)):=by
 rcases Nat.eq_zero_or_pos n with rfl|h0
 ·exact xq 0 hn rfl w h g
 ·exact xP n h0 hn w h g
theorem Cd (n:Nat)(hn:n<100)(w:World)(h:Hp)(g:G w h):CV 148 #[wX (.bool false) n] w h (.string ⟨(Lib.decDigits n).toArray⟩):=by
 have hs:=sS g;exact go Tryz.func148 [(0,wX qF n)] rfl (av (lA 1 43 (wC qF n) hs (fun b1 w2 h3 hs=>lL hs [.v 2 (eS)] (ah (ab hs [.v 3 (pB b1),.o 4 qF 0 0 1] (ag (cK (ab hs [.v 9 (qP b1 1),.o 10 (.agg #[uV (lo n),.string (hi n)]) 0 1 2] (ai 11 hs (De n hn _ _ hs.g) (fun w4 h5 hs=>lL hs [.m 2 11] (ae hs [] (.string (⟨(Lib.decDigits n).toArray⟩)) rfl)))))))))))
theorem Cl (z:Int)(n:Nat)(hz:z=(n:Nat))(hn:n<100)(w:World)(h:Hp)(g:G w h):Calls Tryz.prog 148 #[iv z] w (Ret w h (fun v _=>v=.string ⟨(Lib.decDigits n).toArray⟩)):=by
 subst hz;exact Cd n hn w h g
theorem CM (n:Nat)(hn:n<100)(w:World)(h:Hp)(g:G w h):CV 101 #[qv ((n:Nat):Rat)] w h (.string ⟨(Lib.decDigits n).toArray⟩):=by
 have hs:=sS g;have hl:LQ 100000000 ((n:Nat):Rat):=(by have q_:=LQ.int (z:=(n:Int)) oM oM;exact (q_.mono oM));exact go Tryz.func101 [(0,qv ((n:Nat):Rat))] rfl (av (lA 1 45 (qc ((n:Nat):Rat)) hs (fun b1 w2 h3 hs=>lL hs [.v 2 (eS)] (ah (ab hs [.o 3 (qv ((n:Nat):Rat)) 0 0 5] (ai 4 hs ((by have q_:=iF ((n:Nat):Rat) hl _ _ hs.g;rw[decide_eq_true (Rat.den_natCast n)] at q_;exact q_)) (fun w4 h5 hs=>ak (ab hs [.v 5 (pB b1),.o 6 (iv (((n:Nat):Rat).num)) 0 0 3] (ai 7 hs (Cl ((n:Nat):Rat).num n (Rat.num_natCast n) hn _ _ hs.g) (fun w6 h7 hs=>lL hs [.m 2 7] (ae hs [] (.string (⟨(Lib.decDigits n).toArray⟩)) rfl)))))))))))
section tcs
variable {M:Ms} {P:Program} {n:Nat} {N R:Po} {X:Nat→Po} {ops:Array Oper} {k0:Nat} {L:Array Bool} {Γ:bM} {w:World}
variable {h:Hp} {w0:World} {h0 hr:Hp} {AL:List Al} {B:List Bx} {Rs:List Rw} {F:List (Hp→Prop)}
end tcs
section
variable {T8 TB:TypeId} {K b:Nat}
def J8 (T8:TypeId)(K b:Nat)(h:Hp):Prop:=∀ c o,K≤c→h[c]?=some o→o=junk∨(c≠b∧∀ cs fz,o≠.cells cs T8 fz)
theorem n5 {base:Nat}{ty:TypeId}{sz n:Nat}{v:Value}{cs:List Value}{w w':World}(o:w.ownsRowF base ty sz v n cs)(hb:∀ b,v.ownBlock=some b→w'.heap[b]?=w.heap[b]?):w'.ownsRowF base ty sz v n cs:=by
 rcases o with ⟨h1,h2|⟨g,cap,cur,fz,hv,hb',hg,rest⟩⟩
 ·exact ⟨h1,.inl h2⟩
 ·exact ⟨h1,.inr ⟨g,cap,cur,fz,hv,hb',(hb g (by rw[hv];rfl)).trans hg,rest⟩⟩
theorem rv {bs:List Value}{w w1:World}(h:Lib.IsBuilderF TB T8 K b bs w)(x:Ext w w1):Lib.IsBuilderF TB T8 K b bs w1:=by
 have key:∀ p,Lib.BuilderAtF TB T8 K b p bs w→Lib.BuilderAtF TB T8 K b p bs w1:=by
  intro p hp;have hlt:=hp.lt;obtain ⟨h1,v,h2,h3,h4⟩:=hp;exact ⟨h1,v,(Below.block x b hlt).trans h2,n5 h3 (fun c hc=>Below.block x c (h3.lt c hc).2),h4⟩
 rcases h with h|h
 ·exact .inl (key _ h)
 ·exact .inr (key _ h)
theorem xc {bs:List Value}{w:World}(h:Lib.IsBuilderF TB T8 K b bs w):K≤b∧b<w.heap.size:=by
 rcases h with h|h
 ·exact ⟨h.1,h.lt⟩
 ·exact ⟨h.1,h.lt⟩
theorem vP {w w':World}(x:Ext w w'):Lib.OthersKept T8 (some b) w w':=fun k o hk _ _=>by
 have hlt:k<w.heap.size:=(Array.getElem?_eq_some_iff.1 hk).1;exact (Below.block x k hlt).trans hk
theorem q7 {w w':World}(x:Ext w w')(hK:K≤w.heap.size):Below K w w':=⟨x.os,x.tape,x.output,x.size,fun k hk=>Below.block x k oM⟩
structure BSt (TB T8:TypeId) (K b:Nat) (wa:World) (l:List UInt8) (w:World) (h:Hp):Prop where
  hK:K≤w.heap.size
  j8:J8 T8 K b h
  ib:Lib.IsBuilderF TB T8 K b (Lib.byteCells l) w
  be:Below K wa w
  ok:Lib.OthersKept T8 (some b) wa w
def lM (TB T8:TypeId)(K b:Nat)(V:Value)(l out:List UInt8)(w:World):Ending→World→Prop:=fun e w'=>e=.returned V∧(Lib.IsBuilderF TB T8 K b (Lib.byteCells (l++out)) w'∧Below K w w'∧Lib.OthersKept T8 (some b) w w')
def AllNe (T8:TypeId)(b:Nat):List Bx→Prop
  | []=>True
  | x::B=>(x.b≠b∧(x.t != T8)=true)∧AllNe T8 b B
theorem AllNe.mem {B:List Bx}(h:AllNe T8 b B):∀ x∈B,x.b≠b∧x.t≠T8:=by
  induction B with
  | nil=>intro x hx;cases hx
  | cons y B ih =>
    intro x hx
    rcases List.mem_cons.1 hx with rfl|hx
    · exact ⟨h.1.1,by simpa using h.1.2⟩
    · exact ih h.2 x hx
variable {wz w w' wa:World} {hz h:Hp} {B:List Bx} {F:List (Hp→Prop)} {l:List UInt8}
theorem BSt.start (hK:K≤w.heap.size)(j:J8 T8 K b h)(ib:Lib.IsBuilderF TB T8 K b (Lib.byteCells l) w):BSt TB T8 K b w l w h:=⟨hK,j,ib,Below.refl _ _,Lib.OthersKept.refl _ _ _⟩
theorem BSt.ext (s:BSt TB T8 K b wa l w h)(x:Ext w w'){h':Hp}(j:J8 T8 K b h'):BSt TB T8 K b wa l w' h':=⟨Nat.le_trans s.hK x.size,j,rv s.ib x,s.be.trans (q7 x s.hK),s.ok.trans (vP x)⟩
theorem SS.atKb (g:G w h)(hK:K≤w.heap.size):∃ w0 h0,SS w0 h0 w h [] [] []∧h0.size=K:=by
 have hsz:=g.size;refine ⟨{ w with heap:=w.heap.extract 0 K },h.extract 0 K,⟨⟨by simp;omega,fun c=>?_⟩,⟨⟨⟨rfl,rfl,rfl,by simp;omega,fun c hc=>?_⟩,⟨by simp;omega,fun c hc=>?_⟩,g⟩,fun _ hx=>(by cases hx),fun _ hx=>(by cases hx),fun _ hx=>(by cases hx),by simp⟩,fun _ hx=>(by cases hx),.nil,fun _ hx=>(by cases hx),trivial⟩,by simp;omega⟩
 ·show (h.extract 0 K)[c]?=(w.heap.extract 0 K)[c]?∨_
  rw[Array.getElem?_extract,Array.getElem?_extract]
  by_cases hb:c<K
  ·rw[if_pos oM,if_pos oM];simpa using g.blk c
  ·rw[if_neg oM,if_neg oM];exact .inl rfl
 ·have hb':c<K:=by have:c<(w.heap.extract 0 K).size:=hc;simp at this;omega
  show w.heap[c]?=(w.heap.extract 0 K)[c]?
  rw[Array.getElem?_extract,if_pos oM];simp
 ·have hb':c<K:=by simp at hc;omega
  rw[Array.getElem?_extract,if_pos oM];simp
def jx (h:Hp)(n:Nat):Hp:=h++Array.replicate (n-h.size) junk
theorem kG {n c:Nat}(hc:c<h.size):(jx h n)[c]?=h[c]?:=Array.getElem?_append_left hc
theorem p8 {n c:Nat}(h1:h.size≤c)(h2:c<n):(jx h n)[c]?=some junk:=by
 unfold jx
 rw[Array.getElem?_append_right h1,Array.getElem?_replicate,if_pos oM]
theorem iD {n:Nat}(hn:h.size≤n):(jx h n).size=n:=by unfold jx;simp;omega
theorem AE {n:Nat}(hn:h.size≤n):Gr h (jx h n):=⟨by rw[iD hn];exact hn,fun c hc=>kG hc⟩
theorem AF {n:Nat}(j:J8 T8 K b h):J8 T8 K b (jx h n):=by
 intro c o hc e
 rcases Nat.lt_or_ge c h.size with h1|h1
 ·rw[kG h1] at e;exact j c o hc e
 ·rcases Nat.lt_or_ge c n with h2|h2
  ·rw[p8 h1 h2] at e;injection e with e;exact .inl e.symm
  ·unfold jx at e
   rw[Array.getElem?_append_right h1,Array.getElem?_replicate,if_neg oM] at e;cases e
theorem SS.junk (s:SS wz hz w h B [] F)(j:J8 T8 K b h){h':Hp}{B':List Bx}(u:Up w h w' h')(s':St wz hz w' h' B'):∃ h'',SS wz hz w' h'' B' [] F∧J8 T8 K b h''∧Up w h w' h'':=by
  have e0:=s.g.size;have e1:=u.g.size;have hx:=u.ext.size;have hn:h.size≤w'.heap.size:=by omega
  have gr:=AE hn
  have g':G w' (jx h w'.heap.size):=⟨(iD hn).symm,fun c=>by
    rcases Nat.lt_or_ge c h.size with h1|h1
    · rw[kG h1]
      rcases s.g.blk c with h2|h2
      · exact .inl (h2.trans (Below.block u.ext c oM).symm)
      · exact .inr h2
    · rcases Nat.lt_or_ge c w'.heap.size with h2|h2
      · exact .inr (p8 h1 h2)
      · left
        rw[Array.getElem?_eq_none (by rw[iD hn];exact h2),Array.getElem?_eq_none h2]⟩
  refine ⟨jx h w'.heap.size,⟨s.g0,⟨⟨s'.up.ext,s.st.up.gr.trans gr,g'⟩,s'.own,fun x hx2=>?_,s'.lo,s'.nd⟩,fun _ hr=>(by cases hr),.nil,s.mo,s.f.gw s.mo gr.gw⟩,AF j,⟨u.ext,gr,g'⟩⟩;have h1:=s'.jk x hx2
  rcases Nat.lt_or_ge x.b h.size with h2|h2
  · rw[kG h2,←u.gr.blk _ h2];exact h1
  · exact p8 h2 (by have:=az h1;omega)
theorem SS.oth (s:SS wz hz w h B [] F)(hK:hz.size=K)(j:J8 T8 K b h)(be:Below K w w')(ok:Lib.OthersKept T8 (some b) w w')(hB:AllNe T8 b B):∃ h',SS wz hz w' h' B [] F∧J8 T8 K b h':=by
  have e0:=s.g.size;have ez:=s.g0.size;have hx:=be.size;have hn:h.size≤w'.heap.size:=by omega
  have gr:=AE hn
  have g' : G w' (jx h w'.heap.size):=⟨(iD hn).symm,fun c=>by
    rcases Nat.lt_or_ge c h.size with h1|h1
    · rw[kG h1]
      rcases s.g.blk c with h2|h2
      · rcases Nat.lt_or_ge c K with h3|h3
        · exact .inl (h2.trans (be.block c h3).symm)
        · cases ho:h[c]? with
          | none=>rw[Array.getElem?_eq_none_iff] at ho;omega
          | some o =>
            rcases j c o h3 ho with rfl|⟨h4,h5⟩
            · exact .inr rfl
            · left;exact (ok c o (h2.symm.trans ho) (fun e=>h4 (Option.some.inj e)) h5).symm
      · exact .inr h2
    · rcases Nat.lt_or_ge c w'.heap.size with h2|h2
      · exact .inr (p8 h1 h2)
      · left
        rw[Array.getElem?_eq_none (by rw[iD hn];exact h2),Array.getElem?_eq_none h2]⟩
  have hx2:Ext wz w':=⟨be.os.trans s.st.up.ext.os,be.tape.trans s.st.up.ext.tape,be.output.trans s.st.up.ext.output,Nat.le_trans s.st.up.ext.size be.size,fun c hc=>(be.block c oM).trans (Below.block s.st.up.ext c hc)⟩;refine ⟨jx h w'.heap.size,⟨s.g0,⟨⟨hx2,s.st.up.gr.trans gr,g'⟩,fun x hx3=>?_,fun x hx3=>?_,s.st.lo,s.st.nd⟩,fun _ hr=>(by cases hr),.nil,s.mo,s.f.gw s.mo gr.gw⟩,AF j⟩
  · have h1:=s.st.own x hx3
    have h2:=hB.mem x hx3;exact ok x.b _ h1 (fun e=>h2.1 (Option.some.inj e)) (fun cs fz e=>by injection e with _ e2;exact h2.2 e2)
  · have h1:=s.st.jk x hx3
    rw[kG (az h1)];exact h1
end
section laws
variable {T8 TB:TypeId} {K b:Nat} {M:Ms} {P:Program} {n:Nat} {N R:Po} {X:Nat→Po} {ops:Array Oper} {k k0:Nat} {hr:Hp} {AL:List Al} {L:Array Bool} {Γ:bM} {wz w w' wa:World} {hz h:Hp} {B:List Bx} {F:List (Hp→Prop)} {l out:List UInt8}
theorem Db (t:Nat){f:FuncId}{args:Array Value}{Φ:Value→Hp→Prop}(s:SS wz hz w h B [] F)(bs:BSt TB T8 K b wa l w h)(c:Calls P f args w (Ret w h Φ))(H:∀ v w' h' h2,SS wz hz w' h' B [] F→BSt TB T8 K b wa l w' h'→Φ v h2→LG P n N R X ops (k+1) ((t,v)::Γ) w')(hc:cL ops Γ k t n=true:=by kernel_rfl)(hr:(execOp (ev Γ) (ao ops k)).run P w=.ok (.enter f args) w:=by kernel_rfl):LG P n N R X ops k Γ w :=
 LG.call t f args (bv hc).1 (bv hc).2 hr (c.mono fun e w' ⟨v,h',he,u,hΦ⟩=>by
  obtain ⟨h2,s2,j2,_⟩:=s.junk bs.j8 u (s.st.step u);exact ⟨v,he,H v w' h2 h' s2 (bs.ext u.ext j2) hΦ⟩)
theorem Gq (t:Nat)(ty:TypeId)(vs:List Value)(s:SS wz hz w h B [] F)(bs:BSt TB T8 K b wa l w h)(H:∀ c w' h',c≠b→SS wz hz w' h' (⟨c,ty,vs⟩::B) [] F→BSt TB T8 K b wa l w' h'→LG P n N R X ops (k+1) ((t,.pointer (some ⟨c,0,none⟩))::Γ) w')(hc:cL ops Γ k t n=true:=by kernel_rfl)
  (hr:(execOp (ev Γ) (ao ops k)).run P w=.ok (.value (.pointer (some ⟨w.heap.size,0,none⟩))) (w.alloc (.cells vs.toArray ty (0,0))):=by kernel_rfl):LG P n N R X ops k Γ w :=
 LG.var t ty vs s.st (bv hc).1 (bv hc).2 hr (fun c w' h' hb u s'=>by
  obtain ⟨h2,s2,j2,_⟩:=s.junk bs.j8 u s';have hlt:=(xc bs.ib).2;have:=s.g.size;exact H c w' h2 oM s2 (bs.ext u.ext j2))
theorem vE (t:Nat){f:FuncId}{args:Array Value}{V:Value}(s:SS wz hz w h B [] F)(bs:BSt TB T8 K b wa l w h)(hK:hz.size=K)(hB:AllNe T8 b B)(c:Calls P f args w (lM TB T8 K b V l out w))(H:∀ w' h',SS wz hz w' h' B [] F→BSt TB T8 K b wa (l++out) w' h'→LG P n N R X ops (k+1) ((t,V)::Γ) w')(hc:cL ops Γ k t n=true:=by kernel_rfl)(hr:(execOp (ev Γ) (ao ops k)).run P w=.ok (.enter f args) w:=by kernel_rfl):LG P n N R X ops k Γ w :=
 LG.call t f args (bv hc).1 (bv hc).2 hr (c.mono fun e w' ⟨he,ib,be,ok⟩=>by
  obtain ⟨h2,s2,j2⟩:=s.oth hK bs.j8 be ok hB;exact ⟨V,he,H w' h2 s2 ⟨Nat.le_trans bs.hK be.size,j2,ib,bs.be.trans be,bs.ok.trans ok⟩⟩)
theorem Gl (i t:Nat){f:FuncId}{args:Array Value}{V:Value}(s:SS wz hz w h B [] F)(bs:BSt TB T8 K b wa l w h)(hK:hz.size=K)(hB:AllNe T8 b B)(c:Calls P f args w (lM TB T8 K b V l out w))(H:∀ w' h',SS wz hz w' h' B [] F→BSt TB T8 K b wa (l++out) w' h'→AG M P n N R X ops k0 (L.setIfInBounds i true) ((t,V)::Γ) w')(hc:(fI ops k0 L i && a7 Γ (ao ops i) && ((ao ops i).dst == some t) && decide (t<n))=true:=by kernel_rfl)(hw:bg ops Γ (ao ops i)=some true:=by kernel_rfl)
  (hr:(execOp (ev Γ) (ao ops i)).run P w=.ok (.enter f args) w:=by kernel_rfl)(hz':M.z=none:=by rfl):AG M P n N R X ops k0 L Γ w :=
 tC i t (c.mono fun e w' ⟨he,ib,be,ok⟩=>by
  obtain ⟨h2,s2,j2⟩:=s.oth hK bs.j8 be ok hB;exact ⟨V,he,Tl.none hz' _ _,H w' h2 s2 ⟨Nat.le_trans bs.hK be.size,j2,ib,bs.be.trans be,bs.ok.trans ok⟩⟩) hc hw hr
theorem Eg {wr:World}{hr2:Hp}(s:SS wz hz w h B [] F)(m:UpM [] wr hr2 w h)(H:∀ w' h',UpM [] wr hr2 w' h'→SS wz hz w' h' B [] F→AG M P n N R X ops k0 L Γ w')(hc:eF ops [] L=true:=by kernel_rfl):EG M P n N R X ops k0 hr [] L Γ w h:=Rg.fin0 hc (fun w' h' u=>H w' h' (m.trans (u.m _)) (s.step u))
theorem BSt.back {wr:World}{hr2:Hp}(bs:BSt TB T8 K b wa l wr hr2)(s:SS wz hz wr hr2 B [] F)(m:UpM [] wr hr2 w h):∃ h',SS wz hz w h' B [] F∧BSt TB T8 K b wa l w h':=by
 obtain ⟨h2,s2,j2,_⟩:=s.junk bs.j8 m.up (s.st.step m.up);exact ⟨h2,s2,bs.ext m.up.ext j2⟩
end laws
section ret
variable {T8 TB:TypeId} {K b:Nat} {P:Program} {n:Nat} {Γ:bM} {wz w wa:World} {hz h:Hp} {B:List Bx} {F:List (Hp→Prop)} {l l0 out:List UInt8}
theorem SS.retB {fn:Func}{V:Value}(s:SS wz hz w h B [] F)(bs:BSt TB T8 K b wa l w h)(ps:List (Nat × Nat × Nat))(hl:l=l0++out)(hk:(kE fn Γ && bO B ps)=true:=by kernel_rfl)(he:bF P (l9 fn Γ) (cg B ps)=some (V,bH B ps):=by kernel_rfl):∀ a,Kn n a Γ→kC P fn (lM TB T8 K b V l0 out wa) a w:=by
 intro a ka;rw[Bool.and_eq_true] at hk
 refine ⟨ka.df.trans (mr hk.1),V,?_,rfl,by rw[←hl];exact bs.ib,bs.be,bs.ok⟩;rw[gi ka hk.1];exact bx _ _ _ _ he (cd s.st.own ps hk.2)
end ret
def rX:Go.Shelf.Ren:=⟨fun|166=>100|240=>147|276=>176|n=>n,fun|0=>0|3=>3|4=>4|5=>5|9=>9|20=>20|37=>116|70=>115|72=>118|75=>154|164=>214|80=>120|n=>n,fun n=>n⟩
theorem xv:Go.Proofs.Lays.n166 Tryz.prog rX:={
 mixed:=by kernel_rfl
 f166:=Tryz.func100.trans (congrArg some kR)
 f240:=Tryz.func147.trans (congrArg some kR)
 f276:=Tryz.func176.trans (congrArg some kR)
 t0:=Tryz.underlying0
 a0:=Tryz.isAgg0
 z0:=Tryz.sizeOf0
 v0:=Tryz.zeroValue0
 t3:=Tryz.underlying3
 a3:=Tryz.isAgg3
 z3:=Tryz.sizeOf3
 v3:=Tryz.zeroValue3
 t4:=Tryz.underlying4
 a4:=Tryz.isAgg4
 z4:=Tryz.sizeOf4
 v4:=Tryz.zeroValue4
 t9:=Tryz.underlying9
 a9:=Tryz.isAgg9
 z9:=Tryz.sizeOf9
 v9:=Tryz.zeroValue9
 t20:=Tryz.underlying20
 a20:=Tryz.isAgg20
 z20:=Tryz.sizeOf20
 v20:=Tryz.zeroValue20
 t37:=Tryz.underlying116
 a37:=Tryz.isAgg116
 z37:=Tryz.sizeOf116
 v37:=Tryz.zeroValue116
 t70:=Tryz.underlying115
 a70:=Tryz.isAgg115
 z70:=Tryz.sizeOf115
 v70:=Tryz.zeroValue115
 t72:=Tryz.underlying118
 a72:=Tryz.isAgg118
 z72:=Tryz.sizeOf118
 v72:=Tryz.zeroValue118
 t75:=Tryz.underlying154
 a75:=Tryz.isAgg154
 z75:=Tryz.sizeOf154
 v75:=Tryz.zeroValue154
 t164:=Tryz.underlying214
 a164:=Tryz.isAgg214
 z164:=Tryz.sizeOf214
 v164:=Tryz.zeroValue214 }
theorem sD:Builder.Extra Tryz.prog rX:={
 sizeBuilder:=by kernel_rfl
 liesBuilder:=by kernel_rfl
 t5:=Tryz.underlying5
 a5:=Tryz.isAgg5
 z5:=Tryz.sizeOf5
 v5:=Tryz.zeroValue5
 infoByte:=by kernel_rfl
 cellsByte:=by kernel_rfl
 sizeByte:=by kernel_rfl
 neB5:=by decide }
theorem Cp {P:Program}{Γ:bM}{o:Oper}{w:World}{a b:ByteArray}(h:execOp (ev Γ) o=(do pure (.value (←Op.stringOp .add a b))))(hs:a.size+b.size≤9223372036854775807):(execOp (ev Γ) o).run P w=.ok (.value (.string (a++b))) w:=by
 rw[h];simp[run_string_add_sum w a b hs,Result.andThen]
def i8 (op:Int):Int:=if op=3∨op=4 then 1 else if op=5∨op=6 then 2 else if op=7 then 3 else if op=8 then 4 else 5
theorem di (op:Int):((op=3∨op=4)∧i8 op=1)∨((op=5∨op=6)∧i8 op=2)∨(op=7∧i8 op=3)∨(op=8∧i8 op=4)∨((op<3∨8<op)∧i8 op=5):=by
 unfold i8
 repeat' split
 all_goals omega
def wq (op:Int):ByteArray:=if op=3 then ⟨#[32,43,32]⟩ else if op=4 then ⟨#[32,45,32]⟩ else if op=5 then ⟨#[32,42,32]⟩ else ⟨#[32,47,32]⟩
def rO (n:Nat):ByteArray:=⟨(Lib.decDigits n).toArray⟩
def kv (wr:Tm→Int→List UInt8):Tm→List UInt8
  | .mk op n q s ks=>if op=1 then (rO q.num.toNat).data.toList else if op=2 then s.data.toList
    else if op=7 then (⟨#[45]⟩:ByteArray).data.toList++wr (ks.getD 0 bz) 3
    else if op=8 then wr (ks.getD 0 bz) 5++((⟨#[94]⟩:ByteArray)++rO n.toNat).data.toList
    else wr (ks.getD 0 bz) (i8 op)++(wq op).data.toList++wr (ks.getD 1 bz) (i8 op+1)
def fP:Nat→Tm→Int→List UInt8
  | 0,_,_=>[]
  | d+1,t,l=>if i8 t.op<l then (⟨#[40]⟩:ByteArray).data.toList++kv (fP d) t++(⟨#[41]⟩:ByteArray).data.toList else kv (fP d) t
def pD:Nat→Tm→Prop
  | 0,_=>False
  | d+1,.mk op n q _ ks=>fs op=ks.length∧(1≤op∧op≤8)∧(op=1→∃ k:Nat,k<100∧q=((k:Nat):Rat))∧(0≤n∧n<100)∧∀ i,i<ks.length→pD d (ks.getD i bz)
theorem xr:∀ n,n<100→(rO n).size≤3:=by decide +kernel
theorem CO:∀ n,n<100→(Lib.decDigits n).all (fun b=>b != 47)=true:=by decide +kernel
theorem oA (k:Nat)(hk:k<100)(w:World)(h:Hp)(g:G w h):CV 102 #[.string (rO k),.string ⟨#[47]⟩] w h (.bool false):=by
 have q:=Ret.of_same g (Tryz.strings_Contains_one (rO k) 47 w)
 rw[n0 (rO k).data.toList (fun b hb=>by
  have h1:=List.all_eq_true.1 (CO k hk) b hb
  simpa using h1)] at q
 exact q
theorem CQ (K b:Nat)(l:List UInt8)(x:ByteArray)(w:World)(hib:Lib.IsBuilderF 118 5 K b (Lib.byteCells (l)) w)(hK:K≤w.heap.size)(hl:l.length+x.data.toList.length≤140737488355328):Calls Tryz.prog 100 #[pB b,.string x] w (lM 118 5 K b (.tuple #[iV x.size,.nilIface]) l x.data.toList w) :=
 (Any.Builder_WriteString_k xv sD K b (Lib.byteCells l) x w hib (by rw[Lib.byteCells_length];exact hl) hK).mono fun e w' ⟨he,h1,h2,h3⟩=>⟨he,by
  have e2:Lib.byteCells (l++x.data.toList)=Lib.byteCells l++Lib.strCells x:=by unfold Lib.byteCells;rw[List.map_append];rfl
  rw[e2];exact .inr h1,h2,h3⟩
theorem pN (p:PTm)(w:World)(h:Hp)(g:G w h):CV 99 #[pX p] w h (iV (i8 p.op)):=by
 have hs:=sS g;refine go Tryz.func99 [(0,pX p)] rfl (av (lA 1 51 (pC p) hs (fun b1 w2 h3 hs=>lL hs [.v 2 (iV 0)] (ah (ab hs [.v 3 (pB b1),.o 4 (iV p.op) 0 0 1] (a8 (cQ (av ?_))))))));cases hb4:((p.op:Int) == (3:Int))
 ·
  have phb4:=af hb4;refine lB 6 hb4 (lL hs [.m 5 6] (ag (kQ ?_)));cases hb5:((p.op:Int) == (4:Int))
  ·
   have phb5:=af hb5;refine lB 7 hb5 (lL hs [.m 5 7] (ag (cQ (av ?_))));cases hb6:((p.op:Int) == (5:Int))
   ·
    have phb6:=af hb6;refine lB 9 hb6 (lL hs [.m 8 9] (ag (kQ ?_)));cases hb7:((p.op:Int) == (6:Int))
    ·
     have phb7:=af hb7;refine lB 10 hb7 (lL hs [.m 8 10] (ag (av ?_)));cases hb8:((p.op:Int) == (7:Int))
     ·
      have phb8:=af hb8;refine lB 12 hb8 (lL hs [.m 11 12] (ag (av ?_)));cases hb9:((p.op:Int) == (8:Int))
      ·
       have phb9:=af hb9;exact lB 14 hb9 (lL hs [.m 13 14] (ag (cK (ab hs [.v 2 (iV 5)] (ae hs [] (iV 5) (congrArg (Value.int .i64) (by have:=di p.op;omega)))))))
      have phb9:=eq_of_beq hb9;exact lB 14 hb9 (lL hs [.m 13 14] (ak (ab hs [.v 2 (iV 4)] (ae hs [] (iV 4) (congrArg (Value.int .i64) (by have:=di p.op;omega))))))
     have phb8:=eq_of_beq hb8;exact lB 12 hb8 (lL hs [.m 11 12] (ak (ab hs [.v 2 (iV 3)] (ae hs [] (iV 3) (congrArg (Value.int .i64) (by have:=di p.op;omega))))))
    have phb7:=eq_of_beq hb7;exact lB 10 hb7 (lL hs [.m 8 10] (ak (ab hs [.v 2 (iV 2)] (ae hs [] (iV 2) (congrArg (Value.int .i64) (by have:=di p.op;omega))))))
   have phb6:=eq_of_beq hb6;exact lB 9 hb6 (lL hs [.m 8 9] (ak (cK (cl (ab hs [.v 2 (iV 2)] (ae hs [] (iV 2) (congrArg (Value.int .i64) (by have:=di p.op;omega))))))))
  have phb5:=eq_of_beq hb5;exact lB 7 hb5 (lL hs [.m 5 7] (ak (ab hs [.v 2 (iV 1)] (ae hs [] (iV 1) (congrArg (Value.int .i64) (by have:=di p.op;omega))))))
 have phb4:=eq_of_beq hb4;exact lB 6 hb4 (lL hs [.m 5 6] (ak (cK (cl (ab hs [.v 2 (iV 1)] (ae hs [] (iV 1) (congrArg (Value.int .i64) (by have:=di p.op;omega))))))))
theorem Fe (op:Int)(w:World)(h:Hp)(g:G w h):CV 103 #[iV op] w h (.string (wq op)):=by
 have hs:=sS g;refine go Tryz.func103 [(0,iV op)] rfl (ab hs [.v 2 (eS)] (ah (ab hs [.m 3 0] (a8 (av ?_)))));cases hb1:((op:Int) == (3:Int))
 ·
  have phb1:=af hb1;refine lB 5 hb1 (lL hs [.m 4 5] (ag (av ?_)));cases hb2:((op:Int) == (4:Int))
  ·
   have phb2:=af hb2;refine lB 7 hb2 (lL hs [.m 6 7] (ag (av ?_)));cases hb3:((op:Int) == (5:Int))
   ·
    have phb3:=af hb3;exact lB 9 hb3 (lL hs [.m 8 9] (ag (cK (ab hs [.v 2 (.string (⟨#[32,47,32]⟩))] (ae hs [] (.string (⟨#[32,47,32]⟩)) (congrArg Value.string (by unfold wq;repeat first|rw[if_pos oM]|rw[if_neg oM])))))))
   have phb3:=eq_of_beq hb3;exact lB 9 hb3 (lL hs [.m 8 9] (ak (ab hs [.v 2 (.string (⟨#[32,42,32]⟩))] (ae hs [] (.string (⟨#[32,42,32]⟩)) (congrArg Value.string (by unfold wq;repeat first|rw[if_pos oM]|rw[if_neg oM]))))))
  have phb2:=eq_of_beq hb2;exact lB 7 hb2 (lL hs [.m 6 7] (ak (ab hs [.v 2 (.string (⟨#[32,45,32]⟩))] (ae hs [] (.string (⟨#[32,45,32]⟩)) (congrArg Value.string (by unfold wq;repeat first|rw[if_pos oM]|rw[if_neg oM]))))))
 have phb1:=eq_of_beq hb1;exact lB 5 hb1 (lL hs [.m 4 5] (ak (ab hs [.v 2 (.string (⟨#[32,43,32]⟩))] (ae hs [] (.string (⟨#[32,43,32]⟩)) (congrArg Value.string (by unfold wq;repeat first|rw[if_pos oM]|rw[if_neg oM]))))))
theorem xK (d:Nat)(K b:Nat)(bs:List UInt8)(ih:∀ (K b:Nat) (bs:List UInt8) (p:PTm) (t:Tm) (least:Int) (w:World) (h:Hp),G w h→K≤w.heap.size→J8 5 K b h→Lib.IsBuilderF 118 5 K b (Lib.byteCells (bs)) w→TmH d h p t→pD d t→bs.length+(fP d t least).length≤100000000000→Calls Tryz.prog 52 #[pB b,fe p,iV least] w (lM 118 5 K b (.tuple #[]) bs (fP d t least) w))(op n:Int)(q:Rat)(s:ByteArray)(A:Option Addr)(c:Nat)(ps:List PTm)(ks:List Tm)(hc:ps.length≤c)(hari:fs op=(ks.length:Nat))(hop:1≤op∧op≤8)(hq1:op=1→∃ k:Nat,k<100∧q=((k:Nat):Rat))(hn:0≤n∧n<100)(hW:∀ i,i<ks.length→pD d (ks.getD i bz))(least:Int)(hle:least≤i8 op)(hlen:bs.length+(kv (fP d) (.mk op n q s ks)).length≤100000000000)(w:World)(h:Hp)(g:G w h)(hKb:K≤w.heap.size)(hj8:J8 5 K b h)(hib:Lib.IsBuilderF 118 5 K b (Lib.byteCells (bs)) w)(hA:SlO 9 dg aU h A ps)(hT:Tms d h ps ks):Calls Tryz.prog 52 #[pB b,pW op n q s A ps.length c,iV least] w (lM 118 5 K b (.tuple #[]) bs (kv (fP d) (.mk op n q s ks)) w):=by
 obtain ⟨wz,hz0_,hs,hzK⟩:=SS.atKb g hKb;have hbs:=BSt.start hKb hj8 hib;have hln:=hT.len;have hac:=aF op;have hrk:=di op;replace hs:=((hs.aS hA).add (K:=fun h_=>Tms d h_ ps ks) hT);refine go Tryz.func52 [(0,pB b),(1,pW op n q s A ps.length c),(2,iV least)] rfl (av (Gq 4 51 (pG op n q s A ps.length c) hs hbs (fun b1 w2 h3 hnb_b1 hs hbs=>ah (ab hs [.o 9 (pW op n q s A ps.length c) 0 0 9] (Db 10 hs hbs (pN ⟨op,n,q,s,A,ps.length,c⟩ _ _ hs.g) ?_)))));rintro _ w4 h5 _ hs hbs rfl;refine lL hs [.m 11 2] ?_;have hb6:(decide ((i8 op:Int)<(least:Int)))=false:=decide_eq_false oM;refine lB 12 hb6 (ag (cK (ab hs [.v 20 (pB b1),.o 21 (iV op) 0 0 1] (a8 (av ?_)))));cases hb7:((op:Int) == (1:Int))
 ·
  have phb7:=af hb7;refine lB 47 hb7 (lL hs [.m 46 47] (ag (av ?_)));cases hb8:((op:Int) == (2:Int))
  ·
   have phb8:=af hb8;refine lB 66 hb8 ?_;refine lL hs [.m 65 66] (ag (CG.join (fun Γ w_=>∃ (zf:Bool) (h_:Hp),Γ=[(0,pB b),(4,pB b1),(21,iV op),(71,.bool zf)]∧SS wz hz0_ w_ h_ [⟨b1,51,pG op n q s A ps.length c⟩] [] [fun h_=>Tms d h_ ps ks,fun h_=>SlO 9 dg aU h_ A ps]∧BSt 118 5 K b w bs w_ h_∧(zf=true→3≤op∧op≤6)∧(zf=false→7≤op)) ?_ ?_))
   ·
    refine av ?_;cases hb9:((op:Int) == (3:Int))
    ·
     have phb9:=af hb9;refine lB 72 hb9 (lL hs [.m 71 72] (ag (av ?_)));cases za:((op:Int) == (4:Int))
     ·
      have zg:=af za;refine lB 73 za (lL hs [.m 71 73] (ag (av ?_)));cases zb:((op:Int) == (5:Int))
      ·
       have zi:=af zb;refine lB 74 zb (lL hs [.m 71 74] (ag (kQ ?_)));cases zc:((op:Int) == (6:Int))
       ·
        have zj:=af zc;refine lB 75 zc (lL hs [.m 71 75] (lD ?_));intro a_ ka;exact ⟨_,⟨false,h5,rfl,hs.to _ _,hbs,(fun h_=>absurd h_ kD),(fun _=>by omega)⟩,ka.to _ kR⟩
       have zj:=eq_of_beq zc;refine lB 75 zc (lL hs [.m 71 75] (lD ?_));intro a_ ka;exact ⟨_,⟨true,h5,rfl,hs.to _ _,hbs,(fun _=>by omega),(fun h_=>absurd h_ kD)⟩,ka.to _ kR⟩
      have zi:=eq_of_beq zb;refine lB 74 zb (lL hs [.m 71 74] (ak (CG.skip ?_)));intro a_ ka;exact ⟨_,⟨true,h5,rfl,hs.to _ _,hbs,(fun _=>by omega),(fun h_=>absurd h_ kD)⟩,ka.to _ kR⟩
     have zg:=eq_of_beq za;refine lB 73 za (lL hs [.m 71 73] (ak (CG.skip ?_)));intro a_ ka;exact ⟨_,⟨true,h5,rfl,hs.to _ _,hbs,(fun _=>by omega),(fun h_=>absurd h_ kD)⟩,ka.to _ kR⟩
    have phb9:=eq_of_beq hb9;refine lB 72 hb9 (lL hs [.m 71 72] (ak (CG.skip ?_)));intro a_ ka;exact ⟨_,⟨true,h5,rfl,hs.to _ _,hbs,(fun _=>by omega),(fun h_=>absurd h_ kD)⟩,ka.to _ kR⟩
   rintro _ zl ⟨zf,zm,rfl,hs,hbs,zp,hF71⟩;cases zd:(zf)
   ·
    try rw[zd] at hs
    try rw[zd]
    refine cY (av ?_);have hF_:=hF71 aM;cases ze:((op:Int) == (7:Int))
    ·
     have zk:=af ze;refine lB 99 ze (lL hs [.m 98 99] (ag (av ?_)));have zq:((op:Int) == (8:Int))=true:=jg oM;refine lB 109 zq (lL hs [.m 108 109] (ak ?_));have hwr:kv (fP d) (.mk op n q s ks)=fP d (ks.getD 0 bz) 5++((⟨#[94]⟩:ByteArray)++rO n.toNat).data.toList:=by simp only[kv];repeat first|rw[if_pos oM]|rw[if_neg oM]
     have hl_:=hlen;rw[hwr] at hl_
     try simp only[List.length_append] at hl_
     refine ab hs [.m 110 0,.v 111 (qP b1 8),.o 112 (qS A ps.length c) 0 8 1] (lX 113 A ps.length c 9 0 0 ((hs.f.2.1).ok oM) ?_);refine lH 114 (pX (ps.getD 0 aU)) hs ((hs.f.2.1).el 0 oM) (vE 115 hs hbs hzK ⟨⟨hnb_b1,rfl⟩,trivial⟩ (ih K b bs (ps.getD 0 aU) (ks.getD 0 bz) (5) _ _ hs.g hbs.hK hbs.j8 hbs.ib ((hs.f.1).at_ 0 oM) (hW 0 oM) (by first|omega|(simp only[List.length_append];omega))) (fun _ _ hs hbs=>lN (kQ (lL hs [.m 116 0,.v 117 (qP b1 1),.o 118 (iV n) 0 1 1] (Db 119 hs hbs (BC n n.toNat oM oM _ _ hs.g) ?_)))));rintro _ _ _ _ hs hbs rfl;refine lV 120 (.string ((⟨#[94]⟩:ByteArray)++(rO n.toNat))) ?_ (hr:=Cp (a:=⟨#[94]⟩) (b:=(rO n.toNat)) kR (by have h1_:=xr n.toNat oM;have h2_:(⟨#[94]⟩:ByteArray).size=1:=rfl;omega));exact vE 121 hs hbs hzK ⟨⟨hnb_b1,rfl⟩,trivial⟩ (CQ K b (bs++(fP d (ks.getD 0 bz) (5))) ((⟨#[94]⟩:ByteArray)++(rO n.toNat)) _ hbs.ib hbs.hK (by first|omega|(simp only[List.length_append];omega))) (fun _ _ hs hbs=>lD (hs.retB hbs [] (by rw[hwr];try simp only[List.append_assoc])))
    have zk:=eq_of_beq ze;refine lB 99 ze (lL hs [.m 98 99] (ak ?_));have hwr:kv (fP d) (.mk op n q s ks)=(⟨#[45]⟩:ByteArray).data.toList++fP d (ks.getD 0 bz) 3:=by simp only[kv];repeat first|rw[if_pos oM]|rw[if_neg oM]
    have hl_:=hlen;rw[hwr] at hl_
    try simp only[List.length_append] at hl_
    refine ab hs [.m 100 0] (vE 101 hs hbs hzK ⟨⟨hnb_b1,rfl⟩,trivial⟩ (CQ K b bs (⟨#[45]⟩) _ hbs.ib hbs.hK (by first|omega|(simp only[List.length_append];omega))) (fun _ _ hs hbs=>lN (kQ (lL hs [.m 102 0,.v 103 (qP b1 8),.o 104 (qS A ps.length c) 0 8 1] (lX 105 A ps.length c 9 0 0 ((hs.f.2.1).ok oM) ?_)))));exact lH 106 (pX (ps.getD 0 aU)) hs ((hs.f.2.1).el 0 oM) (vE 107 hs hbs hzK ⟨⟨hnb_b1,rfl⟩,trivial⟩ (ih K b (bs++((⟨#[45]⟩:ByteArray).data.toList)) (ps.getD 0 aU) (ks.getD 0 bz) (3) _ _ hs.g hbs.hK hbs.j8 hbs.ib ((hs.f.1).at_ 0 oM) (hW 0 oM) (by first|omega|(simp only[List.length_append];omega))) (fun _ _ hs hbs=>lD (hs.retB hbs [] (by rw[hwr];try simp only[List.append_assoc]))))
   try rw[zd] at hs
   try rw[zd]
   refine cl (cQ ?_);have hsr:=hs;have hup:UpM [] zl zm zl zm:=UpM.refl hs.g;have hT_:=zp aM;have hwr:kv (fP d) (.mk op n q s ks)=fP d (ks.getD 0 bz) (i8 op)++(wq op).data.toList++fP d (ks.getD 1 bz) (i8 op+1):=by simp only[kv];repeat first|rw[if_pos oM]|rw[if_neg oM]
   have hl_:=hlen;rw[hwr] at hl_
   try simp only[List.length_append] at hl_
   refine cR 7 [] mixed hs ar (eV 0 76 (pB b) (eV 1 77 (qP b1 8) (Fm 2 78 [3,4,7] [(0,8,1)] (qS A ps.length c) hs (eX 3 79 A ps.length c 9 0 0 ((hs.f.2.1).ok oM) (eH 4 80 (pX (ps.getD 0 aU)) hs ((hs.f.2.1).el 0 oM) (Fm 5 81 [6,7] [(0,0,9)] (pW op n q s A ps.length c) hs (DB 6 82 hs hup (fun _ _ hs=>pN ⟨op,n,q,s,A,ps.length,c⟩ _ _ hs.g) ?_)))))));rintro _ _ _ _ _ hup hs rfl;refine Eg hs hup (fun _ _ hup hs=>?_);obtain ⟨_,hs,hbs⟩:=hbs.back hsr hup;refine Gl 7 83 hs hbs hzK ⟨⟨hnb_b1,rfl⟩,trivial⟩ (ih K b bs (ps.getD 0 aU) (ks.getD 0 bz) (i8 op) _ _ hs.g hbs.hK hbs.j8 hbs.ib ((hs.f.1).at_ 0 oM) (hW 0 oM) (by first|omega|(simp only[List.length_append];omega))) (fun _ _ hs hbs=>qI (lL hs [.m 84 0,.v 85 (pB b1),.o 86 (iV op) 0 0 1] (Db 87 hs hbs (Fe op _ _ hs.g) ?_)));rintro _ _ _ _ hs hbs rfl;refine vE 88 hs hbs hzK ⟨⟨hnb_b1,rfl⟩,trivial⟩ (CQ K b (bs++(fP d (ks.getD 0 bz) (i8 op))) (wq op) _ hbs.ib hbs.hK (by first|omega|(simp only[List.length_append];omega))) (fun zn zo hs hbs=>lN ?_);have hsr:=hs;have hup:UpM [] zn zo zn zo:=UpM.refl hs.g;refine cR 8 [] mixed hs ar (eV 0 89 (pB b) (eV 1 90 (qP b1 8) (Fm 2 91 [3,4,8] [(0,8,1)] (qS A ps.length c) hs (eX 3 92 A ps.length c 9 1 1 ((hs.f.2.1).ok oM) (eH 4 93 (pX (ps.getD 1 aU)) hs ((hs.f.2.1).el 1 oM) (Fm 5 94 [6,7,8] [(0,0,9)] (pW op n q s A ps.length c) hs (DB 6 95 hs hup (fun _ _ hs=>pN ⟨op,n,q,s,A,ps.length,c⟩ _ _ hs.g) ?_)))))));rintro _ _ _ _ _ hup hs rfl;refine eI 7 96 ((i8 op)+1) (Eg hs hup (fun _ _ hup hs=>?_));obtain ⟨_,hs,hbs⟩:=hbs.back hsr hup;exact Gl 8 97 hs hbs hzK ⟨⟨hnb_b1,rfl⟩,trivial⟩ (ih K b ((bs++(fP d (ks.getD 0 bz) (i8 op)))++((wq op).data.toList)) (ps.getD 1 aU) (ks.getD 1 bz) ((i8 op)+1) _ _ hs.g hbs.hK hbs.j8 hbs.ib ((hs.f.1).at_ 1 oM) (hW 1 oM) (by first|omega|(simp only[List.length_append];omega))) (fun _ _ hs hbs=>tD (hs.retB hbs [] (by rw[hwr];try simp only[List.append_assoc])))
  have phb8:=eq_of_beq hb8;refine lB 66 hb8 (lL hs [.m 65 66] (ak ?_));have hwr:kv (fP d) (.mk op n q s ks)=s.data.toList:=by simp only[kv];repeat first|rw[if_pos oM]|rw[if_neg oM]
  have hl_:=hlen;rw[hwr] at hl_
  try simp only[List.length_append] at hl_
  exact kQ (lL hs [.m 67 0,.v 68 (qP b1 7),.o 69 (.string s) 0 7 1] (vE 70 hs hbs hzK ⟨⟨hnb_b1,rfl⟩,trivial⟩ (CQ K b bs s _ hbs.ib hbs.hK (by first|omega|(simp only[List.length_append];omega))) (fun _ _ hs hbs=>lD (hs.retB hbs [] (by rw[hwr];try simp only[List.append_assoc])))))
 have phb7:=eq_of_beq hb7;refine lB 47 hb7 (lL hs [.m 46 47] (ak ?_));obtain ⟨k,hk9,hqk⟩:=hq1 oM;have hlq:LQ 100000000 q:=by rw[hqk];exact (LQ.int (z:=(k:Int)) oM oM).mono oM
 have hsg:0≤q.num.sign:=by rw[hqk];rw[Rat.num_natCast];cases k<;>simp[Int.sign]
 have hwr:kv (fP d) (.mk op n q s ks)=(rO k).data.toList:=by simp only[kv];rw[if_pos (show op=1 by omega),hqk];rfl
 have hl_:=hlen;rw[hwr] at hl_
 try simp only[List.length_append] at hl_
 refine ab hs [.v 48 (qP b1 2),.o 49 (qv q) 0 2 5] (Db 50 hs hbs ((by have q_:=CM k hk9 _ _ hs.g;rw[←hqk] at q_;exact q_)) ?_);rintro _ _ _ _ hs hbs rfl;refine lL hs [.m 6 50] (ah (ab hs [.v 51 (qP b1 2),.o 52 (qv q) 0 2 5] (Db 53 hs hbs (ir q hlq _ _ hs.g) ?_)));rintro _ _ _ _ hs hbs rfl;have zr:(decide ((q.num.sign:Int)<(0:Int)))=false:=decide_eq_false oM;refine lB 54 zr (lL hs [.m 55 54,.m 56 6] (Db 57 hs hbs (oA k hk9 _ _ hs.g) ?_));rintro _ _ _ _ hs hbs rfl;exact lL hs [.v 58 qF] (ag (cK (kQ (lL hs [.m 62 0,.m 63 6] (vE 64 hs hbs hzK ⟨⟨hnb_b1,rfl⟩,trivial⟩ (CQ K b bs (rO k) _ hbs.ib hbs.hK (by first|omega|(simp only[List.length_append];omega))) (fun _ _ hs hbs=>lD (hs.retB hbs [] (by rw[hwr];try simp only[List.append_assoc]))))))))
theorem x6 (d:Nat)(K b:Nat)(bs:List UInt8)(op n:Int)(q:Rat)(s:ByteArray)(A:Option Addr)(c:Nat)(ps:List PTm)(ks:List Tm)(hc:ps.length≤c)(hB:∀ (bs:List UInt8) (w:World) (h:Hp),G w h→K≤w.heap.size→J8 5 K b h→Lib.IsBuilderF 118 5 K b (Lib.byteCells (bs)) w→SlO 9 dg aU h A ps→Tms d h ps ks→bs.length+(kv (fP d) (.mk op n q s ks)).length≤100000000000→Calls Tryz.prog 52 #[pB b,fe ⟨op,n,q,s,A,ps.length,c⟩,iV 0] w (lM 118 5 K b (.tuple #[]) bs (kv (fP d) (.mk op n q s ks)) w))(least:Int)(hle:i8 op<least)(hlen:bs.length+((⟨#[40]⟩:ByteArray).data.toList++kv (fP d) (.mk op n q s ks)++(⟨#[41]⟩:ByteArray).data.toList).length≤100000000000)(w:World)(h:Hp)(g:G w h)(hKb:K≤w.heap.size)(hj8:J8 5 K b h)(hib:Lib.IsBuilderF 118 5 K b (Lib.byteCells (bs)) w)(hA:SlO 9 dg aU h A ps)(hT:Tms d h ps ks):Calls Tryz.prog 52 #[pB b,pW op n q s A ps.length c,iV least] w (lM 118 5 K b (.tuple #[]) bs ((⟨#[40]⟩:ByteArray).data.toList++kv (fP d) (.mk op n q s ks)++(⟨#[41]⟩:ByteArray).data.toList) w):=by
 obtain ⟨wz,hz0_,hs,hzK⟩:=SS.atKb g hKb;have hbs:=BSt.start hKb hj8 hib;have hln:=hT.len;have hac:=aF op;have hrk:=di op;replace hs:=((hs.aS hA).add (K:=fun h_=>Tms d h_ ps ks) hT);have hl_:=hlen
 simp only[List.length_append] at hl_
 refine go Tryz.func52 [(0,pB b),(1,pW op n q s A ps.length c),(2,iV least)] rfl (av (Gq 4 51 (pG op n q s A ps.length c) hs hbs (fun b1 w2 h3 hnb_b1 hs hbs=>ah (ab hs [.o 9 (pW op n q s A ps.length c) 0 0 9] (Db 10 hs hbs (pN ⟨op,n,q,s,A,ps.length,c⟩ _ _ hs.g) ?_)))));rintro _ w4 h5 _ hs hbs rfl;refine lL hs [.m 11 2] ?_;have hb6:(decide ((i8 op:Int)<(least:Int)))=true:=decide_eq_true oM;exact lB 12 hb6 (ak (ab hs [.m 13 0] (vE 14 hs hbs hzK ⟨⟨hnb_b1,rfl⟩,trivial⟩ (CQ K b bs (⟨#[40]⟩) _ hbs.ib hbs.hK (by first|omega|(simp only[List.length_append];omega))) (fun w7 h8 hs hbs=>aG (lL hs [.m 15 0,.o 16 (pW op n q s A ps.length c) 0 0 9] (vE 17 hs hbs hzK ⟨⟨hnb_b1,rfl⟩,trivial⟩ (hB (bs++((⟨#[40]⟩:ByteArray).data.toList)) _ _ hs.g hbs.hK hbs.j8 hbs.ib hs.f.2.1 hs.f.1 (by first|omega|(simp only[List.length_append];omega))) (fun w9 _ hs hbs=>aG (lL hs [.m 18 0] (vE 19 hs hbs hzK ⟨⟨hnb_b1,rfl⟩,trivial⟩ (CQ K b ((bs++((⟨#[40]⟩:ByteArray).data.toList))++(kv (fP d) (.mk op n q s ks))) (⟨#[41]⟩) _ hbs.ib hbs.hK (by first|omega|(simp only[List.length_append];omega))) (fun _ _ hs hbs=>lN (kX (hs.retB hbs [] (by simp only[List.append_assoc])))))))))))))
theorem Ed {d:Nat}{t:Tm}{l:Int}(h:i8 t.op<l):fP (d+1) t l=(⟨#[40]⟩:ByteArray).data.toList++kv (fP d) t++(⟨#[41]⟩:ByteArray).data.toList:=if_pos h
theorem Fh {d:Nat}{t:Tm}{l:Int}(h:l≤i8 t.op):fP (d+1) t l=kv (fP d) t:=if_neg oM
theorem vv:∀ d:Nat,∀ (K b:Nat) (bs:List UInt8) (p:PTm) (t:Tm) (least:Int) (w:World) (h:Hp),G w h→K≤w.heap.size→J8 5 K b h→Lib.IsBuilderF 118 5 K b (Lib.byteCells (bs)) w→TmH d h p t→pD d t→bs.length+(fP d t least).length≤100000000000→Calls Tryz.prog 52 #[pB b,fe p,iV least] w (lM 118 5 K b (.tuple #[]) bs (fP d t least) w)
  | 0,_,_,_,_,_,_,_,_,_,_,_,_,x,_,_=>x.elim
  | d + 1,K,b,bs,p,t,least,w,h,g,hK,j8,ib,x,tx,hl=>by
    obtain ⟨op,n,q,s,A,c,ps,ks,rfl,rfl,hc,hA,hT⟩:=x.open;obtain ⟨t1,t2,t3,t4,t5⟩:=tx;have A0:=fun (bs:List UInt8) (least:Int) (hle:least≤i8 op) (w:World) (h:Hp) (g:G w h) (hK:K≤w.heap.size) (j8:J8 5 K b h) (ib:Lib.IsBuilderF 118 5 K b (Lib.byteCells (bs)) w) (hA:SlO 9 dg aU h A ps) (hT:Tms d h ps ks) (hl:bs.length+(kv (fP d) (.mk op n q s ks)).length≤100000000000)=>xK d K b bs (vv d) op n q s A c ps ks hc t1 t2 t3 t4 t5 least hle hl w h g hK j8 ib hA hT
    by_cases hr:i8 op<least
    · rw[Ed (t:=(.mk op n q s ks)) hr] at hl ⊢
      exact x6 d K b bs op n q s A c ps ks hc (fun bs w h g hK j8 ib hA hT hl=>A0 bs 0 (by have:=di op;omega) w h g hK j8 ib hA hT hl) least hr hl w h g hK j8 ib hA hT
    · rw[Fh (t:=(.mk op n q s ks)) (by show least≤i8 op;omega)] at hl ⊢
      exact A0 bs least oM w h g hK j8 ib hA hT hl
theorem Bb (d:Nat)(hd:d≤24)(p:PTm)(t:Tm)(hW:WfT (fun s=>dK s=true) d t)(hw:cb d t≤1000)(hTx:pD d t)(hl:(fP d t 0).length≤100000000000)(w:World)(h:Hp)(g:G w h)(hT:TmH d h p t):CV 25 #[pX p] w h (.tuple #[.string ⟨(fP d t 0).toArray⟩,iV 0]):=by
 have hs:=((sS g).add (K:=fun h_=>TmH d h_ p t) hT);refine go Tryz.func25 [(0,pX p)] rfl (av (lA 1 51 (pC p) hs (fun b1 w2 h3 hs=>lL hs [.v 2 (eS),.v 3 (iV 0)] (ah (ab hs [.o 5 (pX p) 0 0 9] (ai 6 hs ((by have q_:=o9 dK fT wO (fun s h_=>mc h_) od d p t hd _ _ hs.g hs.f.1 hW;rw[if_neg oM] at q_;exact q_)) (fun w4 h5 hs=>lL hs [.v 7 qF] (ag (cK (av ?_))))))))));have hsB:=hs;refine Gx 4 118 [.pointer none,sZ] hs (fun w6 hx hxs hbk=>?_);obtain ⟨h7,hs,hj⟩:=hsB.liftJ hx
 have hj8:J8 5 w4.heap.size w4.heap.size h7:=fun c o hc e=>by
  rcases Nat.lt_or_ge c w6.heap.size with h1|h1
  ·rw[hj c hc h1] at e;injection e with e;exact .inl e.symm
  ·rw[Array.getElem?_eq_none (by have:=hs.g.size;omega)] at e;cases e
 have hib:Lib.IsBuilderF 118 5 w4.heap.size w4.heap.size (Lib.byteCells []) w6:=.inl ⟨nR _,_,hbk,World.ownsRowF_nil _ _ _ _,by simp[Value.ownBlock]⟩;refine aG (lL hs [.o 8 (pX p) 0 0 9] (Fp 9 hsB hx ((vv d w4.heap.size w4.heap.size [] p t 0 _ _ hs.g hxs hj8 hib hs.f.1 hTx (by simpa using hl)).mono fun _ _ h_=>⟨h_.1,h_.2.1,h_.2.2.1⟩) (fun w8 h9 hs hx_ hq_=>?_)))
 clear hx
 have hx:=hx_;clear hx_;have hib2:Lib.IsBuilderF 118 5 w4.heap.size w4.heap.size (Lib.byteCells (fP d t 0)) _:=hq_;refine aG (Fp 10 hsB hx ((Any.Builder_String_any_f Tryz.lays169 Tryz.Builder_Extra_169 w4.heap.size w4.heap.size (fP d t 0) _ hib2 hx.size).mono fun _ _ h_=>⟨h_.1,True.intro,h_.2.2⟩) (fun _ _ hs hx_ hq_=>?_))
 clear hx
 have hx:=hx_;clear hx_;exact lL hs [.m 2 10,.v 3 (iV 0)] (ae hs [] (.tuple #[.string (⟨(fP d t 0).toArray⟩),iV 0]) rfl)
section
variable {ok:ByteArray→Prop} {d:Nat}
theorem td {q:Rat}(h:LQ 1 q):WfT ok (d+1) (eP q):=⟨rfl,fun h=>absurd rfl h,h,fun h=>absurd (show (1:Int)=2 from h) kD,fun _=>rfl,fun _=>rfl,by show (-12:Int)≤0;decide,by show (0:Int)≤12;decide,fun i hi=>absurd hi (Nat.not_lt_zero i)⟩
theorem lZ {s:ByteArray}(h:ok s):WfT ok (d+1) (dD s):=⟨rfl,fun _=>rfl,rN kD,fun _=>h,fun h=>absurd rfl h,fun _=>rfl,by show (-12:Int)≤0;decide,by show (0:Int)≤12;decide,fun i hi=>absurd hi (Nat.not_lt_zero i)⟩
theorem tH {n:Int}{t:Tm}(x:WfT ok d t)(h1 : -12≤n)(h2:n≤12):WfT ok (d+1) (.mk 8 n 0 ⟨#[]⟩ [t]):=⟨rfl,fun _=>rfl,rN kD,fun h=>absurd (show (8:Int)=2 from h) kD,fun _=>rfl,fun h=>absurd rfl h,h1,h2,fun i hi=>by
 have:i=0:=by have:i<1:=hi;omega
 subst this;exact x⟩
theorem om {op:Int}{t u:Tm}(x:WfT ok d t)(y:WfT ok d u)(ha:fs op=2)(h2:op≠2):WfT ok (d+1) (dk op t u):=⟨ha,fun _=>rfl,rN kD,fun h=>absurd (show op=2 from h) h2,fun _=>rfl,fun _=>rfl,by show (-12:Int)≤0;decide,by show (0:Int)≤12;decide,fun i hi=>by
 have:i=0∨i=1:=by have:i<2:=hi;omega
 rcases this with rfl|rfl
 ·exact x
 ·exact y⟩
end
theorem AW {s:ByteArray}(h:dK s=true):WfT (fun s=>dK s=true) 2 (.mk 8 2 0 ⟨#[]⟩ [dD s]):=tH (lZ h) kD kD
theorem uf {s:ByteArray}(h:dK s=true):WfT (fun s=>dK s=true) 2 (dk 5 (eP ((2:Int):Rat)) (dD s)):=om (td (LQ.int kD kD)) (lZ h) kD kD
theorem A3 {s:ByteArray}:cb 2 (.mk 8 2 0 ⟨#[]⟩ [dD s])=2:=rfl
theorem Bd {s:ByteArray}:cb 2 (dk 5 (eP ((2:Int):Rat)) (dD s))=2:=rfl
theorem F0 {h:Hp}{b:Nat}{s:ByteArray}{Ax:Option Addr}{cx:Nat}(hA:SlO 9 dg aU h (some ⟨b,0,none⟩) [(⟨1,0,((2:Int):Rat),⟨#[]⟩,none,0,0⟩:PTm),(⟨2,0,0,s,Ax,0,cx⟩:PTm)]):TmH 2 h (⟨5,0,0,⟨#[]⟩,some ⟨b,0,none⟩,2,2⟩:PTm) (dk 5 (eP ((2:Int):Rat)) (dD s)) :=
 TmH.mk (ps:=[(⟨1,0,((2:Int):Rat),⟨#[]⟩,none,0,0⟩:PTm),(⟨2,0,0,s,Ax,0,cx⟩:PTm)]) (ks:=[_,_]) ⟨rfl,fun i hi=>by
  have:i=0∨i=1:=by have:i<2:=hi;omega
  rcases this with rfl|rfl
  ·exact TmH.mk (ps:=[]) (ks:=[]) Tms.nil (Nat.le_refl _) SlO.nil
  ·exact ⟨rfl,rfl,rfl,rfl,rfl,Nat.zero_le _,[],rfl,⟨fun hp=>absurd hp (Nat.lt_irrefl 0),fun i hi=>absurd hi (Nat.not_lt_zero i)⟩,fun i hi=>absurd hi (Nat.not_lt_zero i)⟩⟩ (Nat.le_refl _) hA
theorem uG {h:Hp}{p:PTm}{s:ByteArray}(x:TmH 2 h p (.mk 8 2 0 ⟨#[]⟩ [dD s])):∃ (A:Option Addr) (c:Nat) (Ax:Option Addr) (cx:Nat),p=⟨8,2,0,⟨#[]⟩,A,1,c⟩∧SlO 9 dg aU h A [(⟨2,0,0,s,Ax,0,cx⟩:PTm)]:=by
  obtain ⟨h1,h2,h3,h4,h5,h6,ps,h7,h8,h9⟩:=x;obtain ⟨op,n,q,s',A,m,c⟩:=p;have k:=h9 0 (by show 0<1;decide)
  match ps,h7,h8,k with
  | [px],_,h8,k =>
    obtain ⟨k1,k2,k3,k4,k5,_⟩:=k;obtain ⟨op',n',q',s2,A',m',c'⟩:=px;refine ⟨A,c,A',c',?_,?_⟩
    · have e1:op=8:=h1
      have e2:n=2:=h2;have e3:q=0:=h3;have e4:s'=⟨#[]⟩:=h4;have e5:m=1:=h5;rw[e1,e2,e3,e4,e5]
    · have e1:op'=2:=k1
      have e2:n'=0:=k2;have e3:q'=0:=k3;have e4:s2=s:=k4;have e5:m'=0:=k5;rw[e1,e2,e3,e4,e5] at h8;exact h8
theorem BK (s:ByteArray)(hs0:dK s=true)(Ax:Option Addr)(cx:Nat)(A:Option Addr)(c:Nat)(w:World)(h:Hp)(g:G w h)(hA:SlO 9 dg aU h A ([(⟨2,0,0,s,Ax,0,cx⟩:PTm)]:List PTm))(hT:TmH 2 h ⟨8,2,0,⟨#[]⟩,A,1,c⟩ (.mk 8 2 0 ⟨#[]⟩ [dD s])):CR 26 #[.agg #[iV 8,iV 2,.bool false,uV 0,eS,uV 0,eS,eS,.slice A 1 c],.string s] w h (fun v h1=>∃ p2,v=.tuple #[fe p2,iV 0]∧TmH 2 h1 p2 (dk 5 (eP ((2:Int):Rat)) (dD s))):=by
 have hs:=(((sS g).aS hA).add (K:=fun h_=>TmH 2 h_ ⟨8,2,0,⟨#[]⟩,A,1,c⟩ (.mk 8 2 0 ⟨#[]⟩ [dD s])) hT);refine go Tryz.func26 [(0,.agg #[iV 8,iV 2,qF,uV 0,eS,uV 0,eS,eS,qS A 1 c]),(1,.string s)] rfl (av (lA 2 51 ([iV 8,iV 2,qF,uV 0,eS,uV 0,eS,eS,qS A 1 c]) hs (fun b1 w2 h3 hs=>lA 4 51 ([iV 0,iV 0,qF,uV 0,eS,uV 0,eS,eS,sZ]) hs (fun b4 w5 h6 hs=>lL hs [.v 5 (iV 0)] (ah (ab hs [.o 9 (.agg #[iV 8,iV 2,qF,uV 0,eS,uV 0,eS,eS,qS A 1 c]) 1 0 9] (ai 10 hs ((by have q_:=o9 dK fT wO (fun s h_=>mc h_) od 2 ⟨8,2,0,⟨#[]⟩,A,1,c⟩ (.mk 8 2 0 ⟨#[]⟩ [dD s]) oM _ _ hs.g hs.f.1 (AW hs0);rw[if_neg (by rw[A3];omega)] at q_;exact q_)) (fun w7 h8 hs=>lL hs [.v 11 qF] (ag (cK (ab hs [.o 14 (.agg #[iV 8,iV 2,qF,uV 0,eS,uV 0,eS,eS,qS A 1 c]) 1 0 9,.m 15 1] (lC 16 hs (xk s Ax cx A c _ _ hs.g hs.f.2.1) ?_))))))))))));rintro _ w9 _ hs ⟨b0,bd,rfl,hAd⟩;replace hs:=hs.aS hAd;refine lL hs [.m 13 16,.v 17 (pX (⟨8,2,0,⟨#[]⟩,sB b0,1,1⟩:PTm)),.v 18 (pX (⟨5,0,0,⟨#[]⟩,sB bd,2,2⟩:PTm))] (lA 6 51 ([iV 0,iV 0,qF,uV 0,eS,uV 0,eS,eS,sZ]) hs (fun b11 _ _ hs=>lA 7 51 ([iV 0,iV 0,qF,uV 0,eS,uV 0,eS,eS,sZ]) hs (fun b14 _ _ hs=>lP 1 0 (pC (⟨8,2,0,⟨#[]⟩,sB b0,1,1⟩:PTm)) hs (fun _ hs=>lP 0 0 (pC (⟨5,0,0,⟨#[]⟩,sB bd,2,2⟩:PTm)) hs (fun _ hs=>ah ?_)))));replace hs:=hs.add (K:=fun h_=>TmH 2 h_ (⟨5,0,0,⟨#[]⟩,sB bd,2,2⟩:PTm) (dk 5 (eP ((2:Int):Rat)) (dD s))) (F0 hs.f.1);refine ab hs [.o 19 (pX (⟨5,0,0,⟨#[]⟩,sB bd,2,2⟩:PTm)) 0 0 9] (ai 20 hs ((by have q_:=o9 dK fT wO (fun s h_=>mc h_) od 2 (⟨5,0,0,⟨#[]⟩,sB bd,2,2⟩:PTm) (dk 5 (eP ((2:Int):Rat)) (dD s)) oM _ _ hs.g hs.f.1 (uf hs0);rw[if_neg (by rw[Bd];omega)] at q_;exact q_)) (fun _ _ hs=>lL hs [.m 8 20] (aG (lL hs [.m 21 8,.v 22 qF] (ag (cK (ab hs [.o 25 (pX (⟨5,0,0,⟨#[]⟩,sB bd,2,2⟩:PTm)) 0 0 9] (lC 26 hs (pH (fun s=>dK s=true) 2 (⟨5,0,0,⟨#[]⟩,sB bd,2,2⟩:PTm) (dk 5 (eP ((2:Int):Rat)) (dD s)) _ _ hs.g hs.f.1 (uf hs0)) ?_))))))));rintro _ _ _ hs ⟨p2,rfl,hP2⟩;replace hs:=(hs.add (K:=fun h_=>TmH 2 h_ p2 (dk 5 (eP ((2:Int):Rat)) (dD s))) hP2);exact lP 2 0 (pC p2) hs (fun _ hs=>lL hs [.v 5 (iV 0)] (ae hs [(2,0,9)] (.tuple #[pX p2,iV 0]) (⟨p2,rfl,hs.f.1⟩)))
theorem BD (s:ByteArray)(hs0:dK s=true)(p:PTm)(w:World)(h:Hp)(g:G w h)(hT:TmH 2 h p (.mk 8 2 0 ⟨#[]⟩ [dD s])):CR 26 #[fe p,.string s] w h (fun v h1=>∃ p2,v=.tuple #[fe p2,iV 0]∧TmH 2 h1 p2 (dk 5 (eP ((2:Int):Rat)) (dD s))):=by
 obtain ⟨A,c,Ax,cx,rfl,hA⟩:=uG hT;exact BK s hs0 Ax cx A c w h g hA hT
def jd:Tm:=(dk 5 (dD ⟨#[97]⟩) (.mk 8 2 0 ⟨#[]⟩ [dk 3 (dD ⟨#[98]⟩) (eP (((1:Nat):Rat)))]))
theorem DX:dq DJ (fun _=>none) ⟨#[97,42,40,98,43,49,41,94,50]⟩ 40 .sum 0=some (.ok jd 9):=by kernel_rfl
theorem DG:dq DJ (fun _=>none) ⟨#[120,94,50]⟩ 40 .sum 0=some (.ok (.mk 8 2 0 ⟨#[]⟩ [dD ⟨#[120]⟩]) 3):=by kernel_rfl
theorem B2:dK ⟨#[120]⟩=true:=by decide +kernel
theorem AR:WfT (fun s=>dK s=true) 4 jd:=om (lZ (by decide +kernel)) (tH (om (lZ (by decide +kernel)) (td (LQ.int (z:=1) kD kD)) kD kD) kD kD) kD kD
theorem Bc:cb 4 jd=5:=rfl
theorem Ay:fP 4 jd 0=[97,32,42,32,40,98,32,43,32,49,41,94,50]:=by decide +kernel
theorem AB:fP 2 (dk 5 (eP ((2:Int):Rat)) (dD ⟨#[120]⟩)) 0=[50,32,42,32,120]:=by decide +kernel
section
variable {d:Nat}
theorem tB {k:Nat}(h:k<100):pD (d+1) (eP ((k:Nat):Rat)):=⟨rfl,⟨by decide,by decide⟩,fun _=>⟨k,h,rfl⟩,⟨by decide,by decide⟩,fun i hi=>absurd hi (Nat.not_lt_zero i)⟩
theorem oq {s:ByteArray}:pD (d+1) (dD s):=⟨rfl,⟨by decide,by decide⟩,fun h=>absurd h kD,⟨by decide,by decide⟩,fun i hi=>absurd hi (Nat.not_lt_zero i)⟩
theorem Ce {n:Int}{t:Tm}(h:0≤n∧n<100)(x:pD d t):pD (d+1) (.mk 8 n 0 ⟨#[]⟩ [t]):=⟨rfl,⟨by decide,by decide⟩,fun h=>absurd h kD,h,fun i hi=>by
 have:i=0:=by have:i<1:=hi;omega
 subst this;exact x⟩
theorem oP {op:Int}{t u:Tm}(ho:1<op∧op≤8)(ha:fs op=2)(x:pD d t)(y:pD d u):pD (d+1) (dk op t u):=⟨ha,⟨by omega,ho.2⟩,fun h=>by omega,⟨by decide,by decide⟩,fun i hi=>by
 have:i=0∨i=1:=by have:i<2:=hi;omega
 rcases this with rfl|rfl
 ·exact x
 ·exact y⟩
end
theorem ED:pD 4 jd:=oP kD kD oq (Ce kD (oP kD kD oq (tB kD)))
theorem D6:pD 2 (dk 5 (eP ((2:Int):Rat)) (dD ⟨#[120]⟩)):=oP kD kD (tB (k:=2) kD) oq
theorem sI  (w:World)(h:Hp)(g:G w h):CV 11 #[] w h (.bool true):=by
 have hs:=sS g;refine go Tryz.func11 [] rfl (ab hs [.v 0 qF] (aG (lC 12 hs (vx ⟨#[97,42,40,98,43,49,41,94,50]⟩ kD 40 jd 9 DX kD 4 kD AR (by rw[Bc];decide) _ _ hs.g) ?_)));rintro _ w1 h2 hs ⟨pk,rfl,hP1⟩;replace hs:=(hs.add (K:=fun h_=>TmH 4 h_ pk jd) hP1);refine lL hs [.m 11 12,.v 13 (pX pk),.v 14 (.agg #[iV 0,iV 0,iV 0])] (lA 1 51 ([iV 0,iV 0,qF,uV 0,eS,uV 0,eS,eS,sZ]) hs (fun b3 w4 h5 hs=>lA 2 78 ([iV 0,iV 0,iV 0]) hs (fun b6 w7 h8 hs=>lP 1 0 (pC pk) hs (fun w9 hs=>lP 0 0 ([iV 0,iV 0,iV 0]) hs (fun _ hs=>aG (lL hs [.o 16 (pX pk) 1 0 9] (ai 17 hs ((by have q_:=Bb 4 kD pk jd AR (by rw[Bc];decide) ED (by rw[Ay];decide) _ _ hs.g (hs.f.1);rw[Ay] at q_;exact q_)) (fun _ _ hs=>lL hs [.m 15 17,.v 18 (.string (⟨#[97,32,42,32,40,98,32,43,32,49,41,94,50]⟩)),.v 19 (iV 0),.m 3 18,.m 4 19] (aG (lC 21 hs (vx ⟨#[120,94,50]⟩ kD 40 (.mk 8 2 0 ⟨#[]⟩ [dD ⟨#[120]⟩]) 3 DG kD 2 kD (AW B2) (by rw[A3];decide) _ _ hs.g) ?_))))))))));rintro _ _ _ hs ⟨px,rfl,hP2⟩;replace hs:=(hs.add (K:=fun h_=>TmH 2 h_ px (.mk 8 2 0 ⟨#[]⟩ [dD ⟨#[120]⟩])) hP2);refine lL hs [.m 20 21,.v 22 (pX px),.v 23 (.agg #[iV 0,iV 0,iV 0])] (lA 5 51 ([iV 0,iV 0,qF,uV 0,eS,uV 0,eS,eS,sZ]) hs (fun b15 _ _ hs=>lA 6 78 ([iV 0,iV 0,iV 0]) hs (fun b18 _ _ hs=>lP 1 0 (pC px) hs (fun _ hs=>lP 0 0 ([iV 0,iV 0,iV 0]) hs (fun _ hs=>aG (lL hs [.o 25 (pX px) 1 0 9] (lC 26 hs (BD ⟨#[120]⟩ B2 px _ _ hs.g hs.f.1) ?_)))))));rintro _ _ _ hs ⟨pr,rfl,hP3⟩;replace hs:=(hs.add (K:=fun h_=>TmH 2 h_ pr (dk 5 (eP ((2:Int):Rat)) (dD ⟨#[120]⟩))) hP3);refine lL hs [.m 24 26,.v 27 (pX pr),.v 28 (iV 0)] (lA 7 51 ([iV 0,iV 0,qF,uV 0,eS,uV 0,eS,eS,sZ]) hs (fun b25 _ _ hs=>lP 0 0 (pC pr) hs (fun _ hs=>lL hs [.m 8 28] (aG (lL hs [.o 30 (pX pr) 0 0 9] (ai 31 hs ((by have q_:=Bb 2 kD pr (dk 5 (eP ((2:Int):Rat)) (dD ⟨#[120]⟩)) (uf B2) (by rw[Bd];decide) D6 (by rw[AB];decide) _ _ hs.g (hs.f.1);rw[AB] at q_;exact q_)) (fun _ _ hs=>lL hs [.m 29 31,.v 32 (.string (⟨#[50,32,42,32,120]⟩)),.v 33 (iV 0),.m 9 32,.m 10 33] (aG (lL hs [.v 34 (pB b6),.o 35 (iV 0) 3 0 1,.v 36 qT,.m 37 36,.m 38 4,.v 39 qT,.v 40 qT,.m 41 40,.m 42 3,.v 43 qT,.v 44 qT,.m 45 44,.m 46 8,.v 47 qT,.v 48 qT,.m 49 48,.m 50 10,.v 51 qT,.v 52 qT,.m 53 52,.m 54 9,.v 55 qT,.v 56 qT,.m 0 56] (lN (bI [(0,qT)] ?_)))))))))));exact kX (hs.ret [] qT rfl)
instance (s:ByteArray) (ns:List ByteArray):Decidable (s∈ns):=@List.instDecidableMemOfLawfulBEq ByteArray instBEqOfDecidableEq inferInstance s ns
structure LaidO (pl:ByteArray→Int) (d:Nat) (h:Hp) (rl:List RSt) (ss:List OSt) (l:List Stp):Prop where
  rs:RSs h rl ss
  mp:ss.map OSt.stp=l
  sm:FL ss
section
variable {pl:ByteArray→Int} {d k:Nat} {l:List Stp} {ks:List Tm} {za zb:Int}
end
theorem F2 (b:Bool)(zA:Option Addr)(zn zc:Nat)(dA:Option Addr)(dn dc:Nat)(w:World)(h:Hp)(g:G w h):CV 31 #[.agg #[.bool b,.slice zA zn zc,.slice dA dn dc]] w h (e7 ⟨1,0,b,zA,zn,zc,dA,dn,dc,⟨#[]⟩,none,0,0⟩):=by
 have hs:=sS g;exact go Tryz.func31 [(0,.agg #[.bool b,qS zA zn zc,qS dA dn dc])] rfl (av (lA 1 28 ([.bool b,qS zA zn zc,qS dA dn dc]) hs (fun b1 w2 h3 hs=>lA 2 31 ([iV 0,iV 0,qF,sZ,sZ,eS,sZ]) hs (fun b4 w5 h6 hs=>aG (lL hs [.o 3 (.agg #[.bool b,qS zA zn zc,qS dA dn dc]) 1 0 3,.v 4 (.agg #[iV 1,iV 0,.bool b,qS zA zn zc,qS dA dn dc,eS,sZ])] (lP 0 0 ([iV 1,iV 0,.bool b,qS zA zn zc,qS dA dn dc,eS,sZ]) hs (fun w7 hs=>ae hs [(0,0,7)] (.agg #[iV 1,iV 0,.bool b,qS zA zn zc,qS dA dn dc,eS,sZ]) rfl)))))))
theorem EK (op:Int)(ra rb:RTm)(w:World)(h:Hp)(g:G w h):CR 34 #[iV op,.agg #[iV ra.op,iV ra.n,.bool ra.neg,.slice ra.zA ra.zn ra.zc,.slice ra.dA ra.dn ra.dc,.string ra.s,.slice ra.A ra.m ra.c],.agg #[iV rb.op,iV rb.n,.bool rb.neg,.slice rb.zA rb.zn rb.zc,.slice rb.dA rb.dn rb.dc,.string rb.s,.slice rb.A rb.m rb.c]] w h (fun v h1=>∃ b,v=e7 ⟨op,0,false,none,0,0,none,0,0,⟨#[]⟩,sB b,2,2⟩∧SlO 7 fO ax h1 (sB b) [ra,rb]):=by
 have hs:=sS g;refine go Tryz.func34 [(0,iV op),(1,.agg #[iV ra.op,iV ra.n,.bool ra.neg,qS ra.zA ra.zn ra.zc,qS ra.dA ra.dn ra.dc,.string ra.s,qS ra.A ra.m ra.c]),(2,.agg #[iV rb.op,iV rb.n,.bool rb.neg,qS rb.zA rb.zn rb.zc,qS rb.dA rb.dn rb.dc,.string rb.s,qS rb.A rb.m rb.c])] rfl (av (lA 4 31 ([iV ra.op,iV ra.n,.bool ra.neg,qS ra.zA ra.zn ra.zc,qS ra.dA ra.dn ra.dc,.string ra.s,qS ra.A ra.m ra.c]) hs (fun b1 w2 h3 hs=>lA 5 31 ([iV rb.op,iV rb.n,.bool rb.neg,qS rb.zA rb.zn rb.zc,qS rb.dA rb.dn rb.dc,.string rb.s,qS rb.A rb.m rb.c]) hs (fun b4 w5 h6 hs=>lA 6 31 ([iV 0,iV 0,qF,sZ,sZ,eS,sZ]) hs (fun b7 w8 h9 hs=>aG (lL hs [.m 7 0,.o 8 (.agg #[iV ra.op,iV ra.n,.bool ra.neg,qS ra.zA ra.zn ra.zc,qS ra.dA ra.dn ra.dc,.string ra.s,qS ra.A ra.m ra.c]) 2 0 7,.o 9 (.agg #[iV rb.op,iV rb.n,.bool rb.neg,qS rb.zA rb.zn rb.zc,qS rb.dA rb.dn rb.dc,.string rb.s,qS rb.A rb.m rb.c]) 1 0 7] (lR 10 31 2 ([iV ra.op,iV ra.n,.bool ra.neg,qS ra.zA ra.zn ra.zc,qS ra.dA ra.dn ra.dc,.string ra.s,qS ra.A ra.m ra.c,iV rb.op,iV rb.n,.bool rb.neg,qS rb.zA rb.zn rb.zc,qS rb.dA rb.dn rb.dc,.string rb.s,qS rb.A rb.m rb.c]) hs (fun za _ _ hs=>?_))))))));replace hs:=hs.aS (SlO.of_flat (sz:=7) (f:=fO) (d:=ax) (b:=za) (o:=0) (l:=([(⟨ra.op,ra.n,ra.neg,ra.zA,ra.zn,ra.zc,ra.dA,ra.dn,ra.dc,ra.s,ra.A,ra.m,ra.c⟩:RTm),(⟨rb.op,rb.n,rb.neg,rb.zA,rb.zn,rb.zc,rb.dA,rb.dn,rb.dc,rb.s,rb.A,rb.m,rb.c⟩:RTm)]:List RTm)) (fun _=>rfl) hs.f.1);exact lL hs [.v 11 (.agg #[iV op,iV 0,qF,sZ,sZ,eS,qS (sB za) 2 2])] (lP 0 0 ([iV op,iV 0,qF,sZ,sZ,eS,qS (sB za) 2 2]) hs (fun _ hs=>ae hs [(0,0,7)] (.agg #[iV op,iV 0,qF,sZ,sZ,eS,qS (sB za) 2 2]) (⟨_,rfl,hs.f.1⟩)))
section
variable {nm:Int→ByteArray} {l:List Stp} {inp:Int} {h:Hp} {k:Nat} {dp:Nat→Nat}
variable (hdp:DpS dp l) (hF:∀ k,k<l.length→gU inp k (l.getD k dX))
include hdp hF
end
section
variable {okb amb:Nat→Bool} {n i:Nat}
end
theorem F8:∀ s,fT s→∀ (w:World) (h:Hp),G w h→Calls Tryz.prog 72 #[.string s] w (Ret w h (fun v _=>∃ b,v=.bool b∧b=dK s)):=fun s hs w h g =>
 (Cm s (by unfold fT at hs;omega) w h g).mono fun e w' ⟨v,h',e1,u,e2⟩=>⟨v,h',e1,u,_,e2,rfl⟩
theorem Fw:∀ s,fT s→∀ (w:World) (h:Hp),G w h→Calls Tryz.prog 85 #[.string s] w (Ret w h (fun v _=>∃ b,v=.bool b∧b=dK s)):=fun s hs w h g =>
 (Gh s (by unfold fT at hs;omega) w h g).mono fun e w' ⟨v,h',e1,u,e2⟩=>⟨v,h',e1,u,_,e2,rfl⟩
theorem oC  (w:World)(h:Hp)(g:G w h):CR 18 #[] w h (fun v h1=>∃ b,v=.slice (sB b) 3 3∧SlO 1 Ea ⟨#[]⟩ h1 (sB b) ([⟨#[120]⟩,⟨#[121]⟩,⟨#[122]⟩]:List ByteArray)):=by
 have hs:=sS g;refine go Tryz.func18 [] rfl (ab hs [.v 0 (sZ)] (aG (lR 1 9 3 ([.string (⟨#[120]⟩),.string (⟨#[121]⟩),.string (⟨#[122]⟩)]) hs (fun b1 w2 h3 hs=>?_))));replace hs:=hs.aS (SlO.of_flat (sz:=1) (f:=Ea) (d:=⟨#[]⟩) (b:=b1) (o:=0) (l:=([⟨#[120]⟩,⟨#[121]⟩,⟨#[122]⟩]:List ByteArray)) (fun _=>rfl) hs.f.1);exact lL hs [.m 0 1] (ae hs [] (qS (sB b1) 3 3) (⟨_,rfl,hs.f.1⟩))
theorem Eo (op:Int)(ra:RTm)(w:World)(h:Hp)(g:G w h):CR 35 #[iV op,.agg #[iV ra.op,iV ra.n,.bool ra.neg,.slice ra.zA ra.zn ra.zc,.slice ra.dA ra.dn ra.dc,.string ra.s,.slice ra.A ra.m ra.c]] w h (fun v h1=>∃ b,v=e7 ⟨op,0,false,none,0,0,none,0,0,⟨#[]⟩,sB b,1,1⟩∧SlO 7 fO ax h1 (sB b) [ra]):=by
 have hs:=sS g;refine go Tryz.func35 [(0,iV op),(1,.agg #[iV ra.op,iV ra.n,.bool ra.neg,qS ra.zA ra.zn ra.zc,qS ra.dA ra.dn ra.dc,.string ra.s,qS ra.A ra.m ra.c])] rfl (av (lA 3 31 ([iV ra.op,iV ra.n,.bool ra.neg,qS ra.zA ra.zn ra.zc,qS ra.dA ra.dn ra.dc,.string ra.s,qS ra.A ra.m ra.c]) hs (fun b1 w2 h3 hs=>lA 4 31 ([iV 0,iV 0,qF,sZ,sZ,eS,sZ]) hs (fun b4 w5 h6 hs=>aG (lL hs [.m 5 0,.o 6 (.agg #[iV ra.op,iV ra.n,.bool ra.neg,qS ra.zA ra.zn ra.zc,qS ra.dA ra.dn ra.dc,.string ra.s,qS ra.A ra.m ra.c]) 1 0 7] (lR 7 31 1 ([iV ra.op,iV ra.n,.bool ra.neg,qS ra.zA ra.zn ra.zc,qS ra.dA ra.dn ra.dc,.string ra.s,qS ra.A ra.m ra.c]) hs (fun b7 w8 h9 hs=>?_)))))));replace hs:=hs.aS (SlO.of_flat (sz:=7) (f:=fO) (d:=ax) (b:=b7) (o:=0) (l:=([(⟨ra.op,ra.n,ra.neg,ra.zA,ra.zn,ra.zc,ra.dA,ra.dn,ra.dc,ra.s,ra.A,ra.m,ra.c⟩:RTm)]:List RTm)) (fun _=>rfl) hs.f.1);exact lL hs [.v 8 (.agg #[iV op,iV 0,qF,sZ,sZ,eS,qS (sB b7) 1 1])] (lP 0 0 ([iV op,iV 0,qF,sZ,sZ,eS,qS (sB b7) 1 1]) hs (fun _ hs=>ae hs [(0,0,7)] (.agg #[iV op,iV 0,qF,sZ,sZ,eS,qS (sB b7) 1 1]) (⟨_,rfl,hs.f.1⟩)))
theorem E5 (ra:RTm)(nn:Int)(w:World)(h:Hp)(g:G w h):CR 15 #[.agg #[iV ra.op,iV ra.n,.bool ra.neg,.slice ra.zA ra.zn ra.zc,.slice ra.dA ra.dn ra.dc,.string ra.s,.slice ra.A ra.m ra.c],iV nn] w h (fun v h1=>∃ b,v=e7 ⟨8,nn,false,none,0,0,none,0,0,⟨#[]⟩,sB b,1,1⟩∧SlO 7 fO ax h1 (sB b) [ra]):=by
 have hs:=sS g;refine go Tryz.func15 [(0,.agg #[iV ra.op,iV ra.n,.bool ra.neg,qS ra.zA ra.zn ra.zc,qS ra.dA ra.dn ra.dc,.string ra.s,qS ra.A ra.m ra.c]),(1,iV nn)] rfl (av (lA 2 31 ([iV ra.op,iV ra.n,.bool ra.neg,qS ra.zA ra.zn ra.zc,qS ra.dA ra.dn ra.dc,.string ra.s,qS ra.A ra.m ra.c]) hs (fun b1 w2 h3 hs=>lA 4 31 ([iV 0,iV 0,qF,sZ,sZ,eS,sZ]) hs (fun b4 w5 h6 hs=>aG (lL hs [.m 5 1,.o 6 (.agg #[iV ra.op,iV ra.n,.bool ra.neg,qS ra.zA ra.zn ra.zc,qS ra.dA ra.dn ra.dc,.string ra.s,qS ra.A ra.m ra.c]) 1 0 7] (lR 7 31 1 ([iV ra.op,iV ra.n,.bool ra.neg,qS ra.zA ra.zn ra.zc,qS ra.dA ra.dn ra.dc,.string ra.s,qS ra.A ra.m ra.c]) hs (fun b7 w8 h9 hs=>?_)))))));replace hs:=hs.aS (SlO.of_flat (sz:=7) (f:=fO) (d:=ax) (b:=b7) (o:=0) (l:=([(⟨ra.op,ra.n,ra.neg,ra.zA,ra.zn,ra.zc,ra.dA,ra.dn,ra.dc,ra.s,ra.A,ra.m,ra.c⟩:RTm)]:List RTm)) (fun _=>rfl) hs.f.1);exact lL hs [.v 8 (.agg #[iV 8,iV nn,qF,sZ,sZ,eS,qS (sB b7) 1 1])] (lP 0 0 ([iV 8,iV nn,qF,sZ,sZ,eS,qS (sB b7) 1 1]) hs (fun _ hs=>ae hs [(0,0,7)] (.agg #[iV 8,iV nn,qF,sZ,sZ,eS,qS (sB b7) 1 1]) (⟨_,rfl,hs.f.1⟩)))
end Go.Proofs.YtinhhhfjchckcaaGreatDoor
