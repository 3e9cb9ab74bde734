/- Laws of this claim, part 6. -/
import Derived.Test.YtnphimgdpdiekaaGreatDoorQe0
import Derived.Test.YtnphimgdpdiekaaGreatDoorQe1
import Derived.Test.YtnphimgdpdiekaaGreatDoorQe2
import Derived.Test.YtnphimgdpdiekaaGreatDoorQe3
import Derived.Test.YtnphimgdpdiekaaGreatDoorQe4
set_option maxRecDepth 100000
set_option maxHeartbeats 4000000
namespace Go.Proofs.YtnphimgdpdiekaaGreatDoor
open _root_.Array renaming getElem?_append_left -> tw, getElem?_eq_some_iff -> i2, getElem?_push_size -> gg, getElem?_setIfInBounds_ne -> la, getElem?_setIfInBounds_self_of_lt -> FA
open Bool renaming and_eq_true -> na, not_not -> Ov
open List renaming all_eq_true -> o0, eq_nil_of_length_eq_zero -> z6, ext_getElem -> NY, getD_eq_getElem?_getD -> LH, getElem?_eq_getElem -> On, getElem?_eq_some_iff -> LA, getElem?_map -> MB, getElem?_set -> Ol, getElem?_zipIdx -> Oq, getElem_map -> vj, getElem_mem -> gq, length_map -> N2, length_replicate -> N6, length_set -> LB, map_cons -> D1, mem_cons -> g4, mem_iff_getElem -> vi, mem_iff_getElem? -> Oo, mem_map -> g1, mem_range -> po, mem_singleton -> te, mergeSort_perm -> Ot, range -> pa, replicate -> As, set_eq_of_length_le -> Ow, size_toArray -> zzq, toArray -> Nf
open Nat renaming le_of_ble_eq_true -> Lz, le_refl -> ep, le_trans -> e4, lt_or_ge -> ea, lt_succ_iff_lt_or_eq -> Ou, lt_succ_self -> Ox, not_lt_zero -> N8, succ_lt_succ -> Om, succ_pos -> MW, zero_add -> Ab, zero_le -> MG
open Rat renaming num_eq_zero -> NT
open Go.RowKit
open Go.RowKit Go.Shelf
open Go.RowKit Go.WideMaps
section
variable {d:Nat} {h:Hp}
theorem r8:RZ h (false,.slice none 0 0,.slice none 0 0) 0:=⟨false,⟨none,0,none,0,rfl,ep _,ep _,SlO.nil,SlO.nil⟩,fun _=>rfl⟩
theorem FK {b:Bool}{l a:Option Addr}{e f j c:Nat}{q:Rat}(hz:RZ h (b,.slice l e f,.slice a j c) q):RmH (d+1) h ⟨1,0,b,l,e,f,a,j,c,⟨#[]⟩,none,0,0⟩ (.mk 1 0 q ⟨#[]⟩ []) :=
 ⟨rfl,rfl,hz,rfl,rfl,ep _,[],rfl,SlO.nil,fun i hi=>absurd hi (N8 i)⟩
theorem Di {s:ByteArray}:RmH (d+1) h ⟨2,0,false,none,0,0,none,0,0,s,none,0,0⟩ (.mk 2 0 0 s []) :=
 ⟨rfl,rfl,r8,rfl,rfl,ep _,[],rfl,SlO.nil,fun i hi=>absurd hi (N8 i)⟩
theorem xY {op n:Int}{p:RTm}{t:Tm}{b:Nat}(x:RmH d h p t)(a:SlO 7 bD bT h (some ⟨b,0,none⟩) [p]):RmH (d+1) h ⟨op,n,false,none,0,0,none,0,0,⟨#[]⟩,some ⟨b,0,none⟩,1,1⟩ (.mk op n 0 ⟨#[]⟩ [t]) :=
 ⟨rfl,rfl,r8,rfl,rfl,ep _,[p],rfl,a,fun i hi=>by
  have:i=0:=by have:i<1:=hi;omega
  subst this;exact x⟩
theorem F0 {op:Int}{p q:RTm}{t u:Tm}{b:Nat}(x:RmH d h p t)(y:RmH d h q u)(a:SlO 7 bD bT h (some ⟨b,0,none⟩) [p,q]):RmH (d+1) h ⟨op,0,false,none,0,0,none,0,0,⟨#[]⟩,some ⟨b,0,none⟩,2,2⟩ (.mk op 0 0 ⟨#[]⟩ [t,u]) :=
 ⟨rfl,rfl,r8,rfl,rfl,ep _,[p,q],rfl,a,fun i hi=>by
  have:i=0\/i=1:=by have:i<2:=hi;omega
  rcases this with rfl|rfl
  ·exact x
  ·exact y⟩
end
theorem Rms.mono {d e:Nat}{h:Hp}{b:List RTm}{a:List Tm}(x:Rms d h b a)(u:d<=e):Rms e h b a:=⟨x.len,fun i hi=>(x.at_ i hi).mono u⟩
theorem Rms.set {d:Nat}{h:Hp}{b:List RTm}{a:List Tm}{r:RTm}{t:Tm}(x:Rms d h b a)(k:Nat)(y:RmH d h r t):Rms d h (b.set k r) (a.set k t):=by
 refine ⟨by simp[x.len],fun i hi=>?_⟩;rw[LB] at hi
 rw[LH,LH,Ol,Ol,x.len]
 by_cases e:k=i
 ·subst e
  rw[if_pos rfl,if_pos rfl,if_pos hi,if_pos hi];exact y
 ·rw[if_neg e,if_neg e,<-LH,<-LH];exact x.at_ i hi
def gm (s:ByteArray):Prop:=s.size<=1000
theorem Co {s:ByteArray}(h:EX s):gm s:=by
 rcases h with rfl|rfl|rfl<;>(unfold gm;decide)
theorem Ew:gm ⟨#[]⟩:=by unfold gm;decide
def SpO (d:Nat)(h:Hp)(r:RTm)(t:Tm):Prop:=RmH (d+3) h r t/\SmT1 gm (d+3) t
theorem SpO.gw {d:Nat}{h h':Hp}{r:RTm}{t:Tm}(x:SpO d h r t)(u:Gw h h'):SpO d h' r t:=⟨x.1.gw u,x.2⟩
theorem fx {d:Nat}{t:Tm}(w:WfT1 EX d t):SmT1 gm d t:=w.sm (sm:=gm) (fun _ h=>Co h) Ew
theorem vS {α:Type}{l:List α}{k i:Nat}{x d:α}(p:α->Prop)(h:∀ i,i<l.length->p (l.getD i d))(a:p x)(hi:i<(l.set k x).length):p ((l.set k x).getD i d):=by
 rw[LB] at hi
 rw[LH,Ol]
 by_cases e:k=i
 ·subst e
  rw[if_pos rfl,if_pos hi];exact a
 ·rw[if_neg e,<-LH];exact h i hi
theorem rW {α:Type}{l:List α}{i:Nat}{x d:α}(p:α->Prop)(h:∀ i,i<l.length->p (l.getD i d))(a:p x)(hi:i<(l++[x]).length):p ((l++[x]).getD i d):=by
 rw[List.length_append,List.length_singleton] at hi
 rw[eA]
 by_cases e:i<l.length
 ·rw[if_pos e];exact h i e
 ·rw[if_neg e,if_pos oM];exact a
theorem iq {d:Nat}{op n:Int}{q:Rat}{s:ByteArray}{ks:List Tm}(hk:ks.length<=3)(c : -1000<=op/\op<=1000)(hn : -1000<=n/\n<=1000)(hq:LQ 1 q)(b:gm s)(a:∀ i,i<ks.length->SmT1 gm d (ks.getD i cV)):SmT1 gm (d+1) (.mk op n q s ks):=⟨hk,c,hn,hq,b,a⟩
theorem sI {d:Nat}{n:Int}{t:Tm}(hn : -1000<=n/\n<=1000)(h:SmT1 gm d t):SmT1 gm (d+1) (.mk 8 n 0 ⟨#[]⟩ [t]) :=
 ⟨by show 1<=3;decide,by show (-1000:Int)<=8/\(8:Int)<=1000;decide,hn,jd kD,Ew,fun i hi=>by
  have:i=0:=by have:i<1:=hi;omega
  subst this;exact h⟩
theorem H7 (e:Int):aU e 4=0\/aU e 4=1\/aU e 4=2\/aU e 4=3:=by have:=cO e 4 oM;omega
instance (s:ByteArray) (ns:List ByteArray):Decidable (s∈ns):=@List.instDecidableMemOfLawfulBEq ByteArray instBEqOfDecidableEq inferInstance s ns
def bO:List ByteArray->ByteArray->Nat
  | [],_=>0
  | x::l,s=>if x=s then 0 else bO l s+1
theorem pj:∀ {l:List ByteArray} {s:ByteArray} {j:Nat},(∀ i,i<j->¬l.getD i ⟨#[]⟩=s)->j<l.length->l.getD j ⟨#[]⟩=s->bO l s=j
  | [],_,_,_,hj,_=>absurd hj (N8 _)
  | x::l,s,0,_,_,h=>if_pos h
  | x::l,s,j+1,h,hj,e=>by
    have h0:¬x=s:=h 0 (MW _);have:=pj (l:=l) (s:=s) (j:=j) (fun i hi=>h (i+1) (Om hi)) (Nat.lt_of_succ_lt_succ hj) e
    show (if x=s then 0 else bO l s+1)=j+1
    rw[if_neg h0,this]
theorem lj:∀ {l:List ByteArray} {s:ByteArray},s∈l->bO l s<l.length/\l.getD (bO l s) ⟨#[]⟩=s
  | [],_,h=>absurd h List.not_mem_nil
  | x :: l,s,h=>by
    unfold bO
    by_cases e:x=s
    . rw[if_pos e];exact ⟨MW _,e⟩
    . rw[if_neg e]
      rcases g4.1 h with h1|h1
      . exact absurd h1.symm e
      . have:=lj h1
        exact ⟨Om this.1,this.2⟩
def JT (ns:List ByteArray)(s:ByteArray):Int:=if s∈ns then (bO ns s:Nat) else 0
theorem tT {ns:List ByteArray}{s:ByteArray}(h:s∈ns):JT ns s=(bO ns s:Nat):=if_pos h
def sn:List ByteArray->Nat->List MapEntry
  | [],_=>[]
  | x::l,i=>⟨.string x,.int .i64 (i:Nat),i⟩::sn l (i+1)
theorem og:∀ {l:List ByteArray} {i j:Nat} {e:MapEntry},(sn l i)[j]?=some e->∃ x,l[j]?=some x/\e=⟨.string x,.int .i64 ((i+j:Nat):Int),i+j⟩
  | [],_,_,_,h=>by cases h
  | x::l,i,0,e,h=>by injection h with h;exact ⟨x,rfl,h.symm⟩
  | x::l,i,j+1,e,h=>by
    obtain ⟨y,h1,a⟩:=og (l:=l) (i:=i+1) (j:=j) h;exact ⟨y,h1,by rw[a,show i+1+j=i+(j+1) by omega]⟩
theorem t7:∀ {l:List ByteArray} {i j:Nat} {x:ByteArray},l[j]?=some x->(sn l i)[j]?=some ⟨.string x,.int .i64 ((i+j:Nat):Int),i+j⟩
  | [],_,_,_,h=>by cases h
  | y::l,i,0,x,h=>by injection h with h;subst h;rfl
  | y::l,i,j+1,x,h=>by
    have:=t7 (l:=l) (i:=i+1) (j:=j) (x:=x) h;rw[show i+1+j=i+(j+1) by omega] at this
    exact this
theorem Ex {ns:List ByteArray}(hn:ns.Nodup){j:Nat}{s:ByteArray}(h:ns[j]?=some s):bO ns s=j:=by
 obtain ⟨b,e⟩:=LA.1 h;refine pj (fun i hi a=>?_) b (by rw[LH,h];rfl);rw[LH,On oM] at a
 have a:ns[i]'oM=s:=a;exact absurd ((List.getElem_inj hn).1 (a.trans e.symm)) oM
theorem Fg {ns:List ByteArray}(hn:ns.Nodup)(s:ByteArray):(∃ i,Instr.findNow .string (.string s) (sn ns 0) 0=some (some (i,.int .i64 (JT ns s)))/\decide (s∈ns)=true)\/(Instr.findNow .string (.string s) (sn ns 0) 0=some none/\decide (s∈ns)=false/\JT ns s=0):=by
 rcases MapKept.findNow_spec (d:=.string) (k:=.string s) (by simp[MapKept.IsKey]) (sn ns 0) 0 (fun x p=>by
  obtain ⟨j,l⟩:=Oo.1 p;obtain ⟨y,_,rfl⟩:=og l
  simp[MapKept.IsKey]) with ⟨a,b⟩|⟨j,e,a,b,c⟩
 ·have f:s ∉ ns:=fun h=>by
   obtain ⟨j,l⟩:=Oo.1 h;exact b _ (Oo.2 ⟨j,t7 l⟩) rfl
  exact .inr ⟨a,decide_eq_false f,if_neg f⟩
 ·obtain ⟨y,o,rfl⟩:=og b
  injection c with c
  subst c;have f:y∈ns:=Oo.2 ⟨j,o⟩;refine .inl ⟨0+j,?_,decide_eq_true f⟩;rw[a,tT f,Ex hn o,Ab]
structure LaidO (pl:ByteArray->Int) (d:Nat) (h:Hp) (rl:List RSt) (ss:List OSt) (l:List Stp):Prop where
  rs:RSs h rl ss
  mp:ss.map OSt.stp=l
  sm:Ks ss
def gC (ss:List ByteArray):List MapEntry:=ss.zipIdx.map fun p=>⟨.string p.1,.bool true,p.2⟩
theorem BD (a:List ByteArray)(s:ByteArray):gC (a++[s])=gC a++[⟨.string s,.bool true,a.length⟩]:=by
 unfold gC;rw[List.zipIdx_append,List.map_append];simp
theorem rV {a:List ByteArray}{j:Nat}{e:MapEntry}(h:(gC a)[j]?=some e):∃ s,a[j]?=some s/\e=⟨.string s,.bool true,j⟩:=by
 unfold gC at h
 rw[MB,Oq] at h
 cases b:a[j]? with
 | none=>rw[b] at h;simp at h
 | some s=>rw[b] at h;simp at h;exact ⟨s,rfl,h.symm⟩
theorem pn {a:List ByteArray}{e:MapEntry}(h:e∈gC a):∃ j s,a[j]?=some s/\e=⟨.string s,.bool true,j⟩:=by
 obtain ⟨j,c⟩:=Oo.1 h;obtain ⟨s,h1,b⟩:=rV c;exact ⟨j,s,h1,b⟩
theorem Ed {a:List ByteArray}{s:ByteArray}(h:s∈a):∃ e∈gC a,e.key=.string s:=by
 obtain ⟨j,b⟩:=Oo.1 h;refine ⟨⟨.string s,.bool true,j⟩,?_,rfl⟩
 unfold gC
 refine g1.2 ⟨(s,j),?_,rfl⟩;rw[Oo];exact ⟨j,by rw[Oq,b];simp⟩
theorem BI (a:List ByteArray)(s:ByteArray):(Instr.findNow .string (.string s) (gC a) 0=some none/\s ∉ a)\/∃ j,Instr.findNow .string (.string s) (gC a) 0=some (some (j,.bool true))/\a[j]?=some s:=by
 rcases MapKept.findNow_spec (d:=.string) (k:=.string s) (by simp[MapKept.IsKey]) (gC a) 0 (fun x f=>by obtain ⟨_,_,_,rfl⟩:=pn f;simp[MapKept.IsKey]) with ⟨h1,h2⟩|⟨j,e,h1,h2,h3⟩
 ·refine .inl ⟨h1,fun h=>?_⟩
  obtain ⟨e,c,hk⟩:=Ed h;exact h2 e c hk
 ·obtain ⟨i,b,rfl⟩:=rV h2
  injection h3 with h3
  subst h3;exact .inr ⟨j,by rw[h1,Ab],b⟩
structure MapK (w:World) (h:Hp) (b:Nat) (ss:List ByteArray):Prop where
  jk:h[b]?=some bc
  ob:w.heap[b]?=some (.map (gC ss).toArray ss.length)
  nd:ss.Nodup
section laws
variable {P:Program} {n:Nat} {N R:Po} {X:Nat->Po} {ops:Array Oper} {k:Nat} {Γ:bU} {w:World} {h:Hp} {w1:World} {h1:Hp} {B:List Bx} {Rs:List Rw} {F:List (Hp->Prop)}
theorem SS.atK (s:SS w1 h1 w h B Rs F){b:Nat}{a:List ByteArray}(m:MapK w1 h1 b a):w.heap[b]?=some (.map (gC a).toArray a.length) :=
 (s.st.up.ext.block b (by rw[s.g0.size];exact aJ m.jk)).trans m.ob
theorem oL {b:Nat}{o:Obj}(a:G { w1 with heap:=w1.heap.setIfInBounds b o } h1):UpM [b] w1 h1 { w1 with heap:=w1.heap.setIfInBounds b o } h1 :=
 ⟨⟨rfl,rfl,rfl,by show _<=(w1.heap.setIfInBounds b o).size;rw[Array.size_setIfInBounds];exact ep _,fun c _ hn=>by
  show (w1.heap.setIfInBounds b o)[c]?=_
  rw[la (fun e=>hn (te.2 e.symm))]⟩,Gr.refl _,a⟩
theorem KU {mty kt et:TypeId}{b:Nat}{d:List ByteArray}(ky:ByteArray)(s:SS w1 h1 w h B Rs F)(m:MapK w1 h1 b d)
    (H:∀ w1' w' ss2,SS w1' h1 w' h B Rs F->MapK w1' h1 b ss2->(∀ x,x∈ss2↔x∈d\/x=ky)->ss2.length<=d.length+1->UpM [b] w1 h1 w1' h1->LG P n N R X ops (k+1) Γ w')
    (l:cS ops Γ k=true:=by kernel_rfl)(D:execOp (ev Γ) (am ops k)=(do Instr.mapUpdate mty (.map (some b)) (.string ky) (.bool true);pure .skip):=by kernel_rfl)(z:P.underlying mty=some (.map kt et):=by kernel_rfl)(hk:P.underlying kt=some .string:=by kernel_rfl):LG P n N R X ops k Γ w:=by
  have C:=s.atK m;have f:b<w1.heap.size:=(i2.1 m.ob).1
  rcases BI d ky with ⟨hf,hn⟩|⟨j,hf,hj⟩
  . have hr:=uu w (val:=.bool true) z hk C hf
    obtain ⟨u,y⟩:=s.base (o:=.map ((gC d).toArray.push ⟨.string ky,.bool true,d.length⟩) (d.length+1)) m.jk f;refine LG.store _ (iu l).1 (iu l).2 ?_ (H _ _ (d++[ky]) u ⟨m.jk,?_,?_⟩ (fun x=>by simp) (by simp) (oL y))
    . rw[D];simp[hr,Result.andThen]
    . show (w1.heap.setIfInBounds b _)[b]?=_
      rw[FA f,BD];simp
    . exact List.nodup_append.2 ⟨m.nd,by simp,fun a ha c l e=>hn (by rw[te] at l;rw[<-l,<-e];exact ha)⟩
  . have I:j<d.length:=(LA.1 hj).1
    have p:(gC d)[j]?=some ⟨.string ky,.bool true,j⟩:=by
      unfold gC;rw[MB,Oq,hj];simp
    have hr:=pI w (val:=.bool true) z hk C hf (by simp[p])
    have J:((gC d).toArray.modify j fun e=>{ e with key:=.string ky,val:=.bool true })=(gC d).toArray:=by
      apply Array.ext_getElem?
      intro i;rw[Array.getElem?_modify]
      by_cases e:j=i
      . subst e
        rw[if_pos rfl]
        simp[p]
      . rw[if_neg e]
    rw[J] at hr
    obtain ⟨u,y⟩:=s.base (o:=.map (gC d).toArray d.length) m.jk f;refine LG.store _ (iu l).1 (iu l).2 ?_ (H _ _ d u ⟨m.jk,?_,m.nd⟩ (fun x=>⟨.inl,fun h=>h.elim id fun e=>by rw[e];exact Oo.2 ⟨j,hj⟩⟩) (Nat.le_succ _) (oL y))
    . rw[D];simp[hr,Result.andThen]
    . show (w1.heap.setIfInBounds b _)[b]?=_
      rw[FA f]
theorem SS.baseK (s:SS w1 h1 w h B Rs F){b:Nat}{J a:List ByteArray}(m:MapK w1 h1 b J){w':World}{h':Hp}(u:UpM [b] w h w' h')(K:w'.heap[b]?=some (.map (gC a).toArray a.length))(H:a.Nodup):∃ j,SS j h1 w' h' B Rs F/\MapK j h1 b a/\UpM [b] w1 h1 j h1:=by
 have l:b<w1.heap.size:=(i2.1 m.ob).1;have I:=aJ m.jk;obtain ⟨M,D⟩:=s.base (o:=.map (gC a).toArray a.length) m.jk l;have y:({ w1 with heap:=w1.heap.setIfInBounds b (.map (gC a).toArray a.length) }:World).heap.size=w1.heap.size:=by simp
 have i:∀ c,c<w.heap.size->c≠b->w'.heap[c]?=w.heap[c]?:=fun c d hn=>u.mo.blk c d (fun L=>hn (te.1 L))
 have e:=s.st.up.ext;have z:∀ x∈B,x.b≠b:=fun x p e=>by have:=s.st.lo x p;omega
 refine ⟨_,⟨D,⟨⟨⟨u.mo.os.trans e.os,u.mo.tape.trans e.tape,u.mo.output.trans e.output,by rw[y];exact e4 e.size u.mo.size,fun c d=>?_⟩,s.st.up.gr.trans u.gr,u.g⟩,fun x p=>?_,fun x p=>?_,s.st.lo,s.st.nd⟩,fun r hr=>⟨em (s.ro r hr).own (fun c d=>?_),fun c d=>(u.gr.blk c ((s.ro r hr).lt d)).trans ((s.ro r hr).jk c d),(s.ro r hr).ap⟩,s.ap,s.mo,s.f.gw s.mo u.gr.gw⟩,⟨m.jk,by show (w1.heap.setIfInBounds b _)[b]?=_;rw[FA l],H⟩,oL D⟩
 ·rw[y] at d
  by_cases q:c=b
  ·subst q
   rw[K]
   show _=(w1.heap.setIfInBounds c _)[c]?
   rw[FA l]
  ·rw[i c (Nat.lt_of_lt_of_le d e.size) q]
   show _=(w1.heap.setIfInBounds b _)[c]?
   rw[la (Ne.symm q)];exact e.block c d
 ·have C:=s.st.own x p
  exact (i x.b C.lt (z x p)).trans C
 ·rw[u.gr.blk _ (aJ (s.st.jk x p))];exact s.st.jk x p
 ·refine i c (jF (s.ro r hr).own d) (fun e=>?_)
  subst e;have q:=(s.ro r hr).own
  rcases q with ⟨_,e2|⟨g,cap,cur,hv,hb',_⟩⟩
  ·rw[e2.1] at d;simp[Value.ownBlock] at d
  ·rw[hv] at d;simp[Value.ownBlock] at d;omega
end laws
theorem xf  (ok:ByteArray->Prop)(d:Nat)(ih:∀ (p:PTm) (t:Tm) (b:Nat) (z:List ByteArray) (w:World) (h:Hp),G w h->TmH d h p t->WfT1 ok d t->MapK w h b z->Calls Tryz.prog 80 #[bS p,.map (some b)] w (eP b w h (fun v w1 _=>v=.tuple #[]/\∃ u:List ByteArray,w1.heap[b]?=some (.map (gC u).toArray u.length)/\u.Nodup/\(∀ x,x∈u↔x∈z\/gd d t x)/\u.length<=z.length+eF d t)))(op n:Int)(q:Rat)(s:ByteArray)(A:Option Addr)(c:Nat)(ps:List PTm)(ks:List Tm)(hc:ps.length<=c)(hlp:ps.length<=2)(bk:fv op=(ks.length:Nat))(hq0:op≠1->q=0)(hq:LQ 1 q)(hok:op=2->ok s)(hs0:op≠2->s=⟨#[]⟩)(hn0:op≠8->n=0)(hn1 : -12<=n)(hn2:n<=12)(hW:∀ i,i<ks.length->WfT1 ok d (ks.getD i cV))(b:Nat)(z:List ByteArray)(w:World)(h:Hp)(g:G w h)(hK:SlO 9 cY cH h A ps)(X:Tms d h ps ks)(e:MapK w h b z):Calls Tryz.prog 80 #[bS ⟨op,n,q,s,A,ps.length,c⟩,.map (some b)] w (eP b w h (fun v w1 _=>v=.tuple #[]/\∃ u:List ByteArray,w1.heap[b]?=some (.map (gC u).toArray u.length)/\u.Nodup/\(∀ x,x∈u↔x∈z\/gd (d+1) (.mk op n q s ks) x)/\u.length<=z.length+eF (d+1) (.mk op n q s ks))):=by
 have l:UpM [b] w h w h:=UpM.refl g;have a:SS w h w h [] [] []:=sS g;replace a:=((a.aS hK).add (K:=fun j=>Tms d j ps ks) X);have hln:=(a.f.1).len;refine go Tryz.func80 [(0,bS ⟨op,n,q,s,A,ps.length,c⟩),(1,.map (some b))] rfl (ax (lA 2 53 (cY ⟨op,n,q,s,A,ps.length,c⟩) a (fun F w2 h3 a=>?_)));refine lN (CG.join (fun Γ w_=>∃ (y:World) (C:List ByteArray) (j:Hp),Γ=[(1,.map (some b)),(2,pB F)]/\SS y h w_ j [⟨F,53,cY ⟨op,n,q,s,A,ps.length,c⟩⟩] [] [fun j=>Tms d j ps ks,fun j=>SlO 9 cY cH j A ps]/\MapK y h b C/\UpM [b] w h y h/\(∀ x,x∈C↔x∈z\/(op=2/\x=s))/\C.length<=z.length+1) ?_ ?_)
 .
  refine aa a [.v (pB F),.o (iV op) 0 0 1] ?_;cases B:((op:Int) == (2:Int))
  .
   have O:=aj B;refine lB 8 B (ag (CG.skip ?_));intro a_ J;exact ⟨_,⟨w,z,h3,rfl,a.to _ _,e,l,(fun x=>⟨fun j=>.inl j,fun j=>j.elim id (fun W=>absurd W.1 oM)⟩),oM⟩,J.to _ kR⟩
  have O:=eq_of_beq B;refine lB 8 B (ak (kQ (lL a [.c,.v (qP F 7),.o (.string s) 0 7 1] (KU (mty:=151) (kt:=9) (et:=4) (s) a e (fun w9 _ L a e D H Q=>?_)))));replace l:=l.trans Q
  clear Q
  refine lD ?_;intro a_ J;exact ⟨_,⟨w9,L,h3,rfl,a.to _ _,e,l,(fun x=>(D x).trans ⟨fun j=>j.imp id fun W=>⟨by omega,W⟩,fun j=>j.imp id fun W=>W.2⟩),oM⟩,J.to _ kR⟩
 rintro _ _ ⟨y,C,zc,rfl,a,e,l,Y,hl1⟩;refine aa a [.v (qP F 8),.o (qS A ps.length c) 0 8 1,.v (nV ps.length),.c] (aY ?_);refine bH _ (CG.loop (fun Z Γ w_=>∃ (y:World) (k:Nat) (sk:List ByteArray) (j:Hp),Z=ps.length-k/\Γ=[(1,.map (some b)),(13,qS A ps.length c),(14,nV ps.length),(15,nV k)]/\SS y h w_ j [⟨F,53,cY ⟨op,n,q,s,A,ps.length,c⟩⟩] [] [fun j=>Tms d j ps ks,fun j=>SlO 9 cY cH j A ps]/\MapK y h b sk/\UpM [b] w h y h/\k<=ps.length/\(∀ x,x∈sk↔x∈C\/HasK d ks k x)/\sk.length<=C.length+(dO (fun i=>eF d (ks.getD i cV)) k)) _ ⟨y,0,C,zc,rfl,rfl,a.to _ _,e,l,MG _,(fun x=>⟨.inl,fun j=>j.elim id (fun j=>absurd j HasK.zero)⟩),nR _⟩ ?_);rintro _ _ _ ⟨y,k,sk,_,bf,rfl,a,e,l,hk,I,bd⟩;have bb:(dO (fun i=>eF d (ks.getD i cV)) (k+1))=(dO (fun i=>eF d (ks.getD i cV)) k)+eF d (ks.getD k cV):=rfl;refine ax ?_;cases za:(decide ((k:Int)<(ps.length:Int)))
 .
  have zb:=oF za;refine lB 16 za (ah (dr (CG.exit ?_)));have S:k=ks.length:=by omega
  have hcn:eF (d+1) (.mk op n q s ks)=1+(dO (fun i=>eF d (ks.getD i cV)) ks.length):=rfl;exact a.retM (l.trans (a.st.up.m _)) [] (.tuple #[]) ⟨rfl,sk,a.atK e,e.nd,fun x=>by rw[I x,Y x,S,or_assoc];exact Iff.rfl,by rw[hcn,<-S];omega⟩
 have zb:=oT za;refine lB 16 za (ah (co (cK (cQ (kZ (ax (lX 17 A ps.length c 9 (k:Nat) k ((a.f.2.1).ok oM) ?_)))))));refine lH 18 (bS (ps.getD k cH)) a ((a.f.2.1).el k oM) (lA 5 53 ca a (fun b22 _ _ a=>lP 0 0 (cY (ps.getD k cH)) a (fun _ a=>lN (kQ (lL a [.o (bS (ps.getD k cH)) 0 0 9,.c] (gi 21 (ih (ps.getD k cH) (ks.getD k cV) b sk _ _ a.g ((a.f.1).at_ k oM) (hW k oM) ⟨(a.st.up.gr.blk _ (aJ e.jk)).trans e.jk,a.atK e,e.nd⟩) ?_))))));rintro _ _ zd u28 ⟨rfl,M,U,V,D,H⟩;obtain ⟨ze,a,e,Q⟩:=a.baseK e u28 U V;replace l:=l.trans Q
 clear Q U V
 refine lN (kQ (bh 22 ((k:Nat)+1) (k+1) ?_));refine lL a ac (lD ?_);intro a_ J;replace a:=a.drop 1 0;refine ⟨_,_,?_,⟨ze,k+1,M,zd,rfl,rfl,a.to _ _,e,l,oM,(fun x=>(D x).trans (by rw[I x,or_assoc,<-HasK.succ])),oM⟩,J.to _ kR⟩
 omega
theorem uk (ok:ByteArray->Prop):∀ (d:Nat) (p:PTm) (t:Tm) (b:Nat) (e:List ByteArray) (w:World) (h:Hp),G w h->TmH d h p t->WfT1 ok d t->MapK w h b e->Calls Tryz.prog 80 #[bS p,.map (some b)] w (eP b w h (fun v w1 _=>v=.tuple #[]/\∃ a:List ByteArray,w1.heap[b]?=some (.map (gC a).toArray a.length)/\a.Nodup/\(∀ x,x∈a↔x∈e\/gd d t x)/\a.length<=e.length+eF d t))
  | 0,_,_,_,_,_,_,_,x,_,_=>x.elim
  | d+1,p,t,b,e,w,h,g,x,wf,hmk=>by
    obtain ⟨op,n,q,s,A,c,ps,ks,rfl,rfl,C,B,f⟩:=x.open;have i:=wf.two;obtain ⟨w1,w2,w3,z,y,u,l,o,j⟩:=wf;exact xf ok d (fun p t b e w h=>uk ok d p t b e w h) op n q s A c ps ks C (by have:=f.len;exact this▸i) w1 w2 w3 z y u l o j b e w h g B f hmk
section srt
open Go.RowKit Go.Maps Go.Sort Go.Shelf Go.WideShapes
def Tryz.keysZ_ren:Go.Shelf.Ren:=⟨fun|7=>82|10=>123|n=>n,fun|23=>151|26=>9|3=>4|28=>155|0=>0|27=>154|33=>108|4=>4|n=>n,fun|n=>n⟩
theorem Tryz.keysZ:Go.Proofs.SlLaysZ.n7 Tryz.prog Tryz.keysZ_ren:={
 mixed:=by kernel_rfl
 f7:=⟨Tryz.f82.name,by decide,Tryz.func82.trans (congrArg some kR)⟩
 f10:=⟨Tryz.f123.name,by decide,Tryz.func123.trans (congrArg some kR)⟩
 t0:=Tryz.underlying0
 a0:=Tryz.isAgg0
 z0:=Tryz.sizeOf0
 v0:=Tryz.zeroValue0
 t4:=Tryz.underlying4
 a4:=Tryz.isAgg4
 z4:=Tryz.sizeOf4
 v4:=Tryz.zeroValue4
 t23:=Tryz.underlying151
 a23:=Tryz.isAgg151
 z23:=Tryz.sizeOf151
 v23:=Tryz.zeroValue151
 t26:=Tryz.underlying9
 a26:=Tryz.isAgg9
 z26:=Tryz.sizeOf9
 v26:=Tryz.zeroValue9
 t27:=Tryz.underlying154
 a27:=Tryz.isAgg154
 z27:=Tryz.sizeOf154
 v27:=Tryz.zeroValue154
 t28:=Tryz.underlying155
 a28:=Tryz.isAgg155
 z28:=Tryz.sizeOf155
 v28:=Tryz.zeroValue155
 t33:=Tryz.underlying108
 a33:=Tryz.isAgg108
 z33:=Tryz.sizeOf108
 v33:=Tryz.zeroValue108 }
def Tryz.sortedZ_ren:Go.Shelf.Ren:=⟨fun|6=>81|8=>121|9=>122|11=>149|13=>151|12=>150|23=>178|24=>130|14=>169|15=>170|16=>171|17=>172|18=>173|19=>174|20=>175|21=>176|22=>177|25=>196|26=>197|27=>198|28=>199|29=>200|30=>201|31=>221|n=>n,fun|26=>9|28=>155|24=>34|0=>0|3=>3|37=>144|48=>141|50=>38|4=>4|40=>239|39=>238|45=>110|5=>5|9=>9|51=>263|55=>267|57=>280|58=>169|33=>108|n=>n,fun|n=>n⟩
theorem Tryz.sortedZ:Go.Proofs.SlLaysZ.n6 Tryz.prog Tryz.sortedZ_ren:={
 mixed:=by kernel_rfl
 f6:=⟨Tryz.f81.name,by decide,Tryz.func81.trans (congrArg some kR)⟩
 f8:=⟨Tryz.f121.name,by decide,Tryz.func121.trans (congrArg some kR)⟩
 f11:=⟨Tryz.f149.name,by decide,Tryz.func149.trans (congrArg some kR)⟩
 t0:=Tryz.underlying0
 a0:=Tryz.isAgg0
 z0:=Tryz.sizeOf0
 v0:=Tryz.zeroValue0
 t24:=Tryz.underlying34
 a24:=Tryz.isAgg34
 z24:=Tryz.sizeOf34
 v24:=Tryz.zeroValue34
 t26:=Tryz.underlying9
 a26:=Tryz.isAgg9
 z26:=Tryz.sizeOf9
 v26:=Tryz.zeroValue9
 t28:=Tryz.underlying155
 a28:=Tryz.isAgg155
 z28:=Tryz.sizeOf155
 v28:=Tryz.zeroValue155
 i26:=by kernel_rfl }
def Tryz.sortZ_ren:Go.Shelf.Ren:=⟨fun|6=>122|8=>151|9=>150|19=>178|20=>130|21=>169|22=>170|23=>171|24=>172|25=>173|26=>174|27=>175|28=>176|29=>177|36=>196|31=>197|32=>198|37=>199|38=>200|39=>201|41=>221|n=>n,fun|27=>34|29=>9|3=>3|32=>144|26=>34|0=>0|44=>141|46=>38|4=>4|36=>239|35=>238|41=>110|5=>5|9=>9|53=>263|57=>267|63=>280|64=>169|n=>n,fun|n=>n⟩
theorem Tryz.sortZ:Go.Proofs.SlLaysM.n6 Tryz.prog Tryz.sortZ_ren:={
 mixed:=by kernel_rfl
 f6:=⟨Tryz.f122.name,by decide,Tryz.func122.trans (congrArg some kR)⟩
 f8:=Tryz.func151.trans (congrArg some kR)
 f9:=⟨Tryz.f150.name,by decide,Tryz.func150.trans (congrArg some kR)⟩
 f19:=Tryz.func178.trans (congrArg some kR)
 f20:=Tryz.func130.trans (congrArg some kR)
 f21:=⟨Tryz.f169.name,by decide,Tryz.func169.trans (congrArg some kR)⟩
 f22:=⟨Tryz.f170.name,by decide,Tryz.func170.trans (congrArg some kR)⟩
 f23:=⟨Tryz.f171.name,by decide,Tryz.func171.trans (congrArg some kR)⟩
 f24:=⟨Tryz.f172.name,by decide,Tryz.func172.trans (congrArg some kR)⟩
 f25:=⟨Tryz.f173.name,by decide,Tryz.func173.trans (congrArg some kR)⟩
 f26:=⟨Tryz.f174.name,by decide,Tryz.func174.trans (congrArg some kR)⟩
 f27:=⟨Tryz.f175.name,by decide,Tryz.func175.trans (congrArg some kR)⟩
 f28:=⟨Tryz.f176.name,by decide,Tryz.func176.trans (congrArg some kR)⟩
 f29:=⟨Tryz.f177.name,by decide,Tryz.func177.trans (congrArg some kR)⟩
 f31:=Tryz.func197.trans (congrArg some kR)
 f32:=Tryz.func198.trans (congrArg some kR)
 f36:=⟨Tryz.f196.name,by decide,Tryz.func196.trans (congrArg some kR)⟩
 f37:=⟨Tryz.f199.name,by decide,Tryz.func199.trans (congrArg some kR)⟩
 f38:=⟨Tryz.f200.name,by decide,Tryz.func200.trans (congrArg some kR)⟩
 f39:=⟨Tryz.f201.name,by decide,Tryz.func201.trans (congrArg some kR)⟩
 f41:=⟨Tryz.f221.name,by decide,Tryz.func221.trans (congrArg some kR)⟩
 t0:=Tryz.underlying0
 a0:=Tryz.isAgg0
 z0:=Tryz.sizeOf0
 v0:=Tryz.zeroValue0
 t3:=Tryz.underlying3
 a3:=Tryz.isAgg3
 z3:=Tryz.sizeOf3
 v3:=Tryz.zeroValue3
 t4:=Tryz.underlying4
 a4:=Tryz.isAgg4
 z4:=Tryz.sizeOf4
 v4:=Tryz.zeroValue4
 t5:=Tryz.underlying5
 a5:=Tryz.isAgg5
 z5:=Tryz.sizeOf5
 v5:=Tryz.zeroValue5
 t9:=Tryz.underlying9
 a9:=Tryz.isAgg9
 z9:=Tryz.sizeOf9
 v9:=Tryz.zeroValue9
 t26:=Tryz.underlying34
 a26:=Tryz.isAgg34
 z26:=Tryz.sizeOf34
 v26:=Tryz.zeroValue34
 t27:=Tryz.underlying34
 a27:=Tryz.isAgg34
 z27:=Tryz.sizeOf34
 v27:=Tryz.zeroValue34
 t29:=Tryz.underlying9
 a29:=Tryz.isAgg9
 z29:=Tryz.sizeOf9
 v29:=Tryz.zeroValue9
 t32:=Tryz.underlying144
 a32:=Tryz.isAgg144
 z32:=Tryz.sizeOf144
 v32:=Tryz.zeroValue144
 t35:=Tryz.underlying238
 a35:=Tryz.isAgg238
 z35:=Tryz.sizeOf238
 v35:=Tryz.zeroValue238
 t36:=Tryz.underlying239
 a36:=Tryz.isAgg239
 z36:=Tryz.sizeOf239
 v36:=Tryz.zeroValue239
 t41:=Tryz.underlying110
 a41:=Tryz.isAgg110
 z41:=Tryz.sizeOf110
 v41:=Tryz.zeroValue110
 t44:=Tryz.underlying141
 a44:=Tryz.isAgg141
 z44:=Tryz.sizeOf141
 v44:=Tryz.zeroValue141
 t46:=Tryz.underlying38
 a46:=Tryz.isAgg38
 z46:=Tryz.sizeOf38
 v46:=Tryz.zeroValue38
 t53:=Tryz.underlying263
 a53:=Tryz.isAgg263
 z53:=Tryz.sizeOf263
 v53:=Tryz.zeroValue263
 t57:=Tryz.underlying267
 a57:=Tryz.isAgg267
 z57:=Tryz.sizeOf267
 v57:=Tryz.zeroValue267
 t63:=Tryz.underlying280
 a63:=Tryz.isAgg280
 z63:=Tryz.sizeOf280
 v63:=Tryz.zeroValue280
 t64:=Tryz.underlying169
 a64:=Tryz.isAgg169
 z64:=Tryz.sizeOf169
 v64:=Tryz.zeroValue169 }
theorem vZ (m:Nat):AnyZ.SortsIn Tryz.prog Tryz.sortedZ_ren Fence.wide m :=
 ⟨fun c off a e W f b d=>callsIn_wide.2 (AnyM.slices_Sort_string Tryz.sortZ c off a e W f b d),fun p a W=>callsIn_wide.2 (AnyM.slices_Sort_string_none Tryz.sortZ p a W)⟩
theorem Ad (a:Option Nat)(W:World):CallsIn Fence.wide 5 Tryz.prog 82 #[.map a] W fun e w'=>e=.returned (.func (.func 123) #[] #[.pointer (some ⟨W.heap.size,0,none⟩)])/\w'=W.alloc (.cells #[.map a] 151) :=
 AnyZ.keys_in Tryz.keysZ Fence.wide 5 trivial rfl a W
theorem sQ {H:Type}(b nn:Nat)(f:DataW H)(R:Value->Option (DataW H × List MemPlace))(w:World)(c:w.ownsMap Tryz.prog 9 R b nn f)(i:Maps.size f<=maxLen)(a:Maps.size f*16<=140737488355328) :
  CallsIn Fence.wide 5 Tryz.prog 81 #[.func (.func 123) #[] #[.pointer (some ⟨w.heap.size,0,none⟩)]] (w.alloc (.cells #[.map (some b)] 151)) fun e w'=>∃ (v:Value) (h:List (List UInt8)),e=.returned v/\h.Perm (strKeys f) /\
   w'.ownsRow (w.alloc (.cells #[.map (some b)] 151)).heap.size 9 1 v h.length ((h.mergeSort (fun x y=>decide (x<=y))).map encStr)/\(v=.slice none 0 0↔h=[])/\Below (w.alloc (.cells #[.map (some b)] 151)).heap.size (w.alloc (.cells #[.map (some b)] 151)) w':=by
 have l:=c.lt
 have j:SeqGives Fence.wide 2 Tryz.prog 123 #[.pointer (some ⟨w.heap.size,0,none⟩)] encStr (fun h=>h.Perm (strKeys f)) (Maps.size f) (w.alloc (.cells #[.map (some b)] 151)) :=
  AnyZ.keys_gives (ρ:=Tryz.keysZ_ren) { Tryz.keysZ with } Fence.wide _ trivial rfl oM w.heap.size b nn f _ (by simp) (by simp) (by
   obtain ⟨u,d,z,o,B,p⟩:=c;exact ⟨u,d,(Below.heap_alloc _ _ b l).trans z,o,B,p⟩)
 exact AnyZ.sorted_in Tryz.sortedZ Fence.wide 5 trivial trivial trivial trivial rfl oM (vZ _) (enters_of Tryz.func122 kR rfl) 123 #[.pointer (some ⟨w.heap.size,0,none⟩)] trivial (enters_of Tryz.func123 kR rfl) _ _ i a _ j
section
variable {P:Program} {k:TypeId} (hk:P.underlying k=some .string)
def RU (_:Value):Option (DataW Unit × List MemPlace):=some (.nil,[])
theorem xG (hk:P.underlying k=some .string){a:List ByteArray}(c:∀ s∈a,s.size<=maxLen){e:MapEntry}(d:e∈gC a):∃ s∈a,WideElems.rd P k RU e=some (.string s.data.toList,.nil)/\e.key=.string s:=by
 obtain ⟨j,s,f,rfl⟩:=pn d;have b:s∈a:=Oo.2 ⟨j,f⟩;refine ⟨s,b,?_,rfl⟩
 have h1:keyOf P k (.string s)=some (.string s.data.toList):=by
  have:=c s b
  simp[keyOf,hk,mapKey,this]
 unfold WideElems.rd
 rw[h1];rfl
theorem re {c:List ByteArray}(hn:c.Nodup):MapKept.Stamped (gC c).toArray c.length:=by
 refine ⟨fun x f=>?_,?_,?_⟩
 ·obtain ⟨j,s,l,rfl⟩:=pn (by simpa using f)
  exact (LA.1 l).1
 ·have e:(gC c).map (·.born)=pa c.length:=by
   apply NY
   ·simp[gC]
   ·intro i h1 d;simp[gC]
  show ((gC c).map (·.born)).Nodup
  rw[e];exact List.nodup_range
 ·have e:(gC c).map (·.key)=c.map Value.string:=by
   apply NY
   ·simp[gC]
   ·intro i h1 d;simp[gC]
  show ((gC c).map (·.key)).Nodup
  rw[e];exact List.Pairwise.map _ (fun a b h e=>h (Value.string.inj e)) hn
theorem En (hk:P.underlying k=some .string){w:World}{b:Nat}{a:List ByteArray}(u:w.heap[b]?=some (.map (gC a).toArray a.length))(hn:a.Nodup)(f:∀ s∈a,s.size<=maxLen)(z:a.length<=1048576) :
  ∃ D:DataW Unit,w.ownsMap P k RU b a.length D/\(strKeys D).Perm (a.map fun s=>s.data.toList)/\Maps.size D<=1048576:=by
 have c:(gC a).length=a.length:=by simp[gC]
 refine ⟨.map (((gC a).map (WideElems.rg P k RU)).foldr DataW.insert []),⟨(gC a).toArray,a.length,u,⟨?_,re hn,fun x y=>?_⟩,?_,rfl⟩,?_,?_⟩
 ·show (gC a).toArray.size<=maxLen
  rw[zzq,c];unfold maxLen;omega
 ·obtain ⟨s,_,h,_⟩:=xG (P:=P) hk f (by simpa using y)
  exact ⟨_,h⟩
 ·rw[zzq,c];exact ep _
 ·show ((((gC a).map (WideElems.rg P k RU)).foldr DataW.insert []).map fun p=>strOf p.1).Perm _
  refine ((sorted_perm _).map _).trans (List.Perm.of_eq ?_);rw[List.map_map]
  apply NY
  ·simp[c]
  ·intro i h1 B
   have hi:i<(gC a).length:=by simpa using h1
   obtain ⟨s,o,hr,d⟩:=xG (P:=P) hk f (gq hi);obtain ⟨l,e,j⟩:=rV (On hi);rw[vj,vj];rw[j] at d
   injection d with d
   subst d
   show strOf (((WideElems.rd P k RU (gC a)[i]).getD (.bool false,.nil)).1)=_
   rw[hr]
   show l.data.toList=_
   rw[On oM] at e
   rw[Option.some.inj e]
 ·show Maps.size (.map _)<=_
  rw[Maps.size_eq,(sorted_perm _).length_eq,N2,c];exact z
end
theorem vY {w w':World}{h:Hp}(g:G w h)(x:Ext w w'):∃ h',Up w h w' h'/\∀ b,h.size<=b->h'[b]?=w'.heap[b]?:=by
 have c:=x.size;have e0:=g.size
 have key:∀ b,h.size<=b->(h++w'.heap.extract h.size w'.heap.size)[b]?=w'.heap[b]?:=fun b a=>by
  rw[Array.getElem?_append_right a,Array.getElem?_extract]
  by_cases hl:b<w'.heap.size
  ·rw[if_pos oM];congr 1;omega
  ·rw[if_neg oM,Array.getElem?_eq_none oM]
 refine ⟨h++w'.heap.extract h.size w'.heap.size,⟨x,⟨by simp,fun b a=>tw a⟩,⟨by simp;omega,fun b=>?_⟩⟩,key⟩
 rcases ea b h.size with a|a
 ·rw[tw a]
  have e:=Below.block x b oM
  rcases g.blk b with h1|h1
  ·exact .inl (h1.trans e.symm)
  ·exact .inr h1
 ·exact .inl (key b a)
theorem FD (ok:ByteArray->Prop)(hok:∀ s,ok s->s.size<=1000)(d:Nat)(hd:d<=20)(p:PTm)(t:Tm)(w:World)(h:Hp)(g:G w h)(hT:TmH d h p t)(hW:WfT1 ok d t):CR 45 #[bS p] w h (fun v h1=>∃ (A:Option Addr) (c:Nat) (C:List ByteArray),v=.slice A C.length c/\C.length<=c/\C.length<=1048576/\SlO 1 bB ⟨#[]⟩ h1 A C/\∀ x,x∈C↔gd d t x):=by
 refine (callsIn_wide (n:=6)).1 (callsIn_of_wp Tryz.func45 rfl trivial ?_ rfl)
 simp only[Tryz.ntmps45,zzq,List.length_cons,List.length_nil,Nat.reduceAdd,Nat.reduceSub,Array.replicate_succ,Array.replicate_zero,List.push_toArray,List.append_toArray,List.nil_append,List.cons_append]
 unfold bS
 have hfK:Fence.wide.fn 80:=trivial;have hf2:Fence.wide.fn 82:=trivial;have hf3:Fence.wide.fn 81:=trivial
 have S:∀ o:Obj,G ((w.alloc o).alloc (.map #[] 0)) ((h.push bc).push bc)/\MapK ((w.alloc o).alloc (.map #[] 0)) ((h.push bc).push bc) (w.heap.size+1) []/\TmH d ((h.push bc).push bc) p t:=fun o=>by
  have u1:Up w h (w.alloc o) (h.push bc):=Up.allocAny g o bc (.inr rfl);have u2:Up (w.alloc o) (h.push bc) ((w.alloc o).alloc (.map #[] 0)) ((h.push bc).push bc):=Up.allocAny u1.g _ _ (.inr rfl);refine ⟨u2.g,⟨?_,?_,List.nodup_nil⟩,(hT.gw u1.gr.gw).gw u2.gr.gw⟩
  ·rw[show w.heap.size+1=(h.push bc).size by rw[Array.size_push,g.size]];exact gg
  ·rw[heap_alloc,show w.heap.size+1=(w.alloc o).heap.size by simp];exact gg
 have W:∀ s,gd d t s->s.size<=maxLen:=fun s Y=>by have:=hok s (sE hW Y);unfold maxLen;omega
 have hcn:=sO hW;have hp2:2^d<=1048576:=e4 (Nat.pow_le_pow_right oM hd) kD;have hmm:=@run_makeMap Tryz.prog
 gi_wp2
 gi_at_call 80
 generalize hW2:(w.alloc _).alloc (.map #[] 0)=W2
 have q:=S (.cells #[iV p.op,iV p.n,.bool (af p.q.num),uV (lo (ab p.q.num)),.string (hi (ab p.q.num)),uV (lo (qd p.q)),.string (hi (qd p.q)),.string p.s,qS p.A p.m p.c] 53);rw[hW2] at q
 clear S
 have cg:=(callsIn_wide (n:=5)).2 (uk ok d p t (w.heap.size+1) [] W2 _ q.1 q.2.2 hW q.2.1)
 unfold bS at cg
 refine cg.mono ?_
 clear cg
 rintro e w' ⟨v,h3,rfl,Q,rfl,C,ho,hn,K,hl⟩;have F:∀ x,x∈C↔gd d t x:=fun x=>by rw[K x];simp
 have O:C.length<=1048576:=by have:=(show C.length<=0+eF d t from hl);omega
 have bb:w.heap.size+2=W2.heap.size:=by rw[<-hW2];simp
 have j:Go.RowKit.Below w.heap.size w W2:=by rw[<-hW2];exact ((Below.refl _ w).alloc (nR _) _).alloc (by simp) _
 have L:Go.RowKit.Below w.heap.size w w':=⟨Q.mo.os.trans j.os,Q.mo.tape.trans j.tape,Q.mo.output.trans j.output,e4 j.size Q.mo.size,fun c hc=>(Q.mo.blk c oM (fun hm=>by rw[te] at hm;omega)).trans (j.block c hc)⟩
 clear K hW2
 obtain ⟨D,U,H,hD3⟩:=En (P:=Tryz.prog) (k:=9) Tryz.underlying9 ho hn (fun s h_=>W s ((F s).1 h_)) O
 gi_wp2
 gi_at_call 82
 refine (Ad _ _).mono ?_;rintro e w'' ⟨rfl,rfl⟩
 gi_wp2
 gi_at_call 81
 refine (sQ (w.heap.size+1) C.length D RU w' U (by unfold maxLen;omega) oM).mono ?_;rintro e w3 ⟨v,B,rfl,J,X,-,hz3⟩;have V:=L.size;have hb3:Ext w w3:=(L.alloc V _).trans (hz3.mono (by simp;omega));obtain ⟨h',u,key⟩:=vY g hb3
 have I:∀ x:ByteArray,x∈((B.mergeSort fun x y=>decide (x<=y)).map fun z=>(⟨z.toArray⟩:ByteArray))↔gd d t x:=fun x=>by
  rw[<-F x,g1]
  constructor
  ·rintro ⟨z,hz,rfl⟩
   have h1:=(J.trans H).mem_iff.1 ((Ot B _).mem_iff.1 hz);obtain ⟨s,Y,e⟩:=g1.1 h1;have:s=⟨z.toArray⟩:=by cases s;rename_i a;simp at e;subst e;rfl
   rw[<-this];exact Y
  ·intro hx
   refine ⟨x.data.toList,(Ot B _).mem_iff.2 ((J.trans H).mem_iff.2 (g1.2 ⟨x,hx,rfl⟩)),?_⟩;cases x;simp
 have M:((B.mergeSort fun x y=>decide (x<=y)).map fun z=>(⟨z.toArray⟩:ByteArray)).length=B.length:=by rw[N2,(Ot B _).length_eq]
 have hzs:B.length<=1048576:=by rw[(J.trans H).length_eq,N2];exact O
 gi_wp2
 go_ret
 generalize hzz:((B.mergeSort fun x y=>decide (x<=y)).map fun z=>(⟨z.toArray⟩:ByteArray))=zz at I M
 refine ⟨v,h',rfl,u,?_⟩
 rcases X with ⟨-,⟨rfl,hz⟩|⟨gb,cap,cur,rfl,hbase,hgb,r1,-,-,r4⟩⟩
 ·have:zz=[]:=z6 oM
  subst this;refine ⟨none,0,[],rfl,nR _,by simp,SlO.nil,fun x=>I x⟩
 ·refine ⟨sB gb,cap,zz,by rw[M],by omega,by omega,SlO.of_flat (sz:=1) (f:=bB) (d:=⟨#[]⟩) (b:=gb) (o:=0) (fun _=>rfl) fun i v hv=>?_,I⟩
  have hf:zz.flatMap bB=(B.mergeSort fun x y=>decide (x<=y)).map encStr:=by
   rw[<-hzz]
   generalize (B.mergeSort fun x y=>decide (x<=y))=q
   induction q with
   | nil=>rfl
   | cons a l ih=>rw[D1,D1,List.flatMap_cons,ih];rfl
  rw[hf,<-r4,Nat.mul_one] at hv
  have Z:cur.toList[i]?=some v:=by
   rw[List.getElem?_take] at hv
   split at hv
   ·exact hv
   ·cases hv
  have hgs:h.size<=gb:=by have:=g.size;simp at hbase;omega
  unfold d7
  rw[key gb hgs,hgb,Ab]
  show cur[i]?=some v
  rw[<-Array.getElem?_toList];exact Z
end srt
def iC (c:Nat):Prop:=(97<=c/\c<=122)\/(65<=c/\c<=90)
def pt (c:Nat):Prop:=((97<=c/\c<=122)\/(65<=c/\c<=90))\/(48<=c/\c<=57)\/c=95
instance (c:Nat):Decidable (iC c):=by unfold iC;infer_instance
instance (c:Nat):Decidable (pt c):=by unfold pt;infer_instance
def gA (s:ByteArray):Int:=if s=⟨#[97,98,115]⟩ then 9 else if s=⟨#[114,97,109,112]⟩ then 10 else if s=⟨#[98,101,110,100]⟩ then 11 else if s=⟨#[109,97,120]⟩ then 12 else if s=⟨#[109,105,110]⟩ then 13 else 0
def Ac (s:ByteArray):Int:=if gA s=0 then 0 else if gA s<=11 then 1 else 2
def ej (s:ByteArray):Bool:=decide (gA s≠0)
def dC (s:ByteArray):Bool:=decide (1<=s.size/\s.size<=20/\iC (aR s 0)/\(∀ i,i<s.size->pt (aR s i))/\ej s=false)
theorem nH {s:ByteArray}(h:¬(1<=s.size/\s.size<=20/\iC (aR s 0))):Value.bool false=.bool (dC s):=congrArg Value.bool (decide_eq_false fun x=>h ⟨x.1,x.2.1,x.2.2.1⟩).symm
theorem Fl {s:ByteArray}{i:Nat}(h:i<s.size)(a:¬pt (aR s i)):Value.bool false=.bool (dC s):=congrArg Value.bool (decide_eq_false fun x=>a (x.2.2.2.1 i h)).symm
theorem DI {s:ByteArray}(h1:1<=s.size/\s.size<=20)(a:iC (aR s 0))(b:∀ i,i<s.size->pt (aR s i)):dC s = !ej s:=by
 unfold dC
 cases h:ej s
 ·exact decide_eq_true ⟨h1.1,h1.2,a,b,rfl⟩
 ·exact decide_eq_false fun x=>by cases x.2.2.2.2
def jq:List MapEntry:=[⟨.string ⟨#[97,98,115]⟩,.int .i64 9,0⟩,⟨.string ⟨#[114,97,109,112]⟩,.int .i64 10,1⟩,⟨.string ⟨#[98,101,110,100]⟩,.int .i64 11,2⟩,⟨.string ⟨#[109,97,120]⟩,.int .i64 12,3⟩,⟨.string ⟨#[109,105,110]⟩,.int .i64 13,4⟩]
theorem uQ (s:ByteArray):(∃ i,Instr.findNow .string (.string s) jq 0=some (some (i,.int .i64 (gA s)))/\ej s=true)\/(Instr.findNow .string (.string s) jq 0=some none/\ej s=false/\gA s=0):=by
 by_cases h1:s=⟨#[97,98,115]⟩
 ·subst h1;exact .inl ⟨0,by kernel_rfl,by decide⟩
 by_cases h2:s=⟨#[114,97,109,112]⟩
 ·subst h2;exact .inl ⟨1,by kernel_rfl,by decide⟩
 by_cases h3:s=⟨#[98,101,110,100]⟩
 ·subst h3;exact .inl ⟨2,by kernel_rfl,by decide⟩
 by_cases h4:s=⟨#[109,97,120]⟩
 ·subst h4;exact .inl ⟨3,by kernel_rfl,by decide⟩
 by_cases h5:s=⟨#[109,105,110]⟩
 ·subst h5;exact .inl ⟨4,by kernel_rfl,by decide⟩
 have h:gA s=0:=by unfold gA;rw[if_neg h1,if_neg h2,if_neg h3,if_neg h4,if_neg h5]
 refine .inr ⟨?_,by unfold ej;rw[h];rfl,h⟩
 rcases MapKept.findNow_spec (d:=.string) (k:=.string s) (by simp[MapKept.IsKey]) jq 0 (fun x f=>by
  simp only[jq,g4,List.not_mem_nil,or_false] at f
  rcases f with rfl|rfl|rfl|rfl|rfl<;>simp[MapKept.IsKey]) with ⟨a,_⟩|⟨j,e,a,b,c⟩
 ·exact a
 ·exfalso
  match j,b with
  | 0,b=>injection b with b;subst b;injection c with c;exact h1 c.symm
  | 1,b=>injection b with b;subst b;injection c with c;exact h2 c.symm
  | 2,b=>injection b with b;subst b;injection c with c;exact h3 c.symm
  | 3,b=>injection b with b;subst b;injection c with c;exact h4 c.symm
  | 4,b=>injection b with b;subst b;injection c with c;exact h5 c.symm
  | n+5,b=>cases b
theorem mG (c:Nat)(B:c<256)(w:World)(h:Hp)(g:G w h):CV 77 #[.int .u8 (c:Nat)] w h (.bool (decide (iC (c)))):=by
 have a:=sS g;refine go Tryz.func77 [(0,.int .u8 (c:Nat))] rfl (aa a ac (aG (lL a ac ?_)));cases b:(decide ((97:Int)<=(c:Int)))
 .
  have i:=oF b;refine lB 4 b (lL a ac (lG 6 ?_));refine lG 7 (lL a [.v qF,.c,.c] ?_);cases d:(decide ((65:Int)<=(c:Int)))
  .
   have j:=oF d;refine lB 11 d (lL a ac (lG 13 ?_));exact lG 14 (lL a [.v qF,.v qF,.c] (ae a [] qF (congrArg Value.bool (decide_eq_false (by unfold iC;omega)).symm)))
  have j:=oT d;refine lB 11 d (lL a aD ?_);cases e:(decide ((c:Int)<=(90:Int)))
  .
   have l:=oF e;exact lB 14 e (lL a [.v qF,.v qF,.c] (ae a [] qF (congrArg Value.bool (decide_eq_false (by unfold iC;omega)).symm)))
  have l:=oT e;exact lB 14 e (lL a [.v qT,.v qT,.c] (ae a [] qT (congrArg Value.bool (decide_eq_true (by unfold iC;omega)).symm)))
 have i:=oT b;refine lB 4 b (lL a aD ?_);cases f:(decide ((c:Int)<=(122:Int)))
 .
  have o:=oF f;refine lB 7 f (lL a [.v qF,.c,.c] ?_);have ⟨u,y⟩:=dT (p:=(65:Int)<=(c:Int)) oM;refine lB 11 u (lL a aD ?_);have ⟨x,z⟩:=dF (p:=(c:Int)<=(90:Int)) oM;exact lB 14 x (lL a [.v qF,.v qF,.c] (ae a [] qF (congrArg Value.bool (decide_eq_false (by unfold iC;omega)).symm)))
 have o:=oT f;refine lB 7 f (lL a [.v qT,.c] (lG 10 ?_));exact lG 11 (lG 12 (lG 13 (lG 14 (lG 15 (lL a [.v qT,.c] (ae a [] qT (congrArg Value.bool (decide_eq_true (by unfold iC;omega)).symm)))))))
theorem oJ (c:Nat)(i:c<256)(w:World)(h:Hp)(g:G w h):CV 120 #[.int .u8 (c:Nat)] w h (.bool (decide (48<=(c)/\(c)<=57))):=by
 have a:=sS g;refine go Tryz.func120 [(0,.int .u8 (c:Nat))] rfl (aa a ac (aG (lL a ac ?_)));cases b:(decide ((48:Int)<=(c:Int)))
 .
  have e:=oF b;refine lB 4 b (lL a ac (lG 6 ?_));exact lG 7 (lL a [.v qF,.c] (ae a [] qF (congrArg Value.bool (decide_eq_false oM).symm)))
 have e:=oT b;refine lB 4 b (lL a aD ?_);cases d:(decide ((c:Int)<=(57:Int)))
 .
  have f:=oF d;exact lB 7 d (lL a [.v qF,.c] (ae a [] qF (congrArg Value.bool (decide_eq_false oM).symm)))
 have f:=oT d;exact lB 7 d (lL a [.v qT,.c] (ae a [] qT (congrArg Value.bool (decide_eq_true oM).symm)))
theorem qB (c:Nat)(l:c<256)(w:World)(h:Hp)(g:G w h):CV 78 #[.int .u8 (c:Nat)] w h (.bool (decide (pt (c)))):=by
 have a:=sS g;refine go Tryz.func78 [(0,.int .u8 (c:Nat))] rfl (aa a ac (aG (lL a ac (ar 4 a (mG c l _ _ a.g) (fun w1 p a=>?_)))));cases i:(decide (iC (c)))
 .
  have d:=oF i;refine lL a aD (ar 7 a (oJ c l _ _ a.g) (fun o u a=>?_));cases f:(decide (48<=(c)/\(c)<=57))
  .
   have e:=oF f;refine lL a [.v qF,.c,.c] ?_;cases b:((c:Int) == (95:Int))
   .
    have j:=aj b;exact lB 11 b (lL a [.v qF,.c] (ae a [] qF (congrArg Value.bool (decide_eq_false (by unfold iC at *;unfold pt;omega)).symm)))
   have j:=eq_of_beq b;exact lB 11 b (lL a [.v qT,.c] (ae a [] qT (congrArg Value.bool (decide_eq_true (by unfold iC at *;unfold pt;omega)).symm)))
  have e:=oT f;refine lL a [.v qT,.c] (lG 10 ?_);exact lG 11 (lL a [.v qT,.c] (ae a [] qT (congrArg Value.bool (decide_eq_true (by unfold iC at *;unfold pt;omega)).symm)))
 have d:=oT i;refine lL a ac (lG 6 ?_);refine lG 7 (lL a [.v qT,.c] (lG 10 ?_));exact lG 11 (lL a [.v qT,.c] (ae a [] qT (congrArg Value.bool (decide_eq_true (by unfold iC at *;unfold pt;omega)).symm)))
theorem s7  (w:World)(h:Hp)(g:G w h):CR 79 #[] w h (fun v h1=>∃ b,v=.map (some b)/\MapS h1 b jq):=by
 have a:=sS g;refine go Tryz.func79 [] rfl (aa a ac (aG (HZ 1 a (fun p w2 z a i=>pr 76 9 3 (⟨#[97,98,115]⟩) (iV 9) a i (fun B a l=>pr 76 9 3 (⟨#[114,97,109,112]⟩) (iV 10) a l (fun y a o=>pr 76 9 3 (⟨#[98,101,110,100]⟩) (iV 11) a o (fun x a e=>pr 76 9 3 (⟨#[109,97,120]⟩) (iV 12) a e (fun _ a d=>pr 76 9 3 (⟨#[109,105,110]⟩) (iV 13) a d (fun _ a c=>lL a ac ?_)))))))));obtain ⟨_,a,j⟩:=a.pubMap c;replace a:=a.to [] [];replace a:=a.add (K:=fun u=>MapS u p [⟨.string (⟨#[97,98,115]⟩),iV 9,0⟩,⟨.string (⟨#[114,97,109,112]⟩),iV 10,1⟩,⟨.string (⟨#[98,101,110,100]⟩),iV 11,2⟩,⟨.string (⟨#[109,97,120]⟩),iV 12,3⟩,⟨.string (⟨#[109,105,110]⟩),iV 13,4⟩]) j;exact lL a ac (ae a [] (.map (some p)) (⟨_,rfl,a.f.1⟩))
theorem He (s:ByteArray)(a:s.size<=1000000)(w:World)(h:Hp)(g:G w h):CV 44 #[.string s] w h (.bool (dC s)):=by
 have a:=sS g;refine go Tryz.func44 [(0,.string s)] rfl (aa a ac (ah (aa a [.c,.v (nV s.size)] ?_)));cases d:(decide ((s.size:Int)<(1:Int)))
 .
  have u:=oF d;refine lB 8 d (lL a [.c,.c,.v (nV s.size)] ?_);cases l:(decide ((20:Int)<(s.size:Int)))
  .
   have B:=oF l;refine lB 12 l (lL a [.v qF,.c,.c] (lV 16 (.int .u8 (aR s 0:Nat)) ?_ (hr:=dR (tx:=9) (x:=.tmp 15) (i:=.const (iV 0)) (k:=.i64) (s:=s) (n:=0) (j:=(0:Int)) kR kR kR kR oM oM _)));refine ar 17 a (mG ((aR s 0)) (cJ _ _) _ _ a.g) (fun w3 J a=>?_);cases z:(decide (iC ((aR s 0))))
   .
    have D:=oF z;exact lL a [.v qT,.v qT] (ak (aa a ac (ae a [] qF (nH (fun b=>by have C:=b.1;have y:=b.2.1;first|omega|exact absurd b.2.2 aM)))))
   have D:=oT z;refine lL a [.v qF,.v qF] (ag (cK (cQ (aa a [.c,.v (nV s.size),.c] (aY ?_)))));refine bH _ (CG.loop (fun I Γ O=>∃ (k:Nat) (b:Hp),I=s.size-k/\Γ=[(0,.string s),(21,nV s.size),(22,nV k)]/\SS w h O b [] [] []/\k<=s.size/\(∀ i,i<k->pt (aR s i))) _ ⟨0,J,rfl,rfl,a.to _ _,MG _,(fun i hi=>absurd hi (N8 i))⟩ ?_);rintro _ _ W ⟨k,X,L,rfl,a,hk,p⟩;refine ax ?_;cases e:(decide ((k:Int)<(s.size:Int)))
   .
    have F:=oF e;refine lB 23 e (ah (dr (CG.exit ?_)))
    show CG _ _ _ _ _ _ _ _
    refine ax (lC 32 a (s7 _ _ a.g) ?_);rintro _ _ _ a ⟨U,rfl,H⟩;replace a:=(a.add (K:=fun b=>MapS b U jq) H);refine lL a ac (IZ 34 76 9 3 (s) true (iV (gA s)) ((ej s)) a a.f.1 ?_ (hf:=(by rcases uQ s with ⟨i_,e1_,e2_⟩|⟨e1_,e2_,e3_⟩;exact .inl ⟨i_,e1_,e2_⟩;exact .inr ⟨e1_,e2_,fun _=>by rw[e3_];kernel_rfl⟩)));refine lL a [.c,.v (iV (gA s)),.v (.bool (ej s)),.c,.c] (aG (lL a ac ?_));cases za:(!(ej s))
    .
     refine lB 38 za (lL a ac (lN (kX ?_)));have o:=DI (s:=s) ⟨by omega,by omega⟩ aM (fun i hi=>p i oM);exact a.ret [] qF (congrArg Value.bool (by rw[o];exact (by assumption:(!ej s)=false).symm))
    refine lB 38 za (lL a ac (lN (kX ?_)));have o:=DI (s:=s) ⟨by omega,by omega⟩ aM (fun i hi=>p i oM);exact a.ret [] qT (congrArg Value.bool (by rw[o];exact (by assumption:(!ej s)=true).symm))
   have F:=oT e;refine lB 23 e (ah (co (cK (cQ (kZ (aa a aD (aG (lL a aD (lV 27 (.int .u8 (aR s k:Nat)) ?_ (hr:=dR (tx:=9) (x:=.tmp 25) (i:=.tmp 26) (k:=.i64) (s:=s) (n:=k) (j:=(k:Int)) kR kR kR kR oM oM _))))))))));refine ar 28 a (qB ((aR s k)) (cJ _ _) _ _ a.g) (fun _ Q a=>?_);cases zb:(decide (pt ((aR s k))))
   .
    have M:=oF zb;exact lL a [.v qT] (ak (aa a ac (ae a [] qF (Fl (i:=k) oM aM))))
   have M:=oT zb;refine lL a [.v qF] (ag (cK (kQ (bh 30 ((k:Nat)+1) (k+1) ?_))));refine lL a ac (lD ?_);intro V S;refine ⟨_,_,?_,⟨k+1,Q,rfl,rfl,a.to _ _,oM,(fun i hi=>by rcases Ou.1 hi with b|rfl;exact p i b;assumption)⟩,S.to _ kR⟩
   omega
  have B:=oT l;refine lB 12 l (lL a [.v qT,.c] (lG 15 ?_));exact lG 16 (lG 17 (lG 18 (lL a [.v qT] (ak (aa a ac (ae a [] qF (nH (fun b=>by have C:=b.1;have y:=b.2.1;first|omega|exact absurd b.2.2 aM))))))))
 have u:=oT d;refine lB 8 d (lL a ac (lG 10 ?_));refine lG 11 (lG 12 (lL a [.v qT,.c] (lG 15 ?_)));exact lG 16 (lG 17 (lG 18 (lL a [.v qT] (ak (aa a ac (ae a [] qF (nH (fun b=>by have C:=b.1;have y:=b.2.1;first|omega|exact absurd b.2.2 aM))))))))
theorem qH (c:Nat)(B:c<256)(w:World)(h:Hp)(g:G w h):CV 97 #[.int .u8 (c:Nat)] w h (.bool (decide (iC (c)))):=by
 have a:=sS g;refine go Tryz.func97 [(0,.int .u8 (c:Nat))] rfl (aa a ac (aG (lL a ac ?_)));cases b:(decide ((97:Int)<=(c:Int)))
 .
  have i:=oF b;refine lB 4 b (lL a ac (lG 6 ?_));refine lG 7 (lL a [.v qF,.c,.c] ?_);cases d:(decide ((65:Int)<=(c:Int)))
  .
   have j:=oF d;refine lB 11 d (lL a ac (lG 13 ?_));exact lG 14 (lL a [.v qF,.v qF,.c] (ae a [] qF (congrArg Value.bool (decide_eq_false (by unfold iC;omega)).symm)))
  have j:=oT d;refine lB 11 d (lL a aD ?_);cases e:(decide ((c:Int)<=(90:Int)))
  .
   have l:=oF e;exact lB 14 e (lL a [.v qF,.v qF,.c] (ae a [] qF (congrArg Value.bool (decide_eq_false (by unfold iC;omega)).symm)))
  have l:=oT e;exact lB 14 e (lL a [.v qT,.v qT,.c] (ae a [] qT (congrArg Value.bool (decide_eq_true (by unfold iC;omega)).symm)))
 have i:=oT b;refine lB 4 b (lL a aD ?_);cases f:(decide ((c:Int)<=(122:Int)))
 .
  have o:=oF f;refine lB 7 f (lL a [.v qF,.c,.c] ?_);have ⟨u,y⟩:=dT (p:=(65:Int)<=(c:Int)) oM;refine lB 11 u (lL a aD ?_);have ⟨x,z⟩:=dF (p:=(c:Int)<=(90:Int)) oM;exact lB 14 x (lL a [.v qF,.v qF,.c] (ae a [] qF (congrArg Value.bool (decide_eq_false (by unfold iC;omega)).symm)))
 have o:=oT f;refine lB 7 f (lL a [.v qT,.c] (lG 10 ?_));exact lG 11 (lG 12 (lG 13 (lG 14 (lG 15 (lL a [.v qT,.c] (ae a [] qT (congrArg Value.bool (decide_eq_true (by unfold iC;omega)).symm)))))))
theorem Ef (c:Nat)(i:c<256)(w:World)(h:Hp)(g:G w h):CV 98 #[.int .u8 (c:Nat)] w h (.bool (decide (48<=(c)/\(c)<=57))):=by
 have a:=sS g;refine go Tryz.func98 [(0,.int .u8 (c:Nat))] rfl (aa a ac (aG (lL a ac ?_)));cases b:(decide ((48:Int)<=(c:Int)))
 .
  have e:=oF b;refine lB 4 b (lL a ac (lG 6 ?_));exact lG 7 (lL a [.v qF,.c] (ae a [] qF (congrArg Value.bool (decide_eq_false oM).symm)))
 have e:=oT b;refine lB 4 b (lL a aD ?_);cases d:(decide ((c:Int)<=(57:Int)))
 .
  have f:=oF d;exact lB 7 d (lL a [.v qF,.c] (ae a [] qF (congrArg Value.bool (decide_eq_false oM).symm)))
 have f:=oT d;exact lB 7 d (lL a [.v qT,.c] (ae a [] qT (congrArg Value.bool (decide_eq_true oM).symm)))
theorem Gn (s:ByteArray)(w:World)(h:Hp)(g:G w h):CV 99 #[.string s] w h (.tuple #[iV (gA s),iV (Ac s)]):=by
 have a:=sS g;refine go Tryz.func99 [(0,.string s)] rfl (aa a aD (ah (aa a ac (aY (ax ?_)))));cases c:(kj s (⟨#[97,98,115]⟩))
 .
  have i:=g6 c;refine lB 6 c (lL a ac (ag (ax ?_)));cases d:(kj s (⟨#[114,97,109,112]⟩))
  .
   have j:=g6 d;refine lB 8 d (lL a ac (ag (ax ?_)));cases e:(kj s (⟨#[98,101,110,100]⟩))
   .
    have o:=g6 e;refine lB 10 e (lL a ac (ag (ax ?_)));cases f:(kj s (⟨#[109,97,120]⟩))
    .
     have p:=g6 f;refine lB 12 f (lL a ac (ag (ax ?_)));cases b:(kj s (⟨#[109,105,110]⟩))
     .
      have l:=g6 b;refine lB 14 b (lL a ac (ag (cK (aa a aD (lN (kX ?_))))));have u:gA s=0:=by unfold gA;rw[if_neg (by assumption:¬s=⟨#[97,98,115]⟩),if_neg (by assumption:¬s=⟨#[114,97,109,112]⟩),if_neg (by assumption:¬s=⟨#[98,101,110,100]⟩),if_neg (by assumption:¬s=⟨#[109,97,120]⟩),if_neg (by assumption:¬s=⟨#[109,105,110]⟩)]
      exact a.ret [] (.tuple #[iV 0,iV 0]) (by unfold Ac;rw[u];rfl)
     have l:=g5 b;exact lB 14 b (lL a ac (ak (aa a aD (ae a [] (.tuple #[iV 13,iV 2]) (by rw[(by assumption:s=⟨#[109,105,110]⟩)];rfl)))))
    have p:=g5 f;exact lB 12 f (lL a ac (ak (aa a aD (ae a [] (.tuple #[iV 12,iV 2]) (by rw[(by assumption:s=⟨#[109,97,120]⟩)];rfl)))))
   have o:=g5 e;exact lB 10 e (lL a ac (ak (aa a aD (ae a [] (.tuple #[iV 11,iV 1]) (by rw[(by assumption:s=⟨#[98,101,110,100]⟩)];rfl)))))
  have j:=g5 d;exact lB 8 d (lL a ac (ak (aa a aD (ae a [] (.tuple #[iV 10,iV 1]) (by rw[(by assumption:s=⟨#[114,97,109,112]⟩)];rfl)))))
 have i:=g5 c;exact lB 6 c (lL a ac (ak (aa a aD (ae a [] (.tuple #[iV 9,iV 1]) (by rw[(by assumption:s=⟨#[97,98,115]⟩)];rfl)))))
theorem J8 (s:ByteArray)(a:s.size<=1000000)(w:World)(h:Hp)(g:G w h):CV 56 #[.string s] w h (.bool (dC s)):=by
 have a:=sS g;refine go Tryz.func56 [(0,.string s)] rfl (aa a ac (ah (aa a [.c,.v (nV s.size)] ?_)));cases e:(decide ((s.size:Int)<(1:Int)))
 .
  have p:=oF e;refine lB 8 e (lL a [.c,.c,.v (nV s.size)] ?_);cases l:(decide ((20:Int)<(s.size:Int)))
  .
   have z:=oF l;refine lB 12 l (lL a [.v qF,.c,.c] (lV 16 (.int .u8 (aR s 0:Nat)) ?_ (hr:=dR (tx:=9) (x:=.tmp 15) (i:=.const (iV 0)) (k:=.i64) (s:=s) (n:=0) (j:=(0:Int)) kR kR kR kR oM oM _)));refine ar 17 a (qH ((aR s 0)) (cJ _ _) _ _ a.g) (fun w3 M a=>?_);cases y:(decide (iC ((aR s 0))))
   .
    have D:=oF y;exact lL a [.v qT,.v qT] (ak (aa a ac (ae a [] qF (nH (fun b=>by have C:=b.1;have u:=b.2.1;first|omega|exact absurd b.2.2 aM)))))
   have D:=oT y;refine lL a [.v qF,.v qF] (ag (cK (cQ (aa a ac (aY ?_)))));refine bH _ (CG.loop (fun H Γ U=>∃ (k:Nat) (b:Hp),H=s.size-k/\Γ=[(0,.string s),(3,nV k)]/\SS w h U b [] [] []/\k<=s.size/\(∀ i,i<k->pt (aR s i))) _ ⟨0,M,rfl,rfl,a.to _ _,MG _,(fun i hi=>absurd hi (N8 i))⟩ ?_);rintro _ _ Y ⟨k,Z,Q,rfl,a,hk,d⟩;refine cQ (aa a [.c,.c,.v (nV s.size)] ?_);cases f:(decide ((k:Int)<(s.size:Int)))
   .
    have F:=oF f;refine lB 23 f (ag (CG.exit ?_))
    show CG _ _ _ _ _ _ _ _
    refine aa a ac (ar 46 a (Gn s _ _ a.g) (fun _ _ a=>lL a [.c,.v (iV (gA s)),.v (iV (Ac s)),.c,.c] (aG (lL a ac ?_))));cases za:(((gA s):Int) == (0:Int))
    .
     have O:=aj za;refine lB 50 za (lL a ac (lN (kX ?_)));have o:=DI (s:=s) ⟨by omega,by omega⟩ aM (fun i hi=>d i oM);exact a.ret [] qF (congrArg Value.bool (by rw[o];unfold ej;simp only[ne_eq,decide_not,Ov];exact (decide_eq_false oM).symm))
    have O:=eq_of_beq za;refine lB 50 za (lL a ac (lN (kX ?_)));have o:=DI (s:=s) ⟨by omega,by omega⟩ aM (fun i hi=>d i oM);exact a.ret [] qT (congrArg Value.bool (by rw[o];unfold ej;simp only[ne_eq,decide_not,Ov];exact (decide_eq_true oM).symm))
   have F:=oT f;refine lB 23 f (ak (cK (cQ (kZ (aa a aD (lV 28 (.int .u8 (aR s k:Nat)) ?_ (hr:=dR (tx:=9) (x:=.tmp 26) (i:=.tmp 27) (k:=.i64) (s:=s) (n:=k) (j:=(k:Int)) kR kR kR kR oM oM _)))))));refine ar 29 a (qH ((aR s k)) (cJ _ _) _ _ a.g) (fun _ S a=>?_);cases I:(decide (iC ((aR s k))))
   .
    have X:=oF I;refine lL a [.v qT,.c,.c,.c] (lV 34 (.int .u8 (aR s k:Nat)) ?_ (hr:=dR (tx:=9) (x:=.tmp 32) (i:=.tmp 33) (k:=.i64) (s:=s) (n:=k) (j:=(k:Int)) kR kR kR kR oM oM _));refine ar 35 a (Ef ((aR s k)) (cJ _ _) _ _ a.g) (fun _ K a=>?_);cases J:(decide (48<=((aR s k))/\((aR s k))<=57))
    .
     have W:=oF J;refine lL a [.v qT,.v qT,.c,.c,.c] (lV 41 (.int .u8 (aR s k:Nat)) ?_ (hr:=dR (tx:=9) (x:=.tmp 39) (i:=.tmp 40) (k:=.i64) (s:=s) (n:=k) (j:=(k:Int)) kR kR kR kR oM oM _));cases zb:(((aR s k:Nat):Int) != (95:Int))
     .
      have V:=aW zb;refine lB 42 zb (lL a [.v qF] (ag (cK (kQ (lL a ac (bh 25 ((k:Nat)+1) (k+1) ?_))))));refine lL a ac (lD ?_);intro L B;refine ⟨_,_,?_,⟨k+1,K,rfl,rfl,a.to _ _,oM,(fun i hi=>by rcases Ou.1 hi with b|rfl;exact d i b;unfold pt;unfold iC at *;omega)⟩,B.to _ kR⟩
      omega
     have V:=aN zb;exact lB 42 zb (lL a [.v qT] (ak (aa a ac (ae a [] qF (Fl (i:=k) oM (fun b=>by unfold pt at b;unfold iC at *;omega))))))
    have W:=oT J;refine lL a [.v qF,.v qF,.c] (lG 39 ?_);refine lG 40 (lG 41 (lG 42 (lL a [.v qF] (ag (cK (kQ (lL a ac (bh 25 ((k:Nat)+1) (k+1) ?_))))))));refine lL a ac (lD ?_);intro L B;refine ⟨_,_,?_,⟨k+1,K,rfl,rfl,a.to _ _,oM,(fun i hi=>by rcases Ou.1 hi with b|rfl;exact d i b;unfold pt;unfold iC at *;omega)⟩,B.to _ kR⟩
    omega
   have X:=oT I;refine lL a [.v qF,.c] (lG 32 ?_);refine lG 33 (lG 34 (lG 35 (lG 36 (lL a [.v qF,.c] (lG 39 ?_)))));refine lG 40 (lG 41 (lG 42 (lL a [.v qF] (ag (cK (kQ (lL a ac (bh 25 ((k:Nat)+1) (k+1) ?_))))))));refine lL a ac (lD ?_);intro L B;refine ⟨_,_,?_,⟨k+1,S,rfl,rfl,a.to _ _,oM,(fun i hi=>by rcases Ou.1 hi with b|rfl;exact d i b;unfold pt;unfold iC at *;omega)⟩,B.to _ kR⟩
   omega
  have z:=oT l;refine lB 12 l (lL a [.v qT,.c] (lG 15 ?_));exact lG 16 (lG 17 (lG 18 (lL a [.v qT] (ak (aa a ac (ae a [] qF (nH (fun b=>by have C:=b.1;have u:=b.2.1;first|omega|exact absurd b.2.2 aM))))))))
 have p:=oT e;refine lB 8 e (lL a ac (lG 10 ?_));refine lG 11 (lG 12 (lL a [.v qT,.c] (lG 15 ?_)));exact lG 16 (lG 17 (lG 18 (lL a [.v qT] (ak (aa a ac (ae a [] qF (nH (fun b=>by have C:=b.1;have u:=b.2.1;first|omega|exact absurd b.2.2 aM))))))))
theorem Fd  (isb:ByteArray->Bool)(sm:ByteArray->Prop)(oa:∀ s,sm s->∀ (w:World) (h:Hp),G w h->Calls Tryz.prog 44 #[.string s] w (Ret w h (fun v _=>∃ b,v=.bool b/\b=isb s)))(d:Nat)(p:PTm)(t:Tm)(z:d<=24)(w:World)(h:Hp)(g:G w h)(l:TmH d h p t)(j:nz sm d t):CR 43 #[bS p] w h (fun v _=>∃ e:Int,v=iV e/\((WfT (fun s=>isb s=true) d t/\e=(if 1000<bZ d t then 18 else 0))\/(¬WfT (fun s=>isb s=true) d t/\e=2))):=by
 have a:=((sS g).add (K:=fun i=>TmH d i p t) l);refine go Tryz.func43 [(0,bS p)] rfl (ax (lA 1 53 (cY p) a (fun F w2 B a=>lL a ac (ah (aa a [.o (bS p) 0 0 9] (ar 4 a (uw sm d p t 24 _ _ a.g a.f.1 j oM oM) (fun D H a=>ag (cK (cQ (aa a [.o (bS p) 0 0 9] (lC 6 a (qf isb sm oa d p t _ _ a.g a.f.1 j) ?_)))))))))));rintro _ C I a ⟨u,rfl,c⟩;cases x:(u)
 .
  exact lL a [.v qT] (ak (aa a ac (ae a [] (iV 2) (⟨_,rfl,.inr ⟨fun i=>Bool.noConfusion ((c.2 i).symm.trans aM),rfl⟩⟩))))
 refine lL a [.v qF] (ag (cK (cQ (aa a [.o (bS p) 0 0 9] (ar 9 a (qM (fun s=>isb s=true) d p t _ _ a.g a.f.1 (c.1 aM)) (fun y _ a=>?_))))));cases za:(decide ((1000:Int)<(((min (bZ d t) 1001:Nat):Int):Int)))
 .
  have zb:=oF za;exact lB 10 za (ag (cK (aa a ac (ae a [] (iV 0) (⟨_,rfl,.inl ⟨c.1 aM,by split<;>omega⟩⟩)))))
 have zb:=oT za;exact lB 10 za (ak (aa a ac (ae a [] (iV 18) (⟨_,rfl,.inl ⟨c.1 aM,by split<;>omega⟩⟩))))
theorem H4 (isb:ByteArray->Bool)(sm:ByteArray->Prop)(oa:∀ s,sm s->∀ (w:World) (h:Hp),G w h->Calls Tryz.prog 44 #[.string s] w (Ret w h (fun v _=>∃ b,v=.bool b/\b=isb s)))(c:∀ s,isb s=true->sm s)(h0:sm ⟨#[]⟩)(d:Nat)(p:PTm)(t:Tm)(i:d<=24)(w:World)(h:Hp)(g:G w h)(l:TmH d h p t)(f:WfT (fun s=>isb s=true) d t):Calls Tryz.prog 43 #[bS p] w (Ret w h (fun v _=>v=iV (if 1000<bZ d t then 18 else 0))) :=
 (Fd isb sm oa d p t i w h g l (f.sm c h0)).mono fun e w' ⟨v,h',e1,u,e2,j,a⟩=>⟨v,h',e1,u,by
  rcases a with ⟨_,a⟩|⟨a,_⟩
  ·rw[j,a]
  ·exact absurd f a⟩
theorem Bg (A:Option Addr)(c:Nat)(w:World)(h:Hp)(g:G w h)(u:SlO 1 bB ⟨#[]⟩ h A ([⟨#[120]⟩,⟨#[121]⟩]:List ByteArray)):CR 23 #[.slice A 2 c] w h (fun v h1=>∃ b,v=.map (some b)/\MapS h1 b [⟨.string (⟨#[120]⟩),iV 0,0⟩,⟨.string (⟨#[121]⟩),iV 1,1⟩]):=by
 have a:=((sS g).aS u);have o:([⟨#[120]⟩,⟨#[121]⟩]:List ByteArray).length=2:=rfl;refine go Tryz.func23 [(0,qS A 2 c)] rfl (aa a ac (aG (HZ 6 a (fun d w2 z a i=>lL a ac (ah (aa a [.c,.v (iV 2),.c] (aY (cU ?_))))))));refine cN (aa a [.v qT] (ah (co (cK (cQ (kZ (aa a ac (lX 12 A 2 c 1 0 0 ((a.f.1).ok oM) ?_))))))));refine lH 13 (.string (⟨#[120]⟩)) a ((a.f.1).el 0 oM) (lL a aD (lN (kQ (lL a di (pr 76 9 3 (⟨#[120]⟩) (iV 0) a i (fun B a j=>lN (kQ (lL a [.v (iV 1),.c] (lD (CL.to [(2,.map none),(3,.map (some d)),(7,qS A 2 c),(8,iV 2),(9,iV 1),(10,qT),(11,iV 0),(12,.pointer (some ⟨(aB A),aO A+0*1,none⟩)),(13,.string (⟨#[120]⟩)),(4,iV 0),(5,.string (⟨#[120]⟩)),(14,.map (some d)),(15,.string (⟨#[120]⟩)),(16,iV 0),(17,iV 1)] ?_))))))))));replace a:=a.to [] [];refine cN (aa a [.v qT] (ah (co (cK (cQ (kZ (aa a ac (lX 12 A 2 c 1 1 1 ((a.f.1).ok oM) ?_))))))));refine lH 13 (.string (⟨#[121]⟩)) a ((a.f.1).el 1 oM) (lL a aD (lN (kQ (lL a di (pr 76 9 3 (⟨#[121]⟩) (iV 1) a j (fun x a l=>lN (kQ (lL a [.v (iV 2),.c] (lD (CL.to [(2,.map none),(3,.map (some d)),(7,qS A 2 c),(8,iV 2),(9,iV 2),(10,qT),(11,iV 1),(12,.pointer (some ⟨(aB A),aO A+1*1,none⟩)),(13,.string (⟨#[121]⟩)),(4,iV 1),(5,.string (⟨#[121]⟩)),(14,.map (some d)),(15,.string (⟨#[121]⟩)),(16,iV 1),(17,iV 2)] ?_))))))))));replace a:=a.to [] [];refine cN (aa a [.v qF] (ah (dr (CG.exit ?_))))
 show CG _ _ _ _ _ _ _ _
 refine aa a ac ?_;obtain ⟨y,a,e⟩:=a.pubMap l;replace a:=a.to [] [];replace a:=a.add (K:=fun p=>MapS p d [⟨.string (⟨#[120]⟩),iV 0,0⟩,⟨.string (⟨#[121]⟩),iV 1,1⟩]) e;exact lL a ac (ae a [] (.map (some d)) (⟨_,rfl,a.f.1⟩))
theorem AT (A:Option Addr)(c:Nat)(w:World)(h:Hp)(g:G w h)(z:SlO 1 bB ⟨#[]⟩ h A ([⟨#[120]⟩,⟨#[121]⟩,⟨#[122]⟩,⟨#[120]⟩]:List ByteArray)):CR 23 #[.slice A 4 c] w h (fun v h1=>∃ b,v=.map (some b)/\MapS h1 b [⟨.string (⟨#[120]⟩),iV 3,0⟩,⟨.string (⟨#[121]⟩),iV 1,1⟩,⟨.string (⟨#[122]⟩),iV 2,2⟩]):=by
 have a:=((sS g).aS z);have x:([⟨#[120]⟩,⟨#[121]⟩,⟨#[122]⟩,⟨#[120]⟩]:List ByteArray).length=4:=rfl;refine go Tryz.func23 [(0,qS A 4 c)] rfl (aa a ac (aG (HZ 6 a (fun d w2 D a o=>lL a ac (ah (aa a [.c,.v (iV 4),.c] (aY (cU ?_))))))));refine cN (aa a [.v qT] (ah (co (cK (cQ (kZ (aa a ac (lX 12 A 4 c 1 0 0 ((a.f.1).ok oM) ?_))))))));refine lH 13 (.string (⟨#[120]⟩)) a ((a.f.1).el 0 oM) (lL a aD (lN (kQ (lL a di (pr 76 9 3 (⟨#[120]⟩) (iV 0) a o (fun F a p=>lN (kQ (lL a [.v (iV 1),.c] (lD (CL.to [(2,.map none),(3,.map (some d)),(7,qS A 4 c),(8,iV 4),(9,iV 1),(10,qT),(11,iV 0),(12,.pointer (some ⟨(aB A),aO A+0*1,none⟩)),(13,.string (⟨#[120]⟩)),(4,iV 0),(5,.string (⟨#[120]⟩)),(14,.map (some d)),(15,.string (⟨#[120]⟩)),(16,iV 0),(17,iV 1)] ?_))))))))));replace a:=a.to [] [];refine cN (aa a [.v qT] (ah (co (cK (cQ (kZ (aa a ac (lX 12 A 4 c 1 1 1 ((a.f.1).ok oM) ?_))))))));refine lH 13 (.string (⟨#[121]⟩)) a ((a.f.1).el 1 oM) (lL a aD (lN (kQ (lL a di (pr 76 9 3 (⟨#[121]⟩) (iV 1) a p (fun C a u=>lN (kQ (lL a [.v (iV 2),.c] (lD (CL.to [(2,.map none),(3,.map (some d)),(7,qS A 4 c),(8,iV 4),(9,iV 2),(10,qT),(11,iV 1),(12,.pointer (some ⟨(aB A),aO A+1*1,none⟩)),(13,.string (⟨#[121]⟩)),(4,iV 1),(5,.string (⟨#[121]⟩)),(14,.map (some d)),(15,.string (⟨#[121]⟩)),(16,iV 1),(17,iV 2)] ?_))))))))));replace a:=a.to [] [];refine cN (aa a [.v qT] (ah (co (cK (cQ (kZ (aa a ac (lX 12 A 4 c 1 2 2 ((a.f.1).ok oM) ?_))))))));refine lH 13 (.string (⟨#[122]⟩)) a ((a.f.1).el 2 oM) (lL a aD (lN (kQ (lL a di (pr 76 9 3 (⟨#[122]⟩) (iV 2) a u (fun B a j=>lN (kQ (lL a [.v (iV 3),.c] (lD (CL.to [(2,.map none),(3,.map (some d)),(7,qS A 4 c),(8,iV 4),(9,iV 3),(10,qT),(11,iV 2),(12,.pointer (some ⟨(aB A),aO A+2*1,none⟩)),(13,.string (⟨#[122]⟩)),(4,iV 2),(5,.string (⟨#[122]⟩)),(14,.map (some d)),(15,.string (⟨#[122]⟩)),(16,iV 2),(17,iV 3)] ?_))))))))));replace a:=a.to [] [];refine cN (aa a [.v qT] (ah (co (cK (cQ (kZ (aa a ac (lX 12 A 4 c 1 3 3 ((a.f.1).ok oM) ?_))))))));refine lH 13 (.string (⟨#[120]⟩)) a ((a.f.1).el 3 oM) (lL a aD (lN (kQ (lL a di (Ln (i:=0) 76 9 3 (⟨#[120]⟩) (iV 3) (iV 0) [⟨.string (⟨#[120]⟩),iV 3,0⟩,⟨.string (⟨#[121]⟩),iV 1,1⟩,⟨.string (⟨#[122]⟩),iV 2,2⟩] a j (fun _ a e=>lN (kQ (lL a [.v (iV 4),.c] (lD (CL.to [(2,.map none),(3,.map (some d)),(7,qS A 4 c),(8,iV 4),(9,iV 4),(10,qT),(11,iV 3),(12,.pointer (some ⟨(aB A),aO A+3*1,none⟩)),(13,.string (⟨#[120]⟩)),(4,iV 3),(5,.string (⟨#[120]⟩)),(14,.map (some d)),(15,.string (⟨#[120]⟩)),(16,iV 3),(17,iV 4)] ?_))))))))));replace a:=a.to [] [];refine cN (aa a [.v qF] (ah (dr (CG.exit ?_))))
 show CG _ _ _ _ _ _ _ _
 refine aa a ac ?_;obtain ⟨_,a,l⟩:=a.pubMap e;replace a:=a.to [] [];replace a:=a.add (K:=fun y=>MapS y d [⟨.string (⟨#[120]⟩),iV 3,0⟩,⟨.string (⟨#[121]⟩),iV 1,1⟩,⟨.string (⟨#[122]⟩),iV 2,2⟩]) l;exact lL a ac (ae a [] (.map (some d)) (⟨_,rfl,a.f.1⟩))
theorem wE (A:Option Addr)(c:Nat)(w:World)(h:Hp)(g:G w h)(y:SlO 1 bB ⟨#[]⟩ h A ([⟨#[122]⟩,⟨#[121]⟩,⟨#[120]⟩,⟨#[119]⟩]:List ByteArray)):CR 23 #[.slice A 4 c] w h (fun v h1=>∃ b,v=.map (some b)/\MapS h1 b [⟨.string (⟨#[122]⟩),iV 0,0⟩,⟨.string (⟨#[121]⟩),iV 1,1⟩,⟨.string (⟨#[120]⟩),iV 2,2⟩,⟨.string (⟨#[119]⟩),iV 3,3⟩]):=by
 have a:=((sS g).aS y);have u:([⟨#[122]⟩,⟨#[121]⟩,⟨#[120]⟩,⟨#[119]⟩]:List ByteArray).length=4:=rfl;refine go Tryz.func23 [(0,qS A 4 c)] rfl (aa a ac (aG (HZ 6 a (fun d w2 C a l=>lL a ac (ah (aa a [.c,.v (iV 4),.c] (aY (cU ?_))))))));refine cN (aa a [.v qT] (ah (co (cK (cQ (kZ (aa a ac (lX 12 A 4 c 1 0 0 ((a.f.1).ok oM) ?_))))))));refine lH 13 (.string (⟨#[122]⟩)) a ((a.f.1).el 0 oM) (lL a aD (lN (kQ (lL a di (pr 76 9 3 (⟨#[122]⟩) (iV 0) a l (fun D a o=>lN (kQ (lL a [.v (iV 1),.c] (lD (CL.to [(2,.map none),(3,.map (some d)),(7,qS A 4 c),(8,iV 4),(9,iV 1),(10,qT),(11,iV 0),(12,.pointer (some ⟨(aB A),aO A+0*1,none⟩)),(13,.string (⟨#[122]⟩)),(4,iV 0),(5,.string (⟨#[122]⟩)),(14,.map (some d)),(15,.string (⟨#[122]⟩)),(16,iV 0),(17,iV 1)] ?_))))))))));replace a:=a.to [] [];refine cN (aa a [.v qT] (ah (co (cK (cQ (kZ (aa a ac (lX 12 A 4 c 1 1 1 ((a.f.1).ok oM) ?_))))))));refine lH 13 (.string (⟨#[121]⟩)) a ((a.f.1).el 1 oM) (lL a aD (lN (kQ (lL a di (pr 76 9 3 (⟨#[121]⟩) (iV 1) a o (fun B a p=>lN (kQ (lL a [.v (iV 2),.c] (lD (CL.to [(2,.map none),(3,.map (some d)),(7,qS A 4 c),(8,iV 4),(9,iV 2),(10,qT),(11,iV 1),(12,.pointer (some ⟨(aB A),aO A+1*1,none⟩)),(13,.string (⟨#[121]⟩)),(4,iV 1),(5,.string (⟨#[121]⟩)),(14,.map (some d)),(15,.string (⟨#[121]⟩)),(16,iV 1),(17,iV 2)] ?_))))))))));replace a:=a.to [] [];refine cN (aa a [.v qT] (ah (co (cK (cQ (kZ (aa a ac (lX 12 A 4 c 1 2 2 ((a.f.1).ok oM) ?_))))))));refine lH 13 (.string (⟨#[120]⟩)) a ((a.f.1).el 2 oM) (lL a aD (lN (kQ (lL a di (pr 76 9 3 (⟨#[120]⟩) (iV 2) a p (fun z a i=>lN (kQ (lL a [.v (iV 3),.c] (lD (CL.to [(2,.map none),(3,.map (some d)),(7,qS A 4 c),(8,iV 4),(9,iV 3),(10,qT),(11,iV 2),(12,.pointer (some ⟨(aB A),aO A+2*1,none⟩)),(13,.string (⟨#[120]⟩)),(4,iV 2),(5,.string (⟨#[120]⟩)),(14,.map (some d)),(15,.string (⟨#[120]⟩)),(16,iV 2),(17,iV 3)] ?_))))))))));replace a:=a.to [] [];refine cN (aa a [.v qT] (ah (co (cK (cQ (kZ (aa a ac (lX 12 A 4 c 1 3 3 ((a.f.1).ok oM) ?_))))))));refine lH 13 (.string (⟨#[119]⟩)) a ((a.f.1).el 3 oM) (lL a aD (lN (kQ (lL a di (pr 76 9 3 (⟨#[119]⟩) (iV 3) a i (fun _ a e=>lN (kQ (lL a [.v (iV 4),.c] (lD (CL.to [(2,.map none),(3,.map (some d)),(7,qS A 4 c),(8,iV 4),(9,iV 4),(10,qT),(11,iV 3),(12,.pointer (some ⟨(aB A),aO A+3*1,none⟩)),(13,.string (⟨#[119]⟩)),(4,iV 3),(5,.string (⟨#[119]⟩)),(14,.map (some d)),(15,.string (⟨#[119]⟩)),(16,iV 3),(17,iV 4)] ?_))))))))));replace a:=a.to [] [];refine cN (aa a [.v qF] (ah (dr (CG.exit ?_))))
 show CG _ _ _ _ _ _ _ _
 refine aa a ac ?_;obtain ⟨_,a,j⟩:=a.pubMap e;replace a:=a.to [] [];replace a:=a.add (K:=fun x=>MapS x d [⟨.string (⟨#[122]⟩),iV 0,0⟩,⟨.string (⟨#[121]⟩),iV 1,1⟩,⟨.string (⟨#[120]⟩),iV 2,2⟩,⟨.string (⟨#[119]⟩),iV 3,3⟩]) j;exact lL a ac (ae a [] (.map (some d)) (⟨_,rfl,a.f.1⟩))
theorem wN (A:Option Addr)(c:Nat)(w:World)(h:Hp)(g:G w h)(x:SlO 1 bB ⟨#[]⟩ h A dS):CR 23 #[.slice A 3 c] w h (fun v h1=>∃ b,v=.map (some b)/\MapS h1 b [⟨.string (⟨#[120]⟩),iV 0,0⟩,⟨.string (⟨#[121]⟩),iV 1,1⟩,⟨.string (⟨#[122]⟩),iV 2,2⟩]):=by
 have a:=((sS g).aS x);have p:dS.length=3:=rfl;refine go Tryz.func23 [(0,qS A 3 c)] rfl (aa a ac (aG (HZ 6 a (fun d w2 B a j=>lL a ac (ah (aa a [.c,.v (iV 3),.c] (aY (cU ?_))))))));refine cN (aa a [.v qT] (ah (co (cK (cQ (kZ (aa a ac (lX 12 A 3 c 1 0 0 ((a.f.1).ok oM) ?_))))))));refine lH 13 (.string (⟨#[120]⟩)) a ((a.f.1).el 0 oM) (lL a aD (lN (kQ (lL a di (pr 76 9 3 (⟨#[120]⟩) (iV 0) a j (fun C a l=>lN (kQ (lL a [.v (iV 1),.c] (lD (CL.to [(2,.map none),(3,.map (some d)),(7,qS A 3 c),(8,iV 3),(9,iV 1),(10,qT),(11,iV 0),(12,.pointer (some ⟨(aB A),aO A+0*1,none⟩)),(13,.string (⟨#[120]⟩)),(4,iV 0),(5,.string (⟨#[120]⟩)),(14,.map (some d)),(15,.string (⟨#[120]⟩)),(16,iV 0),(17,iV 1)] ?_))))))))));replace a:=a.to [] [];refine cN (aa a [.v qT] (ah (co (cK (cQ (kZ (aa a ac (lX 12 A 3 c 1 1 1 ((a.f.1).ok oM) ?_))))))));refine lH 13 (.string (⟨#[121]⟩)) a ((a.f.1).el 1 oM) (lL a aD (lN (kQ (lL a di (pr 76 9 3 (⟨#[121]⟩) (iV 1) a l (fun z a o=>lN (kQ (lL a [.v (iV 2),.c] (lD (CL.to [(2,.map none),(3,.map (some d)),(7,qS A 3 c),(8,iV 3),(9,iV 2),(10,qT),(11,iV 1),(12,.pointer (some ⟨(aB A),aO A+1*1,none⟩)),(13,.string (⟨#[121]⟩)),(4,iV 1),(5,.string (⟨#[121]⟩)),(14,.map (some d)),(15,.string (⟨#[121]⟩)),(16,iV 1),(17,iV 2)] ?_))))))))));replace a:=a.to [] [];refine cN (aa a [.v qT] (ah (co (cK (cQ (kZ (aa a ac (lX 12 A 3 c 1 2 2 ((a.f.1).ok oM) ?_))))))));refine lH 13 (.string (⟨#[122]⟩)) a ((a.f.1).el 2 oM) (lL a aD (lN (kQ (lL a di (pr 76 9 3 (⟨#[122]⟩) (iV 2) a o (fun y a e=>lN (kQ (lL a [.v (iV 3),.c] (lD (CL.to [(2,.map none),(3,.map (some d)),(7,qS A 3 c),(8,iV 3),(9,iV 3),(10,qT),(11,iV 2),(12,.pointer (some ⟨(aB A),aO A+2*1,none⟩)),(13,.string (⟨#[122]⟩)),(4,iV 2),(5,.string (⟨#[122]⟩)),(14,.map (some d)),(15,.string (⟨#[122]⟩)),(16,iV 2),(17,iV 3)] ?_))))))))));replace a:=a.to [] [];refine cN (aa a [.v qF] (ah (dr (CG.exit ?_))))
 show CG _ _ _ _ _ _ _ _
 refine aa a ac ?_;obtain ⟨_,a,i⟩:=a.pubMap e;replace a:=a.to [] [];replace a:=a.add (K:=fun u=>MapS u d [⟨.string (⟨#[120]⟩),iV 0,0⟩,⟨.string (⟨#[121]⟩),iV 1,1⟩,⟨.string (⟨#[122]⟩),iV 2,2⟩]) i;exact lL a ac (ae a [] (.map (some d)) (⟨_,rfl,a.f.1⟩))
theorem x6 (A:Option Addr)(c:Nat)(w:World)(h:Hp)(g:G w h)(p:SlO 1 bB ⟨#[]⟩ h A ([⟨#[120]⟩]:List ByteArray)):CR 23 #[.slice A 1 c] w h (fun v h1=>∃ b,v=.map (some b)/\MapS h1 b [⟨.string (⟨#[120]⟩),iV 0,0⟩]):=by
 have a:=((sS g).aS p);have l:([⟨#[120]⟩]:List ByteArray).length=1:=rfl;refine go Tryz.func23 [(0,qS A 1 c)] rfl (aa a ac (aG (HZ 6 a (fun i w2 u a d=>lL a ac (ah (aa a [.c,.v (iV 1),.c] (aY (cU ?_))))))));refine cN (aa a [.v qT] (ah (co (cK (cQ (kZ (aa a ac (lX 12 A 1 c 1 0 0 ((a.f.1).ok oM) ?_))))))));refine lH 13 (.string (⟨#[120]⟩)) a ((a.f.1).el 0 oM) (lL a aD (lN (kQ (lL a di (pr 76 9 3 (⟨#[120]⟩) (iV 0) a d (fun x a e=>lN (kQ (lL a [.v (iV 1),.c] (lD (CL.to [(2,.map none),(3,.map (some i)),(7,qS A 1 c),(8,iV 1),(9,iV 1),(10,qT),(11,iV 0),(12,.pointer (some ⟨(aB A),aO A+0*1,none⟩)),(13,.string (⟨#[120]⟩)),(4,iV 0),(5,.string (⟨#[120]⟩)),(14,.map (some i)),(15,.string (⟨#[120]⟩)),(16,iV 0),(17,iV 1)] ?_))))))))));replace a:=a.to [] [];refine cN (aa a [.v qF] (ah (dr (CG.exit ?_))))
 show CG _ _ _ _ _ _ _ _
 refine aa a ac ?_;obtain ⟨y,a,j⟩:=a.pubMap e;replace a:=a.to [] [];replace a:=a.add (K:=fun o=>MapS o i [⟨.string (⟨#[120]⟩),iV 0,0⟩]) j;exact lL a ac (ae a [] (.map (some i)) (⟨_,rfl,a.f.1⟩))
def rJ (isb:ByteArray->Bool)(d:Nat)(t:Tm):Prop:=WfT1 (fun s=>isb s=true) d t/\bZ d t<=1000
theorem Jt:∀ s,gm s->∀ (w:World) (h:Hp),G w h->Calls Tryz.prog 44 #[.string s] w (Ret w h (fun v _=>∃ b,v=.bool b/\b=dC s)):=fun s a w h g =>
 (He s (by unfold gm at a;omega) w h g).mono fun e w' ⟨v,h',e1,u,e2⟩=>⟨v,h',e1,u,_,e2,rfl⟩
theorem o7 {s:ByteArray}(h:dC s=true):gm s:=by
 have:=oT h
 unfold gm;omega
theorem DO {b:Bool}(h:(!b)=false):b=true:=by cases b<;>first|rfl|cases h
theorem HF {b:Bool}(h:(!b)=true):b=false:=by cases b<;>first|rfl|cases h
theorem Bz {l:List ByteArray}{k:Nat}(h:k<l.length):l.getD k ⟨#[]⟩∈l:=by
 rw[LH,On h];exact gq h
theorem tQ {l:List ByteArray}{s:ByteArray}(h:s∈l):∃ i,i<l.length/\l.getD i ⟨#[]⟩=s:=by
 obtain ⟨i,hi,e⟩:=vi.1 h;exact ⟨i,hi,by rw[LH,On hi];exact e⟩
theorem oO {ok sm:ByteArray->Prop}:∀ {d:Nat} {t:Tm},SmT1 sm d t->WfT ok d t->WfT1 ok d t
 | _+1,_,⟨_,_,_,s4,_,s6⟩,⟨h1,h2,_,h4,h5,h6,h7,h8,h9⟩=>⟨h1,h2,s4,h4,h5,h6,h7,h8,fun i hi=>oO (s6 i hi) (h9 i hi)⟩
theorem Bb {isb:ByteArray->Bool}{sm:ByteArray->Prop}{d:Nat}{t:Tm}{e:Int}(a:SmT1 sm d t)(h:(WfT (fun s=>isb s=true) d t/\e=(if 1000<bZ d t then 18 else 0))\/(¬WfT (fun s=>isb s=true) d t/\e=2))(z:e=0):WfT1 (fun s=>isb s=true) d t/\bZ d t<=1000:=by
 rcases h with ⟨h1,h2⟩|⟨h1,h2⟩
 ·refine ⟨oO a h1,?_⟩
  split at h2<;>omega
 ·omega
theorem JJ {isb:ByteArray->Bool}{d:Nat}{t:Tm}{e:Int}(h:(WfT (fun s=>isb s=true) d t/\e=(if 1000<bZ d t then 18 else 0))\/(¬WfT (fun s=>isb s=true) d t/\e=2))(z:rJ isb d t):e=0:=by
 rcases h with ⟨h1,h2⟩|⟨h1,h2⟩
 ·rw[h2,if_neg (by have:=z.2;omega)]
 ·exact absurd z.1.wf h1
def NsD (ns:List ByteArray):Prop:=ns=([⟨#[120]⟩,⟨#[121]⟩]:List ByteArray)\/ns=([⟨#[120]⟩,⟨#[121]⟩,⟨#[122]⟩,⟨#[120]⟩]:List ByteArray)\/ns=([⟨#[109,97,120]⟩,⟨#[120]⟩,⟨#[121]⟩,⟨#[122]⟩]:List ByteArray)\/ns=([⟨#[122]⟩,⟨#[121]⟩,⟨#[120]⟩,⟨#[119]⟩]:List ByteArray)\/ns=dS\/ns=([⟨#[120]⟩]:List ByteArray)
theorem NsD.len {ns:List ByteArray}(h:NsD ns):ns.length<=4/\1<=ns.length:=by
 rcases h with rfl|rfl|rfl|rfl|rfl|rfl<;>decide
theorem NsD.small {ns:List ByteArray}(h:NsD ns):∀ i,i<ns.length->gm (ns.getD i ⟨#[]⟩):=by
 unfold gm
 rcases h with rfl|rfl|rfl|rfl|rfl|rfl<;>decide
def xj:List MapEntry:=[⟨.string ⟨#[120]⟩,.int .i64 3,0⟩,⟨.string ⟨#[121]⟩,.int .i64 1,1⟩,⟨.string ⟨#[122]⟩,.int .i64 2,2⟩]
def oN:List ByteArray:=([⟨#[120]⟩,⟨#[121]⟩,⟨#[122]⟩,⟨#[120]⟩]:List ByteArray)
def jW (ns:List ByteArray):List MapEntry:=if ns=oN then xj else sn ns 0
def vN (ns:List ByteArray)(s:ByteArray):Int:=if ns=oN then (if s=⟨#[120]⟩ then 3 else if s=⟨#[121]⟩ then 1 else if s=⟨#[122]⟩ then 2 else 0) else JT ns s
theorem HS (s:ByteArray):(∃ i,Instr.findNow .string (.string s) xj 0=some (some (i,.int .i64 (vN oN s)))/\decide (s∈oN)=true)\/(Instr.findNow .string (.string s) xj 0=some none/\decide (s∈oN)=false/\vN oN s=0):=by
 by_cases h1:s=⟨#[120]⟩
 ·subst h1;exact .inl ⟨0,by kernel_rfl,by decide⟩
 by_cases h2:s=⟨#[121]⟩
 ·subst h2;exact .inl ⟨1,by kernel_rfl,by decide⟩
 by_cases h3:s=⟨#[122]⟩
 ·subst h3;exact .inl ⟨2,by kernel_rfl,by decide⟩
 refine .inr ⟨?_,decide_eq_false (fun h=>?_),by unfold vN;rw[if_pos rfl,if_neg h1,if_neg h2,if_neg h3]⟩
 ·rcases MapKept.findNow_spec (d:=.string) (k:=.string s) (by simp[MapKept.IsKey]) xj 0 (fun x f=>by
   simp only[xj,g4,List.not_mem_nil,or_false] at f
   rcases f with rfl|rfl|rfl<;>simp[MapKept.IsKey]) with ⟨a,_⟩|⟨j,e,a,b,c⟩
  ·exact a
  ·exfalso
   match j,b with
   | 0,b=>injection b with b;subst b;injection c with c;exact h1 c.symm
   | 1,b=>injection b with b;subst b;injection c with c;exact h2 c.symm
   | 2,b=>injection b with b;subst b;injection c with c;exact h3 c.symm
   | n+3,b=>cases b
 ·simp only[oN,g4,List.not_mem_nil,or_false] at h
  rcases h with h|h|h|h
  ·exact h1 h
  ·exact h2 h
  ·exact h3 h
  ·exact h1 h
theorem Lo {ns:List ByteArray}(a:NsD ns)(_:∀ i,i<ns.length->dC (ns.getD i ⟨#[]⟩)=true)(s:ByteArray):(∃ i,Instr.findNow .string (.string s) (jW ns) 0=some (some (i,.int .i64 (vN ns s)))/\decide (s∈ns)=true)\/(Instr.findNow .string (.string s) (jW ns) 0=some none/\decide (s∈ns)=false/\vN ns s=0):=by
 by_cases hd:ns=oN
 ·subst hd;unfold jW;rw[if_pos rfl];exact HS s
 ·unfold jW vN;rw[if_neg hd,if_neg hd]
  refine Fg ?_ s
  rcases a with rfl|rfl|rfl|rfl|rfl|rfl
  ·decide
  ·exact absurd rfl hd
  ·decide
  ·decide
  ·decide
  ·decide
theorem xm {ns:List ByteArray}(a:NsD ns):ns.Nodup↔(jW ns).length=ns.length:=by
 rcases a with rfl|rfl|rfl|rfl|rfl|rfl<;>decide
theorem m9 {ns:List ByteArray}(e:NsD ns)(a:∀ i,i<ns.length->dC (ns.getD i ⟨#[]⟩)=true)(A:Option Addr)(c:Nat)(w:World)(h:Hp)(g:G w h)(d:SlO 1 bB ⟨#[]⟩ h A ns):Calls Tryz.prog 23 #[.slice A ns.length c] w (Ret w h (fun v h1=>∃ b,v=.map (some b)/\MapS h1 b (jW ns))):=by
 rcases e with rfl|rfl|rfl|rfl|rfl|rfl
 ·exact Bg A c w h g d
 ·exact AT A c w h g d
 ·exact absurd (a 0 kD) kD
 ·exact wE A c w h g d
 ·exact wN A c w h g d
 ·exact x6 A c w h g d
def DckR (d:Nat)(t:Tm)(ns:List ByteArray)(M:Prop)(e:Int):Prop :=
  (¬rJ dC d t/\e=1)\/(rJ dC d t/\((¬M/\e=5)\/(M/\((¬(∀ i,i<ns.length->dC (ns.getD i ⟨#[]⟩)=true)/\e=11)\/((∀ i,i<ns.length->dC (ns.getD i ⟨#[]⟩)=true)/\((¬(∀ s,gd d t s->s∈ns)/\e=11)\/((∀ s,gd d t s->s∈ns)/\((¬ns.Nodup/\e=8)\/(ns.Nodup/\e=0)))))))))
theorem DckR.uniq {d:Nat}{t:Tm}{ns:List ByteArray}{M:Prop}{e h:Int}(x:DckR d t ns M e)(y:DckR d t ns M h):e=h:=by
 rcases x with ⟨a,rfl⟩|⟨a,⟨b,rfl⟩|⟨b,⟨c,rfl⟩|⟨c,⟨f,rfl⟩|⟨f,⟨i,rfl⟩|⟨i,rfl⟩⟩⟩⟩⟩ <;>
 rcases y with ⟨a',rfl⟩|⟨a',⟨b',rfl⟩|⟨b',⟨c',rfl⟩|⟨c',⟨f',rfl⟩|⟨f',⟨i',rfl⟩|⟨i',rfl⟩⟩⟩⟩⟩ <;>
 first
 | rfl
 | exact absurd a' a
 | exact absurd a a'
 | exact absurd b' b
 | exact absurd b b'
 | exact absurd c' c
 | exact absurd c c'
 | exact absurd f' f
 | exact absurd f f'
 | exact absurd i' i
 | exact absurd i i'
theorem DckR.ok {d:Nat}{t:Tm}{ns:List ByteArray}{M:Prop}{e:Int}(x:DckR d t ns M e)(h:e=0):rJ dC d t/\M/\(∀ i,i<ns.length->dC (ns.getD i ⟨#[]⟩)=true)/\(∀ s,gd d t s->s∈ns)/\ns.Nodup:=by
 rcases x with ⟨a,rfl⟩|⟨a,⟨b,rfl⟩|⟨b,⟨c,rfl⟩|⟨c,⟨f,rfl⟩|⟨f,⟨i,rfl⟩|⟨i,rfl⟩⟩⟩⟩⟩
 ·cases h
 ·cases h
 ·cases h
 ·cases h
 ·cases h
 ·exact ⟨a,b,c,f,i⟩
theorem uO (d:Nat)(p:PTm)(t:Tm)(hd:d<=20)(C:Option Addr)(y:Nat)(ns:List ByteArray)(z:NsD ns)(M:Option Addr)(cu:Nat)(us:List Value)(U:List Nat)(bl:us.length<=10)(hus:∀ j,j<us.length->∃ A c,us.getD j undef=.slice A (U.getD j 0) c/\U.getD j 0<=1000000)(w:World)(h:Hp)(g:G w h)(hT:TmH d h p t)(hS:SmT1 gm d t)(hN:SlO 1 bB ⟨#[]⟩ h C ns)(hU:Sv M us h):CR 22 #[bS p,.slice C ns.length y,.slice M us.length cu] w h (fun v _=>∃ e:Int,v=iV e/\DckR d t ns (∀ j,j<us.length->U.getD j 0=ns.length) e):=by
 have a:=((((sS g).add (K:=fun b=>TmH d b p t) hT).aS hN).aS hU);have bq:=z.len;refine go Tryz.func22 [(0,bS p),(1,qS C ns.length y),(2,qS M us.length cu)] rfl (ax (lA 3 53 (cY p) a (fun W w2 h3 a=>lL a ac (ah (aa a [.o (bS p) 0 0 9] (lC 17 a (Fd dC gm Jt d p t oM _ _ a.g a.f.r.1 hS.sm) ?_))))));rintro _ w4 h5 a ⟨ec,rfl,J⟩;cases L:((ec:Int) != (0:Int))
 .
  have bd:=aW L;refine lB 18 L (ag (cK (cQ (aa a [.c,.v (nV us.length),.c] (aY ?_)))));refine bH _ (CG.loop (fun F Γ w_=>∃ (u:Nat) (b:Hp),F=us.length-u/\Γ=[(1,qS C ns.length y),(3,pB W),(19,qS M us.length cu),(20,nV us.length),(21,nV u)]/\SS w h w_ b [⟨W,53,cY p⟩] [] [Sv M us,fun b=>SlO 1 bB ⟨#[]⟩ b C ns,fun b=>TmH d b p t]/\u<=us.length/\(∀ i,i<u->U.getD i 0=ns.length)) _ ⟨0,h5,rfl,rfl,a.to _ _,MG _,(fun i hi=>absurd hi (N8 i))⟩ ?_);rintro _ _ w7 ⟨u,h8,hm9,rfl,a,hu,H⟩;refine ax ?_;cases za:(decide ((u:Int)<(us.length:Int)))
  .
   have zi:=oF za;refine lB 22 za (ah (dr (CG.exit ?_)))
   show CG _ _ _ _ _ _ _ _
   refine cQ (aa a [.c,.v (nV ns.length)] ?_);cases zb:(decide ((20:Int)<(ns.length:Int)))
   .
    have zj:=oF zb;refine lB 33 zb (ag (cK (cQ (aa a [.c,.v (nV ns.length),.c] (aY ?_)))));refine bH _ (CG.loop (fun F Γ w_=>∃ (k:Nat) (b:Hp),F=ns.length-k/\Γ=[(1,qS C ns.length y),(3,pB W),(34,qS C ns.length y),(35,nV ns.length),(36,nV k)]/\SS w h w_ b [⟨W,53,cY p⟩] [] [Sv M us,fun b=>SlO 1 bB ⟨#[]⟩ b C ns,fun b=>TmH d b p t]/\k<=ns.length/\(∀ i,i<k->dC (ns.getD i ⟨#[]⟩)=true)) _ ⟨0,h8,rfl,rfl,a.to _ _,MG _,(fun i hi=>absurd hi (N8 i))⟩ ?_);rintro _ _ _ ⟨k,_,bk,rfl,a,hk,Y⟩;refine ax ?_;cases zc:(decide ((k:Int)<(ns.length:Int)))
    .
     have zk:=oF zc;refine lB 37 zc (ah (dr (CG.exit ?_)))
     show CG _ _ _ _ _ _ _ _
     have x:∀ i,i<ns.length->dC (ns.getD i ⟨#[]⟩)=true:=fun i hi=>Y i oM
     refine aa a ac (lC 45 a (m9 z x C y _ _ a.g a.f.2.1) ?_);rintro _ _ _ a ⟨bm,rfl,hM⟩;replace a:=(a.add (K:=fun b=>MapS b bm (jW ns)) hM);refine lL a ac (ah ?_);have B:=Bb hS J oM;have bb:=B.1;refine aa a [.o (bS p) 0 0 9] (lC 47 a (FD (fun s=>dC s=true) (fun s_ b=>by have q_:=o7 b;unfold gm at q_;omega) d hd p t _ _ a.g a.f.r.2.1 bb) ?_);rintro _ _ zo a ⟨nA,nc,l,rfl,hnc,hnl,hnS,O⟩;replace a:=a.aS hnS;refine lL a [.v (nV l.length),.c] (aY ?_);refine bH _ (CG.loop (fun F Γ w_=>∃ (j:Nat) (b:Hp),F=l.length-j/\Γ=[(1,qS C ns.length y),(11,.map (some bm)),(47,qS nA l.length nc),(48,nV l.length),(49,nV j)]/\SS w h w_ b [⟨W,53,cY p⟩] [] [fun b=>SlO 1 bB ⟨#[]⟩ b nA l,fun b=>MapS b bm (jW ns),Sv M us,fun b=>SlO 1 bB ⟨#[]⟩ b C ns,fun b=>TmH d b p t]/\j<=l.length/\(∀ i,i<j->l.getD i ⟨#[]⟩∈ns)) _ ⟨0,zo,rfl,rfl,a.to _ _,MG _,(fun i hi=>absurd hi (N8 i))⟩ ?_);rintro _ _ _ ⟨j,zp,bn,rfl,a,hj,Q⟩;refine ax ?_;cases zd:(decide ((j:Int)<(l.length:Int)))
     .
      have zl:=oF zd;refine lB 50 zd (ah (dr (CG.exit ?_)))
      show CG _ _ _ _ _ _ _ _
      refine cQ ?_;have S:∀ s,gd d t s->s∈ns:=fun s_ b=>by obtain ⟨D,I,e_⟩:=tQ ((O s_).2 b);rw[<-e_];exact Q D oM
      refine aa a ac (K9 63 76 0 9 3 a a.f.2.1 ?_);refine lL a [.c,.v (nV ns.length)] ?_;cases ze:((((jW ns).length:Nat):Int) != (ns.length:Int))
      .
       have zm:=aW ze;exact lB 66 ze (ag (cK (aa a ac (ae a [] (iV 0) (⟨_,rfl,.inr ⟨B,.inr ⟨(fun D I=>H D oM),.inr ⟨x,.inr ⟨S,.inr ⟨(xm z).2 oM,rfl⟩⟩⟩⟩⟩⟩)))))
      have zm:=aN ze;exact lB 66 ze (ak (aa a ac (ae a [] (iV 8) (⟨_,rfl,.inr ⟨B,.inr ⟨(fun D I=>H D oM),.inr ⟨x,.inr ⟨S,.inl ⟨fun b=>by have:=(xm z).1 b;omega,rfl⟩⟩⟩⟩⟩⟩))))
     have zl:=oT zd;refine lB 50 zd (ah (co (cK (cQ (kZ (ax (lX 51 nA l.length nc 1 (j:Nat) j ((a.f.1).ok oM) ?_)))))));refine lH 52 (.string (l.getD j ⟨#[]⟩)) a ((a.f.1).el j oM) (lL a ac (aG (lL a aD (IZ 56 76 9 3 (l.getD j ⟨#[]⟩) true (iV (vN ns (l.getD j ⟨#[]⟩))) ((decide (l.getD j ⟨#[]⟩∈ns))) a a.f.2.1 ?_ (hf:=(by rcases Lo z x (l.getD j ⟨#[]⟩) with ⟨D,e1_,e2_⟩|⟨e1_,e2_,e3_⟩;exact .inl ⟨D,e1_,e2_⟩;exact .inr ⟨e1_,e2_,fun _=>by rw[e3_];kernel_rfl⟩))))));refine lL a [.c,.v (iV (vN ns (l.getD j ⟨#[]⟩))),.v (.bool (decide (l.getD j ⟨#[]⟩∈ns))),.c,.c] (aG (lL a ac ?_));cases zg:(!(decide (l.getD j ⟨#[]⟩∈ns)))
     .
      refine lB 60 zg (ag (cK (kQ (bh 61 ((j:Nat)+1) (j+1) ?_))));refine lL a ac (lD ?_);intro a_ V;refine ⟨_,_,?_,⟨j+1,zp,rfl,rfl,a.to _ _,oM,(fun i hi=>by rcases Ou.1 hi with b|rfl;exact Q i b;exact oT (by first|assumption|exact DO aM))⟩,V.to _ kR⟩
      omega
     exact lB 60 zg (ak (aa a ac (ae a [] (iV 11) (⟨_,rfl,.inr ⟨B,.inr ⟨(fun D I=>H D oM),.inr ⟨x,.inl ⟨fun b=>oF (by first|assumption|exact HF aM) (b _ ((O _).1 (Bz oM))),rfl⟩⟩⟩⟩⟩))))
    have zk:=oT zc;refine lB 37 zc (ah (co (cK (cQ (kZ (ax (lX 38 C ns.length y 1 (k:Nat) k ((a.f.2.1).ok oM) ?_)))))));refine lH 39 (.string (ns.getD k ⟨#[]⟩)) a ((a.f.2.1).el k oM) (lL a ac (aG (lL a ac (lC 41 a (Jt (ns.getD k ⟨#[]⟩) (z.small k oM) _ _ a.g) ?_))));rintro _ _ zq a ⟨bi,rfl,Z⟩;cases bf:(bi)
    .
     exact lL a [.v qT] (ak (aa a ac (ae a [] (iV 11) (⟨_,rfl,.inr ⟨Bb hS J oM,.inr ⟨(fun D I=>H D oM),.inl ⟨(fun b=>by have q_:=b k oM;rw[<-Z] at q_;have X:bi=false:=aM;rw[q_] at X;cases X),rfl⟩⟩⟩⟩))))
    refine lL a [.v qF] (ag (cK (kQ (bh 43 ((k:Nat)+1) (k+1) ?_))));refine lL a ac (lD ?_);intro a_ V;refine ⟨_,_,?_,⟨k+1,zq,rfl,rfl,a.to _ _,oM,(fun i hi=>by rcases Ou.1 hi with b|rfl;exact Y i b;rw[<-Z];first|assumption|exact DO aM)⟩,V.to _ kR⟩
    omega
   have zj:=oT zb;refine lB 33 zb (ak (aa a ac (lN (kX ?_))))
   exfalso;have:=z.len;omega
  have zi:=oT za;refine lB 22 za (ah (co (cK (cQ (kZ (ax (lX 23 M us.length cu 1 (u:Nat) u ((a.f.1).ok oM) ?_)))))));obtain ⟨Uj,uj,huj,hmj⟩:=hus u oM;refine Fo 24 ((us.getD u undef)) a ((a.f.1).el u oM) huj (lL a ac (aG (lL a [.c,.v (nV (U.getD u 0)),.c,.v (nV ns.length)] ?_)));cases zf:((((U.getD u 0):Nat):Int) != (ns.length:Int))
  .
   have zn:=aW zf;refine lB 29 zf (ag (cK (kQ (bh 30 ((u:Nat)+1) (u+1) ?_))));refine lL a ac (lD ?_);intro a_ V;refine ⟨_,_,?_,⟨u+1,h8,rfl,rfl,a.to _ _,oM,(fun i hi=>by rcases Ou.1 hi with b|rfl;exact H i b;omega)⟩,V.to _ kR⟩
   omega
  have zn:=aN zf;exact lB 29 zf (ak (aa a ac (ae a [] (iV 5) (⟨_,rfl,.inr ⟨Bb hS J oM,.inl ⟨fun b=>by have:=b u oM;omega,rfl⟩⟩⟩))))
 have bd:=aN L;exact lB 18 L (ak (aa a ac (ae a [] (iV 1) (⟨_,rfl,.inl ⟨fun b=>by have:=JJ J ⟨b.1,b.2⟩;omega,rfl⟩⟩))))
theorem DckR.cg {d:Nat}{t:Tm}{ns:List ByteArray}{M a:Prop}{e:Int}(x:DckR d t ns M e)(h:M↔a):DckR d t ns a e:=propext h▸x
theorem CI (d:Nat)(p:PTm)(t:Tm)(C:d<=20)(o:Option Addr)(a:Nat)(ns:List ByteArray)(i:NsD ns)(c:Option Addr)(B:Nat)(z:Option Addr)(b y:Nat)(l:b<=1000000)(w:World)(h:Hp)(g:G w h)(F:TmH d h p t)(H:SmT1 gm d t)(I:SlO 1 bB ⟨#[]⟩ h o ns)(D:Sv (c) ([.slice z b y]:List Value) h):Calls Tryz.prog 22 #[bS p,.slice o ns.length a,.slice c 1 B] w (Ret w h (fun v _=>∃ e:Int,v=iV e/\DckR d t ns (b=ns.length) e)) :=
 (uO d p t C o a ns i c B [.slice z b y] [b] (Lz rfl) (fun j f=>by match j,f with|0,_=>exact ⟨_,_,rfl,l⟩) w h g F H I D).mono fun e w' ⟨v,h',e1,u,x,e2,k⟩=>⟨v,h',e1,u,x,e2,k.cg ⟨fun h=>h 0 (MW _),fun h j f=>by match j,f with|0,_=>exact h⟩⟩
theorem C0 (d:Nat)(p:PTm)(t:Tm)(H:d<=20)(y:Option Addr)(b:Nat)(ns:List ByteArray)(l:NsD ns)(f:Option Addr)(F:Nat)(D:Option Addr)(c C:Nat)(B:Option Addr)(a u1:Nat)(o:c<=1000000)(z:a<=1000000)(w:World)(h:Hp)(g:G w h)(J:TmH d h p t)(K:SmT1 gm d t)(L:SlO 1 bB ⟨#[]⟩ h y ns)(I:Sv (f) ([.slice D c C,.slice B a u1]:List Value) h):Calls Tryz.prog 22 #[bS p,.slice y ns.length b,.slice f 2 F] w (Ret w h (fun v _=>∃ e:Int,v=iV e/\DckR d t ns (c=ns.length/\a=ns.length) e)) :=
 (uO d p t H y b ns l f F [.slice D c C,.slice B a u1] [c,a] (Lz rfl) (fun j i=>by match j,i with|0,_=>exact ⟨_,_,rfl,o⟩|1,_=>exact ⟨_,_,rfl,z⟩) w h g J K L I).mono fun e w' ⟨v,h',e1,u,x,e2,k⟩=>⟨v,h',e1,u,x,e2,k.cg ⟨fun h=>⟨h 0 (MW _),h 1 (nR 2)⟩,fun h j i=>by match j,i with|0,_=>exact h.1|1,_=>exact h.2⟩⟩
def DrunR (d:Nat)(t:Tm)(ns:List ByteArray)(fs:List Rat)(e:Int)(q:Rat)(G_:List Rat):Prop :=
  ∃ ec,DckR d t ns (fs.length=ns.length) ec/\((ec≠0/\e=ec/\q=0/\G_=[])\/(ec=0/\(e,q,G_)=bF (bO ns) fs d t))
theorem xV {d:Nat}{t:Tm}{ns:List ByteArray}{M:Prop}(h:rJ dC d t/\M/\(∀ i,i<ns.length->dC (ns.getD i ⟨#[]⟩)=true)/\(∀ s,gd d t s->s∈ns)/\ns.Nodup):WfT1 (fun s=>s∈ns) d t :=
 WfT1.imp (fun _ x=>x.2) (h.1.1.names h.2.2.2.1)
theorem Jb {ns:List ByteArray}{fs:List Rat}(c:NsD ns)(a:ns.Nodup)(d:fs.length=ns.length)(s:ByteArray)(b:s∈ns):bO ns s<fs.length/\∃ i,Instr.findNow .string (.string s) (jW ns) 0=some (some (i,.int .i64 (bO ns s:Nat))):=by
 have f:ns≠oN:=fun e=>by subst e;exact absurd a kD
 refine ⟨by rw[d];exact (lj b).1,?_⟩
 unfold jW;rw[if_neg f]
 rcases Fg a s with ⟨i,e1,_⟩|⟨_,e2,_⟩
 ·exact ⟨i,by rw[e1,tT b]⟩
 ·exact absurd b (oF e2)
theorem IL (d:Nat)(p:PTm)(t:Tm)(M:d<=20)(C:Option Addr)(y:Nat)(ns:List ByteArray)(z:NsD ns)(fs:List Rat)(u:Option Addr)(x:Nat)(W:fs.length<=1000)(hq:∀ i,LQ 1 (fs.getD i 0))(w:World)(h:Hp)(g:G w h)(Q:TmH d h p t)(U:SmT1 gm d t)(V:SlO 1 bB ⟨#[]⟩ h C ns)(hF:Sq u fs h)(O:Tab h):CR 8 #[bS p,.slice C ns.length y,.slice u fs.length x] w h (fun v h1=>∃ (e:Int) (q:Rat) (A_:Option Addr) (c_:Nat) (G_:List Rat),v=.tuple #[pq q A_ G_.length c_,iV e]/\Sq A_ G_ h1/\DrunR d t ns fs e q G_):=by
 have a:=(((((sS g).add (K:=fun I=>TmH d I p t) Q).aS V).aS hF).aB O);refine go Tryz.func8 [(0,bS p),(1,qS C ns.length y),(2,qS u fs.length x)] rfl (ax (lA 3 53 (cY p) a (fun b1 w2 h3 a=>lA 6 47 ([qF,uV 0,eS,uV 0,eS,sZ]) a (fun b4 w5 Z a=>lL a ac (ah (aa a [.o (bS p) 1 0 9,.c,.c] (lR 13 45 1 ([qS u fs.length x]) a (fun L X Y a=>?_))))))));replace a:=a.aS (SlO.of_flat (sz:=1) (f:=vc) (d:=undef) (b:=L) (o:=0) (l:=([qS u fs.length x]:List Value)) (fun _=>rfl) a.f.1);refine lC 14 a (CI d p t M C y ns z (sB L) 1 u fs.length x oM _ _ a.g a.f.q.2.1 U a.f.q.1 a.f.1) ?_;rintro _ _ _ a ⟨F,rfl,B⟩;refine lL a ac (aG (lL a ac ?_));cases za:((F:Int) != (0:Int))
 .
  have zb:=aW za;refine lB 16 za (ag (cK ?_));have j:=B.ok oM;refine aa a [.c,.v (.agg #[qS u fs.length x]),.v (.iface 75 (.agg #[qS u fs.length x])),.c] (lC 23 a (m9 z j.2.2.1 C y _ _ a.g a.f.q.1) ?_);rintro _ _ _ a ⟨D,rfl,hM⟩;replace a:=(a.add (K:=fun I=>MapS I D (jW ns)) hM);refine lL a [.v (.agg #[.iface 75 (.agg #[qS u fs.length x]),.map (some D),qF])] (lA 9 81 ([.nilIface,.map none,qF]) a (fun S _ _ a=>lP 0 0 ([.iface 75 (.agg #[qS u fs.length x]),.map (some D),qF]) a (fun _ a=>aG (lL a [.o (.agg #[.iface 75 (.agg #[qS u fs.length x]),.map (some D),qF]) 0 0 3,.o (bS p) 2 0 9] (lC 27 a (EY (fun s=>s∈ns) (bO ns) fs u x W D (jW ns) hq (Jb z j.2.2.2.2 j.2.1) d p t _ _ oM a.g a.f.q.r.1 (xV j) j.1.2 a.f.q.1 a.f.1 a.f.r.2.1) ?_)))));rintro _ _ _ a ⟨J,cg,rfl,H⟩;replace a:=a.aS H;exact lL a [.v (qY ((bF (bO ns) fs d t).2.1) J (((bF (bO ns) fs d t).2.2).length) cg),.v (iV ((bF (bO ns) fs d t).1))] (lP 1 0 (qZ ((bF (bO ns) fs d t).2.1) J (((bF (bO ns) fs d t).2.2).length) cg) a (fun _ a=>lL a ac (ae a [(1,0,6)] (.tuple #[qY ((bF (bO ns) fs d t).2.1) J (((bF (bO ns) fs d t).2.2).length) cg,iV ((bF (bO ns) fs d t).1)]) (⟨_,_,_,_,_,rfl,a.f.1,F,B,.inr ⟨by omega,rfl⟩⟩))))
 have zb:=aN za;exact lB 16 za (ak (aa a [.v (.agg #[qF,uV 0,eS,uV 0,eS,sZ]),.c] (lP 0 0 ([qF,uV 0,eS,uV 0,eS,sZ]) a (fun _ a=>lL a ac (ae a [(0,0,6)] (.tuple #[.agg #[qF,uV 0,eS,uV 0,eS,sZ],iV F]) (⟨_,0,none,0,[],rfl,SlO.nil,F,B,.inl ⟨by omega,rfl,rfl,rfl⟩⟩))))))
def gl (a b:List Rat)(i:Nat):Nat->Rat
  | 0=>0
  | j+1=>gl a b i j+a.getD j 0*b.getD (i-j) 0
def gj (m:Nat)(q:Rat):List Rat:=(As m (0:Rat)).set 0 q
def o8 (m:Nat)(x y:Rat):List Rat:=if 1<m then (gj m x).set 1 y else gj m x
def kF (m:Nat)(a b:List Rat):List Rat:=(pa m).map fun i=>gl a b i (i+1)
def gN (a:List Rat)(m:Nat):Nat->List Rat
  | 0=>As m 0
  | i+1=>(gN a m i).set i (if i=0 then ((1:Int):Rat)/a.getD 0 0 else -(gl (gN a m i) a i i*(gN a m i).getD 0 0))
def gT (m:Nat)(a:List Rat):List Rat:=gN a m m
theorem pM (m:Nat)(q:Rat):(gj m q).length=m:=by simp[gj]
theorem mT (m:Nat)(x y:Rat):(o8 m x y).length=m:=by unfold o8;split<;>simp[gj]
theorem xM (m:Nat)(a b:List Rat):(kF m a b).length=m:=by simp[kF]
theorem fY (a:List Rat)(m:Nat):∀ k,(gN a m k).length=m
 | 0=>by simp[gN]
 | k+1=>by unfold gN;rw[LB];exact fY a m k
theorem pU (m:Nat)(a:List Rat):(gT m a).length=m:=fY a m m
theorem Fv {m:Nat}(x y:Rat)(h:1<m):(gj m x).set 1 y=o8 m x y:=by unfold o8;rw[if_pos h]
theorem Hc {m:Nat}(x y:Rat)(h:¬1<m):gj m x=o8 m x y:=by unfold o8;rw[if_neg h]
section
variable {a b:List Rat} {m i j k:Nat}
theorem xB {f:Nat->Rat}(h:i<m):(dZ f m k).getD i 0=if i<k then f i else 0:=jy h
theorem kv (f:Nat->Rat)(m k:Nat):(dZ f m k).length=m:=by simp[dZ]
theorem vF {l:List Rat}(h:i<l.length)(e:l.getD i 0=0):l=l.set i 0:=by
 refine iI (by simp) fun t=>?_
 rw[eo h]
 split
 ·rename_i e2;subst e2;exact e
 ·rfl
theorem Hb (h:i<m):dZ (fun i=>gl a b i (i+1)) m i=(dZ (fun i=>gl a b i (i+1)) m i).set i (gl a b i 0) :=
 vF (by rw[kv];exact h) (by rw[xB h,if_neg (Nat.lt_irrefl i)])
theorem GR {S:List Rat}(c:S.length=m)(h:i<m):(S.set i (gl a b i j)).set i ((S.set i (gl a b i j)).getD i 0+a.getD j 0*b.getD (i-j) 0)=S.set i (gl a b i (j+1)):=by
 rw[List.set_set,eo oM,if_pos rfl];rfl
theorem HQ {S:List Rat}(a:S.length=m)(h:i<m)(c:Rat):(S.set i c).getD i 0=c:=by rw[eo oM,if_pos rfl]
theorem C9 (h:i<m)(e:j=i+1):(dZ (fun i=>gl a b i (i+1)) m i).set i (gl a b i j)=dZ (fun i=>gl a b i (i+1)) m (i+1):=by
 subst e;exact fV (f:=fun i=>gl a b i (i+1)) h
theorem Dp:dZ (fun i=>gl a b i (i+1)) m m=kF m a b:=fU _ _
theorem Gy (h:1<=i):(gN a m i).set i (-(gl (gN a m i) a i i*(gN a m i).getD 0 0))=gN a m (i+1):=by
 show _=(gN a m i).set i (if i=0 then _ else _)
 rw[if_neg oM]
theorem tH (hk:k<=m):∀ {n},k<=n->i<k->(gN a m n).getD i 0=(gN a m k).getD i 0
  | n,hn,hi=>by
    obtain ⟨e,rfl⟩:∃ e,n=k+e:=⟨n-k,by omega⟩
    induction e with
    | zero=>rfl
    | succ e ih =>
      rw[<-ih oM]
      show ((gN a m (k+e)).set (k+e) _).getD i 0=_
      by_cases hm:k+e<m
      . rw[eo (by rw[fY];exact hm),if_neg oM]
      . rw[Ow (by rw[fY];omega)]
theorem rK:∀ {k},k<=i->(gN a m k).getD i 0=0
  | 0,_=>fA m i
  | k+1,h=>by
    show ((gN a m k).set k _).getD i 0=0
    by_cases hm:k<m
    . rw[eo (by rw[fY];exact hm),if_neg oM];exact rK oM
    . rw[Ow (by rw[fY];omega)];exact rK oM
theorem Es {K:Nat}(b:1<=K)(h:∀ i,LQ K ((gT m a).getD i 0))(hk:k<=m)(i:Nat):LQ K ((gN a m k).getD i 0):=by
 by_cases hi:i<k
 ·rw[<-tH hk hk hi];exact h i
 ·rw[rK oM];exact jd b
end
def oW (m:Nat)(a b:List Rat):List Rat:=(pa m).map fun i=>a.getD i 0+b.getD i 0
def jr (m:Nat)(a:List Rat)(k:Rat):List Rat:=(pa m).map fun i=>a.getD i 0*k
theorem wm (m:Nat)(a b:List Rat):(oW m a b).length=m:=by simp[oW]
theorem qz (m:Nat)(a:List Rat)(k:Rat):(jr m a k).length=m:=by simp[jr]
theorem nM {a b c:List Rat}{i:Nat}:∀ j,(∀ t,t<j->a.getD t 0=c.getD t 0)->gl a b i j=gl c b i j
  | 0,_=>rfl
  | j+1,h=>by
    show gl a b i j+a.getD j 0*_=gl c b i j+c.getD j 0*_
    rw[nM j (fun t ht=>h t oM),h j (Ox j)]
theorem DQ {a:List Rat}{m i j:Nat}(b:j<=i)(hi:i<=m):gl (gN a m i) a i j=gl (gT m a) a i j :=
 nM j fun t ht=>(tH hi hi oM).symm
def B6 (p:Nat->Bool)(s:ByteArray):Nat->Nat->Nat
  | 0,a=>a
  | f+1,a=>if a<s.size/\p (aR s a)=true then B6 p s f (a+1) else a
def rn (p:Nat->Bool)(s:ByteArray)(a:Nat):Nat:=B6 p s (s.size-a) a
theorem wk (p:Nat->Bool)(s:ByteArray):∀ f a,a<=s.size->B6 p s f a<=s.size
  | 0,a,h=>h
  | f+1,a,h=>by
    unfold B6;split
    . rename_i c;exact wk p s f (a+1) c.1
    . exact h
theorem xS {p:Nat->Bool}{s:ByteArray}{a:Nat}(h:a<=s.size):rn p s a<=s.size:=wk p s _ a h
theorem x7 {p:Nat->Bool}{s:ByteArray}{j:Nat}:∀ f a,s.size-a<=f->a<=j->j<=s.size->(∀ i,a<=i->i<j->p (aR s i)=true)->(j=s.size\/p (aR s j)=false)->B6 p s f a=j
  | 0,a,h1,h2,h3,_,_=>by show a=j;omega
  | f + 1,a,h1,h2,h3,h4,h5=>by
    unfold B6
    by_cases e:a=j
    . subst e
      rw[if_neg];rintro ⟨d,b⟩
      rcases h5 with h5|h5
      . omega
      . rw[h5] at b;cases b
    . rw[if_pos ⟨by omega,h4 a (ep a) oM⟩]
      exact x7 f (a+1) oM oM h3 (fun i hi c=>h4 i oM c) h5
theorem py {p:Nat->Bool}{s:ByteArray}{a j:Nat}(c:a<=j)(e:j<=s.size)(b:∀ i,a<=i->i<j->p (aR s i)=true)(d:j=s.size\/p (aR s j)=false):rn p s a=j:=x7 _ a (ep _) c e b d
theorem pY (p:Nat->Bool)(s:ByteArray):∀ f a,s.size-a<=f->B6 p s f a<s.size->p (aR s (B6 p s f a))=false
  | 0,a,h1,b=>by
    have b:a<s.size:=b
    omega
  | f + 1,a,h1,b=>by
    unfold B6 at b ⊢
    split
    . rename_i c;rw[if_pos c] at b;exact pY p s f (a+1) oM b
    . rename_i c;rw[if_neg c] at b
      cases h:p (aR s a) with
      | true=>exact absurd ⟨b,h⟩ c
      | false=>rfl
def Cg (c:Nat):Bool:=decide (c=32)
def l7 (c:Nat):Bool:=decide ((48<=c/\c<=57)\/c=46)
def ig (c:Nat):Bool:=decide (pt c)
def sk (s:ByteArray)(a:Nat):Nat:=rn Cg s a
theorem lw {s:ByteArray}{a:Nat}(h:a<=s.size):sk s a<=s.size:=xS h
theorem Jq (s:ByteArray)(a:Nat):sk s (sk s a)=sk s a:=by
 rcases ea (sk s a) s.size with h1|h1
 ·exact py (ep _) (Nat.le_of_lt h1) (fun i b c=>absurd b oM) (.inr (pY Cg s (s.size-a) a (ep _) h1))
 ·show B6 Cg s (s.size-sk s a) (sk s a)=sk s a
  rw[show s.size-sk s a=0 by omega];rfl
theorem uo {s:ByteArray}{a:Nat}(h:s.size<=a):aR s a=0:=by
 unfold aR
 rw[LH,List.getElem?_eq_none (by simpa using h)];rfl
theorem Bw {s:ByteArray}{a:Nat}(h:aR s a≠0):a<s.size:=by
 rcases ea a s.size with h1|h1
 ·exact h1
 ·exact absurd (uo h1) h
inductive PR where
  | ok (t:Tm) (a:Nat)
  | err (b:Nat)
inductive PKd where
  | sum|prod|sign|pow|atom
  | more (lv:Bool) (t:Tm)
def iJ (op:Int)(t u:Tm):Tm:=.mk op 0 0 ⟨#[]⟩ [t,u]
def oB (q:Rat):Tm:=.mk 1 0 q ⟨#[]⟩ []
def rv (s:ByteArray):Tm:=.mk 2 0 0 s []
def rN (x:Option PR)(f:Tm->Nat->Option PR):Option PR:=match x with
  | none=>none
  | some (.ok t a)=>f t a
  | some (.err b)=>some (.err b)
def c1 (lv:Bool):Nat:=if lv then 42 else 43
def c2 (lv:Bool):Nat:=if lv then 47 else 45
def B7 (lv:Bool):Int:=if lv then 5 else 3
def tG (lv:Bool):Int:=if lv then 6 else 4
def part (lv:Bool):PKd:=if lv then .sign else .prod
section
variable (nf:ByteArray->Option Rat) (s:ByteArray)
def gc:Nat->PKd->Nat->Option PR
  | 0,_,_=>none
  | n+1,.sum,a=>rN (gc n .prod a) fun t b=>gc n (.more false t) b
  | n+1,.prod,a=>rN (gc n .sign a) fun t b=>gc n (.more true t) b
  | n+1,.more lv t,a =>
    if aR s (sk s a)=c1 lv then rN (gc n (part lv) (sk s a+1)) fun u b=>gc n (.more lv (iJ (B7 lv) t u)) b
    else if aR s (sk s a)=c2 lv then rN (gc n (part lv) (sk s a+1)) fun u b=>gc n (.more lv (iJ (tG lv) t u)) b
    else some (.ok t (sk s a))
  | n+1,.sign,a=>if aR s (sk s a)=45 then none else gc n .pow (sk s a)
  | n+1,.pow,a=>rN (gc n .atom a) fun t b=>if aR s (sk s b)=94 then none else some (.ok t (sk s b))
  | n + 1,.atom,a =>
    if l7 (aR s (sk s a))=true then match nf (s.extract (sk s a) (rn l7 s (sk s a))) with
      | some q=>some (.ok (oB q) (rn l7 s (sk s a)))
      | none=>some (.err (sk s a))
    else if iC (aR s (sk s a))\/aR s (sk s a)=95 then
      if ej (s.extract (sk s a) (rn ig s (sk s a)))=true then none
      else if dC (s.extract (sk s a) (rn ig s (sk s a)))=true then some (.ok (rv (s.extract (sk s a) (rn ig s (sk s a)))) (rn ig s (sk s a)))
      else some (.err (sk s a))
    else if aR s (sk s a)=40 then rN (gc n .sum (sk s a+1)) fun t b=>if aR s (sk s b)=41 then some (.ok t (sk s b+1)) else some (.err (sk s b))
    else some (.err (sk s a))
variable {nf s}
theorem jP {x:Option PR}{f:Tm->Nat->Option PR}{t:Tm}{b:Nat}(h:rN x f=some (.ok t b)):∃ u a,x=some (.ok u a)/\f u a=some (.ok t b):=by
 match x,h with
 | some (.ok u a),h=>exact ⟨u,a,rfl,h⟩
def wd (lv:Bool):PKd:=if lv then .prod else .sum
section
variable {n a b:Nat} {t u:Tm} {lv:Bool} {op:Int}
theorem CX {k:PKd}{r:PR}(h:gc nf s n k a=some r):∃ m,n=m+1:=by
 cases n with
 | zero=>cases h
 | succ m=>exact ⟨m,rfl⟩
theorem D4 (h:gc nf s (n+1) (wd lv) a=some (.ok t b)):∃ u c,gc nf s n (part lv) a=some (.ok u c)/\gc nf s n (.more lv u) c=some (.ok t b):=by
 cases lv<;>exact jP h
theorem vV (h:gc nf s (n+1) (.more lv u) a=some (.ok t b))(c:aR s (sk s a)=c1 lv):∃ v e,gc nf s n (part lv) (sk s a+1)=some (.ok v e)/\gc nf s n (.more lv (iJ (B7 lv) u v)) e=some (.ok t b):=by
 unfold gc at h;rw[if_pos c] at h;exact jP h
theorem vn (h:gc nf s (n+1) (.more lv u) a=some (.ok t b))(d:aR s (sk s a)≠c1 lv)(c:aR s (sk s a)=c2 lv):∃ v e,gc nf s n (part lv) (sk s a+1)=some (.ok v e)/\gc nf s n (.more lv (iJ (tG lv) u v)) e=some (.ok t b):=by
 unfold gc at h;rw[if_neg d,if_pos c] at h;exact jP h
theorem vR (h:gc nf s (n+1) (.more lv u) a=some (.ok t b))(d:aR s (sk s a)≠c1 lv)(c:aR s (sk s a)≠c2 lv):t=u/\b=sk s a:=by
 unfold gc at h;rw[if_neg d,if_neg c] at h;injection h with h;injection h with h1 h2;exact ⟨h1.symm,h2.symm⟩
theorem nB (h:gc nf s (n+1) .sign a=some (.ok t b)):aR s (sk s a)≠45/\gc nf s n .pow (sk s a)=some (.ok t b):=by
 unfold gc at h
 split at h
 ·cases h
 ·rename_i c;exact ⟨c,h⟩
theorem Ek (h:gc nf s (n+1) .pow a=some (.ok t b)):∃ e,gc nf s n .atom a=some (.ok t e)/\aR s (sk s e)≠94/\b=sk s e:=by
 unfold gc at h
 obtain ⟨v,e,h1,d⟩:=jP h
 split at d
 ·cases d
 ·rename_i c;injection d with d;injection d with d h3;subst d;exact ⟨e,h1,c,h3.symm⟩
section
variable (h:gc nf s (n+1) .atom a=some (.ok t b))
include h
theorem CU (c:l7 (aR s (sk s a))=true):∃ q,nf (s.extract (sk s a) (rn l7 s (sk s a)))=some q/\t=oB q/\b=rn l7 s (sk s a):=by
 unfold gc at h;rw[if_pos c] at h
 split at h
 ·rename_i q hq;injection h with h;injection h with h1 h2;exact ⟨q,hq,h1.symm,h2.symm⟩
 ·cases h
variable (c0:l7 (aR s (sk s a))=false)
include c0
theorem DZ (c:iC (aR s (sk s a))\/aR s (sk s a)=95):ej (s.extract (sk s a) (rn ig s (sk s a)))=false/\dC (s.extract (sk s a) (rn ig s (sk s a)))=true/\t=rv (s.extract (sk s a) (rn ig s (sk s a)))/\b=rn ig s (sk s a):=by
 unfold gc at h;rw[if_neg (by rw[c0];decide),if_pos c] at h
 split at h
 ·cases h
 ·rename_i d
  split at h
  ·rename_i e;injection h with h;injection h with h1 h2;exact ⟨by simpa using d,e,h1.symm,h2.symm⟩
  ·cases h
variable (cL:¬(iC (aR s (sk s a))\/aR s (sk s a)=95))
include cL
theorem C6:aR s (sk s a)=40/\∃ e,gc nf s n .sum (sk s a+1)=some (.ok t e)/\aR s (sk s e)=41/\b=sk s e+1:=by
 unfold gc at h;rw[if_neg (by rw[c0];decide),if_neg cL] at h
 split at h
 ·rename_i c
  obtain ⟨v,e,h1,f⟩:=jP h
  split at f
  ·rename_i d;injection f with f;injection f with f h3;subst f;exact ⟨c,e,h1,d,h3.symm⟩
  ·cases f
 ·cases h
end
end
end
def PtH (h:Hp)(p:PTm)(t:Tm):Prop:=∃ d,TmH d h p t
theorem PtH.gw {h h':Hp}{p:PTm}{t:Tm}(x:PtH h p t)(u:Gw h h'):PtH h' p t:=by obtain ⟨d,x⟩:=x;exact ⟨d,x.gw u⟩
theorem PtH.two {h:Hp}{op:Int}{p q:PTm}{t u:Tm}{b:Nat}(x:PtH h p t)(y:PtH h q u)(a:SlO 9 cY cH h (some ⟨b,0,none⟩) [p,q]):PtH h ⟨op,0,0,⟨#[]⟩,some ⟨b,0,none⟩,2,2⟩ (iJ op t u):=by
 obtain ⟨d,x⟩:=x;obtain ⟨e,y⟩:=y
 exact ⟨max d e+1,TmH.mk (ps:=[p,q]) (ks:=[t,u]) ⟨rfl,fun i hi=>by
  have:i=0\/i=1:=by have:i<2:=hi;omega
  rcases this with rfl|rfl
  ·exact x.mono (Nat.le_max_left _ _)
  ·exact y.mono (Nat.le_max_right _ _)⟩ (ep _) a⟩
theorem PtH.num {h:Hp}{q:Rat}:PtH h ⟨1,0,q,⟨#[]⟩,none,0,0⟩ (oB q):=⟨1,TmH.mk (ps:=[]) (ks:=[]) Tms.nil (ep _) SlO.nil⟩
theorem PtH.nam {h:Hp}{s:ByteArray}:PtH h ⟨2,0,0,s,none,0,0⟩ (rv s):=⟨1,TmH.mk (ps:=[]) (ks:=[]) Tms.nil (ep _) SlO.nil⟩
section ops
variable {P:Program} {Γ:bU} {o:Oper}
theorem xy {tx:TypeId}{x i e:Operand}{k k2:IntKind}{s:ByteArray}{n m:Nat}{j j2:Int}(h:o.op=.slice tx x (some i) (some e) none)(f:ev Γ x=.string s)(hi:ev Γ i=.int k j)(d:ev Γ e=.int k2 j2)(b:P.underlying tx=some .string)(c:j=(n:Int))(a:j2=(m:Int))(hn:n<=m)(l:m<=s.size)(w:World) :
  (execOp (ev Γ) o).run P w=.ok (.value (.string (s.extract n m))) w:=by
 unfold execOp;simp only[h]
 subst c;subst a;have h0:(m:Int)<=(s.size:Int):=by omega
 simp[Instr.sliceAt,f,hi,d,Instr.slice,run_underlying b,Instr.sliceBounds,Instr.sliceBound,asIntOf,Result.andThen,h0,hn,l]
end ops
theorem EU {q:Rat}(h:decide (ab q.num<18446744073709551616/\q.den<18446744073709551616)=true):LQ 1 q:=by
 have h:=oT h
 have k:∀ n,n<18446744073709551616->(wds n).length<=1:=fun n hn=>by
  rcases Nat.eq_zero_or_pos n with rfl|h0
  ·rw[ni];exact MG _
  ·rw[kc h0 hn];exact ep _
 exact ⟨k _ h.1,k _ h.2⟩
section
variable {ok:ByteArray->Prop} {d:Nat}
theorem xH {q:Rat}(h:LQ 1 q):WfT1 ok (d+1) (oB q):=⟨rfl,fun h=>absurd rfl h,h,fun h=>absurd (show (1:Int)=2 from h) kD,fun _=>rfl,fun _=>rfl,by show (-12:Int)<=0;decide,by show (0:Int)<=12;decide,fun i hi=>absurd hi (N8 i)⟩
theorem sL {s:ByteArray}(h:ok s):WfT1 ok (d+1) (rv s):=⟨rfl,fun _=>rfl,jd kD,fun _=>h,fun h=>absurd rfl h,fun _=>rfl,by show (-12:Int)<=0;decide,by show (0:Int)<=12;decide,fun i hi=>absurd hi (N8 i)⟩
theorem sU {op:Int}{t u:Tm}(x:WfT1 ok d t)(y:WfT1 ok d u)(ha:fv op=2)(a:op≠2):WfT1 ok (d+1) (iJ op t u):=⟨ha,fun _=>rfl,jd kD,fun h=>absurd (show op=2 from h) a,fun _=>rfl,fun _=>rfl,by show (-12:Int)<=0;decide,by show (0:Int)<=12;decide,fun i hi=>by
 have:i=0\/i=1:=by have:i<2:=hi;omega
 rcases this with rfl|rfl
 ·exact x
 ·exact y⟩
end
def CW:Tm:=iJ 5 (rv ⟨#[120]⟩) (rv ⟨#[121]⟩)
def va:Tm:=iJ 6 (oB ((1:Nat):Rat)) (iJ 4 (oB ((1:Nat):Rat)) (rv ⟨#[120]⟩))
theorem ug {ok:ByteArray->Prop}(h:ok ⟨#[120]⟩)(a:ok ⟨#[121]⟩):WfT1 ok 2 CW:=sU (sL h) (sL a) kD kD
theorem u6 {ok:ByteArray->Prop}(h:ok ⟨#[120]⟩):WfT1 ok 3 va:=sU (xH (EU kR)) (sU (xH (EU kR)) (sL h) kD kD) kD kD
theorem E6:bZ 2 CW<=1000:=oT kR
theorem E9:bZ 3 va<=1000:=oT kR
theorem FE {a b:Rat}(h:LQ 1 a)(c:LQ 1 b)(i:Nat):LQ 1 ([a,b].getD i 0):=by
 match i with
 | 0=>exact h
 | 1=>exact c
 | _+2=>exact jd kD
theorem DrunR.of {d:Nat}{t:Tm}{ns:List ByteArray}{fs:List Rat}{e:Int}{q:Rat}{b:List Rat}(h:DrunR d t ns fs e q b)(h0:DckR d t ns (fs.length=ns.length) 0):(e,q,b)=bF (bO ns) fs d t:=by
 obtain ⟨c,h1,⟨a,_⟩|⟨_,a⟩⟩:=h
 ·exact absurd (h1.uniq h0) a
 ·exact a
theorem Jh {d:Nat}{t:Tm}{ns:List ByteArray}{M:Prop}(w:WfT1 (fun s=>dC s=true) d t)(g:bZ d t<=1000)(hM:M)(hn:∀ i,i<ns.length->dC (ns.getD i ⟨#[]⟩)=true)(w2:WfT1 (fun s=>s∈ns) d t)(b:ns.Nodup):DckR d t ns M 0 :=
 .inr ⟨⟨w,g⟩,.inr ⟨hM,.inr ⟨hn,.inr ⟨fun s a=>sE w2 a,.inr ⟨b,rfl⟩⟩⟩⟩⟩
theorem DV {e:Int}{q:Rat}{a:List Rat}(h:DrunR 2 CW [⟨#[120]⟩,⟨#[121]⟩] [((2:Int):Rat),((3:Int):Rat)] e q a):e=0/\q=6/\a=[3,2]:=by
 have k:=h.of (Jh (ug kD kD) E6 rfl (by intro i hi;match i,hi with|0,_=>decide|1,_=>decide) (ug kD kD) kD);have v:bF (bO [⟨#[120]⟩,⟨#[121]⟩]) [((2:Int):Rat),((3:Int):Rat)] 2 CW=(0,6,[3,2]):=by kernel_rfl
 rw[v] at k
 injection k with k1 k2
 injection k2 with k2 k3
 exact ⟨k1,k2,k3⟩
theorem Hy {l:List Rat}(h:(l.all fun q=>decide (ab q.num<18446744073709551616/\q.den<18446744073709551616))=true)(i:Nat):LQ 39500000 (l.getD i 0):=by
 by_cases hi:i<l.length
 ·rw[LH,On hi]
  exact (EU (o0.1 h _ (gq hi))).mono kD
 ·rw[ct oM];exact jd kD
theorem K1 {a b:List Rat}(h:((pa 4).all fun i=>(pa 5).all fun j=>decide (ab (gl a b i j).num<18446744073709551616/\(gl a b i j).den<18446744073709551616))=true)(i j:Nat)(hi:i<=3)(c:j<=i+1):LQ 39500000 (gl a b i j) :=
 (EU (o0.1 (o0.1 h i (po.2 oM)) j (po.2 oM))).mono kD
def dk1:List Rat:=gj 4 ((1:Nat):Rat)
def dk2:List Rat:=o8 4 ((0:Int):Rat) ((1:Int):Rat)
def dk3:List Rat:=oW 4 dk1 (jr 4 dk2 ((-1:Int):Rat))
theorem KJ:kF 4 dk1 (gT 4 dk3)=[1,1,1,1]:=by kernel_rfl
section
variable {M:Ms} {P:Program} {n:Nat} {N R:Po} {X:Nat->Po} {ops:Array Oper} {k0:Nat} {hr:Hp} {AL:List Al} {L:Array Bool} {Γ:bU} {w:World} {h:Hp} {w0:World} {h0:Hp} {B:List Bx} {Rs:List Rw} {F:List (Hp->Prop)} {M2:List Nat} {wa:World} {ha:Hp}
theorem SS.pubM (s:SS w0 h0 w h B Rs F)(u:UpM M2 wa ha w h)(j:Nat)(l:ha.size<=(av B j).b)(o:decide (j<B.length)=true:=by kernel_rfl):∃ h',SS w0 h0 w h' (B.eraseIdx j) Rs F/\UpM M2 wa ha w h'/\Seg h' (av B j).b 0 (av B j).vs:=by
 have c:=oT o;obtain ⟨h',i,gw,sg,z,a⟩:=s.st.pubX j c;have y:=bp c;refine ⟨h',⟨s.g0,i,fun r hr=>((s.ro r hr).out (g1.2 ⟨_,y,rfl⟩) a).sub _ (fun b d=>?_),s.ap,s.mo,s.f.gw s.mo gw⟩,⟨u.mo,⟨e4 u.gr.size gw.size,fun b d=>?_⟩,i.up.g⟩,sg⟩
 ·obtain ⟨x,p,e⟩:=g1.1 d
  exact g1.2 ⟨x,List.mem_of_mem_eraseIdx p,e⟩
 ·exact (a b (fun e=>by subst e;omega)).trans (u.gr.blk b d)
theorem Kr (i t:Nat){f:FuncId}{args:Array Value}{Φ:World->Hp->Value->Hp->Prop}(s:SS w0 h0 w h B Rs F)(m:UpM M2 wa ha w h)(c:∀ w1 h1,SS w0 h0 w1 h1 B Rs F->Calls P f args w1 (Ret w1 h1 (Φ w1 h1)))(H:∀ w1 h1 v w' h',UpM M2 wa ha w' h'->SS w0 h0 w' h' B Rs F->Φ w1 h1 v h'->EG M P n N R X ops k0 hr AL (L.setIfInBounds i true) ((t,v)::Γ) w' h')(d:EP n ops k0 AL L Γ i t=true:=by kernel_rfl)(hv:∀ w,(execOp (ev Γ) (am ops i)).run P w=.ok (.enter f args) w:=by intro _;kernel_rfl):EG M P n N R X ops k0 hr AL L Γ w h :=
 Rg.call i t f args (jh d).1 (jh d).2 hv (fun w1 h1 u=>(c w1 h1 (s.step u)).mono fun e w' ⟨v,h',j,b,a⟩=>⟨v,h',j,b.m M.l,H w1 h1 v w' h' (m.trans ((u.m _).trans (b.m _))) ((s.step u).step b) a⟩)
theorem IY {F1:List (Hp->Prop)}{wr:World}{x:Al}(a:List Bx)(e:SS w0 h0 wr hr B Rs F1)(s:SS w0 h0 w h (a++B) Rs F)(m:UpM M2 wa ha w h)(d:ha.size<=hr.size)(t:TypeId)(vs:List Value)(H:∀ w' h' b,UpM M2 wa ha w' h'->ha.size<=b->SS w0 h0 w' h' (⟨b,t,vs⟩::(a++B)) Rs F->AG M P n N R X ops k0 (L.setIfInBounds x.i true) ((x.t,.pointer (some ⟨b,0,none⟩))::Γ) w')(j:(gM ops [x] L && decide (x.t<n))=true:=by kernel_rfl)(f:x.o=.cells vs.toArray t (0,0):=by kernel_rfl)(c:a.all (fun y=>y.t != t)=true:=by kernel_rfl):EG M P n N R X ops k0 hr [x] L Γ w h :=
 Rg.fin1 j (fun w' h' b u k=>H w' h' b (m.trans (u.m _)) (e4 d k.2.2) (SS.blkp a e (s.step u) k t vs f c))
theorem K0 (i j o:Nat)(cs:List Value)(s:SS w0 h0 w h B Rs F)(H:∀ w',Put (av B j).b w w'->SS w0 h0 w' h (gJ B j o cs) Rs F->AG M P n N R X ops k0 (L.setIfInBounds i true) Γ w')(c:HT ops k0 L Γ i=true:=by kernel_rfl)
  (a:(decide (j<B.length) && decide (o+cs.length<=(av B j).vs.length))=true:=by kernel_rfl)(d:dK P (execOp (ev Γ) (am ops i))=some (.skip,lm (av B j).b o cs):=by kernel_rfl)(hz:∀ K bs,M.z=some (K,bs)->K<=(av B j).b\/(av B j).b∈bs:=by intro _ _ e;cases e):AG M P n N R X ops k0 L Γ w :=
 T.put i j o cs s.st s.g0 (kO c).1 (kO c).2 a d (fun w' p f=>H w' p (s.put0 (oT (na _ _▸a).1) p f (oz (oT (na _ _▸a).1)))) hz
end
def Hs (pb:Nat)(s:ByteArray)(t:Tm)(b:Nat)(bd:Int):Value->World->Hp->Prop:=fun v w' h'=>∃ (tb:Nat) (p:PTm),v=.pointer (some ⟨tb,0,none⟩)/\b<=s.size/\Own w' pb 130 [.string s,.int .i64 (b:Nat),.int .i64 bd]/\Seg h' tb 0 (cY p)/\PtH h' p t
def PC (nf:ByteArray->Option Rat)(f:FuncId)(n:Nat)(k:PKd):Prop:=∀ (pb:Nat) (s:ByteArray),s.size<=1000000->∀ (a:Nat),a<=s.size->∀ (bd:Int) (t:Tm) (b:Nat),gc nf s n k a=some (.ok t b)->∀ (w:World) (h:Hp),G w h->Own w pb 130 [.string s,nV a,iV bd]->h[pb]?=some bc->Tab h->Calls Tryz.prog f #[pB pb] w (eP pb w h (Hs pb s t b bd))
theorem wD  (b:Nat)(s:ByteArray)(hsz:s.size<=1000000)(a:Nat)(ha:a<=s.size)(L:Int)(w:World)(h:Hp)(g:G w h)(ho:Own w b 130 [.string s,nV a,iV L])(Z:h[b]?=some bc)(tb:Tab h):Calls Tryz.prog 63 #[pB b] w (eP b w h fun v w' _=>v=.int .u8 (aR s (sk s a):Nat)/\Own w' b 130 [.string s,nV (sk s a),iV L]):=by
 have e:UpM [b] w h w h:=UpM.refl g;obtain ⟨wz,D,d⟩:=SS.at_ g ho Z;replace d:=(d.aB tb);refine go Tryz.func63 [(0,pB b)] rfl (aa d ac (ah (kZ ?_)));refine bH _ (CG.loop (fun Q Γ U=>∃ (k:Nat) (y:Hp),Q=s.size-k/\Γ=[(0,pB b),(2,.int .u8 0)]/\SS wz D U y [⟨b,130,[.string s,nV k,iV L]⟩] [] [fun y=>Tab y]/\a<=k/\k<=s.size/\UpM [b] w h U y/\(∀ i,a<=i->i<k->Cg (aR s i)=true)) _ ⟨a,h,rfl,rfl,d.to _ _,nR _,ha,e,(fun i h1 J=>absurd h1 oM)⟩ ?_);rintro _ _ w1 ⟨k,J,Y,rfl,d,B,C,e,u⟩;refine cQ (cQ (cR 22 [] mixed d ao ?_));refine eV 0 3 (pB b) (eV 1 4 (pB b) (eV 2 5 (qP b 1) (eO 3 6 [(0,1,1)] (nV k) d (eV 4 7 (pB b) (eV 5 8 (pB b) (eV 6 9 (pB b) (eO 7 10 [(0,0,1)] (.string s) d (eV 8 11 (nV s.size) ?_))))))));cases f:(decide ((k:Int)<(s.size:Int)))
 .
  have z:=oF f;refine eB 9 12 f (eV 10 13 qF (eG 11 14 (eG 12 15 (eG 13 16 (eG 14 17 (eG 15 18 (eG 16 19 (eG 17 20 (eG 18 21 (eG 19 22 (eG 20 23 (eV 21 24 qF (jJ d (fun w5 h6 W d=>?_))))))))))))));replace e:=e.trans (W.m _);refine tN (dr (CG.exit ?_))
  show CG _ _ _ _ _ _ _ _
  refine cQ (cQ (cR 10 [] mixed d ao ?_));refine eV 0 32 (pB b) (eV 1 33 (pB b) (eV 2 34 (qP b 1) (eO 3 35 [(0,1,1)] (nV k) d (eV 4 36 (pB b) (eV 5 37 (pB b) (eV 6 38 (pB b) (eO 7 39 [(0,0,1)] (.string s) d (eV 8 40 (nV s.size) ?_))))))));have ⟨S,V⟩:=dF (p:=(k:Int)<(s.size:Int)) oM;refine eB 9 41 S (jJ d (fun w9 _ I d=>?_));replace e:=e.trans (I.m _);refine tN (dr (cK (aa d ac (lN (kX ?_)))));have l:sk s a=k:=py B C u (by first|exact .inl oM|exact .inr (decide_eq_false oM));exact d.retM e [] (.int .u8 0) (by rw[l,uo oM];exact ⟨rfl,d.own 0⟩)
 have z:=oT f;refine eB 9 12 f (eV 10 13 qT (eV 11 14 (pB b) (eV 12 15 (pB b) (eV 13 16 (pB b) (eO 14 17 [(0,0,1)] (.string s) d (eV 15 18 (pB b) (eV 16 19 (pB b) (eV 17 20 (qP b 1) (eO 18 21 [(0,1,1)] (nV k) d (eV 19 22 (.int .u8 (aR s k:Nat)) ?_ (hv:=fun _=>dR (tx:=9) (x:=.tmp 17) (i:=.tmp 21) (k:=.i64) (s:=s) (n:=k) (j:=(k:Int)) kR kR kR kR oM oM _)))))))))));cases za:(((aR s k:Nat):Int) == (32:Int))
 .
  have zb:=aj za;refine eB 20 23 za (eV 21 24 qF (jJ d (fun _ _ H d=>?_)));replace e:=e.trans (H.m _);refine tN (dr (CG.exit ?_))
  show CG _ _ _ _ _ _ _ _
  refine cQ (cQ (cR 10 [] mixed d ao ?_));refine eV 0 32 (pB b) (eV 1 33 (pB b) (eV 2 34 (qP b 1) (eO 3 35 [(0,1,1)] (nV k) d (eV 4 36 (pB b) (eV 5 37 (pB b) (eV 6 38 (pB b) (eO 7 39 [(0,0,1)] (.string s) d (eV 8 40 (nV s.size) ?_))))))));have ⟨X,O⟩:=dT (p:=(k:Int)<(s.size:Int)) oM;refine eB 9 41 X (jJ d (fun _ _ M d=>?_));replace e:=e.trans (M.m _);refine tN (co (cQ (cR 9 [] mixed d ao ?_)));refine eV 0 42 (pB b) (eV 1 43 (pB b) (eV 2 44 (pB b) (eO 3 45 [(0,0,1)] (.string s) d (eV 4 46 (pB b) (eV 5 47 (pB b) (eV 6 48 (qP b 1) (eO 7 49 [(0,1,1)] (nV k) d (eV 8 50 (.int .u8 (aR s k:Nat)) ?_ (hv:=fun _=>dR (tx:=9) (x:=.tmp 45) (i:=.tmp 49) (k:=.i64) (s:=s) (n:=k) (j:=(k:Int)) kR kR kR kR oM oM _)))))))));refine jJ d (fun _ _ F d=>?_);replace e:=e.trans (F.m _);refine tV 9 2 (.int .u8 (aR s k:Nat)) (tN (bH [(2,.int .u8 (aR s k:Nat))] ?_));refine kX ?_;have l:sk s a=k:=py B C u (by first|exact .inl oM|exact .inr (decide_eq_false oM));exact d.retM e [] (.int .u8 (aR s k:Nat)) (by rw[l];exact ⟨rfl,d.own 0⟩)
 have zb:=eq_of_beq za;refine eB 20 23 za (eV 21 24 qT (jJ d (fun _ zd K d=>?_)));replace e:=e.trans (K.m _);refine tN (co (cK (kZ (kQ (lL d [.c,.v (pB b),.v (qP b 1),.o (nV k) 0 1 1] (bh 29 ((k:Nat)+1) (k+1) ?_))))));refine lL d [.v (pB b),.v (qP b 1)] (nP 0 1 ([nV (k+1)]) d (fun _ pu d=>?_));replace e:=e.put pu (te.2 rfl) d.g;refine lD ?_;intro a_ ka;refine ⟨_,_,?_,⟨k+1,zd,rfl,rfl,d.to _ _,oM,oM,e,(fun i h1 J=>by rcases Ou.1 J with y|rfl;exact u i h1 y;exact decide_eq_true oM)⟩,ka.to _ kR⟩
 omega
theorem uJ  (d:Nat)(s:ByteArray)(x:s.size<=1000000)(a:Nat)(ha:a<=s.size)(l:Int)(c:Nat)(K:c≠0)(w:World)(h:Hp)(g:G w h)(H:Own w d 130 [.string s,nV a,iV l])(C:h[d]?=some bc)(D:Tab h):Calls Tryz.prog 143 #[pB d,.int .u8 (c:Nat)] w (eP d w h fun v w' _=>(v=.bool true/\aR s (sk s a)=c/\sk s a<s.size/\Own w' d 130 [.string s,nV (sk s a+1),iV l])\/(v=.bool false/\aR s (sk s a)≠c/\Own w' d 130 [.string s,nV (sk s a),iV l])):=by
 have e:UpM [d] w h w h:=UpM.refl g;obtain ⟨wz,B,b⟩:=SS.at_ g H C;replace b:=(b.aB D);refine go Tryz.func143 [(0,pB d),(1,.int .u8 (c:Nat))] rfl (aa b ac (ah (aa b ac ?_)));have u:=lw (s:=s) (a:=a) oM;refine gi 6 (wD d s x a ha l _ _ b.g (b.own 0) (b.jk 0) b.f.1) ?_;rintro _ w2 I y ⟨rfl,j⟩;replace b:=(b.stepM 0 y j).to [⟨d,130,[.string s,nV (sk s a),iV l]⟩] [];replace e:=e.trans y;refine lL b ac ?_;cases i:(((aR s (sk s a):Nat):Int) != (c:Int))
 .
  have p:=aW i;refine lB 8 i (ag (cK (aa b [.c,.v (pB d),.v (qP d 1),.o (nV (sk s a)) 0 1 1] (bh 13 ((sk s a:Nat)+1) ((sk s a)+1) ?_))));refine lL b [.v (pB d),.v (qP d 1)] (nP 0 1 ([nV ((sk s a)+1)]) b (fun J F b=>?_));replace e:=e.put F (te.2 rfl) b.g;refine aG (lL b ac (lN (kX ?_)));have z:=Bw (s:=s) (a:=sk s a) oM;exact b.retM e [] qT (.inl ⟨rfl,by omega,by omega,b.own 0⟩)
 have p:=aN i;exact lB 8 i (ak (aa b ac (lN (kX (b.retM e [] qF (.inr ⟨rfl,by omega,b.own 0⟩))))))
theorem G0 (b:Nat)(s:ByteArray)(f:s.size<=1000000)(a:Nat)(ha:a<=s.size)(d:Int)(c:Nat)(j:c≠0)(e:sk s a=a)(w:World)(h:Hp)(g:G w h)(i:Own w b 130 [.string s,nV a,iV d])(l:h[b]?=some bc)(o:Tab h):Calls Tryz.prog 143 #[pB b,.int .u8 (c:Nat)] w (eP b w h fun v w' _=>(v=.bool true/\aR s a=c/\a<s.size/\Own w' b 130 [.string s,nV (a+1),iV d])\/(v=.bool false/\aR s a≠c/\Own w' b 130 [.string s,nV a,iV d])):=by
 have q:=uJ b s f a ha d c j w h g i l o;rw[e] at q;exact q
theorem GF (b:Nat)(s:ByteArray)(d:s.size<=1000000)(a:Nat)(ha:a<=s.size)(f:Int)(c:Nat)(y:c≠0)(j:aR s (sk s a)=c)(w:World)(h:Hp)(g:G w h)(x:Own w b 130 [.string s,nV a,iV f])(l:h[b]?=some bc)(o:Tab h):Calls Tryz.prog 143 #[pB b,.int .u8 (c:Nat)] w (eP b w h fun v w' _=>v=.bool true/\sk s a<s.size/\Own w' b 130 [.string s,nV (sk s a+1),iV f]) :=
 (uJ b s d a ha f c y w h g x l o).mono fun e w' ⟨v,h',p,u,i⟩=>⟨v,h',p,u,by
  rcases i with ⟨h1,h2,h3,h4⟩|⟨h1,h2,h3⟩
  ·exact ⟨h1,h3,h4⟩
  ·exact absurd j h2⟩
theorem wV (b:Nat)(s:ByteArray)(d:s.size<=1000000)(a:Nat)(ha:a<=s.size)(f:Int)(c:Nat)(y:c≠0)(j:aR s (sk s a)≠c)(w:World)(h:Hp)(g:G w h)(x:Own w b 130 [.string s,nV a,iV f])(l:h[b]?=some bc)(o:Tab h):Calls Tryz.prog 143 #[pB b,.int .u8 (c:Nat)] w (eP b w h fun v w' _=>v=.bool false/\Own w' b 130 [.string s,nV (sk s a),iV f]) :=
 (uJ b s d a ha f c y w h g x l o).mono fun e w' ⟨v,h',p,u,i⟩=>⟨v,h',p,u,by
  rcases i with ⟨h1,h2,h3,h4⟩|⟨h1,h2,h3⟩
  ·exact absurd h2 j
  ·exact ⟨h1,h3⟩⟩
theorem JC  (u:FuncId)(p:Nat->Bool)(J:∀ (args:Array Value) (w:World),(callFunc u args).run Tryz.prog w=.ok (.enter u args) w)(K:∀ c,c<256->∀ (w:World) (h:Hp),G w h->Calls Tryz.prog u #[.int .u8 (c:Nat)] w (Ret w h fun v _=>v=.bool (p c)))(d:Nat)(s:ByteArray)(hsz:s.size<=1000000)(a:Nat)(ha:a<=s.size)(O:Int)(w:World)(h:Hp)(g:G w h)(ho:Own w d 130 [.string s,nV a,iV O])(Z:h[d]?=some bc)(tb:Tab h):Calls Tryz.prog 194 #[pB d,.func (.func u) #[] #[]] w (eP d w h fun v w' _=>v=.string (s.extract a (rn p s a))/\Own w' d 130 [.string s,nV (rn p s a),iV O]):=by
 have f:UpM [d] w h w h:=UpM.refl g;obtain ⟨wz,H,b⟩:=SS.at_ g ho Z;replace b:=(b.aB tb);refine go Tryz.func194 [(0,pB d),(1,.func (.func u) #[] #[])] rfl (aa b ac (aG (lL b [.c,.v (pB d),.v (qP d 1),.o (nV a) 0 1 1,.c] (ah (kZ ?_)))));refine bH _ (CG.loop (fun S Γ W=>∃ (k:Nat) (B:Hp),S=s.size-k/\Γ=[(0,pB d),(1,.func (.func u) #[] #[]),(4,eS),(5,nV a)]/\SS wz H W B [⟨d,130,[.string s,nV k,iV O]⟩] [] [fun B=>Tab B]/\a<=k/\k<=s.size/\UpM [d] w h W B/\(∀ i,a<=i->i<k->p (aR s i)=true)) _ ⟨a,h,rfl,rfl,b.to _ _,nR _,ha,f,(fun i h1 L=>absurd h1 oM)⟩ ?_);rintro _ _ w1 ⟨k,L,Y,rfl,b,D,F,f,z⟩;refine cQ (cQ (cR 23 [] mixed b ao ?_));refine eV 0 10 (pB d) (eV 1 11 (pB d) (eV 2 12 (qP d 1) (eO 3 13 [(0,1,1)] (nV k) b (eV 4 14 (pB d) (eV 5 15 (pB d) (eV 6 16 (pB d) (eO 7 17 [(0,0,1)] (.string s) b (eV 8 18 (nV s.size) ?_))))))));cases l:(decide ((k:Int)<(s.size:Int)))
 .
  have C:=oF l;refine eB 9 19 l (eV 10 20 qF (eG 11 21 (eG 12 22 (eG 13 23 (eG 14 24 (eG 15 25 (eG 16 26 (eG 17 27 (eG 18 28 (eG 19 29 (eG 20 30 (eG 21 31 (eV 22 32 qF (jJ b (fun w5 h6 X b=>?_)))))))))))))));replace f:=f.trans (X.m _);refine tN (dr (CG.exit ?_))
  show CG _ _ _ _ _ _ _ _
  refine cQ (cR 10 [] mixed b ao ?_);refine eV 0 40 (pB d) (eV 1 41 (pB d) (eV 2 42 (pB d) (eO 3 43 [(0,0,1)] (.string s) b (eV 4 44 (nV a) (eV 5 45 (pB d) (eV 6 46 (pB d) (eV 7 47 (qP d 1) (eO 8 48 [(0,1,1)] (nV k) b (eV 9 49 (.string (s.extract a k)) ?_ (hv:=fun _=>xy (tx:=9) (x:=.tmp 43) (i:=.tmp 44) (e:=.tmp 48) (k:=.i64) (k2:=.i64) (s:=s) (n:=a) (m:=k) (j:=(a:Int)) (j2:=(k:Int)) kR kR kR kR kR oM oM oM oM _))))))))));refine jJ b (fun w8 h9 U b=>?_);replace f:=f.trans (U.m _);refine tV 10 4 (.string (s.extract a k)) (tN (kX ?_));have y:rn p s a=k:=py D F z (by first|exact .inl oM|exact .inr aM);exact b.retM f [] (.string (s.extract a k)) (by rw[y];exact ⟨rfl,b.own 0⟩)
 have C:=oT l;refine eB 9 19 l (eV 10 20 qT (eV 11 21 (.func (.func u) #[] #[]) (eV 12 22 (pB d) (eV 13 23 (pB d) (eV 14 24 (pB d) (eO 15 25 [(0,0,1)] (.string s) b (eV 16 26 (pB d) (eV 17 27 (pB d) (eV 18 28 (qP d 1) (eO 19 29 [(0,1,1)] (nV k) b (eV 20 30 (.int .u8 (aR s k:Nat)) ?_ (hv:=fun _=>dR (tx:=9) (x:=.tmp 25) (i:=.tmp 29) (k:=.i64) (s:=s) (n:=k) (j:=(k:Int)) kR kR kR kR oM oM _))))))))))));refine Kr 21 31 b f (fun _ _ b=>K ((aR s k)) (cJ _ _) _ _ b.g) ?_ (hv:=fun _=>Eq.trans kR (J _ _));rintro _ _ _ _ _ f b rfl;cases V:(p ((aR s k)))
 .
  refine eV 22 32 qF (jJ b (fun _ _ M b=>?_));replace f:=f.trans (M.m _);refine tN (dr (CG.exit ?_))
  show CG _ _ _ _ _ _ _ _
  refine cQ (cR 10 [] mixed b ao ?_);refine eV 0 40 (pB d) (eV 1 41 (pB d) (eV 2 42 (pB d) (eO 3 43 [(0,0,1)] (.string s) b (eV 4 44 (nV a) (eV 5 45 (pB d) (eV 6 46 (pB d) (eV 7 47 (qP d 1) (eO 8 48 [(0,1,1)] (nV k) b (eV 9 49 (.string (s.extract a k)) ?_ (hv:=fun _=>xy (tx:=9) (x:=.tmp 43) (i:=.tmp 44) (e:=.tmp 48) (k:=.i64) (k2:=.i64) (s:=s) (n:=a) (m:=k) (j:=(a:Int)) (j2:=(k:Int)) kR kR kR kR kR oM oM oM oM _))))))))));refine jJ b (fun _ _ Q b=>?_);replace f:=f.trans (Q.m _);refine tV 10 4 (.string (s.extract a k)) (tN (kX ?_));have y:rn p s a=k:=py D F z (by first|exact .inl oM|exact .inr aM);exact b.retM f [] (.string (s.extract a k)) (by rw[y];exact ⟨rfl,b.own 0⟩)
 refine eV 22 32 qT (jJ b (fun _ za I b=>?_));replace f:=f.trans (I.m _);refine tN (co (cK (kZ (kQ (lL b [.c,.v (pB d),.v (qP d 1),.o (nV k) 0 1 1] (bh 37 ((k:Nat)+1) (k+1) ?_))))));refine lL b [.v (pB d),.v (qP d 1)] (nP 0 1 ([nV (k+1)]) b (fun _ pu b=>?_));replace f:=f.put pu (te.2 rfl) b.g;refine lD ?_;intro a_ ka;refine ⟨_,_,?_,⟨k+1,za,rfl,rfl,b.to _ _,oM,oM,f,(fun i h1 L=>by rcases Ou.1 L with B|rfl;exact z i h1 B;exact aM)⟩,ka.to _ kR⟩
 omega
theorem Iw (op:Int)(i a:PTm)(w:World)(h:Hp)(g:G w h):CR 144 #[iV op,bS i,bS a] w h (fun v h1=>∃ b,v=bS ⟨op,0,0,⟨#[]⟩,sB b,2,2⟩/\SlO 9 cY cH h1 (sB b) [i,a]):=by
 have e:=sS g;refine go Tryz.func144 [(0,iV op),(1,bS i),(2,bS a)] rfl (ax (lA 4 53 (cY i) e (fun C w2 y e=>lA 5 53 (cY a) e (fun B z x e=>lA 6 53 ca e (fun u p j e=>aG (lL e [.c,.o (bS i) 2 0 9,.o (bS a) 1 0 9] (lR 10 53 2 ([iV i.op,iV i.n,.bool (af i.q.num),uV (lo (ab i.q.num)),.string (hi (ab i.q.num)),uV (lo (qd i.q)),.string (hi (qd i.q)),.string i.s,qS i.A i.m i.c,iV a.op,iV a.n,.bool (af a.q.num),uV (lo (ab a.q.num)),.string (hi (ab a.q.num)),uV (lo (qd a.q)),.string (hi (qd a.q)),.string a.s,qS a.A a.m a.c]) e (fun za _ _ e=>?_))))))));replace e:=e.aS (SlO.of_flat (sz:=9) (f:=cY) (d:=cH) (b:=za) (o:=0) (l:=([i,a]:List PTm)) (fun _=>rfl) e.f.1);exact lL e [.v (.agg #[iV op,iV 0,qF,uV 0,eS,uV 0,eS,eS,qS (sB za) 2 2])] (lP 0 0 ([iV op,iV 0,qF,uV 0,eS,uV 0,eS,eS,qS (sB za) 2 2]) e (fun _ e=>ae e [(0,0,9)] (.agg #[iV op,iV 0,qF,uV 0,eS,uV 0,eS,eS,qS (sB za) 2 2]) (⟨_,rfl,e.f.1⟩)))
theorem C2 (q:Rat)(w:World)(h:Hp)(g:G w h):CR 217 #[qv q] w h (fun v h1=>∃ p,v=bS p/\PtH h1 p (oB q)):=by
 have a:=sS g;exact go Tryz.func217 [(0,qv q)] rfl (ax (lA 1 44 (qc q) a (fun f w2 i a=>lA 2 53 ca a (fun d b e a=>aG (lL a [.o (qv q) 1 0 5,.v (bS ⟨1,0,q,⟨#[]⟩,none,0,0⟩)] (lP 0 0 (cY ⟨1,0,q,⟨#[]⟩,none,0,0⟩) a (fun c a=>ae a [(0,0,9)] (bS ⟨1,0,q,⟨#[]⟩,none,0,0⟩) (⟨⟨1,0,q,⟨#[]⟩,none,0,0⟩,rfl,PtH.num⟩))))))))
theorem Ii (op:Int)(c a:PTm)(t u:Tm)(w:World)(h:Hp)(g:G w h)(x:PtH h c t)(y:PtH h a u):CR 144 #[iV op,bS c,bS a] w h (fun v h1=>∃ p,v=bS p/\PtH h1 p (iJ op t u)) :=
 (Iw op c a w h g).mono fun e w' ⟨v,h',e1,up,b,e2,d⟩=>⟨v,h',e1,up,_,e2,(x.gw up.gr.gw).two (y.gw up.gr.gw) d⟩
section
variable {nf:ByteArray->Option Rat} (n:Nat)
theorem xi  (lv:Bool)(fp:FuncId)(hen:∀ (args:Array Value) (w:World),(callFunc fp args).run Tryz.prog w=.ok (.enter fp args) w)(hp:∀ m,m<=n->PC nf fp m (part lv))(j:Nat)(s:ByteArray)(S:s.size<=1000000)(a:Nat)(ha:a<=s.size)(y:Int)(t:Tm)(b:Nat)(hq:gc nf s (n+1) (wd lv) a=some (.ok t b))(w:World)(h:Hp)(g:G w h)(ho:Own w j 130 [.string s,nV a,iV y])(hj:h[j]?=some bc)(tb:Tab h):Calls Tryz.prog 111 #[pB j,.func (.func fp) #[pB j] #[],.int .u8 (c1 lv:Nat),iV (B7 lv),.int .u8 (c2 lv:Nat),iV (tG lv)] w (eP j w h (Hs j s t b y)):=by
 have e:UpM [j] w h w h:=UpM.refl g;obtain ⟨wz,b5,d⟩:=SS.at_ g ho hj;obtain ⟨t1,b1,hq1,hq2⟩:=D4 hq;have b6:c1 lv≠0:=by cases lv<;>decide
 have b2:c2 lv≠0:=by cases lv<;>decide
 replace d:=(d.aB tb);refine go Tryz.func111 [(0,pB j),(1,.func (.func fp) #[pB j] #[]),(2,.int .u8 (c1 lv:Nat)),(3,iV (B7 lv)),(4,.int .u8 (c2 lv:Nat)),(5,iV (tG lv))] rfl (aa d ac (aG (lL d ac (gi 18 (hp n (nR _) j s S a ha y t1 b1 hq1 _ _ d.g (d.own 0) (d.jk 0) d.f.1) ?_ (hr:=Eq.trans kR (hen _ _))))));rintro _ w2 h3 u4 ⟨W,I,rfl,b9,b3,cp,ch⟩;replace d:=(d.stepM 0 u4 b3).to [⟨j,130,[.string s,nV b1,iV y]⟩] [];replace e:=e.trans u4;replace d:=((d.a_Seg cp).add (K:=fun i=>PtH i I t1) ch);refine lL d ac (ah (kZ ?_));replace d:=d.add (K:=fun i=>PtH i I t1) (d.f.1);replace d:=d.add (K:=fun i=>Seg i W 0 (cY I)) (d.f.r.1);refine bH _ (CG.loop (fun μ_ Γ w_=>∃ (m:Nat) (Y:Nat) (p:PTm) (u:Tm) (k:Nat) (i:Hp),μ_=m/\Γ=[(0,pB j),(1,.func (.func fp) #[pB j] #[]),(2,.int .u8 (c1 lv:Nat)),(3,iV (B7 lv)),(4,.int .u8 (c2 lv:Nat)),(5,iV (tG lv)),(13,pB Y)]/\SS wz b5 w_ i [⟨j,130,[.string s,nV k,iV y]⟩] [] [fun i=>Seg i Y 0 (cY p),fun i=>PtH i p u,fun i=>PtH i I t1,fun i=>Seg i W 0 (cY I),fun i=>Tab i]/\m<=n/\k<=s.size/\UpM [j] w h w_ i/\gc nf s m (.more lv u) k=some (.ok t b)) _ ⟨n,W,I,t1,b1,h3,rfl,rfl,d.to _ _,nR _,b9,e,hq2⟩ ?_);rintro _ _ w5 ⟨m,Y,p,u,k,h6,hm7,rfl,d,hm,hk,e,hq⟩;obtain ⟨m1,rfl⟩:=CX hq;have cx:=lw (s:=s) (a:=k) hk;refine cQ (aa d [.c,.v qT] (ak (cK (kZ (aa d ac (ah (aa d aD ?_)))))));have cr:=lw (s:=s) (a:=k) oM;refine gi 23 (uJ j s S k oM y (c1 lv) b6 _ _ d.g (d.own 0) (d.jk 0) d.f.q.1) ?_;rintro _ w9 _ X (⟨rfl,M,cw,O⟩|⟨rfl,M,O⟩)
 .
  replace d:=(d.stepM 0 X O).to [⟨j,130,[.string s,nV (sk s k+1),iV y]⟩] [];replace e:=e.trans X;obtain ⟨H,Z,cd,b4⟩:=vV hq M;refine ak (kQ (lL d aD (aG (lL d ac (gi 31 (hp m1 oM j s S (sk s k+1) oM y H Z cd _ _ d.g (d.own 0) (d.jk 0) d.f.q.1) ?_ (hr:=Eq.trans kR (hen _ _)))))));rintro _ _ _ u15 ⟨U,V,rfl,bq,bb,bk,bf⟩;replace d:=(d.stepM 0 u15 bb).to [⟨j,130,[.string s,nV Z,iV y]⟩] [];replace e:=e.trans u15;replace d:=((d.a_Seg bk).add (K:=fun i=>PtH i V H) bf);refine lL d ac (ah (aa d [.c,.v qF] (ag (cK (cQ ?_)))));have hsr:=d;have L:=e.gr.size;refine cR 9 [⟨8,16,.cells (Nf [iV 0,iV 0,qF,uV 0,eS,uV 0,eS,eS,sZ]) 53 (0,0)⟩] mixed d (bv (eg kR (fun _ _=>by kernel_rfl)) ao) (eV 0 34 (iV (B7 lv)) (eV 1 35 (pB Y) (eV 2 36 (pB Y) (eH 3 37 (bS p) d d.f.r.1 (eV 4 38 (pB U) (eV 5 39 (pB U) (eH 6 40 (bS V) d d.f.2.1 (Kr 7 41 d e (fun _ _ d=>Ii (B7 lv) p V u H _ _ d.g d.f.r.2.1 d.f.1) ?_))))))));rintro _ _ _ _ _ e d ⟨l,rfl,bn⟩;replace d:=(d.add (K:=fun i=>PtH i l (iJ (B7 lv) u H)) bn);refine IY [] hsr d e L 53 [iV 0,iV 0,qF,uV 0,eS,uV 0,eS,eS,sZ] (fun _ _ za e z d=>K0 9 0 0 (cY l) d (fun _ pu d=>?_));replace e:=e.put2 pu z g d.g;refine tN ?_;obtain ⟨zc,d,e,cm⟩:=d.pubM e 0 z;replace d:=d.to [⟨j,130,[.string s,nV Z,iV y]⟩] [];have cb:Seg zc za 0 (cY l):=cm;replace d:=d.a_Seg cb;refine kQ (lL d ac (lD ?_));intro a_ ka;replace d:=((d.tl.tl.tl.tl.tl.tl.add (K:=fun i=>PtH i l (iJ (B7 lv) u H)) d.f.2.1).add (K:=fun i=>Seg i za 0 (cY l)) d.f.1);refine ⟨_,_,?_,⟨m1,za,l,iJ (B7 lv) u H,Z,zc,rfl,rfl,d.to _ _,oM,bq,e,b4⟩,ka.to _ kR⟩
  omega
 replace d:=(d.stepM 0 X O).to [⟨j,130,[.string s,nV (sk s k),iV y]⟩] [];replace e:=e.trans X;have hcF:=M;refine ag (aa d aD ?_);have cq:=lw (s:=s) (a:=(sk s k)) oM;refine gi 27 (G0 j s S (sk s k) oM y (c2 lv) b2 (Jq _ _) _ _ d.g (d.own 0) (d.jk 0) d.f.q.1) ?_;rintro _ _ _ u36 (⟨rfl,D,cv,C⟩|⟨rfl,D,C⟩)
 .
  replace d:=(d.stepM 0 u36 C).to [⟨j,130,[.string s,nV ((sk s k)+1),iV y]⟩] [];replace e:=e.trans u36;obtain ⟨o,F,b0,bx⟩:=vn hq hcF D;refine ak (kQ (lL d aD (aG (lL d ac (gi 31 (hp m1 oM j s S ((sk s k)+1) oM y o F b0 _ _ d.g (d.own 0) (d.jk 0) d.f.q.1) ?_ (hr:=Eq.trans kR (hen _ _)))))));rintro _ _ _ u40 ⟨Q,J,rfl,bt,bz,bl,br⟩;replace d:=(d.stepM 0 u40 bz).to [⟨j,130,[.string s,nV F,iV y]⟩] [];replace e:=e.trans u40;replace d:=((d.a_Seg bl).add (K:=fun i=>PtH i J o) br);refine lL d ac (ah (aa d [.c,.v qF] (ag (cK (cQ ?_)))));have hsr:=d;have L:=e.gr.size;refine cR 9 [⟨8,16,.cells (Nf [iV 0,iV 0,qF,uV 0,eS,uV 0,eS,eS,sZ]) 53 (0,0)⟩] mixed d (bv (eg kR (fun _ _=>by kernel_rfl)) ao) (eV 0 34 (iV (tG lv)) (eV 1 35 (pB Y) (eV 2 36 (pB Y) (eH 3 37 (bS p) d d.f.r.1 (eV 4 38 (pB Q) (eV 5 39 (pB Q) (eH 6 40 (bS J) d d.f.2.1 (Kr 7 41 d e (fun _ _ d=>Ii (tG lv) p J u o _ _ d.g d.f.r.2.1 d.f.1) ?_))))))));rintro _ _ _ _ _ e d ⟨x,rfl,bm⟩;replace d:=(d.add (K:=fun i=>PtH i x (iJ (tG lv) u o)) bm);refine IY [] hsr d e L 53 [iV 0,iV 0,qF,uV 0,eS,uV 0,eS,eS,sZ] (fun _ _ zb e B d=>K0 9 0 0 (cY x) d (fun _ pu d=>?_));replace e:=e.put2 pu B g d.g;refine tN ?_;obtain ⟨zd,d,e,cj⟩:=d.pubM e 0 B;replace d:=d.to [⟨j,130,[.string s,nV F,iV y]⟩] [];have b7:Seg zd zb 0 (cY x):=cj;replace d:=d.a_Seg b7;refine kQ (lL d ac (lD ?_));intro a_ ka;replace d:=((d.tl.tl.tl.tl.tl.tl.add (K:=fun i=>PtH i x (iJ (tG lv) u o)) d.f.2.1).add (K:=fun i=>Seg i zb 0 (cY x)) d.f.1);refine ⟨_,_,?_,⟨m1,zb,x,iJ (tG lv) u o,F,zd,rfl,rfl,d.to _ _,oM,bt,e,bx⟩,ka.to _ kR⟩
  omega
 replace d:=(d.stepM 0 u36 C).to [⟨j,130,[.string s,nV (sk s k),iV y]⟩] [];replace e:=e.trans u36;have cf:=D;refine ag (aa d aD (lN (kX ?_)));obtain ⟨ht_,hb_⟩:=vR hq hcF cf;exact d.retM e [] (pB Y) (by rw[ht_];rw[hb_];exact ⟨Y,p,rfl,by first|assumption|omega,d.own 0,d.f.1,d.f.2.1⟩)
theorem KF  (D:∀ m,m<=n->PC nf 112 m .prod)(e:Nat)(s:ByteArray)(y:s.size<=1000000)(a:Nat)(ha:a<=s.size)(x:Int)(t:Tm)(b:Nat)(hq:gc nf s (n+1) .sum a=some (.ok t b))(w:World)(h:Hp)(g:G w h)(J:Own w e 130 [.string s,nV a,iV x])(H:h[e]?=some bc)(I:Tab h):Calls Tryz.prog 62 #[pB e] w (eP e w h (Hs e s t b x)):=by
 have j:UpM [e] w h w h:=UpM.refl g;obtain ⟨wz,C,d⟩:=SS.at_ g J H;replace d:=(d.aB I);refine go Tryz.func62 [(0,pB e)] rfl (aa d ac (aG (lL d [.c,.c,.v (.func (.func 112) #[pB e] #[])] (gi 6 (xi n false 112 (fun _ _=>by kernel_rfl) D e s y a ha x t b hq _ _ d.g (d.own 0) (d.jk 0) d.f.1) ?_))));rintro _ w2 L B ⟨i,o,rfl,z,l,u,p⟩;replace d:=(d.stepM 0 B l).to [⟨e,130,[.string s,nV b,iV x]⟩] [];replace j:=j.trans B;replace d:=((d.a_Seg u).add (K:=fun F=>PtH F o t) p);exact lL d ac (lN (kX (d.retM j [] (pB i) (by exact ⟨i,o,rfl,by first|assumption|omega,d.own 0,d.f.2.1,d.f.1⟩))))
theorem AH  (D:∀ m,m<=n->PC nf 145 m .sign)(e:Nat)(s:ByteArray)(y:s.size<=1000000)(a:Nat)(ha:a<=s.size)(x:Int)(t:Tm)(b:Nat)(hq:gc nf s (n+1) .prod a=some (.ok t b))(w:World)(h:Hp)(g:G w h)(J:Own w e 130 [.string s,nV a,iV x])(H:h[e]?=some bc)(I:Tab h):Calls Tryz.prog 112 #[pB e] w (eP e w h (Hs e s t b x)):=by
 have j:UpM [e] w h w h:=UpM.refl g;obtain ⟨wz,C,d⟩:=SS.at_ g J H;replace d:=(d.aB I);refine go Tryz.func112 [(0,pB e)] rfl (aa d ac (aG (lL d [.c,.c,.v (.func (.func 145) #[pB e] #[])] (gi 6 (xi n true 145 (fun _ _=>by kernel_rfl) D e s y a ha x t b hq _ _ d.g (d.own 0) (d.jk 0) d.f.1) ?_))));rintro _ w2 L B ⟨i,o,rfl,z,l,u,p⟩;replace d:=(d.stepM 0 B l).to [⟨e,130,[.string s,nV b,iV x]⟩] [];replace j:=j.trans B;replace d:=((d.a_Seg u).add (K:=fun F=>PtH F o t) p);exact lL d ac (lN (kX (d.retM j [] (pB i) (by exact ⟨i,o,rfl,by first|assumption|omega,d.own 0,d.f.2.1,d.f.1⟩))))
theorem Cn  (B:PC nf 166 n .pow)(d:Nat)(s:ByteArray)(p:s.size<=1000000)(a:Nat)(ha:a<=s.size)(j:Int)(t:Tm)(b:Nat)(hq:gc nf s (n+1) .sign a=some (.ok t b))(w:World)(h:Hp)(g:G w h)(M:Own w d 130 [.string s,nV a,iV j])(J:h[d]?=some bc)(L:Tab h):Calls Tryz.prog 145 #[pB d] w (eP d w h (Hs d s t b j)):=by
 have e:UpM [d] w h w h:=UpM.refl g;obtain ⟨wz,H,c⟩:=SS.at_ g M J;replace c:=(c.aB L);refine go Tryz.func145 [(0,pB d)] rfl (aa c ac (ah (aa c ac ?_)));have z:=lw (s:=s) (a:=a) oM;refine gi 6 (wV d s p a ha j 45 kD (nB hq).1 _ _ c.g (c.own 0) (c.jk 0) c.f.1) ?_;rintro _ w2 O D ⟨rfl,o⟩;replace c:=(c.stepM 0 D o).to [⟨d,130,[.string s,nV (sk s a),iV j]⟩] [];replace e:=e.trans D;refine lL c [.v qT] (ak (aa c ac (gi 9 (B d s p (sk s a) oM j t b (nB hq).2 _ _ c.g (c.own 0) (c.jk 0) c.f.1) ?_)));rintro _ Q S C ⟨i,l,rfl,F,x,y,u⟩;replace c:=(c.stepM 0 C x).to [⟨d,130,[.string s,nV b,iV j]⟩] [];replace e:=e.trans C;replace c:=((c.a_Seg y).add (K:=fun I=>PtH I l t) u);exact lL c ac (lN (kX (c.retM e [] (pB i) (by exact ⟨i,l,rfl,by first|assumption|omega,c.own 0,c.f.2.1,c.f.1⟩))))
end
theorem J6 (c:Nat)(i:c<256)(w:World)(h:Hp)(g:G w h):CV 216 #[.int .u8 (c:Nat)] w h (.bool (l7 c)):=by
 have a:=sS g;refine go Tryz.func216 [(0,.int .u8 (c:Nat))] rfl (aa a ac (aG (lL a ac (ar 4 a (oJ c i _ _ a.g) (fun w1 j a=>?_)))));cases e:(decide (48<=c/\c<=57))
 .
  have d:=oF e;refine lL a aD ?_;cases b:((c:Int) == (46:Int))
  .
   have f:=aj b;exact lB 7 b (lL a [.v qF,.c] (ae a [] qF (congrArg Value.bool (decide_eq_false oM).symm)))
  have f:=eq_of_beq b;exact lB 7 b (lL a [.v qT,.c] (ae a [] qT (congrArg Value.bool (decide_eq_true oM).symm)))
 have d:=oT e;refine lL a ac (lG 6 ?_);exact lG 7 (lL a [.v qT,.c] (ae a [] qT (congrArg Value.bool (decide_eq_true oM).symm)))
def FN (nf:ByteArray->Option Rat):Prop:=∀ x q,nf x=some q->∀ (w:World) (h:Hp),G w h->Tab h->CV 215 #[.string x] w h (.tuple #[qv q,.bool true])
section
variable {nf:ByteArray->Option Rat} (n:Nat)
theorem GV  (F:PC nf 193 n .atom)(e:Nat)(s:ByteArray)(x:s.size<=1000000)(a:Nat)(ha:a<=s.size)(l:Int)(t:Tm)(b:Nat)(hq:gc nf s (n+1) .pow a=some (.ok t b))(w:World)(h:Hp)(g:G w h)(U:Own w e 130 [.string s,nV a,iV l])(Q:h[e]?=some bc)(S:Tab h):Calls Tryz.prog 166 #[pB e] w (eP e w h (Hs e s t b l)):=by
 have i:UpM [e] w h w h:=UpM.refl g;obtain ⟨wz,M,d⟩:=SS.at_ g U Q;obtain ⟨e1,C,H,D⟩:=Ek hq;replace d:=(d.aB S);refine go Tryz.func166 [(0,pB e)] rfl (aa d ac (aG (lL d ac (gi 13 (F e s x a ha l t e1 C _ _ d.g (d.own 0) (d.jk 0) d.f.1) ?_))));rintro _ w2 V L ⟨j,p,rfl,J,o,z,u⟩;replace d:=(d.stepM 0 L o).to [⟨e,130,[.string s,nV e1,iV l]⟩] [];replace i:=i.trans L;replace d:=((d.a_Seg z).add (K:=fun O=>PtH O p t) u);refine lL d ac (ah (aa d [.c,.v qF,.c,.c] ?_));have B:=lw (s:=s) (a:=e1) oM;refine gi 18 (wV e s x e1 oM l 94 kD H _ _ d.g (d.own 0) (d.jk 0) d.f.r.1) ?_;rintro _ W X I ⟨rfl,y⟩;replace d:=(d.stepM 0 I y).to [⟨e,130,[.string s,nV (sk s e1),iV l]⟩] [];replace i:=i.trans I;exact lL d [.v qT,.v qT] (ak (aa d aD (lN (kX (d.retM i [] (pB j) (by rw[D];exact ⟨j,p,rfl,by first|assumption|omega,d.own 0,d.f.2.1,d.f.1⟩))))))
theorem Ju  (hnf:FN nf)(ihs:PC nf 62 n .sum)(j:Nat)(s:ByteArray)(F:s.size<=1000000)(a:Nat)(ha:a<=s.size)(z:Int)(t:Tm)(b:Nat)(hq:gc nf s (n+1) .atom a=some (.ok t b))(w:World)(h:Hp)(g:G w h)(ho:Own w j 130 [.string s,nV a,iV z])(hj:h[j]?=some bc)(tb:Tab h):Calls Tryz.prog 193 #[pB j] w (eP j w h (Hs j s t b z)):=by
 have e:UpM [j] w h w h:=UpM.refl g;obtain ⟨wz,L,d⟩:=SS.at_ g ho hj;replace d:=(d.aB tb);refine go Tryz.func193 [(0,pB j)] rfl (aa d ac (aG (lL d ac ?_)));have bz:=lw (s:=s) (a:=a) oM;refine gi 13 (wD j s F a ha z _ _ d.g (d.own 0) (d.jk 0) d.f.1) ?_;rintro _ w2 h3 u4 ⟨rfl,bb⟩;replace d:=(d.stepM 0 u4 bb).to [⟨j,130,[.string s,nV (sk s a),iV z]⟩] [];replace e:=e.trans u4;refine lL d ac (aG (lL d [.c,.v (pB j),.v (qP j 1),.o (nV (sk s a)) 0 1 1,.c] (ah (kZ (CG.join (fun Γ w_=>∃ (zd:Bool) (i:Hp),Γ=[(0,pB j),(2,.pointer none),(3,.int .u8 (aR s (sk s a):Nat)),(4,nV (sk s a)),(18,.bool zd)]/\SS wz L w_ i [⟨j,130,[.string s,nV (sk s a),iV z]⟩] [] [fun i=>Tab i]/\(zd=true->¬¬((48<=aR s (sk s a)/\aR s (sk s a)<=57)\/aR s (sk s a)=46))/\(zd=false->l7 (aR s (sk s a))=false)/\UpM [j] w h w_ i) ?_ ?_)))))
 .
  refine kQ (lL d ac (kd 20 (oJ (aR s (sk s a)) (cJ _ _) _ _ d.g) ?_));rintro _ w5 h6 u7 rfl;replace e:=e.trans (u7.m _);replace d:=d.step u7;cases hb8:(decide (48<=aR s (sk s a)/\aR s (sk s a)<=57))
  .
   have bt:=oF hb8;refine lL d aD ?_;cases I:(((aR s (sk s a):Nat):Int) == (46:Int))
   .
    have bx:=aj I;refine lB 23 I (lL d [.v qF,.c] (lD ?_));intro Y D;exact ⟨_,⟨false,h6,rfl,d.to _ _,(fun i=>absurd i kD),(fun _=>decide_eq_false oM),e⟩,D.to _ kR⟩
   have bx:=eq_of_beq I;refine lB 23 I (lL d [.v qT,.c] (lD ?_));intro Y D;exact ⟨_,⟨true,h6,rfl,d.to _ _,(fun _=>by omega),(fun i=>absurd i kD),e⟩,D.to _ kR⟩
  have bt:=oT hb8;refine lL d ac (lG 22 ?_);refine lG 23 (lL d [.v qT,.c] (lD ?_));intro Y D;exact ⟨_,⟨true,h6,rfl,d.to _ _,(fun _=>by omega),(fun i=>absurd i kD),e⟩,D.to _ kR⟩
 rintro _ _ ⟨zd,_,rfl,d,zm,J,e⟩;cases za:(zd)
 .
  try rw[za] at d
  try rw[za]
  refine dr (CG.join (fun Γ w_=>∃ (ze:Bool) (i:Hp),Γ=[(0,pB j),(2,.pointer none),(3,.int .u8 (aR s (sk s a):Nat)),(4,nV (sk s a)),(38,.bool ze)]/\SS wz L w_ i [⟨j,130,[.string s,nV (sk s a),iV z]⟩] [] [fun i=>Tab i]/\(ze=true->iC (aR s (sk s a))\/aR s (sk s a)=95)/\(ze=false->¬(iC (aR s (sk s a))\/aR s (sk s a)=95))/\UpM [j] w h w_ i) ?_ ?_)
  .
   refine kQ (lL d ac (kd 40 (mG (aR s (sk s a)) (cJ _ _) _ _ d.g) ?_));rintro _ _ zf u24 rfl;replace e:=e.trans (u24.m _);replace d:=d.step u24;cases zg:(decide (iC (aR s (sk s a))))
   .
    have zk:=oF zg;refine lL d aD ?_;cases zb:(((aR s (sk s a):Nat):Int) == (95:Int))
    .
     have zl:=aj zb;refine lB 43 zb (lL d [.v qF,.c] (lD ?_));intro Y D;exact ⟨_,⟨false,zf,rfl,d.to _ _,(fun i=>absurd i kD),(fun _ i=>by rcases i with i|i;exact absurd i aM;omega),e⟩,D.to _ kR⟩
    have zl:=eq_of_beq zb;refine lB 43 zb (lL d [.v qT,.c] (lD ?_));intro Y D;exact ⟨_,⟨true,zf,rfl,d.to _ _,(fun _=>by first|exact .inl aM|exact .inr oM),(fun i=>absurd i kD),e⟩,D.to _ kR⟩
   have zk:=oT zg;refine lL d ac (lG 42 ?_);refine lG 43 (lL d [.v qT,.c] (lD ?_));intro Y D;exact ⟨_,⟨true,zf,rfl,d.to _ _,(fun _=>by first|exact .inl aM|exact .inr oM),(fun i=>absurd i kD),e⟩,D.to _ kR⟩
  rintro _ _ ⟨ze,_,rfl,d,bf,Z,e⟩;cases zc:(ze)
  .
   try rw[zc] at d
   try rw[zc]
   refine dr (aa d ac ?_);obtain ⟨_,e1,hq1,hd1,y⟩:=C6 hq (J aM) (Z aM);have b2:=Bw (s:=s) (a:=sk s a) oM;have zn:(((aR s (sk s a):Nat):Int) == (91:Int))=false:=eM oM;refine lB 68 zn (lL d ac (ag (aa d ac ?_)));have zo:(((aR s (sk s a):Nat):Int) == (40:Int))=true:=sN oM;refine lB 73 zo (lL d ac (ak (aa d [.c,.v (pB j),.v (qP j 1),.o (nV (sk s a)) 0 1 1] (bh 78 ((sk s a:Nat)+1) ((sk s a)+1) ?_))));refine lL d [.v (pB j),.v (qP j 1)] (nP 0 1 ([nV ((sk s a)+1)]) d (fun _ pu d=>?_));replace e:=e.put pu (te.2 rfl) d.g;refine aG (lL d ac (gi 82 (ihs j s F ((sk s a)+1) oM z t e1 hq1 _ _ d.g (d.own 0) (d.jk 0) d.f.1) ?_));rintro _ _ _ u45 ⟨C,M,rfl,b0,S,V,Q⟩;replace d:=(d.stepM 0 u45 S).to [⟨j,130,[.string s,nV e1,iV z]⟩] [];replace e:=e.trans u45;replace d:=((d.a_Seg V).add (K:=fun i=>PtH i M t) Q);refine lL d ac (ah (aa d [.c,.v qT,.c,.c] (gi 87 (GF j s F e1 oM z 41 kD hd1 _ _ d.g (d.own 0) (d.jk 0) d.f.r.1) ?_)));rintro _ _ _ u49 ⟨rfl,b1,X⟩;replace d:=(d.stepM 0 u49 X).to [⟨j,130,[.string s,nV (sk s e1+1),iV z]⟩] [];replace e:=e.trans u49;exact lL d [.v qF,.v qF] (ag (cK (aa d aD (lN (kX (d.retM e [] (pB C) (by rw[y];exact ⟨C,M,rfl,by first|assumption|omega,d.own 0,d.f.2.1,d.f.1⟩)))))))
  try rw[zc] at d
  try rw[zc]
  refine co (aa d ac ?_);have hcW:=bf aM;obtain ⟨bn,hnm,W,y⟩:=DZ hq (J aM) hcW;have O:=xS (p:=ig) (s:=s) (a:=sk s a) oM;refine gi 46 (JC 78 ig (fun _ _=>by kernel_rfl) (fun c hc w h g=>qB c hc w h g) j s F (sk s a) oM z _ _ d.g (d.own 0) (d.jk 0) d.f.1) ?_;rintro _ _ _ u52 ⟨rfl,H⟩;replace d:=(d.stepM 0 u52 H).to [⟨j,130,[.string s,nV (rn ig s (sk s a)),iV z]⟩] [];replace e:=e.trans u52;refine lL d ac (ah (ax (kd 48 (s7 _ _ d.g) ?_)));rintro _ _ _ u55 ⟨bm,rfl,hcm⟩;replace e:=e.trans (u55.m _);replace d:=d.step u55;replace d:=(d.add (K:=fun i=>MapS i bm jq) hcm);refine lL d ac (IZ 50 76 9 3 (s.extract (sk s a) (rn ig s (sk s a))) true (iV 0) (false) d d.f.1 ?_ (hf:=(by rcases uQ (s.extract (sk s a) (rn ig s (sk s a))) with ⟨i_,e1_,e2_⟩|⟨e1_,e2_,e3_⟩;exact absurd (e2_.symm.trans bn) kD;exact .inr ⟨e1_,rfl,fun _=>by kernel_rfl⟩)));refine lL d [.c,.v (iV 0),.v qF,.c,.c] (aG (lL d ac (ag (cK (cQ (aa d ac (kd 58 ((by have q_:=He (s.extract (sk s a) (rn ig s (sk s a))) (by rw[ByteArray.size_extract];omega) _ _ d.g;rw[hnm] at q_;exact q_)) ?_)))))));rintro _ _ _ u58 rfl;replace e:=e.trans (u58.m _);replace d:=d.step u58;refine lL d [.v qF] (ag (cK (aa d [.c,.v (.agg #[iV 2,iV 0,qF,uV 0,eS,uV 0,eS,.string (s.extract (sk s a) (rn ig s (sk s a))),sZ])] (JX 65 53 ([iV 2,iV 0,qF,uV 0,eS,uV 0,eS,.string (s.extract (sk s a) (rn ig s (sk s a))),sZ]) d (fun zi _ _ u62 u d=>?_)))));replace u:=e4 e.gr.size u;replace e:=e.trans (u62.m _);refine lL d ac (lN (kX ?_));obtain ⟨zp,d,e,bq⟩:=d.pubM e 0 u;replace d:=d.to [⟨j,130,[.string s,nV (rn ig s (sk s a)),iV z]⟩] [];have bk:Seg zp zi 0 (cY ⟨2,0,0,(s.extract (sk s a) (rn ig s (sk s a))),none,0,0⟩):=bq;replace d:=d.a_Seg bk;exact d.retM e [] (pB zi) (by rw[W];rw[y];exact ⟨zi,⟨2,0,0,(s.extract (sk s a) (rn ig s (sk s a))),none,0,0⟩,rfl,by first|assumption|omega,d.own 0,d.f.1,PtH.nam⟩)
 try rw[za] at d
 try rw[za]
 refine co (aa d ac ?_);obtain ⟨q,hnq,W,y⟩:=CU hq (decide_eq_true (Decidable.byContradiction fun i=>zm aM i));have O:=xS (p:=l7) (s:=s) (a:=sk s a) oM;refine gi 27 (JC 216 l7 (fun _ _=>by kernel_rfl) (fun c hc w h g=>J6 c hc w h g) j s F (sk s a) oM z _ _ d.g (d.own 0) (d.jk 0) d.f.1) ?_;rintro _ _ _ u69 ⟨rfl,H⟩;rw[<-y] at H O
 replace d:=(d.stepM 0 u69 H).to [⟨j,130,[.string s,nV b,iV z]⟩] [];replace e:=e.trans u69;refine kd 28 (hnf _ _ hnq _ _ d.g d.f.1) ?_;rintro _ _ _ u72 rfl;replace e:=e.trans (u72.m _);replace d:=d.step u72;refine lL d [.c,.v (qv q),.v qT] (JX 5 44 a6 d (fun zq _ _ u76 x d=>?_));replace x:=e4 e.gr.size x;replace e:=e.trans (u76.m _);refine nP 0 0 (qc q) d (fun _ pu d=>?_);replace e:=e.put2 pu x g d.g;refine lL d ac (ah (aa d [.c,.v qF] (ag (cK (aa d [.o (qv q) 0 0 5] (kd 37 (C2 q _ _ d.g) ?_))))));rintro _ _ _ u81 ⟨B,rfl,U⟩;replace e:=e.trans (u81.m _);replace d:=d.step u81;replace d:=(d.add (K:=fun i=>PtH i B (oB q)) U);refine JX 7 53 ca d (fun zj _ _ u85 l d=>?_);replace l:=e4 e.gr.size l;replace e:=e.trans (u85.m _);refine nP 0 0 (cY B) d (fun _ pu d=>?_);replace e:=e.put2 pu l g d.g;refine aG (lL d ac (lN (kX ?_)));obtain ⟨zr,d,e,bl⟩:=d.pubM e 0 l;replace d:=d.to [⟨zq,44,qc q⟩,⟨j,130,[.string s,nV b,iV z]⟩] [];have br:Seg zr zj 0 (cY B):=bl;replace d:=d.a_Seg br;exact d.retM e [] (pB zj) (by rw[W];exact ⟨zj,B,rfl,by first|assumption|omega,d.own 1,d.f.1,d.f.2.1⟩)
end
section
variable {nf:ByteArray->Option Rat} (hnf:FN nf)
include hnf
def KC (nf:ByteArray->Option Rat)(n:Nat):Prop:=PC nf 62 n .sum/\PC nf 112 n .prod/\PC nf 145 n .sign/\PC nf 166 n .pow/\PC nf 193 n .atom
theorem J9 (n:Nat):KC nf n:=by
  induction n using Nat.strongRecOn with
  | ind n ih =>
    cases n with
    | zero=>exact ⟨fun _ _ _ _ _ _ _ _ h=>(by cases h),fun _ _ _ _ _ _ _ _ h=>(by cases h),fun _ _ _ _ _ _ _ _ h=>(by cases h),fun _ _ _ _ _ _ _ _ h=>(by cases h),fun _ _ _ _ _ _ _ _ h=>(by cases h)⟩
    | succ n =>
      have i:=ih n (Ox n);refine ⟨?_,?_,?_,?_,?_⟩
      . exact fun f s h1 a c l t b hq w h g j d e=>KF n (fun m o=>(ih m oM).2.1) f s h1 a c l t b hq w h g j d e
      . exact fun f s h1 a c l t b hq w h g j d e=>AH n (fun m o=>(ih m oM).2.2.1) f s h1 a c l t b hq w h g j d e
      . exact fun f s h1 a c l t b hq w h g j d e=>Cn n i.2.2.2.1 f s h1 a c l t b hq w h g j d e
      . exact fun f s h1 a c l t b hq w h g j d e=>GV n i.2.2.2.2 f s h1 a c l t b hq w h g j d e
      . exact fun f s h1 a c l t b hq w h g j d e=>Ju n hnf i.1 f s h1 a c l t b hq w h g j d e
end
theorem wx {c:UInt8}:∀ (l:List UInt8),(∀ b∈l,b≠c)->Lib.indexByte l c = -1
  | [],_=>rfl
  | b::l,h=>by
    have h1:(b == c)=false:=by simpa using h b List.mem_cons_self
    unfold Lib.indexByte
    rw[h1,wx l (fun b a=>h b (List.mem_cons_of_mem _ a))];rfl
theorem Dl {s:ByteArray}{b:UInt8}(h:b∈s.data.toList):∃ i,i<s.size/\aR s i=b.toNat:=by
 obtain ⟨i,hi,e⟩:=vi.1 h;refine ⟨i,by simpa using hi,?_⟩
 unfold aR
 rw[LH,On hi,e];rfl
theorem ED (x:ByteArray)(c:UInt8)(hn:∀ i,i<x.size->aR x i≠c.toNat)(w:World)(h:Hp)(g:G w h):CV 236 #[.string x,.string ⟨#[c]⟩] w h (iV (-1)):=by
 have q:=Ret.of_same g (Tryz.stringslite_Index_one x c w)
 rw[wx _ (fun b a e=>by
  obtain ⟨i,hi,h1⟩:=Dl a;exact hn i hi (by rw[h1,e]))] at q
 exact q
theorem FM {x:ByteArray}{c:UInt8}(h:aR x 0≠c.toNat):Lib.hasPrefix x.data.toList [c]=false:=by
  unfold Lib.hasPrefix
  unfold aR at h
  cases e:x.data.toList with
  | nil=>rfl
  | cons b l =>
    rw[e] at h
    have:b≠c:=fun e2=>h (by rw[e2];rfl)
    simp[List.isPrefixOf,Ne.symm this]
theorem pH (x:ByteArray)(c:UInt8)(hn:aR x 0≠c.toNat)(w:World)(h:Hp)(g:G w h):CV 229 #[.string x,.string ⟨#[c]⟩] w h (.tuple #[.string x,.bool false]):=by
 have q:=Ret.of_same g (Tryz.strings_CutPrefix x ⟨#[c]⟩ w);have e:Lib.hasPrefix x.data.toList [c]=false:=FM hn;have e2:(⟨(Lib.trimPrefix x.data.toList [c]).toArray⟩:ByteArray)=x:=by unfold Lib.trimPrefix;rw[e];simp
 have a:CV 229 #[.string x,.string ⟨#[c]⟩] w h (.tuple #[.string ⟨(Lib.trimPrefix x.data.toList [c]).toArray⟩,.bool (Lib.hasPrefix x.data.toList [c])]):=q;rw[e,e2] at a;exact a
theorem Jl (m a:Nat)(ha:a<18446744073709551616)(w:World)(h:Hp)(g:G w h):CR 220 #[.slice none ((([]:List Nat)).length) 0,mV m,mV a] w h (fun v h1=>∃ (A:Option Addr) (c:Nat) (l:List Nat),v=.slice A l.length c/\l.length<=c/\SlO 1 aq 0 h1 A l/\l=if a=0 then [] else [a]):=by
 have b:=(sS g).nil 38 1;have o:([]:List Nat).length=0:=rfl;refine go Tryz.func220 [(0,qS none ((([]:List Nat)).length) 0),(1,mV m),(2,mV a)] rfl (aa b ac (aG (lL b aD (ah (aa b [.c,.v (iV 0),.c] (aY (cU ?_)))))));refine cN (aa b [.v qF] (ah (dr (CG.exit ?_))))
 show CG _ _ _ _ _ _ _ _
 refine cQ (aa b ac ?_);cases d:((a:Int) != (0:Int))
 .
  have e:=aW d;exact lB 43 d (ag (cK (aa b aD (ae b [] (qS none ((([]:List Nat)).length) 0) (⟨none,0,[],rfl,nR _,SlO.nil,by rw[if_pos oM]⟩)))))
 have e:=aN d;refine lB 43 d (ak (kQ (lL b aD (lR 46 38 1 ([mV a]) b (fun u w3 x b=>lY 47 0 38 1 0 none ([]:List Nat) aq a 8 u (uV 0) b b.f.1 (fun j p z y b=>lL b ac (aG (lL b aD (lN (kX ?_))))))))));obtain ⟨_,b,za⟩:=b.pubr 0 (A:=j) (c:=p) (l:=([]:List Nat)++[a]) (f:=aq) (ty:=38) (sz:=1) 0 (fun _=>rfl);have i:=(b.f.1);exact b.ret [] (qS j ((([]:List Nat)++[a]).length) p) (⟨_,_,_,rfl,za,i,by rw[if_neg oM];rfl⟩)
theorem Ee  (w:World)(h:Hp)(g:G w h):CV 195 #[.string (⟨#[49]⟩)] w h (.tuple #[nv 1,.bool true]):=by
 have a:=sS g;refine go Tryz.func195 [(0,.string (⟨#[49]⟩))] rfl (ax (lA 2 40 ([uV 0,eS]) a (fun i w2 y a=>lL a ac (ah (aa a [.c,.v (iV 1),.v qF,.c,.c,.v (iV 1),.v qF,.v qF,.c,.c,.v (iV 1),.v qF,.c] (lG 21 ?_))))));refine lG 22 (lG 23 (lL a [.v qF,.v qF] (ag (cK (aa a ac (aG (lL a aD (ah (aa a [.c,.v (iV 1),.c] (aY (cU ?_)))))))))));refine cN (aa a [.v qT] (ah (co (cK (cQ (kZ (aa a aD (ah (aa a [.c,.c,.v (.int .u8 49),.v qF,.c,.c,.c,.v (.int .u8 49),.v qF,.v qF] (ag (cK (aa a [.c,.v (uV 0),.c,.c,.v (.int .u8 49),.v (.int .u8 1),.v (uV 1),.v (uV 1),.c,.v (uV 10),.c,.c] (aG (lL a [.c,.v qF,.c,.c,.c,.v (iV 1),.v (iV 0),.v qT,.v qT] (ak (aa a di (lC 65 a (Jl 10 1 kD _ _ a.g) ?_)))))))))))))))));rintro _ o p a ⟨b,c2,l2,rfl,d,e,j⟩;obtain rfl:l2=[1]:=j;replace a:=a.aS e;refine lL a ac (lN (kQ (lL a aD (lN (kQ (lL a [.v (iV 1),.c] (lD (CL.to [(0,.string (⟨#[49]⟩)),(2,pB i),(3,qF),(4,qS b 1 c2),(5,uV 0),(6,uV 1),(28,iV 1),(29,iV 1),(30,qT),(31,iV 0),(7,iV 0),(32,.string (⟨#[49]⟩)),(33,iV 0),(34,.int .u8 49),(35,qF),(36,qF),(37,.string (⟨#[49]⟩)),(38,iV 0),(39,.int .u8 49),(40,qF),(41,qF),(43,uV 0),(44,uV 0),(45,.string (⟨#[49]⟩)),(46,iV 0),(47,.int .u8 49),(48,.int .u8 1),(49,uV 1),(50,uV 1),(51,uV 1),(52,uV 10),(53,uV 10),(54,qF),(55,qF),(56,iV 0),(57,.string (⟨#[49]⟩)),(58,iV 1),(59,iV 0),(60,qT),(61,qT),(62,sZ),(63,uV 10),(64,uV 1),(65,qS b 1 c2),(66,iV 1)] ?_))))))));replace a:=a.to [⟨i,40,[uV 0,eS]⟩] [];refine cN (aa a [.v qF] (ah (dr (CG.exit ?_))))
 show CG _ _ _ _ _ _ _ _
 exact bH [(2,pB i),(3,qF),(4,qS b 1 c2)] (aa a ac (ar 68 a (Fm b c2 [1] (Dg.one kD) kD d _ _ a.g a.f.1) (fun l x a=>lP 0 0 (nc (aA [1])) a (fun u a=>lL a ac (ae a [(0,0,2)] (.tuple #[nv (aA [1]),qT]) rfl)))))
theorem IK (x:ByteArray)(c:UInt8)(hn:∀ i,i<x.size->aR x i≠c.toNat)(w:World)(h:Hp)(g:G w h):CV 228 #[.string x,.string (⟨#[c]⟩)] w h (.tuple #[.string x,eS,.bool false]):=by
 have a:=sS g;exact go Tryz.func228 [(0,.string x),(1,.string (⟨#[c]⟩))] rfl (aa a di (ah (aa a aD (ar 10 a (ED x c hn _ _ a.g) (fun w1 b a=>lL a ac (aG (lL a [.c,.v qF] (ag (cK (aa a pd (ae a [] (.tuple #[.string x,eS,qF]) rfl)))))))))))
theorem Fp (x:ByteArray)(c:UInt8)(hn:∀ i,i<x.size->aR x i≠c.toNat)(w:World)(h:Hp)(g:G w h):CV 222 #[.string x,.string (⟨#[c]⟩)] w h (.tuple #[.string x,eS,.bool false]):=by
 have a:=sS g;exact go Tryz.func222 [(0,.string x),(1,.string (⟨#[c]⟩))] rfl (aa a di (aG (lL a aD (ar 9 a (IK x c hn _ _ a.g) (fun w1 b a=>lL a [.v (.string x),.v (eS),.v qF,.c,.c,.c] (ae a [] (.tuple #[.string x,eS,qF]) rfl))))))
theorem Eb  (w:World)(h:Hp)(g:G w h):CV 225 #[.string (⟨#[49]⟩)] w h (.tuple #[iv ((1:Nat):Int),.bool true]):=by
 have a:=sS g;refine go Tryz.func225 [(0,.string (⟨#[49]⟩))] rfl (ax (lA 2 42 ([qF,uV 0,eS]) a (fun j w2 l a=>lL a ac (aG (lL a ac (ar 10 a (pH ⟨#[49]⟩ 45 (by show aR ⟨#[49]⟩ 0≠45;decide) _ _ a.g) (fun e f a=>lL a [.c,.v (.string (⟨#[49]⟩)),.v qF,.c,.c] (aG (lL a ac (ar 15 a (Ee _ _ a.g) (fun b i a=>lL a [.c,.v (nv 1),.v qT] (lA 6 40 ([uV 0,eS]) a (fun b8 d _ a=>lP 0 0 (nc 1) a (fun _ a=>lL a ac (ah (aa a [.c,.v qF,.c,.c,.c] (lG 23 ?_)))))))))))))))));exact lG 24 (lG 25 (lL a [.v qF,.v qF] (ag (cK (aa a [.c,.o (nv 1) 0 0 2] (ar 31 a (fb 1 _ _ a.g) (fun _ _ a=>lP 1 0 (ic ((1:Nat):Int)) a (fun _ a=>lL a ac (ae a [(1,0,3)] (.tuple #[iv ((1:Nat):Int),qT]) rfl)))))))))
theorem CP  (w:World)(h:Hp)(g:G w h):CV 215 #[.string (⟨#[49]⟩)] w h (.tuple #[qv ((1:Nat):Rat),.bool true]):=by
 have a:=sS g;exact go Tryz.func215 [(0,.string (⟨#[49]⟩))] rfl (ax (lA 2 44 a6 a (fun y w2 z a=>lL a ac (ah (aa a ac (ar 14 a (Fp ⟨#[49]⟩ 47 (by intro i hi;obtain rfl:i=0:=(by have:i<1:=hi;omega);show aR ⟨#[49]⟩ 0≠47;decide) _ _ a.g) (fun j l a=>lL a [.c,.v (.string (⟨#[49]⟩)),.v (eS),.v qF,.c,.c,.c] (aG (lL a ac (ag (cK (cQ (aa a ac (ar 26 a (Fp ⟨#[49]⟩ 46 (by intro i hi;obtain rfl:i=0:=(by have:i<1:=hi;omega);show aR ⟨#[49]⟩ 0≠46;decide) _ _ a.g) (fun f x a=>lL a [.c,.v (.string (⟨#[49]⟩)),.v (eS),.v qF,.c,.c,.c] (aG (lL a ac (ag (cK (aa a ac (ar 38 a (Eb _ _ a.g) (fun u p a=>lL a [.c,.v (iv ((1:Nat):Int)),.v qT] (lA 10 42 ([qF,uV 0,eS]) a (fun b _ _ a=>lP 0 0 (ic ((1:Nat):Int)) a (fun _ a=>lL a ac (aG (lL a [.o (iv ((1:Nat):Int)) 0 0 3,.v (.agg #[.bool (af ((1:Nat):Int)),uV (lo (ab ((1:Nat):Int))),.string (hi (ab ((1:Nat):Int))),uV 0,eS]),.c] (lP 1 0 ([.bool (af ((1:Nat):Int)),uV (lo (ab ((1:Nat):Int))),.string (hi (ab ((1:Nat):Int))),uV 0,eS]) a (fun _ a=>lL a ac (ae a [(1,0,5)] (.tuple #[.agg #[.bool (af ((1:Nat):Int)),uV (lo (ab ((1:Nat):Int))),.string (hi (ab ((1:Nat):Int))),uV 0,eS],qT]) (congrArg (fun e=>Value.tuple #[e,qT]) (jv (d:=0) (Rat.num_natCast 1) (lz (Rat.den_natCast 1))))))))))))))))))))))))))))))))))
def Iq (x:ByteArray):Option Rat:=if x=⟨#[49]⟩ then some ((1:Nat):Rat) else none
theorem Fz:FN Iq:=fun x q h w a g _=>by
 unfold Iq at h
 split at h
 ·rename_i e;subst e;injection h with h;subst h;exact CP w a g
 ·cases h
theorem J3:∀ s,gm s->∀ (w:World) (h:Hp),G w h->Calls Tryz.prog 44 #[.string s] w (Ret w h (fun v _=>∃ b,v=.bool b/\b=dC s)):=fun s a w h g=>(He s (by unfold gm at a;omega) w h g).mono fun e w' ⟨v,h',e1,u,e2⟩=>⟨v,h',e1,u,_,e2,rfl⟩
theorem TmH.cut {ok:ByteArray->Prop}{h:Hp}:∀ {e d:Nat} {p:PTm} {t:Tm},TmH e h p t->WfT ok d t->TmH d h p t
 | _,0,_,_,_,x=>x.elim
 | 0,_,_,_,x,_=>x.elim
 | e+1,d+1,p,t,⟨h1,h2,h3,h4,h5,h6,ps,h7,h8,h9⟩,⟨_,_,_,_,_,_,_,_,k⟩=>⟨h1,h2,h3,h4,h5,h6,ps,h7,h8,fun i hi=>(h9 i hi).cut (k i hi)⟩
theorem PtH.cut {ok:ByteArray->Prop}{h:Hp}{d:Nat}{p:PTm}{t:Tm}(x:PtH h p t)(y:WfT ok d t):TmH d h p t:=by obtain ⟨e,x⟩:=x;exact x.cut y
theorem AR (s:ByteArray)(L:s.size<=65536)(n:Nat)(t:Tm)(b:Nat)(hq:gc Iq s n .sum 0=some (.ok t b))(C:sk s b=s.size)(d:Nat)(I:d<=24)(x:WfT (fun s=>dC s=true) d t)(V:bZ d t<=1000)(w:World)(h:Hp)(g:G w h)(J:Tab h):CR 30 #[.string s] w h (fun v h1=>∃ p,v=.tuple #[bS p,.agg #[iV 0,iV 0,iV 0]]/\TmH d h1 p t):=by
 have a:=((sS g).aB J);refine go Tryz.func30 [(0,.string s)] rfl (ax (lA 2 53 ca a (fun F w2 U a=>lA 3 90 ([iV 0,iV 0,iV 0]) a (fun D W S a=>ah (aa a [.c,.v (nV s.size)] ?_)))));have u:(decide ((65536:Int)<(s.size:Int)))=false:=decide_eq_false oM;refine lB 9 u (ag (cK (aa a [.c,.v (.agg #[.string s,iV 0,iV 0])] (lA 14 130 ([.string s,iV 0,iV 0]) a (fun b8 Q _ a=>lL a ac (aG (lL a ac (gi 16 ((J9 Fz n).1 b8 s oM 0 (MG _) 0 t b hq _ _ a.g (a.own 0) (a.jk 0) a.f.1) ?_))))))));rintro _ _ _ y ⟨B,p,rfl,j,H,O,M⟩;replace a:=(a.stepM 0 y H).to [⟨b8,130,[.string s,nV b,iV 0]⟩,⟨D,90,[iV 0,iV 0,iV 0]⟩,⟨F,53,[iV 0,iV 0,qF,uV 0,eS,uV 0,eS,eS,sZ]⟩] [];replace a:=((a.a_Seg O).add (K:=fun i=>PtH i p t) M);refine lL a ac (ah (aa a [.c,.v qT] (ak (aa a ac (gi 20 (wD b8 s oM b j 0 _ _ a.g (a.own 0) (a.jk 0) a.f.r.1) ?_)))));rintro _ _ _ l ⟨rfl,e⟩;rw[C] at e
 rw[C];replace a:=(a.stepM 0 l e).to [⟨b8,130,[.string s,nV s.size,iV 0]⟩,⟨D,90,[iV 0,iV 0,iV 0]⟩,⟨F,53,[iV 0,iV 0,qF,uV 0,eS,uV 0,eS,eS,sZ]⟩] [];refine aG (lL a [.c,.v (pB b8),.v (qP b8 1),.o (nV s.size) 0 1 1,.c,.v (nV s.size)] ?_);have za:(decide ((s.size:Int)<(s.size:Int)))=false:=decide_eq_false oM;refine lB 27 za (ag (cK (cQ (aa a [.c,.v qF] (ag (cK (cQ (aa a [.c,.v (pB B)] (lH 44 (bS p) a a.f.2.1 ?_)))))))));refine ar 45 a ((by have z:=H4 dC gm J3 (fun s i=>o7 i) Ew d p t I _ _ a.g ((a.f.1).cut x) x;rw[if_neg oM] at z;exact z)) (fun _ _ a=>lL a ac (aG (lL a [.c,.v qF] (ag (cK (aa a [.c,.v (pB B)] (lH 53 (bS p) a a.f.2.1 ?_)))))));exact lL a [.v (.agg #[iV 0,iV 0,iV 0])] (lP 2 0 (cY p) a (fun _ a=>lP 1 0 ([iV 0,iV 0,iV 0]) a (fun _ a=>ae a [(2,0,9),(1,0,3)] (.tuple #[bS p,.agg #[iV 0,iV 0,iV 0]]) (⟨p,rfl,(a.f.1).cut x⟩))))
theorem pS (e:Option Addr)(i z:Nat)(B:Option Addr)(y u:Nat)(n:Nat)(hn:n<=12)(q:Rat)(hk:Hp)(w:World)(h:Hp)(g:G w h)(hz:hk.size<=h.size):CR 305 #[.agg #[.slice e i z,.slice B y u,nV n],qv q] w h (fun v h1=>∃ I,v=.slice (sB I) (n+1) (n+1)/\Nw hk.size h1 I 44 ((gj (n+1) q).flatMap qc)):=by
 have a:=sS g;have F:(As (n+1) (0:Rat)).length=n+1:=N6;refine go Tryz.func305 [(0,.agg #[qS e i z,qS B y u,nV n]),(1,qv q)] rfl (ax (lA 2 182 ([qS e i z,qS B y u,nV n]) a (fun D w2 O a=>lA 3 44 (qc q) a (fun H Q M a=>lL a ac (aG (lL a [.v (qP D 2),.o (nV n) 1 2 1] (bh 8 ((n:Nat)+1) (n+1) ?_)))))));refine lK 9 44 (n+1) 5 56 cA qc 0 a (fun C L K a=>?_);have za:(As (n+1) (0:Rat)).length=(n+1):=by simp
 refine lL a ac (aG (lL a [.c,.o (qv q) 1 0 5] (lX 12 (sB C) (n+1) (n+1) 5 0 0 rfl ?_)));refine lW 0 (As (n+1) (0:Rat)) qc 5 0 q a oM (fun _ a=>?_);have J:((As (n+1) (0:Rat)).set 0 q).length=(n+1):=by rw[LB];exact za
 replace a:=a.to [⟨C,44,((As (n+1) (0:Rat)).set 0 q).flatMap qc⟩,⟨H,44,qc q⟩,⟨D,182,[qS e i z,qS B y u,nV n]⟩] [];refine aG (lL a aD (lN (kX ?_)));obtain ⟨_,a,x,p,j⟩:=a.pub 0;replace a:=(a.to [⟨H,44,qc q⟩,⟨D,182,[qS e i z,qS B y u,nV n]⟩] []).aS (SlO.of_flat (sz:=5) (f:=qc) (d:=0) (b:=C) (o:=0) (l:=(As (n+1) (0:Rat)).set 0 q) (fun _=>rfl) x);exact a.ret [] (qS (sB C) (n+1) (n+1)) (⟨_,rfl,e4 hz p,by decide,j⟩)
theorem vU (a:Option Addr)(c p:Nat)(y:Option Addr)(j i:Nat)(n:Nat)(hn:n<=12)(q:Rat)(w:World)(h:Hp)(g:G w h):Calls Tryz.prog 305 #[.agg #[.slice a c p,.slice y j i,nV n],qv q] w (Ret w h (fun v h1=>∃ x,v=.slice (sB x) (gj (n+1) q).length (n+1)/\Sq (sB x) (gj (n+1) q) h1)) :=
 (pS a c p y j i n hn q h w h g (nR _)).mono fun e w' ⟨v,h',e1,u,b,e2,z⟩=>⟨v,h',e1,u,b,by rw[pM];exact e2,SlO.of_flat (sz:=5) (f:=qc) (d:=0) (b:=b) (o:=0) (l:=gj (n+1) q) (fun _=>rfl) z.seg0⟩
theorem Is (u:Option Addr)(x F:Nat)(D:Option Addr)(C y:Nat)(n:Nat)(hn:n<=12)(j:List Rat)(B:Option Addr)(H:Nat)(hla:j.length=n+1)(O:∀ i,LQ 39500000 (j.getD i 0))(e:List Rat)(z:Option Addr)(M:Nat)(hlb:e.length=n+1)(K:∀ i,LQ 39500000 (e.getD i 0))(w:World)(h:Hp)(g:G w h)(S:Sq B j h)(U:Sq z e h)(tb:Tab h):CR 300 #[.agg #[.slice u x F,.slice D C y,nV n],.slice B j.length H,.slice z e.length M] w h (fun v h1=>∃ bk,v=.slice (sB bk) (oW (n+1) j e).length (n+1)/\Sq (sB bk) (oW (n+1) j e) h1):=by
 have a:=((((sS g).aS S).aS U).aB tb);refine go Tryz.func300 [(0,.agg #[qS u x F,qS D C y,nV n]),(1,qS B j.length H),(2,qS z e.length M)] rfl (ax (lA 3 182 ([qS u x F,qS D C y,nV n]) a (fun J w2 h3 a=>lL a ac (aG (lL a [.v (qP J 2),.o (nV n) 0 2 1] (bh 11 ((n:Nat)+1) (n+1) ?_))))));refine lK 12 44 (n+1) 5 56 cA qc 0 a (fun p w5 h6 a=>?_);have hl7:(As (n+1) 0).length=(n+1):=by simp
 refine lL a ac (ah (aa a [.c,.v (nV (n+1)),.c] (aY ?_)));refine bH _ (CG.loop (fun Y Γ w_=>∃ (k:Nat) (L:List Rat) (V:Hp),Y=n+1-k/\Γ=[(1,qS B j.length H),(2,qS z e.length M),(6,sZ),(7,qS (sB p) (n+1) (n+1)),(14,nV (n+1)),(15,nV k)]/\SS w h w_ V [⟨p,44,(L).flatMap qc⟩,⟨J,182,[qS u x F,qS D C y,nV n]⟩] [] [fun V=>Tab V,Sq z e,Sq B j]/\k<=n+1/\L.length=n+1/\L=dZ (fun i=>j.getD i 0+e.getD i 0) (n+1) k) _ ⟨0,(As (n+1) (0:Rat)),h6,rfl,rfl,a.to _ _,MG _,N6,(i6 _ _)⟩ ?_);rintro _ _ w8 ⟨k,L,h9,bd,rfl,a,hk,W,X⟩;refine ax ?_;cases za:(decide ((k:Int)<(((n+1):Nat):Int)))
 .
  have zb:=oF za;refine lB 16 za (ah (dr (CG.exit ?_)))
  show CG _ _ _ _ _ _ _ _
  refine aa a aD (lN (kX ?_));have Q:k=n+1:=by omega
  rw[Q,fU] at X
  subst X;replace a:=a.to [⟨p,44,(((pa (n+1)).map fun i=>j.getD i 0+e.getD i 0)).flatMap qc⟩,⟨J,182,[qS u x F,qS D C y,nV n]⟩] [];obtain ⟨_,a,I,bb,bf⟩:=a.pub 0;replace a:=(a.to [⟨J,182,[qS u x F,qS D C y,nV n]⟩] []).aS (SlO.of_flat (sz:=5) (f:=qc) (d:=0) (b:=p) (o:=0) (l:=((pa (n+1)).map fun i=>j.getD i 0+e.getD i 0)) (fun _=>rfl) I);exact a.ret [] (qS (sB p) (n+1) (n+1)) (⟨_,by rw[wm],a.f.1⟩)
 have zb:=oT za;refine lB 16 za (ah (co (cK (cQ (kZ (aa a aD (lN (cR 11 [] mixed a ao ?_))))))));refine eV 0 18 (qS (sB p) (n+1) (n+1)) (eV 1 19 (nV k) (eV 2 20 (qS B j.length H) (eV 3 21 (nV k) (eX 4 22 B j.length H 5 (k:Nat) k ((a.f.r.1).ok oM) (eH 5 23 (qv (j.getD k 0)) a ((a.f.r.1).el k oM) (eV 6 24 (qS z e.length M) (eV 7 25 (nV k) (eX 8 26 z e.length M 5 (k:Nat) k ((a.f.2.1).ok oM) (eH 9 27 (qv (e.getD k 0)) a ((a.f.2.1).el k oM) ?_)))))))));have Z:=LQ.add (O k) (K k);refine au 10 28 a (fun _ _ a=>v8 (j.getD k 0) (e.getD k 0) (LQ.mono (O k) oM) (LQ.mono (K k) oM) _ _ a.g a.f.1) (fun _ _ a=>bP a (fun _ zd a=>tX 11 29 (sB p) (n+1) (n+1) 5 (k:Nat) k rfl (tW 12 0 L qc 5 k ((j.getD k 0)+(e.getD k 0)) a oM (fun _ a=>?_))));have zc:((L).set k ((j.getD k 0)+(e.getD k 0))).length=(n+1):=by rw[LB];exact W
 replace a:=a.to [⟨p,44,((L).set k ((j.getD k 0)+(e.getD k 0))).flatMap qc⟩,⟨J,182,[qS u x F,qS D C y,nV n]⟩] [];refine tN (kQ (bh 30 ((k:Nat)+1) (k+1) ?_));refine lL a ac (lD ?_);intro a_ ka;refine ⟨_,_,?_,⟨k+1,(L).set k ((j.getD k 0)+(e.getD k 0)),zd,rfl,rfl,a.to _ _,oM,zc,(by rw[X];exact fV oM)⟩,ka.to _ kR⟩
 omega
theorem Cs (u:Option Addr)(x D:Nat)(C:Option Addr)(B y:Nat)(n:Nat)(hn:n<=12)(e:List Rat)(z:Option Addr)(F:Nat)(hla:e.length=n+1)(M:∀ i,LQ 39500000 (e.getD i 0))(j:Rat)(K:LQ 1 j)(w:World)(h:Hp)(g:G w h)(Q:Sq z e h)(tb:Tab h):CR 306 #[.agg #[.slice u x D,.slice C B y,nV n],.slice z e.length F,qv j] w h (fun v h1=>∃ bk,v=.slice (sB bk) (jr (n+1) e j).length (n+1)/\Sq (sB bk) (jr (n+1) e j) h1):=by
 have a:=(((sS g).aS Q).aB tb);refine go Tryz.func306 [(0,.agg #[qS u x D,qS C B y,nV n]),(1,qS z e.length F),(2,qv j)] rfl (ax (lA 3 182 ([qS u x D,qS C B y,nV n]) a (fun I w2 h3 a=>lA 5 44 (qc j) a (fun H w5 h6 a=>lL a ac (aG (lL a [.v (qP I 2),.o (nV n) 1 2 1] (bh 11 ((n:Nat)+1) (n+1) ?_)))))));refine lK 12 44 (n+1) 5 56 cA qc 0 a (fun p w8 h9 a=>?_);have bd:(As (n+1) 0).length=(n+1):=by simp
 refine lL a ac (ah (aa a [.c,.v (nV (n+1)),.c] (aY ?_)));refine bH _ (CG.loop (fun W Γ w_=>∃ (k:Nat) (L:List Rat) (S:Hp),W=n+1-k/\Γ=[(1,qS z e.length F),(5,pB H),(6,sZ),(7,qS (sB p) (n+1) (n+1)),(14,nV (n+1)),(15,nV k)]/\SS w h w_ S [⟨p,44,(L).flatMap qc⟩,⟨H,44,qc j⟩,⟨I,182,[qS u x D,qS C B y,nV n]⟩] [] [fun S=>Tab S,Sq z e]/\k<=n+1/\L.length=n+1/\L=dZ (fun i=>e.getD i 0*j) (n+1) k) _ ⟨0,(As (n+1) (0:Rat)),h9,rfl,rfl,a.to _ _,MG _,N6,(i6 _ _)⟩ ?_);rintro _ _ _ ⟨k,L,_,Y,rfl,a,hk,U,V⟩;refine ax ?_;cases za:(decide ((k:Int)<(((n+1):Nat):Int)))
 .
  have zb:=oF za;refine lB 16 za (ah (dr (CG.exit ?_)))
  show CG _ _ _ _ _ _ _ _
  refine aa a aD (lN (kX ?_));have O:k=n+1:=by omega
  rw[O,fU] at V
  subst V;replace a:=a.to [⟨p,44,(((pa (n+1)).map fun i=>e.getD i 0*j)).flatMap qc⟩,⟨H,44,qc j⟩,⟨I,182,[qS u x D,qS C B y,nV n]⟩] [];obtain ⟨_,a,J,X,Z⟩:=a.pub 0;replace a:=(a.to [⟨H,44,qc j⟩,⟨I,182,[qS u x D,qS C B y,nV n]⟩] []).aS (SlO.of_flat (sz:=5) (f:=qc) (d:=0) (b:=p) (o:=0) (l:=((pa (n+1)).map fun i=>e.getD i 0*j)) (fun _=>rfl) J);exact a.ret [] (qS (sB p) (n+1) (n+1)) (⟨_,by rw[qz],a.f.1⟩)
 have zb:=oT za;refine lB 16 za (ah (co (cK (cQ (kZ (aa a aD (lN (cR 8 [] mixed a ao ?_))))))));refine eV 0 18 (qS (sB p) (n+1) (n+1)) (eV 1 19 (nV k) (eV 2 20 (qS z e.length F) (eV 3 21 (nV k) (eX 4 22 z e.length F 5 (k:Nat) k ((a.f.2.1).ok oM) (eH 5 23 (qv (e.getD k 0)) a ((a.f.2.1).el k oM) (eO 6 24 [(1,0,5)] (qv j) a ?_))))));have bb:=LQ.mul (M k) K;refine au 7 25 a (fun _ _ a=>m8 (e.getD k 0) j (LQ.mono (M k) oM) (LQ.mono K oM) _ _ a.g a.f.1) (fun _ _ a=>bP a (fun _ zd a=>tX 8 26 (sB p) (n+1) (n+1) 5 (k:Nat) k rfl (tW 9 0 L qc 5 k ((e.getD k 0)*j) a oM (fun _ a=>?_))));have zc:((L).set k ((e.getD k 0)*j)).length=(n+1):=by rw[LB];exact U
 replace a:=a.to [⟨p,44,((L).set k ((e.getD k 0)*j)).flatMap qc⟩,⟨H,44,qc j⟩,⟨I,182,[qS u x D,qS C B y,nV n]⟩] [];refine tN (kQ (bh 27 ((k:Nat)+1) (k+1) ?_));refine lL a ac (lD ?_);intro a_ ka;refine ⟨_,_,?_,⟨k+1,(L).set k ((e.getD k 0)*j),zd,rfl,rfl,a.to _ _,oM,zc,(by rw[V];exact fV oM)⟩,ka.to _ kR⟩
 omega
theorem JL (B:Option Addr)(C I:Nat)(J:Option Addr)(H D:Nat)(n:Nat)(hn:n<=12)(p:List Rat)(z:Option Addr)(Q:Nat)(hla:p.length=n+1)(Z:∀ i,LQ 39500000 (p.getD i 0))(e:List Rat)(y:Option Addr)(U:Nat)(hlb:e.length=n+1)(Y:∀ i,LQ 39500000 (e.getD i 0))(hcv:∀ i j,i<=n->j<=i+1->LQ 39500000 (gl p e i j))(w:World)(h:Hp)(g:G w h)(hSa:Sq z p h)(hSb:Sq y e h)(tb:Tab h):CR 304 #[.agg #[.slice B C I,.slice J H D,nV n],.slice z p.length Q,.slice y e.length U] w h (fun v h1=>∃ bk,v=.slice (sB bk) (kF (n+1) p e).length (n+1)/\Sq (sB bk) (kF (n+1) p e) h1):=by
 have a:=((((sS g).aS hSa).aS hSb).aB tb);refine go Tryz.func304 [(0,.agg #[qS B C I,qS J H D,nV n]),(1,qS z p.length Q),(2,qS y e.length U)] rfl (ax (lA 3 182 ([qS B C I,qS J H D,nV n]) a (fun S w2 h3 a=>lL a ac (aG (lL a [.v (qP S 2),.o (nV n) 0 2 1] (bh 12 ((n:Nat)+1) (n+1) ?_))))));refine lK 13 44 (n+1) 5 56 cA qc 0 a (fun x w5 h6 a=>?_);have hl7:(As (n+1) 0).length=(n+1):=by simp
 refine lL a ac (ah (aa a [.c,.v (nV (n+1)),.c] (aY ?_)));refine bH _ (CG.loop (fun O Γ w_=>∃ (i:Nat) (L:List Rat) (K:Hp),O=n+1-i/\Γ=[(1,qS z p.length Q),(2,qS y e.length U),(6,sZ),(7,qS (sB x) (n+1) (n+1)),(15,nV (n+1)),(16,nV i)]/\SS w h w_ K [⟨x,44,(L).flatMap qc⟩,⟨S,182,[qS B C I,qS J H D,nV n]⟩] [] [fun K=>Tab K,Sq y e,Sq z p]/\i<=n+1/\L.length=n+1/\L=dZ (fun X=>gl p e X (X+1)) (n+1) i) _ ⟨0,(As (n+1) (0:Rat)),h6,rfl,rfl,a.to _ _,MG _,N6,(i6 _ _)⟩ ?_);rintro _ _ w8 ⟨i,L,h9,bd,rfl,a,hi,hL1,hL⟩;refine ax ?_;cases za:(decide ((i:Int)<(((n+1):Nat):Int)))
 .
  have zd:=oF za;refine lB 17 za (ah (dr (CG.exit ?_)))
  show CG _ _ _ _ _ _ _ _
  refine aa a aD (lN (kX ?_));have hkm:i=n+1:=by omega
  rw[hkm,Dp] at hL
  subst hL;replace a:=a.to [⟨x,44,((kF (n+1) p e)).flatMap qc⟩,⟨S,182,[qS B C I,qS J H D,nV n]⟩] [];obtain ⟨_,a,V,bl,bm⟩:=a.pub 0;replace a:=(a.to [⟨S,182,[qS B C I,qS J H D,nV n]⟩] []).aS (SlO.of_flat (sz:=5) (f:=qc) (d:=0) (b:=x) (o:=0) (l:=(kF (n+1) p e)) (fun _=>rfl) V);exact a.ret [] (qS (sB x) (n+1) (n+1)) (⟨_,by rw[xM],a.f.1⟩)
 have zd:=oT za;refine lB 17 za (ah (co (cK (cQ (kZ (aa a aD (aG (lL a ac (bh 20 ((i:Nat)+1) (i+1) ?_)))))))));refine lL a ac (aY ?_);refine bH _ (CG.loop (fun O Γ w_=>∃ (j:Nat) (u:List Rat) (K:Hp),O=i+1-j/\Γ=[(1,qS z p.length Q),(2,qS y e.length U),(6,sZ),(7,qS (sB x) (n+1) (n+1)),(15,nV (n+1)),(16,nV i),(8,nV i),(20,nV (i+1)),(21,nV j)]/\SS w h w_ K [⟨x,44,(u).flatMap qc⟩,⟨S,182,[qS B C I,qS J H D,nV n]⟩] [] [fun K=>Tab K,Sq y e,Sq z p]/\j<=i+1/\u.length=n+1/\u=(dZ (fun X=>gl p e X (X+1)) (n+1) i).set i (gl p e i j)) _ ⟨0,L,h9,rfl,rfl,a.to _ _,MG _,hL1,(by rw[hL];exact Hb oM)⟩ ?_);rintro _ _ _ ⟨j,u,zg,bb,rfl,a,hj,W,M⟩;have F:LQ 39500000 (u.getD i 0):=by rw[M,HQ (kv _ _ _) oM];exact hcv i j oM hj
 refine ax ?_;cases zb:(decide ((j:Int)<((i+1:Nat):Int)))
 .
  have ze:=oF zb;refine lB 22 zb (ah (dr (CG.exit ?_)))
  show CG _ _ _ _ _ _ _ _
  refine kQ (bh 44 ((i:Nat)+1) (i+1) ?_);refine lL a ac (lD ?_);intro a_ ka;refine ⟨_,_,?_,⟨i+1,u,zg,rfl,rfl,a.to _ _,oM,W,(by rw[M];exact C9 oM oM)⟩,ka.to _ kR⟩
  omega
 have ze:=oT zb;refine lB 22 zb (ah (co (cK (cQ (kZ (aa a aD (lN (cR 18 [] mixed a ao ?_))))))));refine eV 0 24 (qS (sB x) (n+1) (n+1)) (eV 1 25 (nV i) (eV 2 26 (qS (sB x) (n+1) (n+1)) (eV 3 27 (nV i) (eX 4 28 (sB x) (n+1) (n+1) 5 (i:Nat) i rfl (eQ 5 29 0 u qc 5 0 i (qv ((u).getD i 0)) a oM (eV 6 30 (qS z p.length Q) (eV 7 31 (nV j) (eX 8 32 z p.length Q 5 (j:Nat) j ((a.f.r.1).ok oM) (eH 9 33 (qv (p.getD j 0)) a ((a.f.r.1).el j oM) (eV 10 34 (qS y e.length U) (eV 11 35 (nV i) (eV 12 36 (nV j) (eI 13 37 ((i:Nat)-(j:Nat)) (eX 14 38 y e.length U 5 ((i:Nat)-(j:Nat)) (i-j) ((a.f.2.1).ok oM) (eH 15 39 (qv (e.getD (i-j) 0)) a ((a.f.2.1).el (i-j) oM) ?_)))))))))))))));have zc:=LQ.mul (Z j) (Y (i-j));refine au 16 40 a (fun _ _ a=>m8 (p.getD j 0) (e.getD (i-j) 0) (LQ.mono (Z j) oM) (LQ.mono (Y (i-j)) oM) _ _ a.g a.f.1) (fun _ _ a=>?_);have bf:=LQ.add F zc;refine au 17 41 a (fun _ _ a=>v8 ((u).getD i 0) ((p.getD j 0)*(e.getD (i-j) 0)) (LQ.mono F oM) (LQ.mono zc oM) _ _ a.g a.f.1) (fun _ _ a=>bP a (fun _ zi a=>tX 18 42 (sB x) (n+1) (n+1) 5 (i:Nat) i rfl (tW 19 0 u qc 5 i (((u).getD i 0)+((p.getD j 0)*(e.getD (i-j) 0))) a oM (fun _ a=>?_))));have zf:((u).set i (((u).getD i 0)+((p.getD j 0)*(e.getD (i-j) 0)))).length=(n+1):=by rw[LB];exact W
 replace a:=a.to [⟨x,44,((u).set i (((u).getD i 0)+((p.getD j 0)*(e.getD (i-j) 0)))).flatMap qc⟩,⟨S,182,[qS B C I,qS J H D,nV n]⟩] [];refine tN (kQ (bh 43 ((j:Nat)+1) (j+1) ?_));refine lL a ac (lD ?_);intro a_ ka;refine ⟨_,_,?_,⟨j+1,(u).set i (((u).getD i 0)+((p.getD j 0)*(e.getD (i-j) 0))),zi,rfl,rfl,a.to _ _,oM,zf,(by rw[M];exact GR (kv _ _ _) oM)⟩,ka.to _ kR⟩
 omega
theorem BT (C:Option Addr)(D I:Nat)(J:Option Addr)(H F:Nat)(n:Nat)(hn:n<=12)(e:List Rat)(y:Option Addr)(M:Nat)(hla:e.length=n+1)(K:∀ i,LQ 39500000 (e.getD i 0))(hz:e.getD 0 0≠0)(hvi:∀ i,LQ 39500000 ((gT (n+1) e).getD i 0))(Z:∀ i j,i<=n->j<=i->LQ 39500000 (gl (gT (n+1) e) e i j))(w:World)(h:Hp)(g:G w h)(X:Sq y e h)(tb:Tab h):CR 303 #[.agg #[.slice C D I,.slice J H F,nV n],.slice y e.length M] w h (fun v h1=>∃ bk,v=.slice (sB bk) (gT (n+1) e).length (n+1)/\Sq (sB bk) (gT (n+1) e) h1):=by
 have a:=(((sS g).aS X).aB tb);have bf:(As (n+1) (0:Rat)).length=n+1:=N6;refine go Tryz.func303 [(0,.agg #[qS C D I,qS J H F,nV n]),(1,qS y e.length M)] rfl (ax (lA 2 182 ([qS C D I,qS J H F,nV n]) a (fun B w2 h3 a=>lL a ac (aG (lL a [.v (qP B 2),.o (nV n) 0 2 1] (bh 11 ((n:Nat)+1) (n+1) ?_))))));refine lK 12 44 (n+1) 5 56 cA qc 0 a (fun p w5 h6 a=>?_);have hl7:(As (n+1) (0:Rat)).length=(n+1):=by simp
 refine lL a ac (ah (cR 9 [] mixed a ao ?_));refine eV 0 14 (qS (sB p) (n+1) (n+1)) (eV 2 16 (qS y e.length M) (eX 3 17 y e.length M 5 0 0 ((a.f.2.1).ok oM) (eH 4 18 (qv (e.getD 0 0)) a ((a.f.2.1).el 0 oM) (au 1 15 a (fun _ _ a=>xO (1) kD kD _ _ a.g) (fun w8 h9 a=>?_)))));have bm:=LQ.div (LQ.lit (z:=1) kD) (K 0);refine au 5 19 a (fun _ _ a=>EQ ((1:Int):Rat) (e.getD 0 0) (LQ.mono (LQ.lit (z:=1) kD) oM) (LQ.mono (K 0) oM) (uI hz) _ _ a.g a.f.1) (fun _ _ a=>eV 6 13 (.tuple #[qv (((1:Int):Rat)/(e.getD 0 0)),qT]) (eV 7 20 (qv (((1:Int):Rat)/(e.getD 0 0))) (eV 8 21 qT (bP a (fun _ zj a=>tX 9 22 (sB p) (n+1) (n+1) 5 0 0 rfl (tW 10 0 (As (n+1) (0:Rat)) qc 5 0 (((1:Int):Rat)/(e.getD 0 0)) a oM (fun _ a=>?_)))))));have bn:((As (n+1) (0:Rat)).set 0 (((1:Int):Rat)/(e.getD 0 0))).length=(n+1):=by rw[LB];exact hl7
 replace a:=a.to [⟨p,44,((As (n+1) (0:Rat)).set 0 (((1:Int):Rat)/(e.getD 0 0))).flatMap qc⟩,⟨B,182,[qS C D I,qS J H F,nV n]⟩] [];refine tN (cQ (aa a ac (aY ?_)));refine bH _ (CG.loop (fun S Γ w_=>∃ (i:Nat) (L:List Rat) (O:Hp),S=n+1-i/\Γ=[(1,qS y e.length M),(2,pB B),(4,sZ),(5,qS (sB p) (n+1) (n+1)),(6,nV i)]/\SS w h w_ O [⟨p,44,(L).flatMap qc⟩,⟨B,182,[qS C D I,qS J H F,nV n]⟩] [] [fun O=>Tab O,Sq y e]/\(1<=i/\i<=n+1)/\L.length=n+1/\L=(gN e (n+1) i)) _ ⟨1,(gN e (n+1) 1),zj,rfl,rfl,a.to _ _,⟨nR _,by omega⟩,(fY _ _ _),rfl⟩ ?_);rintro _ _ _ ⟨i,L,_,bl,rfl,a,hi,hL1,Q⟩;have u:∀ k,LQ 39500000 (L.getD k 0):=fun k=>by rw[Q];exact Es kD hvi hi.2 k
 refine cQ (aa a [.c,.v (qP B 2),.o (nV n) 1 2 1] ?_);cases za:(decide ((i:Int)<=(n:Int)))
 .
  have zf:=oF za;refine lB 26 za (ag (CG.exit ?_))
  show CG _ _ _ _ _ _ _ _
  refine aa a aD (lN (kX ?_));have W:i=n+1:=by omega
  rw[W] at Q
  replace Q:L=gT (n+1) e:=Q;subst Q;replace a:=a.to [⟨p,44,((gT (n+1) e)).flatMap qc⟩,⟨B,182,[qS C D I,qS J H F,nV n]⟩] [];obtain ⟨_,a,V,br,bq⟩:=a.pub 0;replace a:=(a.to [⟨B,182,[qS C D I,qS J H F,nV n]⟩] []).aS (SlO.of_flat (sz:=5) (f:=qc) (d:=0) (b:=p) (o:=0) (l:=(gT (n+1) e)) (fun _=>rfl) V);exact a.ret [] (qS (sB p) (n+1) (n+1)) (⟨_,by rw[pU],a.f.1⟩)
 have zf:=oT za;refine lB 26 za (ak (cK (cQ (kZ (aa a [.v cA] (lA 7 44 a6 a (fun Y _ zk a=>lP 0 0 a6 a (fun _ a=>ah (aa a aD (aY ?_))))))))));refine bH _ (CG.loop (fun S Γ w_=>∃ (j:Nat) (O:Hp),S=i-j/\Γ=[(1,qS y e.length M),(2,pB B),(4,sZ),(5,qS (sB p) (n+1) (n+1)),(6,nV i),(7,pB Y),(30,nV i),(31,nV j)]/\SS w h w_ O [⟨Y,44,qc (gl L e i j)⟩,⟨p,44,(L).flatMap qc⟩,⟨B,182,[qS C D I,qS J H F,nV n]⟩] [] [fun O=>Tab O,Sq y e]/\j<=i) _ ⟨0,zk,rfl,rfl,a.to _ _,MG _⟩ ?_);rintro _ _ _ ⟨j,_,bt,rfl,a,hj⟩;have x:LQ 39500000 (gl L e i j):=by rw[Q,DQ hj hi.2];exact Z i j oM hj
 refine ax ?_;cases zb:(decide ((j:Int)<(i:Int)))
 .
  have zg:=oF zb;refine lB 32 zb (ah (dr (CG.exit ?_)))
  show CG _ _ _ _ _ _ _ _
  refine cR 8 [] mixed a ao (eV 0 48 (qS (sB p) (n+1) (n+1)) (eV 1 49 (nV i) ?_));have U:j=i:=by omega
  refine eO 2 50 [(0,0,5)] (qv (gl L e i j)) a (eV 3 51 (qS (sB p) (n+1) (n+1)) (eX 4 52 (sB p) (n+1) (n+1) 5 0 0 rfl (eQ 5 53 1 L qc 5 0 0 (qv ((L).getD 0 0)) a oM ?_)));have zd:=LQ.mul x (u 0);refine au 6 54 a (fun _ _ a=>m8 (gl L e i j) ((L).getD 0 0) (LQ.mono x oM) (LQ.mono (u 0) oM) _ _ a.g a.f.1) (fun _ _ a=>?_);have bb:LQ (39500000+39500000) (-((gl L e i j)*((L).getD 0 0))):=LQ.neg zd;refine au 7 55 a (fun _ _ a=>IG ((gl L e i j)*((L).getD 0 0)) (LQ.mono zd oM) _ _ a.g) (fun _ _ a=>bP a (fun _ zl a=>tX 8 56 (sB p) (n+1) (n+1) 5 (i:Nat) i rfl (tW 9 1 L qc 5 i (-((gl L e i j)*((L).getD 0 0))) a oM (fun _ a=>?_))));have zi:((L).set i (-((gl L e i j)*((L).getD 0 0)))).length=(n+1):=by rw[LB];exact hL1
  replace a:=a.to [⟨Y,44,qc (gl L e i j)⟩,⟨p,44,((L).set i (-((gl L e i j)*((L).getD 0 0)))).flatMap qc⟩,⟨B,182,[qS C D I,qS J H F,nV n]⟩] [];refine tN (kQ (lL a ac (bh 28 ((i:Nat)+1) (i+1) ?_)));refine lL a ac (lD ?_);intro a_ ka;replace a:=a.drop 1 0;refine ⟨_,_,?_,⟨i+1,(L).set i (-((gl L e i j)*((L).getD 0 0))),zl,rfl,rfl,a.to _ _,oM,zi,(by rw[U,Q];exact Gy hi.1)⟩,ka.to _ kR⟩
  omega
 have zg:=oT zb;refine lB 32 zb (ah (co (cK (cQ (kZ (aa a aD (lN (cR 13 [] mixed a ao ?_))))))));refine eO 0 34 [(0,0,5)] (qv (gl L e i j)) a (eV 1 35 (qS (sB p) (n+1) (n+1)) (eV 2 36 (nV j) (eX 3 37 (sB p) (n+1) (n+1) 5 (j:Nat) j rfl (eQ 4 38 1 L qc 5 0 j (qv ((L).getD j 0)) a oM (eV 5 39 (qS y e.length M) (eV 6 40 (nV i) (eV 7 41 (nV j) (eI 8 42 ((i:Nat)-(j:Nat)) (eX 9 43 y e.length M 5 ((i:Nat)-(j:Nat)) (i-j) ((a.f.2.1).ok oM) (eH 10 44 (qv (e.getD (i-j) 0)) a ((a.f.2.1).el (i-j) oM) ?_))))))))));have ze:=LQ.mul (u j) (K (i-j));refine au 11 45 a (fun _ _ a=>m8 ((L).getD j 0) (e.getD (i-j) 0) (LQ.mono (u j) oM) (LQ.mono (K (i-j)) oM) _ _ a.g a.f.1) (fun _ _ a=>?_);have bd:=LQ.add x ze;refine au 12 46 a (fun _ _ a=>v8 (gl L e i j) (((L).getD j 0)*(e.getD (i-j) 0)) (LQ.mono x oM) (LQ.mono ze oM) _ _ a.g a.f.1) (fun _ _ a=>bP a (fun _ zm a=>tP 13 0 0 (qc ((gl L e i j)+(((L).getD j 0)*(e.getD (i-j) 0)))) a (fun _ a=>tN (kQ (bh 47 ((j:Nat)+1) (j+1) ?_)))));refine lL a ac (lD ?_);intro a_ ka;refine ⟨_,_,?_,⟨j+1,zm,rfl,rfl,a.to _ _,oM⟩,ka.to _ kR⟩
 omega
theorem KM (d:Option Addr)(j p:Nat)(u:Option Addr)(o l:Nat)(n:Nat)(hn:n<=12)(b:List Rat)(c:Option Addr)(i:Nat)(x:b.length=n+1)(w:World)(h:Hp)(g:G w h)(e:Sq c b h):CV 301 #[.agg #[.slice d j p,.slice u o l,nV n],.slice c b.length i] w h (qv (b.getD 0 0)):=by
 have a:=((sS g).aS e);refine go Tryz.func301 [(0,.agg #[qS d j p,qS u o l,nV n]),(1,qS c b.length i)] rfl (ax (lA 2 182 ([qS d j p,qS u o l,nV n]) a (fun F w2 B a=>lA 4 44 a6 a (fun D C z a=>aG (lL a ac (lX 6 c b.length i 5 0 0 ((a.f.1).ok oM) ?_))))));exact lH 7 (qv (b.getD 0 0)) a ((a.f.1).el 0 oM) (lP 0 0 (qc (b.getD 0 0)) a (fun y a=>ae a [(0,0,5)] (qv (b.getD 0 0)) rfl))
theorem C7 (p:Option Addr)(e y:Nat)(u:Option Addr)(j x:Nat)(n:Nat)(hn:n<=12)(fs ws:List Rat)(W:fs.length=e)(Z:ws.length=j)(i:Nat)(Y:i<e)(hiw:i<j)(w:World)(h:Hp)(g:G w h)(hF:Sq p fs h)(U:Sq u ws h):CR 302 #[.agg #[.slice p e y,.slice u j x,nV n],nV i] w h (fun v h1=>∃ V,v=.slice (sB V) (o8 (n+1) (fs.getD i 0) (ws.getD i 0)).length (n+1)/\Sq (sB V) (o8 (n+1) (fs.getD i 0) (ws.getD i 0)) h1):=by
 have a:=(((sS g).aS hF).aS U);have D:=pM (n+1) (fs.getD i 0);refine go Tryz.func302 [(0,.agg #[qS p e y,qS u j x,nV n]),(1,nV i)] rfl (ax (lA 2 182 ([qS p e y,qS u j x,nV n]) a (fun C w2 h3 a=>lL a ac (ah (cR 7 [] mixed a ao ?_)))));refine eO 0 6 [(0,0,3)] (.agg #[qS p e y,qS u j x,nV n]) a (eV 1 7 (pB C) (eO 2 8 [(0,0,1)] (qS p e y) a (eV 3 9 (nV i) (eX 4 10 p e y 5 (i:Nat) i ((a.f.2.1).ok oM) (eH 5 11 (qv (fs.getD i 0)) a ((a.f.2.1).el i oM) (eC 6 12 a (fun _ _ a=>pS p e y u j x n hn (fs.getD i 0) h _ _ a.g a.st.sz) ?_))))));rintro _ _ _ w4 h5 a ⟨z,rfl,J⟩;replace a:=(a.add (K:=fun X=>Nw h.size X z 44 ((gj (n+1) (fs.getD i 0)).flatMap qc)) J);refine bP a (fun w6 h7 a=>tV 7 5 (qS (sB z) (n+1) (n+1)) (tN (cQ ?_)));obtain ⟨h8,a⟩:=a.takeL (a.f.1).1 (a.f.1).2.2;replace a:=a.aS (hF.gw a.st.up.gr.gw);replace a:=a.aS (U.gw a.st.up.gr.gw);replace a:=a.to [⟨z,44,((gj (n+1) (fs.getD i 0))).flatMap qc⟩,⟨C,182,[qS p e y,qS u j x,nV n]⟩] [];refine aa a [.v (qP C 2),.o (nV n) 1 2 1] ?_;cases B:(decide ((0:Int)<(n:Int)))
 .
  have I:=oF B;refine lB 15 B (ag (cK (aa a aD (lN (kX ?_)))));obtain ⟨_,a,F,M,L⟩:=a.pub 0;replace a:=(a.to [⟨C,182,[qS p e y,qS u j x,nV n]⟩] []).aS (SlO.of_flat (sz:=5) (f:=qc) (d:=0) (b:=z) (o:=0) (l:=(gj (n+1) (fs.getD i 0))) (fun _=>rfl) F);exact a.ret [] (qS (sB z) (n+1) (n+1)) (⟨_,by rw[mT],(by rw[<-Hc _ _ oM];exact a.f.1)⟩)
 have I:=oT B;refine lB 15 B (ak (kQ (lL a [.c,.v (qP C 1),.o (qS u j x) 1 1 1,.c] (lX 20 u j x 5 (i:Nat) i ((a.f.1).ok oM) ?_))));refine lH 21 (qv (ws.getD i 0)) a ((a.f.1).el i oM) (lX 22 (sB z) (n+1) (n+1) 5 1 1 rfl (lW 0 (gj (n+1) (fs.getD i 0)) qc 5 1 (ws.getD i 0) a oM (fun _ a=>?_)));have S:(((gj (n+1) (fs.getD i 0))).set 1 (ws.getD i 0)).length=n+1:=by rw[LB];exact D
 replace a:=a.to [⟨z,44,(((gj (n+1) (fs.getD i 0))).set 1 (ws.getD i 0)).flatMap qc⟩,⟨C,182,[qS p e y,qS u j x,nV n]⟩] [];refine aG (lL a aD (lN (kX ?_)));obtain ⟨_,a,H,Q,O⟩:=a.pub 0;replace a:=(a.to [⟨C,182,[qS p e y,qS u j x,nV n]⟩] []).aS (SlO.of_flat (sz:=5) (f:=qc) (d:=0) (b:=z) (o:=0) (l:=((gj (n+1) (fs.getD i 0))).set 1 (ws.getD i 0)) (fun _=>rfl) H);exact a.ret [] (qS (sB z) (n+1) (n+1)) (⟨_,by rw[mT],(by rw[<-Fv _ _ oM];exact a.f.1)⟩)
theorem DF (c:Option Addr)(d l:Nat)(o:Option Addr)(j e:Nat)(n:Nat)(hn:n<=12)(C:Nat)(b:List Rat)(p:Option Addr)(u:Nat)(z:b.length=n+1)(y:∀ i,LQ 39500000 (b.getD i 0))(w:World)(h:Hp)(g:G w h)(x:Sq p b h)(H:Tab h):CR 168 #[.agg #[.iface 182 (.agg #[.slice c d l,.slice o j e,nV n]),.map (some C),.bool true],.slice p b.length u] w h (fun v h1=>∃ F,v=.slice (sB F) (jr (n+1) b ((-1:Int):Rat)).length (n+1)/\Sq (sB F) (jr (n+1) b ((-1:Int):Rat)) h1):=by
 have a:=(((sS g).aS x).aB H);refine go Tryz.func168 [(0,.agg #[.iface 182 (.agg #[qS c d l,qS o j e,nV n]),.map (some C),qT]),(1,qS p b.length u)] rfl (ax (lA 2 186 ([.iface 182 (.agg #[qS c d l,qS o j e,nV n]),.map (some C),qT]) a (fun I w2 L a=>lL a ac (ah (cR 7 [] mixed a ao ?_)))));refine eV 0 5 (pB I) (eO 1 6 [(0,0,1)] (.iface 182 (.agg #[qS c d l,qS o j e,nV n])) a (eV 2 7 (qS p b.length u) (eV 4 9 (.iface 182 (.agg #[qS c d l,qS o j e,nV n])) (eV 5 10 (.iface 182 (.agg #[qS c d l,qS o j e,nV n])) (au 3 8 a (fun _ _ a=>xO (-1) kD kD _ _ a.g) (fun O Q a=>eC 6 11 a (fun _ _ a=>Cs c d l o j e n hn b p u z y ((-1:Int):Rat) (LQ.int kD kD) _ _ a.g a.f.2.1 a.f.1) ?_))))));rintro _ _ _ M S a ⟨D,rfl,B⟩;replace a:=a.aS B;exact bP a (fun K J a=>tV 7 4 (qS (sB D) ((jr (n+1) b ((-1:Int):Rat)).length) (n+1)) (tN (kX (a.ret [] (qS (sB D) ((jr (n+1) b ((-1:Int):Rat)).length) (n+1)) (⟨_,rfl,a.f.1⟩)))))
theorem F9 (e:Option Addr)(j u:Nat)(x:Option Addr)(p l:Nat)(n:Nat)(hn:n<=12)(C:Nat)(z:Int)(q:Rat)(s:ByteArray)(A:Option Addr)(M c:Nat)(d:List Rat)(B:Option Addr)(D:Nat)(O:d.length=n+1)(U:∀ i,LQ 39500000 (d.getD i 0))(b:List Rat)(y:Option Addr)(F:Nat)(H:b.length=n+1)(S:∀ i,LQ 39500000 (b.getD i 0))(J:∀ i,LQ 39500000 ((jr (n+1) b ((-1:Int):Rat)).getD i 0))(w:World)(h:Hp)(g:G w h)(I:Sq B d h)(K:Sq y b h)(X:Tab h):CR 147 #[.agg #[.iface 182 (.agg #[.slice e j u,.slice x p l,nV n]),.map (some C),.bool true],bS ⟨4,z,q,s,A,M,c⟩,.slice B d.length D,.slice y b.length F] w h (fun v h1=>∃ (V:Option Addr) (c_:Nat),v=.tuple #[.slice V (oW (n+1) d (jr (n+1) b ((-1:Int):Rat))).length c_,iV 0]/\Sq V (oW (n+1) d (jr (n+1) b ((-1:Int):Rat))) h1):=by
 have a:=((((sS g).aS I).aS K).aB X);refine go Tryz.func147 [(0,.agg #[.iface 182 (.agg #[qS e j u,qS x p l,nV n]),.map (some C),qT]),(1,bS ⟨4,z,q,s,A,M,c⟩),(2,qS B d.length D),(3,qS y b.length F)] rfl (ax (lA 4 186 ([.iface 182 (.agg #[qS e j u,qS x p l,nV n]),.map (some C),qT]) a (fun b1 w2 h3 a=>lA 5 53 (cY ⟨4,z,q,s,A,M,c⟩) a (fun Z w5 h6 a=>lL a aD (ah (aa a [.v (pB Z),.o (iV 4) 0 0 1] (aY (aa a [.v qF,.c] (ag (aa a [.v qT,.c] (ak (cQ (cR 9 [] mixed a ao ?_)))))))))))));refine eV 0 22 (pB b1) (eO 1 23 [(1,0,1)] (.iface 182 (.agg #[qS e j u,qS x p l,nV n])) a (eV 2 24 (qS B d.length D) (eO 3 25 [(1,0,3)] (.agg #[.iface 182 (.agg #[qS e j u,qS x p l,nV n]),.map (some C),qT]) a (eV 4 26 (qS y b.length F) (eV 6 28 (.iface 182 (.agg #[qS e j u,qS x p l,nV n])) (eV 7 29 (.iface 182 (.agg #[qS e j u,qS x p l,nV n])) (eC 5 27 a (fun _ _ a=>DF e j u x p l n hn C b y F H S _ _ a.g a.f.2.1 a.f.1) ?_)))))));rintro _ _ _ w7 h8 a ⟨Y,rfl,Q⟩;replace a:=a.aS Q;refine eC 8 30 a (fun _ _ a=>Is e j u x p l n hn d B D O U (jr (n+1) b ((-1:Int):Rat)) (sB Y) (n+1) (qz _ _ _) J _ _ a.g a.f.r.2.1 a.f.1 a.f.2.1) ?_;rintro _ _ _ w9 _ a ⟨W,rfl,L⟩;replace a:=a.aS L;exact bP a (fun _ _ a=>tV 9 8 (qS (sB W) ((oW (n+1) d (jr (n+1) b ((-1:Int):Rat))).length) (n+1)) (tV 10 9 (iV 0) (tN (kX (a.ret [] (.tuple #[qS (sB W) ((oW (n+1) d (jr (n+1) b ((-1:Int):Rat))).length) (n+1),iV 0]) (⟨_,_,rfl,a.f.1⟩))))))
theorem HN (e:Option Addr)(l x:Nat)(y:Option Addr)(u p:Nat)(n:Nat)(hn:n<=12)(X:Nat)(z:Int)(q:Rat)(s:ByteArray)(A:Option Addr)(Q c:Nat)(d:List Rat)(F:Option Addr)(K:Nat)(U:d.length=n+1)(Y:∀ i,LQ 39500000 (d.getD i 0))(b:List Rat)(B:Option Addr)(J:Nat)(C:b.length=n+1)(I:∀ i,LQ 39500000 (b.getD i 0))(hz:b.getD 0 0≠0)(D:∀ i,LQ 39500000 ((gT (n+1) b).getD i 0))(S:∀ i j,i<=n->j<=i->LQ 39500000 (gl (gT (n+1) b) b i j))(H:∀ i j,i<=n->j<=i+1->LQ 39500000 (gl d (gT (n+1) b) i j))(w:World)(h:Hp)(g:G w h)(L:Sq F d h)(M:Sq B b h)(tb:Tab h):CR 147 #[.agg #[.iface 182 (.agg #[.slice e l x,.slice y u p,nV n]),.map (some X),.bool true],bS ⟨6,z,q,s,A,Q,c⟩,.slice F d.length K,.slice B b.length J] w h (fun v h1=>∃ (A_:Option Addr) (c_:Nat),v=.tuple #[.slice A_ (kF (n+1) d (gT (n+1) b)).length c_,iV 0]/\Sq A_ (kF (n+1) d (gT (n+1) b)) h1):=by
 have a:=((((sS g).aS L).aS M).aB tb);refine go Tryz.func147 [(0,.agg #[.iface 182 (.agg #[qS e l x,qS y u p,nV n]),.map (some X),qT]),(1,bS ⟨6,z,q,s,A,Q,c⟩),(2,qS F d.length K),(3,qS B b.length J)] rfl (ax (lA 4 186 ([.iface 182 (.agg #[qS e l x,qS y u p,nV n]),.map (some X),qT]) a (fun W w2 h3 a=>lA 5 53 (cY ⟨6,z,q,s,A,Q,c⟩) a (fun b4 w5 h6 a=>lL a aD (ah (aa a [.v (pB b4),.o (iV 6) 0 0 1] (aY (aa a [.v qF,.c] (ag (aa a [.v qF,.c] (ag (aa a [.v qF,.c] (ag (aa a [.v qT,.c] (ak (cQ (aa a [.v (pB W),.o (.iface 182 (.agg #[qS e l x,qS y u p,nV n])) 1 0 1,.c] (ar 43 a (KM e l x y u p n hn b B J C _ _ a.g a.f.2.1) (fun w7 h8 a=>ar 44 a (jl (b.getD 0 0) ((I 0).mono kD) _ _ a.g) (fun w9 _ a=>?_))))))))))))))))))));have Z:(b.getD 0 0).num.sign≠0:=fun e_=>hz (EA e_)
 cases za:(((b.getD 0 0).num.sign:Int) == (0:Int))
 .
  have zb:=aj za;refine lB 45 za (ag (cK (cQ (cR 10 [] mixed a ao ?_))));refine eV 0 47 (pB W) (eO 1 48 [(1,0,1)] (.iface 182 (.agg #[qS e l x,qS y u p,nV n])) a (eV 2 49 (qS F d.length K) (eV 3 50 (pB W) (eO 4 51 [(1,0,1)] (.iface 182 (.agg #[qS e l x,qS y u p,nV n])) a (eV 5 52 (qS B b.length J) (eV 7 54 (.iface 182 (.agg #[qS e l x,qS y u p,nV n])) (eV 8 55 (.iface 182 (.agg #[qS e l x,qS y u p,nV n])) (eC 6 53 a (fun _ _ a=>BT e l x y u p n hn b B J C I hz D S _ _ a.g a.f.2.1 a.f.1) ?_))))))));rintro _ _ _ _ _ a ⟨bz,rfl,V⟩;replace a:=a.aS V;refine eC 9 56 a (fun _ _ a=>JL e l x y u p n hn d F K U Y (gT (n+1) b) (sB bz) (n+1) (pU _ _) D H _ _ a.g a.f.r.2.1 a.f.1 a.f.2.1) ?_;rintro _ _ _ _ _ a ⟨bx,rfl,O⟩;replace a:=a.aS O;exact bP a (fun _ _ a=>tV 10 8 (qS (sB bx) ((kF (n+1) d (gT (n+1) b)).length) (n+1)) (tV 11 9 (iV 0) (tN (kX (a.ret [] (.tuple #[qS (sB bx) ((kF (n+1) d (gT (n+1) b)).length) (n+1),iV 0]) (⟨_,_,rfl,a.f.1⟩))))))
 have zb:=eq_of_beq za;refine lB 45 za (ak (aa a di (lN (kX ?_))))
 exfalso;omega
theorem Do (b:Option Addr)(j:Nat)(d:Option Addr)(e:Nat)(i:Nat)(z:Int)(q:Rat)(s:ByteArray)(A:Option Addr)(c:Nat)(w:World)(h:Hp)(g:G w h)(hF:Sq b ([((0:Int):Rat)]:List Rat) h)(C:Sq d ([((1:Int):Rat)]:List Rat) h)(hM:MapS h i (jW [⟨#[120]⟩])):CR 114 #[.agg #[.iface 182 (.agg #[.slice b 1 j,.slice d 1 e,iV 3]),.map (some i),.bool true],bS ⟨1,z,q,s,A,0,c⟩] w h (fun v h1=>∃ (p:Option Addr) (c_:Nat),v=.tuple #[.slice p (gj 4 q).length c_,iV 0]/\Sq p (gj 4 q) h1):=by
 have a:=((((sS g).aS hF).aS C).add (K:=fun x=>MapS x i (jW [⟨#[120]⟩])) hM);refine go Tryz.func114 [(0,.agg #[.iface 182 (.agg #[qS b 1 j,qS d 1 e,iV 3]),.map (some i),qT]),(1,bS ⟨1,z,q,s,A,0,c⟩)] rfl (ax (lA 2 186 ([.iface 182 (.agg #[qS b 1 j,qS d 1 e,iV 3]),.map (some i),qT]) a (fun B w2 H a=>lA 3 53 (cY ⟨1,z,q,s,A,0,c⟩) a (fun u I F a=>lL a aD (aG (lL a ac (ah (aa a [.v (pB u),.o (iV 1) 0 0 1] (aY (aa a [.v qT,.c] (ak (aa a [.v (pB B),.o (.iface 182 (.agg #[qS b 1 j,qS d 1 e,iV 3])) 1 0 1,.v (qP u 2),.o (qv q) 0 2 5] (lC 19 a (vU b 1 j d 1 e 3 kD q _ _ a.g) ?_)))))))))))));rintro _ D J a ⟨y,rfl,l⟩;replace a:=a.aS l;exact lL a aD (ae a [] (.tuple #[qS (sB y) ((gj 4 q).length) 4,iV 0]) (⟨_,_,rfl,a.f.1⟩))
theorem CN (b:Option Addr)(j:Nat)(e:Option Addr)(i:Nat)(d:Nat)(z:Int)(q:Rat)(A:Option Addr)(c:Nat)(w:World)(h:Hp)(g:G w h)(hF:Sq b ([((0:Int):Rat)]:List Rat) h)(D:Sq e ([((1:Int):Rat)]:List Rat) h)(hM:MapS h d (jW [⟨#[120]⟩])):CR 114 #[.agg #[.iface 182 (.agg #[.slice b 1 j,.slice e 1 i,iV 3]),.map (some d),.bool true],bS ⟨2,z,q,⟨#[120]⟩,A,0,c⟩] w h (fun v h1=>∃ (u:Option Addr) (c_:Nat),v=.tuple #[.slice u dk2.length c_,iV 0]/\Sq u dk2 h1):=by
 have a:=((((sS g).aS hF).aS D).add (K:=fun B=>MapS B d (jW [⟨#[120]⟩])) hM);have l:Instr.findNow .string (.string ⟨#[120]⟩) (jW [⟨#[120]⟩]) 0=some (some (0,iV 0)):=by kernel_rfl
 refine go Tryz.func114 [(0,.agg #[.iface 182 (.agg #[qS b 1 j,qS e 1 i,iV 3]),.map (some d),qT]),(1,bS ⟨2,z,q,⟨#[120]⟩,A,0,c⟩)] rfl (ax (lA 2 186 ([.iface 182 (.agg #[qS b 1 j,qS e 1 i,iV 3]),.map (some d),qT]) a (fun y w2 I a=>lA 3 53 (cY ⟨2,z,q,⟨#[120]⟩,A,0,c⟩) a (fun x J H a=>lL a aD (aG (lL a ac (ah (aa a [.v (pB x),.o (iV 2) 0 0 1] (aY (aa a [.v qF,.c] (ag (aa a [.v qT,.c] (ak (aa a [.v (pB y),.o (.iface 182 (.agg #[qS b 1 j,qS e 1 i,iV 3])) 1 0 1,.v (qP y 1),.o (.map (some d)) 1 1 1,.v (qP x 7),.o (.string (⟨#[120]⟩)) 0 7 1] (IZ 28 76 9 3 (⟨#[120]⟩) false (iV 0) (true) a a.f.1 ?_ (hf:=(.inl ⟨0,l,rfl⟩)))))))))))))))));refine lC 29 a (C7 b 1 j e 1 i 3 kD ([((0:Int):Rat)]:List Rat) ([((1:Int):Rat)]:List Rat) rfl rfl 0 kD kD _ _ a.g a.f.r.1 a.f.2.1) ?_;rintro _ F L a ⟨C,rfl,p⟩;replace a:=a.aS p;exact lL a aD (ae a [] (.tuple #[qS (sB C) dk2.length 4,iV 0]) (⟨_,_,rfl,a.f.1⟩))
theorem DD (e:Option Addr)(p:Nat)(i:Option Addr)(l:Nat)(b:Nat)(op z:Int)(q:Rat)(s:ByteArray)(A:Option Addr)(c:Nat)(u B:PTm)(X L:Tm)(x l2 l3:List Rat)(d:Nat)(hop:3<=op)(Q:∀ w h,G w h->TmH d h u X->Sq e ([((0:Int):Rat)]:List Rat) h->Sq i ([((1:Int):Rat)]:List Rat) h->MapS h b (jW [⟨#[120]⟩])->Tab h->Calls Tryz.prog 114 #[.agg #[.iface 182 (.agg #[.slice e 1 p,.slice i 1 l,iV 3]),.map (some b),.bool true],bS u] w (Ret w h (fun v h1=>∃ (j:Option Addr) (c_:Nat),v=.tuple #[.slice j x.length c_,iV 0]/\Sq j x h1)))(Y:∀ w h,G w h->TmH d h B L->Sq e ([((0:Int):Rat)]:List Rat) h->Sq i ([((1:Int):Rat)]:List Rat) h->MapS h b (jW [⟨#[120]⟩])->Tab h->Calls Tryz.prog 114 #[.agg #[.iface 182 (.agg #[.slice e 1 p,.slice i 1 l,iV 3]),.map (some b),.bool true],bS B] w (Ret w h (fun v h1=>∃ (j:Option Addr) (c_:Nat),v=.tuple #[.slice j l2.length c_,iV 0]/\Sq j l2 h1)))(M:∀ y D C k2 w h,G w h->Sq y x h->Sq C l2 h->Tab h->Calls Tryz.prog 147 #[.agg #[.iface 182 (.agg #[.slice e 1 p,.slice i 1 l,iV 3]),.map (some b),.bool true],bS ⟨op,z,q,s,A,2,c⟩,.slice y x.length D,.slice C l2.length k2] w (Ret w h (fun v h1=>∃ (j:Option Addr) (c_:Nat),v=.tuple #[.slice j l3.length c_,iV 0]/\Sq j l3 h1)))(w:World)(h:Hp)(g:G w h)(hK:SlO 9 cY cH h A [u,B])(W:TmH d h u X)(U:TmH d h B L)(hF:Sq e ([((0:Int):Rat)]:List Rat) h)(hV:Sq i ([((1:Int):Rat)]:List Rat) h)(hM:MapS h b (jW [⟨#[120]⟩]))(tb:Tab h):CR 114 #[.agg #[.iface 182 (.agg #[.slice e 1 p,.slice i 1 l,iV 3]),.map (some b),.bool true],bS ⟨op,z,q,s,A,2,c⟩] w h (fun v h1=>∃ (j:Option Addr) (c_:Nat),v=.tuple #[.slice j l3.length c_,iV 0]/\Sq j l3 h1):=by
 have a:=((((((((sS g).aS hK).add (K:=fun F=>TmH d F u X) W).add (K:=fun F=>TmH d F B L) U).aS hF).aS hV).add (K:=fun F=>MapS F b (jW [⟨#[120]⟩])) hM).aB tb);have hln:([u,B]:List PTm).length=2:=rfl;refine go Tryz.func114 [(0,.agg #[.iface 182 (.agg #[qS e 1 p,qS i 1 l,iV 3]),.map (some b),qT]),(1,bS ⟨op,z,q,s,A,2,c⟩)] rfl (ax (lA 2 186 ([.iface 182 (.agg #[qS e 1 p,qS i 1 l,iV 3]),.map (some b),qT]) a (fun b1 w2 h3 a=>lA 3 53 (cY ⟨op,z,q,s,A,2,c⟩) a (fun I w5 h6 a=>lL a aD (aG (lL a ac (ah (aa a [.v (pB I),.o (iV op) 0 0 1] (aY (ax ?_))))))))));have H:((op:Int) == (1:Int))=false:=eM oM;have bb:=aj H;refine lB 14 H (lL a ac (ag (ax ?_)));have J:((op:Int) == (2:Int))=false:=eM oM;have bd:=aj J;refine lB 21 J (lL a ac (ag (cK (cQ (cR 9 [] mixed a ao ?_)))));refine eO 0 31 [(1,0,3)] (.agg #[.iface 182 (.agg #[qS e 1 p,qS i 1 l,iV 3]),.map (some b),qT]) a (eV 1 32 (qP I 8) (eO 2 33 [(0,8,1)] (qS A 2 c) a (eX 3 34 A 2 c 9 0 0 ((a.f.q.r.1).ok oM) (eH 4 35 (bS (([u,B]:List PTm).getD 0 cH)) a ((a.f.q.r.1).el 0 oM) (eC 5 36 a (fun _ _ a=>Q _ _ a.g a.f.q.2.1 a.f.r.2.1 a.f.r.1 a.f.2.1 a.f.1) ?_)))));rintro _ _ _ w9 _ a ⟨y,D,rfl,S⟩;replace a:=a.aS S;refine eV 6 30 (.tuple #[qS y x.length D,iV 0]) (eV 7 37 (qS y x.length D) (eV 8 38 (iV 0) (bP a (fun _ _ a=>tV 9 7 (qS y x.length D) (tV 10 8 (iV 0) (tN (cQ (aa a [.c,.v qF] (ag (cK (cQ (aa a [.v (qP I 8),.o (qS A 2 c) 0 8 1,.v (iV 2),.v qF] (ag (cQ (cR 9 [] mixed a ao ?_)))))))))))))));refine eO 0 55 [(1,0,3)] (.agg #[.iface 182 (.agg #[qS e 1 p,qS i 1 l,iV 3]),.map (some b),qT]) a (eV 1 56 (qP I 8) (eO 2 57 [(0,8,1)] (qS A 2 c) a (eX 3 58 A 2 c 9 1 1 ((a.f.q.r.2.1).ok oM) (eH 4 59 (bS (([u,B]:List PTm).getD 1 cH)) a ((a.f.q.r.2.1).el 1 oM) (eC 5 60 a (fun _ _ a=>Y _ _ a.g a.f.q.2.1 a.f.q.1 a.f.r.2.1 a.f.r.1 a.f.2.1) ?_)))));rintro _ _ _ _ _ a ⟨C,k2,rfl,O⟩;replace a:=a.aS O;refine eV 6 54 (.tuple #[qS C l2.length k2,iV 0]) (eV 7 61 (qS C l2.length k2) (eV 8 62 (iV 0) (bP a (fun _ _ a=>tV 9 9 (qS C l2.length k2) (tV 10 10 (iV 0) (tN (bH [(2,pB b1),(3,pB I),(4,sZ),(5,iV 0),(6,sZ),(7,qS y x.length D),(8,iV 0),(9,qS C l2.length k2),(10,iV 0)] ?_)))))));refine cQ (aa a [.c,.v qF] (ag (cK (kQ (lL a [.o (.agg #[.iface 182 (.agg #[qS e 1 p,qS i 1 l,iV 3]),.map (some b),qT]) 1 0 3,.o (bS ⟨op,z,q,s,A,2,c⟩) 0 0 9,.c,.c] (lC 72 a (M y D C k2 _ _ a.g a.f.2.1 a.f.1 a.f.r.1) ?_))))));rintro _ _ _ a ⟨Ar,Z,rfl,V⟩;replace a:=a.aS V;exact lL a [.c,.v (qS Ar l3.length Z),.v (iV 0),.c,.c] (ah (aa a [.c,.v qF] (ag (cK (aa a di (ae a [] (.tuple #[qS Ar l3.length Z,iV 0]) (⟨_,_,rfl,a.f.1⟩)))))))
theorem Ct (l:Option Addr)(D:Nat)(y:Option Addr)(C:Nat)(u:Nat)(p:PTm)(w:World)(h:Hp)(g:G w h)(hT:TmH 3 h p va)(hF:Sq l ([((0:Int):Rat)]:List Rat) h)(H:Sq y ([((1:Int):Rat)]:List Rat) h)(hM:MapS h u (jW [⟨#[120]⟩]))(F:Tab h):Calls Tryz.prog 114 #[.agg #[.iface 182 (.agg #[.slice l 1 D,.slice y 1 C,iV 3]),.map (some u),.bool true],bS p] w (Ret w h (fun v h1=>∃ (f:Option Addr) (c_:Nat),v=.tuple #[.slice f 4 c_,iV 0]/\Sq f [1,1,1,1] h1)):=by
 have X:∀ (d:Nat) (p:PTm) (w:World) (h:Hp),G w h->TmH (d+1) h p (oB ((1:Nat):Rat))->Sq l ([((0:Int):Rat)]:List Rat) h->Sq y ([((1:Int):Rat)]:List Rat) h->MapS h u (jW [⟨#[120]⟩])->Tab h->Calls Tryz.prog 114 #[.agg #[.iface 182 (.agg #[qS l 1 D,qS y 1 C,iV 3]),.map (some u),qT],bS p] w (Ret w h (fun v h1=>∃ (f:Option Addr) (c_:Nat),v=.tuple #[qS f dk1.length c_,iV 0]/\Sq f dk1 h1)):=fun d p w h g x hF H hM F=>by
  obtain ⟨op,z,q,s,A,c,ps,ks,rfl,e,Y,S,B⟩:=x.open;obtain ⟨rfl,rfl,rfl,rfl,rfl⟩:op=1/\z=0/\q=((1:Nat):Rat)/\s=⟨#[]⟩/\ks=[]:=by injection e with a b c d e;exact ⟨a.symm,b.symm,c.symm,d.symm,e.symm⟩
  obtain rfl:ps=[]:=z6 B.len;exact Do l D y C u 0 _ _ A c w h g hF H hM
 have nn:∀ (d:Nat) (p:PTm) (w:World) (h:Hp),G w h->TmH (d+1) h p (rv ⟨#[120]⟩)->Sq l ([((0:Int):Rat)]:List Rat) h->Sq y ([((1:Int):Rat)]:List Rat) h->MapS h u (jW [⟨#[120]⟩])->Tab h->Calls Tryz.prog 114 #[.agg #[.iface 182 (.agg #[qS l 1 D,qS y 1 C,iV 3]),.map (some u),qT],bS p] w (Ret w h (fun v h1=>∃ (f:Option Addr) (c_:Nat),v=.tuple #[qS f dk2.length c_,iV 0]/\Sq f dk2 h1)):=fun d p w h g x hF H hM F=>by
  obtain ⟨op,z,q,s,A,c,ps,ks,rfl,e,Y,S,B⟩:=x.open;obtain ⟨rfl,rfl,rfl,rfl,rfl⟩:op=2/\z=0/\q=0/\s=⟨#[120]⟩/\ks=[]:=by injection e with a b c d e;exact ⟨a.symm,b.symm,c.symm,d.symm,e.symm⟩
  obtain rfl:ps=[]:=z6 B.len;exact CN l D y C u 0 _ A c w h g hF H hM
 have two:∀ (o:Int) (d:Nat) (M L:Tm) (I l2 l3:List Rat),3<=o->(∀ p w h,G w h->TmH d h p M->Sq l ([((0:Int):Rat)]:List Rat) h->Sq y ([((1:Int):Rat)]:List Rat) h->MapS h u (jW [⟨#[120]⟩])->Tab h->Calls Tryz.prog 114 #[.agg #[.iface 182 (.agg #[qS l 1 D,qS y 1 C,iV 3]),.map (some u),qT],bS p] w (Ret w h (fun v h1=>∃ (f:Option Addr) (c_:Nat),v=.tuple #[qS f I.length c_,iV 0]/\Sq f I h1)))->(∀ p w h,G w h->TmH d h p L->Sq l ([((0:Int):Rat)]:List Rat) h->Sq y ([((1:Int):Rat)]:List Rat) h->MapS h u (jW [⟨#[120]⟩])->Tab h->Calls Tryz.prog 114 #[.agg #[.iface 182 (.agg #[qS l 1 D,qS y 1 C,iV 3]),.map (some u),qT],bS p] w (Ret w h (fun v h1=>∃ (f:Option Addr) (c_:Nat),v=.tuple #[qS f l2.length c_,iV 0]/\Sq f l2 h1))) ->
   (∀ z q s A c J O K k2 w h,G w h->Sq J I h->Sq K l2 h->Tab h->Calls Tryz.prog 147 #[.agg #[.iface 182 (.agg #[qS l 1 D,qS y 1 C,iV 3]),.map (some u),qT],bS ⟨o,z,q,s,A,2,c⟩,qS J I.length O,qS K l2.length k2] w (Ret w h (fun v h1=>∃ (f:Option Addr) (c_:Nat),v=.tuple #[qS f l3.length c_,iV 0]/\Sq f l3 h1)))->∀ p w h,G w h->TmH (d+1) h p (iJ o M L)->Sq l ([((0:Int):Rat)]:List Rat) h->Sq y ([((1:Int):Rat)]:List Rat) h->MapS h u (jW [⟨#[120]⟩])->Tab h->Calls Tryz.prog 114 #[.agg #[.iface 182 (.agg #[qS l 1 D,qS y 1 C,iV 3]),.map (some u),qT],bS p] w (Ret w h (fun v h1=>∃ (f:Option Addr) (c_:Nat),v=.tuple #[qS f l3.length c_,iV 0]/\Sq f l3 h1)):=fun o d M L I l2 l3 ho c1 c2 Z p w h g x hF H hM F=>by
  obtain ⟨op,z,q,s,A,c,ps,ks,rfl,e,Y,S,B⟩:=x.open;obtain ⟨rfl,rfl,rfl,rfl,rfl⟩:op=o/\z=0/\q=0/\s=⟨#[]⟩/\ks=[M,L]:=by injection e with a b c d e;exact ⟨a.symm,b.symm,c.symm,d.symm,e.symm⟩
  obtain ⟨U,W,rfl⟩:=oZ (show ps.length=2 from B.len);exact DD l D y C u op 0 0 _ A c U W M L I l2 l3 d ho (c1 U) (c2 W) (Z 0 0 _ A c) w h g S (B.at_ 0 (MW _)) (B.at_ 1 (by show 1<2;decide)) hF H hM F
 have:=two 6 2 _ _ dk1 dk3 (kF 4 dk1 (gT 4 dk3)) kD (X 1) (two 4 1 _ _ dk1 dk2 dk3 kD (X 0) (nn 0) (fun z q s A c J O K k2 w h g h1 Q F=>F9 l 1 D y 1 C 3 kD u z q s A 2 c dk1 J O rfl (Hy kR) dk2 K k2 (mT _ _ _) (Hy kR) (Hy kR) w h g h1 Q F))
  (fun z q s A c J O K k2 w h g h1 Q F=>HN l 1 D y 1 C 3 kD u z q s A 2 c dk1 J O rfl (Hy kR) dk3 K k2 rfl (Hy kR) (fun e=>by have h1:dk3.getD 0 0=1:=kR;rw[e] at h1;exact absurd h1 kD) (Hy kR) (fun i j hi V=>K1 kR i j hi oM) (fun i j hi V=>K1 kR i j hi V) w h g h1 Q F) p w h g hT hF H hM F
 rw[KJ] at this
 exact this
theorem Jw:SmT1 gm 3 va:=(u6 kD:WfT1 (fun s=>dC s=true) 3 va).sm (fun _ h=>o7 h) (by unfold gm;decide)
theorem Jj:DckR 3 va [⟨#[120]⟩] (1=([⟨#[120]⟩]:List ByteArray).length/\1=([⟨#[120]⟩]:List ByteArray).length) 0:=Jh (u6 kD) E9 ⟨rfl,rfl⟩ (by intro i hi;match i,hi with|0,_=>decide) (u6 kD) kD
theorem vz (p:PTm)(x:Option Addr)(l:Nat)(b:Option Addr)(j:Nat)(d:Option Addr)(e:Nat)(w:World)(h:Hp)(g:G w h)(H:TmH 3 h p va)(J:SlO 1 bB ⟨#[]⟩ h x ([⟨#[120]⟩]:List ByteArray))(hF:Sq b ([((0:Int):Rat)]:List Rat) h)(I:Sq d ([((1:Int):Rat)]:List Rat) h)(F:Tab h):CR 66 #[bS p,.slice x 1 l,.slice b 1 j,.slice d 1 e,iV 3] w h (fun v h1=>∃ (B:Option Addr) (c_:Nat),v=.tuple #[.slice B 4 c_,iV 0]/\Sq B ([1,1,1,1]:List Rat) h1):=by
 have a:=((((((sS g).add (K:=fun y=>TmH 3 y p va) H).aS J).aS hF).aS I).aB F);refine go Tryz.func66 [(0,bS p),(1,qS x 1 l),(2,qS b 1 j),(3,qS d 1 e),(4,iV 3)] rfl (ax (lA 5 53 (cY p) a (fun U w2 Q a=>lL a aD (aG (lL a [.c,.c,.c,.v (.agg #[qS b 1 j,qS d 1 e,iV 3]),.v (.iface 182 (.agg #[qS b 1 j,qS d 1 e,iV 3])),.c] (lC 19 a (m9 (ns:=([⟨#[120]⟩]:List ByteArray)) (.inr (.inr (.inr (.inr (.inr rfl))))) (by intro i hi;match i,hi with|0,_=>decide) x l _ _ a.g a.f.r.2.1) ?_))))));rintro _ S W a ⟨u,rfl,hM⟩;replace a:=(a.add (K:=fun y=>MapS y u (jW ([⟨#[120]⟩]:List ByteArray))) hM);refine lL a [.v (.agg #[.iface 182 (.agg #[qS b 1 j,qS d 1 e,iV 3]),.map (some u),qT])] (lA 12 186 ([.nilIface,.map none,qF]) a (fun O M V a=>lP 0 0 ([.iface 182 (.agg #[qS b 1 j,qS d 1 e,iV 3]),.map (some u),qT]) a (fun L a=>aG (lL a [.o (.agg #[.iface 182 (.agg #[qS b 1 j,qS d 1 e,iV 3]),.map (some u),qT]) 0 0 3,.o (bS p) 1 0 9] (lC 23 a (Ct b j d e u p _ _ a.g a.f.q.2.1 a.f.r.2.1 a.f.r.1 a.f.1 a.f.2.1) ?_)))));rintro _ _ _ a ⟨D,C,rfl,z⟩;replace a:=a.aS z;exact lL a [.v (qS D 4 C),.v (iV 0),.c,.c] (ae a [] (.tuple #[qS D 4 C,iV 0]) (⟨_,_,rfl,a.f.1⟩))
theorem sJ (p:PTm)(y:Option Addr)(e:Nat)(i:Option Addr)(x:Nat)(j:Option Addr)(u:Nat)(w:World)(h:Hp)(g:G w h)(L:TmH 3 h p va)(O:SlO 1 bB ⟨#[]⟩ h y ([⟨#[120]⟩]:List ByteArray))(hF:Sq i ([((0:Int):Rat)]:List Rat) h)(M:Sq j ([((1:Int):Rat)]:List Rat) h)(J:Tab h):CR 32 #[bS p,.slice y 1 e,.slice i 1 x,.slice j 1 u,iV 3] w h (fun v h1=>∃ (C:Option Addr) (c_:Nat),v=.tuple #[.slice C 4 c_,iV 0]/\Sq C ([1,1,1,1]:List Rat) h1):=by
 have a:=((((((sS g).add (K:=fun I=>TmH 3 I p va) L).aS O).aS hF).aS M).aB J);refine go Tryz.func32 [(0,bS p),(1,qS y 1 e),(2,qS i 1 x),(3,qS j 1 u),(4,iV 3)] rfl (ax (lA 5 53 (cY p) a (fun W w2 U a=>lL a aD (ah (aa a [.c,.v qF,.c,.c,.v qF,.v qF] (ag (cK (cQ (aa a [.o (bS p) 0 0 9,.c,.c,.c] (lR 23 45 2 ([qS i 1 x,qS j 1 u]) a (fun F V S a=>?_)))))))))));replace a:=a.aS (SlO.of_flat (sz:=1) (f:=vc) (d:=undef) (b:=F) (o:=0) (l:=([qS i 1 x,qS j 1 u]:List Value)) (fun _=>rfl) a.f.1);refine lC 24 a (C0 3 p va kD y e ([⟨#[120]⟩]:List ByteArray) (.inr (.inr (.inr (.inr (.inr rfl))))) (sB F) 2 i 1 x j 1 u kD kD _ _ a.g a.f.q.r.1 Jw a.f.q.2.1 a.f.1) ?_;rintro _ Q _ a ⟨X,rfl,B⟩;obtain rfl:=B.uniq Jj;refine lL a ac (aG (lL a [.c,.v qF] (ag (cK (aa a [.o (bS p) 0 0 9,.c,.c,.c,.c] (lC 33 a (vz p y e i x j u _ _ a.g a.f.q.r.1 a.f.q.2.1 a.f.q.1 a.f.r.2.1 a.f.r.1) ?_))))));rintro _ _ _ a ⟨H,D,rfl,z⟩;replace a:=a.aS z;exact lL a [.v (qS H 4 D),.v (iV 0),.c,.c] (ae a [] (.tuple #[qS H 4 D,iV 0]) (⟨_,_,rfl,a.f.1⟩))
theorem Cd:gc Iq ⟨#[120,32,42,32,121]⟩ 40 .sum 0=some (.ok CW 5):=by kernel_rfl
theorem CE:gc Iq ⟨#[49,32,47,32,40,49,32,45,32,120,41]⟩ 40 .sum 0=some (.ok va 11):=by kernel_rfl
theorem WfT1.smw_ {d:Nat}{t:Tm}(w:WfT1 (fun s=>dC s=true) d t):SmT1 gm d t:=w.sm (fun _ h=>o7 h) (by unfold gm;decide)
theorem xo  (w:World)(h:Hp)(g:G w h)(tb:Tab h):CV 12 #[] w h (.bool true):=by
 have a:=((sS g).aB tb);have U:([3,2]:List Rat).length=2:=rfl;have V:([1,1,1,1]:List Rat).length=4:=rfl;refine go Tryz.func12 [] rfl (aa a ac (aG (lC 10 a (AR ⟨#[120,32,42,32,121]⟩ kD 40 CW 5 Cd kD 2 kD (ug kD kD).wf E6 _ _ a.g a.f.1) ?_)));rintro _ w1 h2 a ⟨z,rfl,J⟩;replace a:=(a.add (K:=fun i=>TmH 2 i z CW) J);refine lL a [.c,.v (bS z),.v (.agg #[iV 0,iV 0,iV 0])] (lA 1 53 ca a (fun b3 w4 h5 a=>lA 2 90 ([iV 0,iV 0,iV 0]) a (fun b6 w7 h8 a=>lP 1 0 (cY z) a (fun w9 a=>lP 0 0 ([iV 0,iV 0,iV 0]) a (fun _ a=>ah ?_)))));have L:=a;refine cR 10 [⟨9,3,.cells (Nf [qF,uV 0,eS,uV 0,eS,sZ]) 47 (0,0)⟩] mixed a (bv (eg kR (fun _ _=>by kernel_rfl)) ao) (eO 0 14 [(1,0,9)] (bS z) a (Rg.dag _ [(1,15,[]),(2,16,[]),(3,17,[]),(4,18,[16,17])] rfl (DagOk.cons (DOk.row 1 15 9 2 ([.string (⟨#[120]⟩),.string (⟨#[121]⟩)]) []) (DagOk.cons (DOk.call 2 16 (qv ((2:Int):Rat)) [] (fun _ _ u=>xO (2) kD kD _ _ u)) (DagOk.cons (DOk.call 3 17 (qv ((3:Int):Rat)) [] (fun _ _ u=>xO (3) kD kD _ _ u)) (DagOk.cons (DOk.row 4 18 44 2 ([.bool (af ((2:Int):Rat).num),uV (lo (ab ((2:Int):Rat).num)),.string (hi (ab ((2:Int):Rat).num)),uV (lo (qd ((2:Int):Rat))),.string (hi (qd ((2:Int):Rat))),.bool (af ((3:Int):Rat).num),uV (lo (ab ((3:Int):Rat).num)),.string (hi (ab ((3:Int):Rat).num)),uV (lo (qd ((3:Int):Rat))),.string (hi (qd ((3:Int):Rat)))]) [(16,qv ((2:Int):Rat)),(17,qv ((3:Int):Rat))]) DagOk.nil)))) (by intro s a;rcases g4.1 a with rfl|a;(intro x e;exact absurd e (by simp));rcases g4.1 a with rfl|a;(intro x e;exact absurd e (by simp));rcases g4.1 a with rfl|a;(intro x e;exact absurd e (by simp));rcases g4.1 a with rfl|a;(intro x e;rcases g4.1 e with rfl|e;exact ⟨_,.tail _ (.head _),rfl,fun _ _ i=>i⟩;rcases g4.1 e with rfl|e;exact ⟨_,.tail _ (.tail _ (.head _)),rfl,fun _ _ i=>i⟩;exact absurd e (by simp));exact absurd a (by simp)) (fun _ _ _ F y=>?_)));obtain ⟨_,_,rfl,⟨zb,rfl,zg⟩,_,_,rfl,rfl,_,_,rfl,rfl,_,_,rfl,⟨Q,rfl,zi⟩,rfl⟩:=y;replace a:=a.step F;replace a:=a.a_Seg zg;replace a:=a.a_Seg zi;replace a:=a.aS (SlO.of_flat (sz:=1) (f:=bB) (d:=⟨#[]⟩) (b:=zb) (o:=0) (l:=([⟨#[120]⟩,⟨#[121]⟩]:List ByteArray)) (fun _=>rfl) a.f.2.1);replace a:=a.aS (SlO.of_flat (sz:=5) (f:=qc) (d:=0) (b:=Q) (o:=0) (l:=([((2:Int):Rat),((3:Int):Rat)]:List Rat)) (fun _=>rfl) a.f.2.1);refine eC 5 19 a (fun _ _ a=>IL 2 z CW kD (sB zb) 2 [⟨#[120]⟩,⟨#[121]⟩] (.inl rfl) ([((2:Int):Rat),((3:Int):Rat)]:List Rat) (sB Q) 2 kD (FE (LQ.int kD kD) (LQ.int kD kD)) _ _ a.g a.f.q.1 (ug kD kD:WfT1 (fun s=>dC s=true) 2 CW).smw_ a.f.2.1 a.f.1 a.f.q.2.1) ?_;rintro _ _ _ _ _ a ⟨er,qr,p,cg,Gr,rfl,D,C⟩;obtain ⟨rfl,rfl,rfl⟩:=DV C;replace a:=a.aS D;refine eV 6 13 (.tuple #[qY (6:Rat) p 2 cg,iV 0]) (eV 7 20 (qY (6:Rat) p 2 cg) (eV 8 21 (iV 0) (f0 [] L a 47 [qF,uV 0,eS,uV 0,eS,sZ] (fun _ _ za a=>tP 10 0 0 (qZ (6:Rat) p 2 cg) a (fun _ a=>tV 11 4 (iV 0) (rD (lC 23 a (AR ⟨#[49,32,47,32,40,49,32,45,32,120,41]⟩ kD 40 va 11 CE kD 3 kD (u6 kD).wf E9 _ _ a.g a.f.q.r.1) ?_)))))));rintro _ _ _ a ⟨pl,rfl,H⟩;replace a:=(a.add (K:=fun i=>TmH 3 i pl va) H);refine lL a [.c,.v (bS pl),.v (.agg #[iV 0,iV 0,iV 0])] (lA 5 53 ca a (fun Z _ _ a=>lA 6 90 ([iV 0,iV 0,iV 0]) a (fun X _ _ a=>lP 1 0 (cY pl) a (fun _ a=>lP 0 0 ([iV 0,iV 0,iV 0]) a (fun _ a=>ah (cR 10 [] mixed a ao ?_))))));refine eO 0 27 [(1,0,9)] (bS pl) a (Rg.dag _ [(1,28,[]),(2,29,[]),(3,30,[29]),(4,31,[]),(5,32,[31])] rfl (DagOk.cons (DOk.row 1 28 9 1 ([.string (⟨#[120]⟩)]) []) (DagOk.cons (DOk.call 2 29 (qv ((0:Int):Rat)) [] (fun _ _ u=>xO (0) kD kD _ _ u)) (DagOk.cons (DOk.row 3 30 44 1 (qC ((0:Int):Rat)) [(29,qv ((0:Int):Rat))]) (DagOk.cons (DOk.call 4 31 (qv ((1:Int):Rat)) [] (fun _ _ u=>xO (1) kD kD _ _ u)) (DagOk.cons (DOk.row 5 32 44 1 (qC ((1:Int):Rat)) [(31,qv ((1:Int):Rat))]) DagOk.nil))))) (by intro s a;rcases g4.1 a with rfl|a;(intro x e;exact absurd e (by simp));rcases g4.1 a with rfl|a;(intro x e;exact absurd e (by simp));rcases g4.1 a with rfl|a;(intro x e;rcases g4.1 e with rfl|e;exact ⟨_,.tail _ (.head _),rfl,fun _ _ i=>i⟩;exact absurd e (by simp));rcases g4.1 a with rfl|a;(intro x e;exact absurd e (by simp));rcases g4.1 a with rfl|a;(intro x e;rcases g4.1 e with rfl|e;exact ⟨_,.tail _ (.tail _ (.tail _ (.head _))),rfl,fun _ _ i=>i⟩;exact absurd e (by simp));exact absurd a (by simp)) (fun _ _ _ I y=>?_));obtain ⟨_,_,rfl,⟨S,rfl,zj⟩,_,_,rfl,rfl,_,_,rfl,⟨O,rfl,Y⟩,_,_,rfl,rfl,_,_,rfl,⟨W,rfl,zl⟩,rfl⟩:=y;replace a:=a.step I;replace a:=a.a_Seg zj;replace a:=a.a_Seg Y;replace a:=a.a_Seg zl;replace a:=a.aS (SlO.of_flat (sz:=1) (f:=bB) (d:=⟨#[]⟩) (b:=S) (o:=0) (l:=([⟨#[120]⟩]:List ByteArray)) (fun _=>rfl) a.f.r.1);replace a:=a.aS (SlO.of_flat (sz:=5) (f:=qc) (d:=0) (b:=O) (o:=0) (l:=([((0:Int):Rat)]:List Rat)) (fun _=>rfl) a.f.r.1);replace a:=a.aS (SlO.of_flat (sz:=5) (f:=qc) (d:=0) (b:=W) (o:=0) (l:=([((1:Int):Rat)]:List Rat)) (fun _=>rfl) a.f.r.1);refine eC 6 33 a (fun _ _ a=>sJ pl (sB S) 1 (sB O) 1 (sB W) 1 _ _ a.g a.f.q.r.1 a.f.r.1 a.f.2.1 a.f.1 a.f.q.q.q.2.1) ?_;rintro _ _ _ _ _ a ⟨B,cs,rfl,M⟩;replace a:=a.aS M;refine eV 7 26 (.tuple #[qS B 4 cs,iV 0]) (eV 8 34 (qS B 4 cs) (eV 9 35 (iV 0) (bP a (fun _ _ a=>tV 10 7 (qS B 4 cs) (tV 11 8 (iV 0) (rD (lL a [.c,.v qT,.c,.v (pB za),.o (qv (6:Rat)) 2 0 5] (ar 41 a ((by have j:=oa (6:Rat) (6) 1 (LQ.mono (EU kR) kD) kD kD kD kD kD _ _ a.g;rw[show gB (6:Rat) (mkR (6) 1)=true by kernel_rfl] at j;exact j)) (fun _ _ a=>lL a [.v qT,.c,.v (qP za 5),.o (qS p 2 cg) 2 5 1,.v (iV 2),.v qT,.v qT,.c,.v (qP za 5),.o (qS p 2 cg) 2 5 1] (lX 52 p 2 cg 5 0 0 ((a.f.q.q.1).ok oM) ?_))))))))));refine lH 53 (qv (3:Rat)) a ((a.f.q.q.1).el 0 kD) (ar 54 a ((by have j:=oa (3:Rat) (3) 1 (LQ.mono (EU kR) kD) kD kD kD kD kD _ _ a.g;rw[show gB (3:Rat) (mkR (3) 1)=true by kernel_rfl] at j;exact j)) (fun _ _ a=>lL a [.v qT,.c,.v (qP za 5),.o (qS p 2 cg) 2 5 1] (lX 59 p 2 cg 5 1 1 ((a.f.q.q.1).ok oM) ?_)));refine lH 60 (qv (2:Rat)) a ((a.f.q.q.1).el 1 kD) (ar 61 a ((by have j:=oa (2:Rat) (2) 1 (LQ.mono (EU kR) kD) kD kD kD kD kD _ _ a.g;rw[show gB (2:Rat) (mkR (2) 1)=true by kernel_rfl] at j;exact j)) (fun _ _ a=>lL a [.v qT,.c,.c,.v qT,.v qT,.c,.c,.v (iV 4),.v qT,.v qT,.c,.c] (lX 74 B 4 cs 5 3 3 ((a.f.1).ok oM) ?_)));refine lH 75 (qv (1:Rat)) a ((a.f.1).el 3 kD) (ar 76 a ((by have j:=oa (1:Rat) (1) 1 (LQ.mono (EU kR) kD) kD kD kD kD kD _ _ a.g;rw[show gB (1:Rat) (mkR (1) 1)=true by kernel_rfl] at j;exact j)) (fun _ _ a=>lL a [.v qT,.c] (lN (bH [(0,qT)] ?_))));exact kX (a.ret [] qT rfl)
theorem qK (q:Rat)(i:Option Addr)(c1:Nat)(e:Option Addr)(l:Nat)(j:(lim (ab q.num)).length<=c1)(f:(lim q.den).length<=l)(n:Nat)(hn:n=1)(w:World)(h:Hp)(g:G w h)(b:S3 i (lim (ab q.num)) h)(d:S3 e (lim q.den) h):CR 58 #[rG q i c1 e l,nV n] w h (fun v h1=>∃ A c a,v=.slice A (a:List RT).length c/\a.length<=c/\Sr A a h1/\RTs h1 a [q,((0:Int):Rat)]):=by
 subst hn;exact n3 q i c1 e l j f 1 oM w h g b d
theorem fG {q:Rat}(h:q.num.sign≠0):q≠0:=fun e=>h (by rw[e];rfl)
theorem o6 {q:Rat}(h:q.num.sign=0):q=0:=NT.1 (Int.sign_eq_zero_iff_zero.1 h)
section
variable {op n:Int} {a b:Rat} {xs ys:List Rat}
theorem fC (h:op≠6)(c:op≠8):rC op n a b:=⟨fun e=>absurd e h,fun e=>absurd e c⟩
theorem JP (h:b≠0):rC 6 n a b:=⟨fun _=>h,fun e=>absurd e kD⟩
theorem tI (h:n<0->a≠0):rC 8 n a b:=⟨fun e=>absurd e kD,fun _=>h⟩
theorem wI (h:op=6)(c:b.num.sign=0):¬rC op n a b:=fun x=>x.1 h (o6 c)
theorem Bv (h:op=8)(hn:n<0)(c:a.num.sign=0):¬rC op n a b:=fun x=>x.2 h hn (o6 c)
theorem EZ (h:op=12\/op=13)(c:dg a b=0):xD op a b:=.inr ⟨h,hJ.1 c⟩
theorem JQ (h:op=9\/op=10)(c:a.num.sign=0):xD op a b:=.inl ⟨h,o6 c⟩
theorem l8 (h:op≠9)(d:op≠10)(c:op≠12/\op≠13):¬xD op a b:=fun x=>by
 rcases x with ⟨x,_⟩|⟨x,_⟩<;>omega
theorem oC (h:op=12\/op=13)(c:dg a b≠0):¬xD op a b:=fun x=>by
 rcases x with ⟨x,_⟩|⟨_,y⟩
 ·omega
 ·exact c (hJ.2 y)
theorem r7 (h:op=9\/op=10)(c:a.num.sign≠0):¬xD op a b:=fun x=>by
 rcases x with ⟨_,y⟩|⟨x,_⟩
 ·exact c (by rw[y];rfl)
 ·omega
theorem oI (a:Rat):a*((a.num.sign:Int):Rat)=cI a:=by
 unfold cI
 rcases Int.lt_trichotomy a.num 0 with h|h|h
 ·rw[if_pos h,Int.sign_eq_neg_one_of_neg h,vq];grind
 ·have e:a=0:=NT.1 h
  subst e;rw[if_neg kD,Rat.zero_mul]
 ·rw[if_neg oM,Int.sign_eq_one_of_pos h,i1];grind
theorem FJ (xs:List Rat){l:List Rat}(e:l.getD 0 0=((1:Int):Rat)+xs.getD 0 0*(((xs.getD 0 0).num.sign:Int):Rat)):l.getD 0 0≠0:=by
 rw[e,oI];intro h;exact mK (xs.getD 0 0) (by rw[h];rfl)
theorem Ib (a:xs.length=2):(pa xs.length).map (fun i=>xs.getD i 0*(((xs.getD 0 0).num.sign:Int):Rat))=dJ 9 n xs ys:=by
 rw[a];refine fa (oI _) ?_
 show xs.getD 1 0*_=(((xs.getD 0 0).num.sign:Int):Rat)*xs.getD 1 0+0*ys.getD 1 0
 grind
theorem D3 (b:xs.length=2)(a:0<(xs.getD 0 0).num.sign):xs=dJ 10 n xs ys:=by
 have h0:=oV.1 a;refine j3 b ?_ ?_ rfl
 ·show _=maxR (xs.getD 0 0) 0
  unfold maxR;rw[if_neg (by grind)]
 ·show ((max (xs.getD 0 0).num.sign 0:Int):Rat)=1
  have:=ij (xs.getD 0 0).num;rw[show max (xs.getD 0 0).num.sign 0=1 by omega];rfl
theorem Cr (a:(xs.getD 0 0).num.sign<0):[((0:Int):Rat),((0:Int):Rat)]=dJ 10 n xs ys:=by
 have h0:¬0<xs.getD 0 0:=fun h=>by have:=oV.2 h;omega
 refine fa ?_ ?_
 ·show (0:Rat)=maxR (xs.getD 0 0) 0
  unfold maxR;split
  ·rfl
  ·grind
 ·show (0:Rat)=((max (xs.getD 0 0).num.sign 0:Int):Rat)*xs.getD 1 0+0*ys.getD 1 0
  rw[show max (xs.getD 0 0).num.sign 0=0 by omega,i0];grind
theorem De (b:xs.length=2)(a:(xs.getD 0 0).num.sign=0):xs=dJ 11 n xs ys:=by
 have h0:=o6 a;have hq:cI (0:Rat)=0:=rfl;refine j3 b ?_ ?_ rfl
 ·show _=xs.getD 0 0/(cI (xs.getD 0 0)+((1:Int):Rat))
  rw[h0,hq,i1];grind
 ·show (((1:Int):Rat)/(((1:Int):Rat)+cI (xs.getD 0 0)))*(((1:Int):Rat)/(((1:Int):Rat)+cI (xs.getD 0 0)))=1
  rw[h0,hq,i1];grind
theorem HI (a:xs.length=2):dh xs ((pa [((1:Int):Rat),((0:Int):Rat)].length).map fun i=>[((1:Int):Rat),((0:Int):Rat)].getD i 0+((pa xs.length).map fun i=>xs.getD i 0*(((xs.getD 0 0).num.sign:Int):Rat)).getD i 0) xs.length=dJ 11 n xs ys:=by
 rw[a];have e:=oI (xs.getD 0 0);have b:((1:Int):Rat)+cI (xs.getD 0 0)≠0:=fun h=>mK (xs.getD 0 0) (by rw[h];rfl)
 refine fa ?_ ?_
 ·show xs.getD 0 0/(((1:Int):Rat)+xs.getD 0 0*_)=xs.getD 0 0/(cI (xs.getD 0 0)+((1:Int):Rat))
  rw[e,Rat.add_comm]
 ·show (xs.getD 1 0-xs.getD 0 0/(((1:Int):Rat)+xs.getD 0 0*(((xs.getD 0 0).num.sign:Int):Rat))*(((0:Int):Rat)+xs.getD 1 0*(((xs.getD 0 0).num.sign:Int):Rat)))/(((1:Int):Rat)+xs.getD 0 0*(((xs.getD 0 0).num.sign:Int):Rat))=(((1:Int):Rat)/(((1:Int):Rat)+cI (xs.getD 0 0)))*(((1:Int):Rat)/(((1:Int):Rat)+cI (xs.getD 0 0)))*xs.getD 1 0+0*ys.getD 1 0
  rw[e];rw[i1,i0] at *
  generalize (((xs.getD 0 0).num.sign:Int):Rat)=s at *
  generalize cI (xs.getD 0 0)=t at *
  grind
theorem xe (b:xs.length=2)(h:op=12/\0<dg (xs.getD 0 0) (ys.getD 0 0)\/op=13/\¬0<dg (xs.getD 0 0) (ys.getD 0 0))(c:dg (xs.getD 0 0) (ys.getD 0 0)≠0):xs=dJ op n xs ys:=by
 rcases h with ⟨rfl,h⟩|⟨rfl,h⟩
 ·have h1:=jc.1 h
  exact j3 b (by show _=maxR _ _;unfold maxR;rw[if_neg (by grind)]) (if_pos h1) (if_pos h1)
 ·have h1:=i4.1 (show dg (xs.getD 0 0) (ys.getD 0 0)<0 by omega)
  have a:¬ys.getD 0 0<xs.getD 0 0:=by grind
  exact j3 b (by show _=np _ _;unfold np;rw[if_neg a]) (if_neg a) (if_neg a)
theorem wU (a:ys.length=2)(h:op=13/\0<dg (xs.getD 0 0) (ys.getD 0 0)\/op=12/\¬0<dg (xs.getD 0 0) (ys.getD 0 0))(c:dg (xs.getD 0 0) (ys.getD 0 0)≠0):ys=dJ op n xs ys:=by
 rcases h with ⟨rfl,h⟩|⟨rfl,h⟩
 ·have h1:=jc.1 h
  exact nE a (by show _=np _ _;unfold np;rw[if_pos h1]) (if_pos h1) (if_pos h1)
 ·have h1:=i4.1 (show dg (xs.getD 0 0) (ys.getD 0 0)<0 by omega)
  have b:¬ys.getD 0 0<xs.getD 0 0:=by grind
  exact nE a (by show _=maxR _ _;unfold maxR;rw[if_pos h1]) (if_neg b) (if_neg b)
end
end Go.Proofs.YtnphimgdpdiekaaGreatDoor
