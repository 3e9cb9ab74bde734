/- Laws and contracts that the card of this claim stands on, part 6. No condition of ours. -/
import Derived.Test.YtmkcmnhnmajheaaGreatDoorPn0
import Derived.Test.YtmkcmnhnmajheaaGreatDoorPn1
import Derived.Test.YtmkcmnhnmajheaaGreatDoorPn2
import Derived.Test.YtmkcmnhnmajheaaGreatDoorPn3
import Derived.Test.YtmkcmnhnmajheaaGreatDoorPn4
set_option maxRecDepth 100000
set_option maxHeartbeats 4000000
namespace Go.Proofs.YtmkcmnhnmajheaaGreatDoor
open Go.RowKit
open Go.RowKit Go.Shelf
section lent
variable {M:Ms} {P:Program} {n:Nat} {N R:Po} {X:Nat→Po} {ops:Array Oper} {k0:Nat} {hr:Hp} {AL:List Al} {L:Array Bool} {Γ:Env} {w:World} {h:Hp} {w0:World} {h0:Hp} {B:List Bx} {Rs:List Rw} {F:List (Hp→Prop)}
theorem SS.lendsH (s:SS w0 h0 w h B Rs F){j:Nat}(hj:j<B.length){f:FuncId}{args:Array Value}{Φ:Hp→Value→Hp→Prop}{Ψ:Value→Hp→Prop}(c:∀ hp,G w hp→AllF F hp→Seg hp (bxAt B j).b 0 (bxAt B j).vs→Calls P f args w (Ret w hp (Φ hp)))
    (tr:∀ hp v h1 h2,Φ hp v h1→h0.size≤hp.size→(∀ c,hp.size≤c→h2[c]?=h1[c]?)→Ψ v h2):Calls P f args w (Ret w h Ψ):=by
  have hm:=bxAt_mem hj;have hjk:=s.st.jk _ hm;obtain ⟨hp,g,gw,sg,ho⟩:=lend s.g hjk (s.st.own _ hm);have hsz:=s.g.sz g;refine (c hp g (s.f.gw s.mo gw) sg).mono ?_;rintro e w' ⟨v,h',he,u,hΦ⟩;have hlt:=lt_of_some hjk;have hlt':(bxAt B j).b<h'.size:=Nat.lt_of_lt_of_le oM u.gr.size;refine ⟨v,h'.setIfInBounds (bxAt B j).b junk,he,⟨u.ext,⟨by simp;rw[←hsz];exact u.gr.size,fun c hc=>?_⟩,⟨by simp;exact u.g.size,fun c=>?_⟩⟩,tr hp v h' _ hΦ (by rw[hsz];exact s.st.up.gr.size) (fun c hc=>Array.getElem?_setIfInBounds_ne oM)⟩
  · by_cases e:(bxAt B j).b=c
    · subst e;rw[Array.getElem?_setIfInBounds_self_of_lt hlt',hjk]
    · rw[Array.getElem?_setIfInBounds_ne e,u.gr.blk c oM,ho c (Ne.symm e)]
  · by_cases e:(bxAt B j).b=c
    · subst e;right;rw[Array.getElem?_setIfInBounds_self_of_lt hlt']
    · rw[Array.getElem?_setIfInBounds_ne e];exact u.g.blk c
theorem eClh (i t j:Nat){f:FuncId}{args:Array Value}{Φ:Hp→Value→Hp→Prop}{Ψ:Value→Hp→Prop}(s:SS w0 h0 w h B Rs F)(c:∀ w hp,G w hp→AllF F hp→Seg hp (bxAt B j).b 0 (bxAt B j).vs→Calls P f args w (Ret w hp (Φ hp)))
    (tr:∀ hp v h1 h2,Φ hp v h1→h0.size≤hp.size→(∀ c,hp.size≤c→h2[c]?=h1[c]?)→Ψ v h2)
    (H:∀ v w' h',SS w0 h0 w' h' B Rs F→Ψ v h'→EG M P n N R X ops k0 hr AL (L.setIfInBounds i true) ((t,v)::Γ) w' h')(hj:decide (j<B.length)=true:=by kernel_rfl)(hc:cEv n ops k0 AL L Γ i t=true:=by kernel_rfl)(hv:∀ w,(execOp (ev Γ) (opAt ops i)).run P w=.ok (.enter f args) w:=by intro _;kernel_rfl):EG M P n N R X ops k0 hr AL L Γ w h :=
  eC i t (Φ:=fun _ _ v h'=>Ψ v h') s (fun w1 h1 s1=>s1.lendsH (oT hj) (c w1) tr) (fun _ _ v w' h'=>H v w' h') hc hv
theorem SS.pubG (s:SS w0 h0 w h B Rs F)(j:Nat)(hj':j<B.length):∃ h',SS w0 h0 w h' (B.eraseIdx j) Rs F∧Gw h h'∧h'[(bxAt B j).b]?=some (.cells (bxAt B j).vs.toArray (bxAt B j).t (0,0)):=by
  obtain ⟨h',s',gw,sg,hc,oth⟩:=s.st.pubX j hj';have hm:=bxAt_mem hj';refine ⟨h',⟨s.g0,s',fun r hr=>((s.ro r hr).out (List.mem_map.2 ⟨_,hm,rfl⟩) oth).sub _ (fun b hb=>?_),s.ap,s.mo,s.f.gw s.mo gw⟩,gw,hc⟩;obtain ⟨x,hx,e⟩:=List.mem_map.1 hb;exact List.mem_map.2 ⟨x,List.mem_of_mem_eraseIdx hx,e⟩
theorem SS.pubY:∀ {Y:List Bx} {h:Hp},SS w0 h0 w h (B++Y) Rs F→(∀ y∈Y,y.t≠0)→∃ h',SS w0 h0 w h' B Rs F∧Gw h h'∧∀ y∈Y,h'[y.b]?=some (.cells y.vs.toArray y.t (0,0))
  | [],h,s,_=>⟨h,by rw[List.append_nil] at s;exact s,Gw.refl h,fun y hy=>by cases hy⟩
  | y :: Y,h,s,ht=>by
    have hj:B.length<(B++y::Y).length:=by simp
    have e2:bxAt (B++y::Y) B.length=y:=by unfold bxAt;simp
    have e3:(B++y::Y).eraseIdx B.length=B++Y:=by simp[List.eraseIdx_append_of_length_le]
    obtain ⟨h2,s2,gw2,hc⟩:=s.pubG B.length hj;rw[e3] at s2
    rw[e2] at hc
    obtain ⟨h',s',gw',hY⟩:=s2.pubY (fun z hz=>ht z (List.mem_cons_of_mem _ hz));refine ⟨h',s',gw2.trans gw',fun z hz=>?_⟩
    rcases List.mem_cons.1 hz with rfl|hz
    · rcases gw'.blk z.b (lt_of_some hc) with e|e
      · rw[e];exact hc
      · rw[e] at hc
        injection hc with hc
        unfold junk at hc
        injection hc with _ hc
        exact absurd hc.symm (ht z (by simp))
    · exact hY z hz
end lent
def FilledP (ls:List Lay)(d:Nat→Nat)(xs:List Rat)(K:Nat)(v:Value)(h1:Hp):Prop:=∃ zs,zs.length=ls.length∧Shp d zs∧(∀ i,i<ls.length→(zs.getD i lay0).k=(ls.getD i lay0).k)∧flatq zs=xs∧∃ bl:List Nat,bl.Pairwise (· < ·)∧bl.length=npos d ls.length∧∃ bL c sp,∃ us:List LV,v=.agg #[.slice (some ⟨bL,0,none⟩) us.length c]∧us.length≤c∧Nw K h1 bL 144 (us.flatMap lvc++sp)∧NNb bl d K h1 us zs
theorem Nw.tr {K K0:Nat}{h1 h2:Hp}{b:Nat}{t:TypeId}{cs:List Value}(n:Nw K h1 b t cs)(hk:K0≤K)(e:∀ c,K≤c→h2[c]?=h1[c]?):Nw K0 h2 b t cs:=⟨Nat.le_trans hk n.1,n.2.1,(e b n.1).trans n.2.2⟩
theorem NNb.tr {bl:List Nat}{d:Nat→Nat}{K K0:Nat}{h1 h2:Hp}{ts:List LV}{ls:List Lay}(x:NNb bl d K h1 ts ls)(hk:K0≤K)(e:∀ c,K≤c→h2[c]?=h1[c]?):NNb bl d K0 h2 ts ls:=⟨x.len,fun i hi=>by
  obtain ⟨a1,⟨us,⟨b,c,sp,e1,e2,n⟩,a3,a4⟩,⟨c2,sp2,e3,e4,n2⟩⟩:=x.at_ i hi
  exact ⟨a1,⟨us,⟨b,c,sp,e1,e2,n.tr hk e⟩,a3,fun j hj=>by
    obtain ⟨c3,sp3,e5,e6,n3⟩:=a4 j hj;exact ⟨c3,sp3,e5,e6,n3.tr hk e⟩⟩,⟨c2,sp2,e3,e4,n2.tr hk e⟩⟩⟩
theorem FilledP.tr {ls:List Lay}{d:Nat→Nat}{xs:List Rat}{K K0:Nat}{v:Value}{h1 h2:Hp}(p:FilledP ls d xs K v h1)(hk:K0≤K)(e:∀ c,K≤c→h2[c]?=h1[c]?):FilledP ls d xs K0 v h2:=by
  obtain ⟨zs,p1,p2,p3,p4,bl,p5,p6,bL,c,sp,us,p7,p8,p9,p10⟩:=p;exact ⟨zs,p1,p2,p3,p4,bl,p5,p6,bL,c,sp,us,p7,p8,p9.tr hk e,p10.tr hk e⟩
def Ptrs (h:Hp)(us:List LV)(pt:Nat→List Value):Prop:=∀ k,k<us.length→∃ A c,(us.getD k lvd).2.1=.slice A (pt k).length c∧(pt k).length≤c∧SlO 1 vc undef h A (pt k)
theorem Ptrs.gw {h h':Hp}{us:List LV}{pt:Nat→List Value}(x:Ptrs h us pt)(u:Gw h h'):Ptrs h' us pt:=fun k hk=>by
  obtain ⟨A,c,e1,e2,e3⟩:=x k hk;exact ⟨A,c,e1,e2,e3.gw u⟩
structure GrN (d:Nat→Nat) (bl:List Nat) (us:List LV) (pt:Nat→List Value) (n:Nat) (zs:List Lay):Prop where
  len:us.length=n
  inc:bl.Pairwise (· < ·)
  bln:bl.length=npos d n
  kd:∀ k,k<n→(us.getD k lvd).1=(zs.getD k lay0).k
  ptl:∀ k,k<n→(pt k).length=d (k+1)
  row:∀ k,k<n→∀ j,j<d (k+1)→∃ cc,d k≤cc∧(pt k).getD j undef=.slice (some ⟨bl.getD (npos d k+j) 0,0,none⟩) (d k) cc
  b:∀ k,k<n→∃ cc,d (k+1)≤cc∧(us.getD k lvd).2.2=.slice (some ⟨bl.getD (npos d k+d (k+1)) 0,0,none⟩) (d (k+1)) cc
def YN (Y:List Bx)(d:Nat→Nat)(bl:List Nat)(sp:Nat→Nat→List Value)(n:Nat)(zs:List Lay):Prop:=∀ k,k<n→(∀ j,j<d (k+1)→(⟨bl.getD (npos d k+j) 0,55,((zs.getD k lay0).W.getD j []).flatMap qc++sp k j⟩:Bx)∈Y)∧(⟨bl.getD (npos d k+d (k+1)) 0,55,(zs.getD k lay0).B.flatMap qc++sp k (d (k+1))⟩:Bx)∈Y
theorem inc_inj {bl:List Nat}(h:bl.Pairwise (· < ·)){p q:Nat}(hp:p<bl.length)(hq:q<bl.length)(e:bl.getD p 0=bl.getD q 0):p=q:=by
  have hh:=List.pairwise_iff_getElem.1 h;rw[List.getD_eq_getElem?_getD,List.getD_eq_getElem?_getD,List.getElem?_eq_getElem hp,List.getElem?_eq_getElem hq] at e
  simp only[Option.getD_some] at e
  rcases Nat.lt_trichotomy p q with h1|h1|h1
  · have:=hh p q hp hq h1;omega
  · exact h1
  · have:=hh q p hq hp h1;omega
theorem npos_inj {d:Nat→Nat}{k j k' j':Nat}(h1:j≤d (k+1))(h2:j'≤d (k'+1))(e:npos d k+j=npos d k'+j'):k=k'∧j=j':=by
  rcases Nat.lt_trichotomy k k' with h|h|h
  · have:=npos_mono d (show k+1≤k' from h)
    have e2:npos d (k+1)=npos d k+d (k+1)+1:=rfl
    omega
  · subst h;exact ⟨rfl,by omega⟩
  · have:=npos_mono d (show k'+1≤k from h)
    have e2:npos d (k'+1)=npos d k'+d (k'+1)+1:=rfl
    omega
theorem npos_lt {d:Nat→Nat}{k j n:Nat}(hk:k<n)(h1:j≤d (k+1)):npos d k+j<npos d n:=by
  have:=npos_mono d (show k+1≤n from hk);have e2:npos d (k+1)=npos d k+d (k+1)+1:=rfl
  omega
theorem GrN.inj {d:Nat→Nat}{bl:List Nat}{us:List LV}{pt:Nat→List Value}{n:Nat}{zs:List Lay}(g:GrN d bl us pt n zs){k j k' j':Nat}(hk:k<n)(hk':k'<n)(h1:j≤d (k+1))(h2:j'≤d (k'+1))(e:bl.getD (npos d k+j) 0=bl.getD (npos d k'+j') 0):k=k'∧j=j' :=
  npos_inj h1 h2 (inc_inj g.inc (by rw[g.bln];exact npos_lt hk h1) (by rw[g.bln];exact npos_lt hk' h2) e)
theorem gnet_of {K:Nat}{h hy:Hp}{Y:List Bx}{d:Nat→Nat}{bl:List Nat}{us:List LV}{zs:List Lay}{n:Nat}(hmem:∀ b t vs,Nw K h b t vs→t∈[55]→(⟨b,t,vs⟩:Bx)∈Y)(hkeep:∀ b t vs,Nw K h b t vs→t ∉ [55]→Nw K hy b t vs)(x:NNb bl d K h us zs)(hs:Shp d zs)(hn:zs.length=n)(hi:bl.Pairwise (· < ·))(hl:bl.length=npos d n) :
    ∃ pt sp,Ptrs hy us pt∧GrN d bl us pt n zs∧YN Y d bl sp n zs:=by
  subst hn
  have c1:∀ k,∃ p:List Value,k<zs.length→SlN K 30 vc h (us.getD k lvd).2.1 p∧p.length=(zs.getD k lay0).W.length∧QNb bl (npos d k) K h p (zs.getD k lay0).W:=fun k=>by
    by_cases hk:k<zs.length
    · obtain ⟨_,⟨p,a,b,c⟩,_⟩:=x.at_ k hk
      exact ⟨p,fun _=>⟨a,b,c⟩⟩
    · exact ⟨[],fun h=>absurd h hk⟩
  obtain ⟨pt,hpt⟩:=Classical.axiomOfChoice c1
  have c2 : ∀ kj:Nat × Nat,∃ s:List Value,kj.1<zs.length→(kj.2<d (kj.1+1)→∃ c,(pt kj.1).getD kj.2 undef=.slice (some ⟨bl.getD (npos d kj.1+kj.2) 0,0,none⟩) ((zs.getD kj.1 lay0).W.getD kj.2 []).length c∧((zs.getD kj.1 lay0).W.getD kj.2 []).length≤c∧Nw K h (bl.getD (npos d kj.1+kj.2) 0) 55 (((zs.getD kj.1 lay0).W.getD kj.2 []).flatMap qc++s)) ∧
      (kj.2=d (kj.1+1)→∃ c,(us.getD kj.1 lvd).2.2=.slice (some ⟨bl.getD (npos d kj.1+kj.2) 0,0,none⟩) (zs.getD kj.1 lay0).B.length c∧(zs.getD kj.1 lay0).B.length≤c∧Nw K h (bl.getD (npos d kj.1+kj.2) 0) 55 ((zs.getD kj.1 lay0).B.flatMap qc++s)):=fun ⟨k,j⟩=>by
    by_cases hk:k<zs.length
    · obtain ⟨m,_⟩:=hs k hk
      have mr:=m.rows;obtain ⟨_,_,c⟩:=hpt k hk
      by_cases hj:j<d (k+1)
      · obtain ⟨cc,s,e1,e2,nn⟩:=c j oM
        exact ⟨s,fun _=>⟨fun _=>⟨cc,e1,e2,nn⟩,fun e=>by have e':j=d (k+1):=e;omega⟩⟩
      · by_cases hj2:j=d (k+1)
        · obtain ⟨_,_,⟨cc,s,e1,e2,nn⟩⟩:=x.at_ k hk
          rw[mr,←hj2] at e1 nn
          exact ⟨s,fun _=>⟨fun e=>absurd e hj,fun _=>⟨cc,e1,e2,nn⟩⟩⟩
        · exact ⟨[],fun _=>⟨fun e=>absurd e hj,fun e=>absurd e hj2⟩⟩
    · exact ⟨[],fun h=>absurd h hk⟩
  obtain ⟨sp,hsp⟩:=Classical.axiomOfChoice c2;have hlen:=x.len;refine ⟨pt,fun k j=>sp (k,j),fun k hk=>?_,⟨hlen,hi,hl,fun k hk=>(x.at_ k hk).1,fun k hk=>?_,fun k hk j hj=>?_,fun k hk=>?_⟩,fun k hk=>⟨fun j hj=>?_,?_⟩⟩
  · obtain ⟨⟨b,c,s,e1,e2,nn⟩,_,_⟩:=hpt k oM
    exact ⟨_,c,e1,e2,SlO.of_flat (fun _=>rfl) (hkeep _ _ _ nn kD).seg⟩
  · obtain ⟨_,e,_⟩:=hpt k hk
    rw[e];exact (hs k hk).1.rows
  · obtain ⟨cc,e1,e2,nn⟩:=(hsp (k,j) hk).1 hj
    have hr:=(hs k hk).1.row j hj;rw[hr] at e1 e2
    exact ⟨cc,e2,e1⟩
  · obtain ⟨cc,e1,e2,nn⟩:=(hsp (k,d (k+1)) hk).2 rfl
    have hb:=(hs k hk).2;rw[hb] at e1 e2
    exact ⟨cc,e2,e1⟩
  · obtain ⟨cc,e1,e2,nn⟩:=(hsp (k,j) hk).1 hj
    exact hmem _ _ _ nn (by simp)
  · obtain ⟨cc,e1,e2,nn⟩:=(hsp (k,d (k+1)) hk).2 rfl
    exact hmem _ _ _ nn (by simp)
def blks (d:Nat→Nat)(bl:List Nat)(k:Nat):List Nat:=(List.range (d (k+1)+1)).map fun j=>bl.getD (npos d k+j) 0
theorem blks_mem {d:Nat→Nat}{bl:List Nat}{k c:Nat}(h:c∈blks d bl k):∃ j,j≤d (k+1)∧c=bl.getD (npos d k+j) 0:=by
  obtain ⟨j,hj,e⟩:=List.mem_map.1 h;exact ⟨j,by have:=List.mem_range.1 hj;omega,e.symm⟩
theorem blks_in {d:Nat→Nat}{bl:List Nat}{k j:Nat}(h:j≤d (k+1)):bl.getD (npos d k+j) 0∈blks d bl k:=List.mem_map.2 ⟨j,List.mem_range.2 oM,rfl⟩
theorem YN.mem {Y:List Bx}{d:Nat→Nat}{bl:List Nat}{sp:Nat→Nat→List Value}{n k:Nat}{zs:List Lay}(y:YN Y d bl sp n zs)(hk:k<n):∀ c∈blks d bl k,∃ y∈Y,y.b=c:=fun c hc=>by
  obtain ⟨j,hj,rfl⟩:=blks_mem hc;obtain ⟨h1,h2⟩:=y k hk
  by_cases e:j<d (k+1)
  · exact ⟨_,h1 j e,rfl⟩
  · have:j=d (k+1):=by omega
    subst this;exact ⟨_,h2,rfl⟩
theorem YN.own {Y:List Bx}{d:Nat→Nat}{bl:List Nat}{sp:Nat→Nat→List Value}{n k:Nat}{zs:List Lay}{w':World}{L:Lay}(y:YN Y d bl sp n zs)(hk:k<n)(hR:∀ j,j<d (k+1)→Own w' (bl.getD (npos d k+j) 0) 55 ((L.W.getD j []).flatMap qc++sp k j))(hB:Own w' (bl.getD (npos d k+d (k+1)) 0) 55 (L.B.flatMap qc++sp k (d (k+1)))) :
    ∀ c∈blks d bl k,∃ y∈Y,y.b=c∧∃ vs,Own w' c y.t vs:=fun c hc=>by
  obtain ⟨j,hj,rfl⟩:=blks_mem hc;obtain ⟨h1,h2⟩:=y k hk
  by_cases e:j<d (k+1)
  · exact ⟨_,h1 j e,rfl,_,hR j e⟩
  · have:j=d (k+1):=by omega
    subst this;exact ⟨_,h2,rfl,_,hB⟩
theorem YN.put {Y Y':List Bx}{d:Nat→Nat}{bl:List Nat}{sp:Nat→Nat→List Value}{n k:Nat}{zs zs0:List Lay}{us:List LV}{pt:Nat→List Value}{w':World}{L:Lay}(y:YN Y d bl sp n zs)(g:GrN d bl us pt n zs0)(hk:k<n)(hz:zs.length=n)(hR:∀ j,j<d (k+1)→Own w' (bl.getD (npos d k+j) 0) 55 ((L.W.getD j []).flatMap qc++sp k j))(hB:Own w' (bl.getD (npos d k+d (k+1)) 0) 55 (L.B.flatMap qc++sp k (d (k+1))))
    (h1:∀ y∈Y,y.b ∉ blks d bl k→y∈Y')(h2:∀ y∈Y,∀ vs,y.b∈blks d bl k→Own w' y.b y.t vs→(⟨y.b,y.t,vs⟩:Bx)∈Y'):YN Y' d bl sp n (zs.set k L):=fun k' hk'=>by
  obtain ⟨a,b⟩:=y k' hk';rw[getD_set_ oM]
  by_cases e:k'=k
  · subst e
    rw[if_pos rfl];exact ⟨fun j hj=>h2 _ (a j hj) _ (blks_in oM) (hR j hj),h2 _ b _ (blks_in (Nat.le_refl _)) hB⟩
  · rw[if_neg e]
    refine ⟨fun j hj=>h1 _ (a j hj) (fun hm=>?_),h1 _ b (fun hm=>?_)⟩
    · obtain ⟨i,hi,e2⟩:=blks_mem hm
      exact e (g.inj hk' hk oM hi e2).1
    · obtain ⟨i,hi,e2⟩:=blks_mem hm
      exact e (g.inj hk' hk (Nat.le_refl _) hi e2).1
theorem blk_slv {h':Hp}{b:Nat}{l:List Rat}{sp:List Value}{n cc:Nat}(hc:h'[b]?=some (.cells (l.flatMap qc++sp).toArray 55 (0,0)))(hl:l.length=n)(hcc:n≤cc):SlV 5 qc 0 h' (.slice (some ⟨b,0,none⟩) n cc) l:=by
  subst hl;have nw:Nw 0 h' b 55 (l.flatMap qc++sp):=⟨Nat.zero_le _,by decide,hc⟩;exact ⟨_,cc,rfl,hcc,SlO.of_flat (fun _=>rfl) nw.seg⟩
theorem netl_of {h':Hp}{Y:List Bx}{d:Nat→Nat}{bl:List Nat}{sp:Nat→Nat→List Value}{n:Nat}{zs zs0:List Lay}{us:List LV}{pt:Nat→List Value}(y:YN Y d bl sp n zs)(g:GrN d bl us pt n zs0)(p:Ptrs h' us pt)(hY:∀ y∈Y,h'[y.b]?=some (.cells y.vs.toArray y.t (0,0)))(hs:Shp d zs)(hz:zs.length=n)(hk:∀ k,k<n→(zs.getD k lay0).k=(zs0.getD k lay0).k):NetL h' us zs:=⟨by rw[g.len,hz],fun k hk'=>by
  rw[hz] at hk'
  obtain ⟨m,hb⟩:=hs k oM;obtain ⟨a,b⟩:=y k hk';obtain ⟨A,c,e1,e2,so⟩:=p k (by rw[g.len];exact hk');obtain ⟨cB,hcB,eB⟩:=g.b k hk';refine ⟨by rw[g.kd k hk',hk k hk'],⟨A,c,pt k,e1,e2,so,⟨by rw[g.ptl k hk',m.rows],fun j hj=>?_⟩⟩,?_⟩
  · rw[m.rows] at hj
    obtain ⟨cc,hcc,er⟩:=g.row k hk' j hj;rw[er];exact blk_slv (hY _ (a j hj)) (m.row j hj) hcc
  · rw[eB]
    exact blk_slv (hY _ b) hb hcB⟩
structure GB1 (ls:List Lay) (xs top:List Rat):Prop where
  bar:∀ t,t<ls.length→∀ j,LQ 10500000 ((barq ls xs top ls.length t).getD j 0)
  su:∀ k,k<ls.length→∀ j,LQ 21000 (sumr (ls.getD k lay0) (outq ls xs k) j)
  x:∀ k,k<ls.length→∀ j,LQ 42000 ((outq ls xs k).getD j 0)
theorem lq_map {n:Nat}{f:Nat→Rat}{K:Nat}(hK:1≤K)(h:∀ i,LQ K (f i))(j:Nat):LQ K (((List.range n).map f).getD j 0):=by
  by_cases hj:j<n
  · rw[getD_mapR hj];exact h j
  · rw[getD_outR (by simpa using hj)];exact lq0 hK
structure LayB (K:Nat) (L:Lay):Prop where
  w:∀ i j,LQ K ((L.W.getD i []).getD j 0)
  b:∀ j,LQ K (L.B.getD j 0)
theorem accl_lq {S L:Lay}{x bar:List Rat}{K:Nat}(s:LayB K S)(hb:∀ j,LQ 10500000 (bar.getD j 0))(hs:∀ j,LQ 21000 (sumr L x j))(hx:∀ j,LQ 42000 (x.getD j 0)):LayB (K+10600000) (accl S L x bar):=by
  have hd:∀ r,LQ 10542006 (delq L x bar r):=fun r=>(hb r).mul (LQ.slp L.k (hs r))
  refine ⟨fun i j=>?_,fun j=>lq_map oM (fun r=>((s.b r).add (hd r)).mono oM) j⟩
  show LQ _ (((List.map _ _).getD i []).getD j 0)
  by_cases hi:i<L.W.length
  · rw[getD_mapR hi]
    exact lq_map oM (fun c=>((s.w i c).add ((hd i).mul (hx c))).mono oM) j
  · rw[getD_outR (l:=List.map _ _) (by simpa using hi)];exact lq0 oM
theorem gradN_lq {ls z0:List Lay}{xss yss:List (List Rat)}(h0:∀ k,LayB 1 (z0.getD k lay0))(hg:∀ i,i<xss.length→GB1 ls (xss.getD i []) (topq (outq ls (xss.getD i []) ls.length) (yss.getD i []))):∀ r,r≤xss.length→∀ k,LayB (r*10600000+1) ((gradN ls z0 xss yss r).getD k lay0)
  | 0,_,k=>by rw[Nat.zero_mul,Nat.zero_add];exact h0 k
  | r + 1,h,k=>by
    have ih:=gradN_lq h0 hg r oM k;have g:=hg r oM
    show LayB _ ((accn _ _ _ _).getD k lay0)
    by_cases hk:k<ls.length
    · rw[accn_at hk]
      have:=accl_lq ih (g.bar (ls.length-1-k) oM) (g.su k hk) (g.x k hk);exact ⟨fun i j=>(this.w i j).mono oM,fun j=>(this.b j).mono oM⟩
    · rw[getD_outR (by rw[accn_len];omega)]
      exact ⟨fun i j=>by simp[lay0];exact lq0 oM,fun j=>by simp[lay0];exact lq0 oM⟩
theorem zero_lq {z0:List Lay}{n:Nat}(h:flatq z0=List.replicate n 0):∀ k,LayB 1 (z0.getD k lay0):=fun k=>by
  by_cases hk:k<z0.length
  · have hm:∀ q∈flatL (z0.getD k lay0),LQ 1 q:=fun q hq=>by
      have:q∈flatq z0:=List.mem_flatMap.2 ⟨_,getD_mem hk,hq⟩;rw[h] at this
      rw[(List.mem_replicate.1 this).2];exact lq0 oM
    refine ⟨fun i j=>?_,fun j=>lq_get (fun q hq=>hm q (List.mem_append_right _ hq)) oM j⟩;refine lq_get (fun q hq=>?_) oM j
    by_cases hi:i<(z0.getD k lay0).W.length
    · exact hm q (List.mem_append_left _ (List.mem_flatten.2 ⟨_,getD_mem hi,hq⟩))
    · rw[getD_outR oM] at hq;exact absurd hq (by simp)
  · rw[getD_outR oM]
    exact ⟨fun i j=>by simp[lay0];exact lq0 oM,fun j=>by simp[lay0];exact lq0 oM⟩
theorem acc_all {ls Z zst:List Lay}{xs top:List Rat}(hl:zst.length=ls.length)(h:∀ m,m<ls.length→zst.getD m lay0=accl (Z.getD m lay0) (ls.getD m lay0) (outq ls xs m) (barq ls xs top ls.length (ls.length-1-m))):zst=accn ls Z xs top:=by
  refine List.ext_getElem (by rw[hl,accn_len]) (fun m a b=>?_);have h1:=h m oM;rw[←accn_at (zs:=Z) (xs:=xs) (top:=top) (by omega:m<ls.length)] at h1
  rw[List.getD_eq_getElem?_getD,List.getD_eq_getElem?_getD,List.getElem?_eq_getElem a,List.getElem?_eq_getElem b] at h1
  exact h1
theorem acc_put {ls Z zst:List Lay}{xs top:List Rat}{t k:Nat}(hl:zst.length=ls.length)(hk:k=ls.length-1-t)(ht:t<ls.length)(h:∀ m,m<ls.length→zst.getD m lay0=if ls.length-t≤m then accl (Z.getD m lay0) (ls.getD m lay0) (outq ls xs m) (barq ls xs top ls.length (ls.length-1-m)) else Z.getD m lay0) :
    ∀ m,m<ls.length→(zst.set k (accl (zst.getD k lay0) (ls.getD k lay0) (outq ls xs k) (barq ls xs top ls.length t))).getD m lay0=if ls.length-(t+1)≤m then accl (Z.getD m lay0) (ls.getD m lay0) (outq ls xs m) (barq ls xs top ls.length (ls.length-1-m)) else Z.getD m lay0:=fun m hm=>by
  rw[getD_set_ oM]
  split
  · rename_i e;subst e
    rw[if_pos oM,h m hm,if_neg oM,show ls.length-1-m=t by omega]
  · rename_i e
    rw[h m hm]
    by_cases h2:ls.length-t≤m
    · rw[if_pos h2,if_pos oM]
    · rw[if_neg h2,if_neg oM]
theorem gradN_kd {ls z0:List Lay}{xss yss:List (List Rat)}(h0:∀ i,i<ls.length→(z0.getD i lay0).k=(ls.getD i lay0).k):∀ r k,k<ls.length→((gradN ls z0 xss yss r).getD k lay0).k=(ls.getD k lay0).k
  | 0,k,hk=>h0 k hk
  | r+1,k,hk=>by
    show ((accn _ _ _ _).getD k lay0).k=_
    rw[accn_at hk];exact gradN_kd h0 r k hk
theorem net3_of {ls zs:List Lay}{d:Nat→Nat}(o:Net3 ls d)(hs:Shp d zs)(hl:zs.length=ls.length)(hk:∀ k,k<ls.length→(zs.getD k lay0).k=(ls.getD k lay0).k):Net3 zs d:=⟨by rw[hl];exact o.len,o.first,fun i hi=>by
  rw[hl] at hi
  obtain ⟨m,hb⟩:=hs i oM;have:=o.lay i hi;exact ⟨m,hb,this.2.2.1,by rw[hk i hi];exact this.2.2.2⟩⟩
theorem d4 {ls:List Lay}{d:Nat→Nat}(o:Net3 ls d)(hL:∀ k,LaySz (ls.getD k lay0)):∀ k,k≤ls.length→d k≤4
  | 0,_=>by
    have h0:=(o.lay 0 (by have:=o.len;omega)).1;have:=h0.row 0 h0.rpos;have:=(hL 0).w4
    omega
  | k+1,hk=>by
    have:=(o.lay k oM).2.1;have:=(hL k).b4
    omega
def g4:Nat→Nat
  | 0=>1
  | k+1=>8*g4 k+24
theorem g4_pos (k:Nat):1≤g4 k:=by
  cases k with
  | zero=>exact Nat.le_refl _
  | succ k=>show 1≤8*g4 k+24;omega
theorem sum4 {L:Lay}{x:List Rat}{m:Nat}(h:LaySz L)(hx:∀ j,LQ m (x.getD j 0))(hl:x.length≤4)(j:Nat):LQ (4*m+11) (sumr L x j):=by
  have h1:=LQ.dot (n:=x.length) (fun i _=>h.w j i) (fun i _=>hx i) x.length (Nat.le_refl _);refine (h1.add (h.b j)).mono ?_;have:x.length*(1+m+1)≤4*(1+m+1):=Nat.mul_le_mul_right _ hl
  omega
theorem out4 {ls:List Lay}{d:Nat→Nat}(o:Net3 ls d)(hL:∀ k,LaySz (ls.getD k lay0)){xs:List Rat}(hx:xs.length=d 0)(hq:∀ j,LQ 1 (xs.getD j 0)):∀ k,k≤ls.length→∀ j,LQ (g4 k) ((outq ls xs k).getD j 0)
  | 0,_,j=>hq j
  | k+1,hk,j=>by
    show LQ (8*g4 k+24) ((layq (ls.getD k lay0) (outq ls xs k)).getD j 0)
    have h1:=sum4 (hL k) (out4 o hL hx hq k oM) (by rw[outq_len o hx k oM];exact d4 o hL k oM);exact lq_map oM (fun i=>(LQ.act _ (h1 i) oM).mono oM) j
theorem k4 {k:Nat}(h:k≤4):k=0∨k=1∨k=2∨k=3∨k=4:=by omega
theorem g4_le (k:Nat)(h:k≤4):g4 k≤18136:=by
  rcases k4 h with rfl|rfl|rfl|rfl|rfl<;>decide
theorem g4_le3 (k:Nat)(h:k<4):g4 k≤2264:=by
  have:k=0∨k=1∨k=2∨k=3:=by omega
  rcases this with rfl|rfl|rfl|rfl<;>decide
theorem LQ.slq {m e:Nat}{u x:Rat}(k:Int)(hu:LQ m u)(hx:LQ e x):LQ (e+2*m+6) (slq k u x):=by
  rw[slq_slp];exact (hx.mul (LQ.slp k hu)).mono oM
def t4:Nat→Nat
  | 0=>1
  | k+1=>4*t4 k+9*g4 k+40
theorem t4_le (k:Nat)(h:k≤4):t4 k≤90000:=by
  rcases k4 h with rfl|rfl|rfl|rfl|rfl<;>decide
theorem lq_inj {L:Lay}{x:List Rat}{m:Nat}(hx:∀ j,LQ m (x.getD j 0))(hm:1≤m)(q:Int)(r:Nat):LQ (m+2) (inj L x q r):=by
  unfold inj
  refine LQ.mono (k:=m+1+1) (LQ.add ?_ ?_) oM
  · split
    · exact hx _
    · exact lq0 hm
  · split
    · exact LQ.lit (z:=1) kD
    · exact lq0 oM
theorem tan4 {ls:List Lay}{d:Nat→Nat}(o:Net3 ls d)(hL:∀ k,LaySz (ls.getD k lay0)){xs:List Rat}(hx:xs.length=d 0)(hq:∀ j,LQ 1 (xs.getD j 0))(p:Int):∀ k,k≤ls.length→∀ j,LQ (t4 k) ((tanq ls xs p k).getD j 0)
  | 0,_,j=>by show LQ 1 ((List.replicate xs.length (0:Rat)).getD j 0);rw[rep_zero];exact lq0 oM
  | k+1,hk,j=>by
    have ht:=tan4 o hL hx hq p k oM;have hX:=out4 o hL hx hq k oM;have hl:(outq ls xs k).length≤4:=by rw[outq_len o hx k oM];exact d4 o hL k oM
    have hs:=sum4 (hL k) hX hl
    show LQ (4*t4 k+9*g4 k+40) ((tanl _ _ _ _).getD j 0)
    refine lq_map oM (fun r=>?_) j;have h1:=LQ.dot (n:=(outq ls xs k).length) (fun i _=>(hL k).w r i) (fun i _=>ht i) (outq ls xs k).length (Nat.le_refl _);have h2:(outq ls xs k).length*(1+t4 k+1)≤4*(1+t4 k+1):=Nat.mul_le_mul_right _ hl;exact (LQ.slq (ls.getD k lay0).k (hs r) (h1.add (lq_inj hX (g4_pos k) _ r))).mono oM
def b4:Nat→Nat
  | 0=>18139
  | t+1=>4*b4 t+72569
theorem b4_le (t:Nat)(h:t<4):b4 t≤10500000:=by
  have:t=0∨t=1∨t=2∨t=3:=by omega
  rcases this with rfl|rfl|rfl|rfl<;>decide +kernel
theorem bnd4 {X B:Nat}(h:X≤4*(B+18140+1+1)):X+1≤4*B+72569:=by omega
theorem bar4 {ls:List Lay}{d:Nat→Nat}(o:Net3 ls d)(hL:∀ k,LaySz (ls.getD k lay0)){xs:List Rat}(hx:xs.length=d 0)(hq:∀ j,LQ 1 (xs.getD j 0)){ys:List Rat}(hy:∀ j,LQ 1 (ys.getD j 0)):∀ t,t<ls.length→∀ j,LQ (b4 t) ((barq ls xs (topq (outq ls xs ls.length) ys) ls.length t).getD j 0)
  | 0,_,j=>by
    show LQ 18139 ((topq _ _).getD j 0)
    refine lq_map oM (fun i=>?_) j;have h1:=out4 o hL hx hq ls.length (Nat.le_refl _) i;have h2:=g4_le ls.length o.len.2;exact ((h1.sub (hy i)).mul (LQ.lit (z:=2) kD)).mono oM
  | t+1,ht,j=>by
    obtain ⟨k,hk⟩:∃ k,k=ls.length-1-t:=⟨_,rfl⟩;have hkl:k<ls.length:=by omega
    have hl4:=o.len.2;have ih:=bar4 o hL hx hq hy t oM;have hl:(outq ls xs k).length≤4:=by rw[outq_len o hx k oM];exact d4 o hL k oM
    have hs:=sum4 (hL k) (out4 o hL hx hq k oM) hl;have hg:=g4_le3 k oM;have hrow:(ls.getD k lay0).W.length≤4:=by rw[(o.lay k hkl).1.rows];exact d4 o hL (k+1) hkl
    show LQ (4*b4 t+72569) ((downq (ls.getD (ls.length-1-t) lay0) (outq ls xs (ls.length-1-t)) (barq ls xs _ ls.length t)).getD j 0)
    rw[←hk];refine lq_map oM (fun c=>?_) j;have hdel:∀ r,LQ (b4 t+18140) (delq (ls.getD k lay0) (outq ls xs k) (barq ls xs (topq (outq ls xs ls.length) ys) ls.length t) r):=fun r=>((ih r).mul (LQ.slp _ (hs r))).mono oM
    have h1:=lq_sumF (fun r=>(hdel r).mul ((hL k).w r c)) (ls.getD k lay0).W.length;have h2:(ls.getD k lay0).W.length*(b4 t+18140+1+1)≤4*(b4 t+18140+1+1):=Nat.mul_le_mul_right _ hrow;exact h1.mono (bnd4 h2)
theorem gZq {ls:List Lay}{d:Nat→Nat}(o:Net3 ls d)(hL:∀ k,LaySz (ls.getD k lay0)){xs:List Rat}(hx:xs.length=d 0)(hq:∀ j,LQ 1 (xs.getD j 0)):∀ j,LQ 42000 ((outq ls xs ls.length).getD j 0):=fun j =>
  (out4 o hL hx hq ls.length (Nat.le_refl _) j).mono (by have:=g4_le ls.length o.len.2;omega)
theorem gTB {ls:List Lay}{d:Nat→Nat}(o:Net3 ls d)(hL:∀ k,LaySz (ls.getD k lay0)){xs:List Rat}(hx:xs.length=d 0)(hq:∀ j,LQ 1 (xs.getD j 0))(p:Int):∀ k,k≤ls.length→∀ j,LQ 90000 ((tanq ls xs p k).getD j 0):=fun k hk j =>
  (tan4 o hL hx hq p k hk j).mono (t4_le k (by have:=o.len.2;omega))
theorem gGB {ls:List Lay}{d:Nat→Nat}(o:Net3 ls d)(hL:∀ k,LaySz (ls.getD k lay0)){xs:List Rat}(hx:xs.length=d 0)(hq:∀ j,LQ 1 (xs.getD j 0)){ys:List Rat}(hy:∀ j,LQ 1 (ys.getD j 0)):GB1 ls xs (topq (outq ls xs ls.length) ys) :=
  ⟨fun t ht j=>(bar4 o hL hx hq hy t ht j).mono (b4_le t (by have:=o.len.2;omega)),
   fun k hk j=>(sum4 (hL k) (out4 o hL hx hq k oM) (by rw[outq_len o hx k oM];exact d4 o hL k oM) j).mono (by have:=g4_le3 k (by have:=o.len.2;omega);omega),
   fun k hk j=>(out4 o hL hx hq k oM j).mono (by have:=g4_le k (by have:=o.len.2;omega);omega)⟩
section
variable {ls:List Lay} {d:Nat→Nat} (o:Net3 ls d)
include o
theorem flat_at {k:Nat}(hk:k<ls.length){q:Nat}(hq:q<d (k+1)*d k+d (k+1)):(flatq ls).getD (nums d k+q) 0=layGet (ls.getD k lay0) (d k) q:=by
  have h:=flatq_get (net_shp o) (nums d k+q) ls.length (Nat.le_refl _);rw[List.take_length] at h
  have hn:nums d (k+1)=nums d k+d (k+1)*d k+d (k+1):=rfl;rw[h,sumF_one (k:=k) hk (fun m hm hne=>if_neg (fun x=>?_))]
  · rw[if_pos ⟨by omega,by omega⟩,show nums d k+q-nums d k=q by omega]
  · rcases Nat.lt_or_gt_of_ne hne with e|e
    · have:=nums_mono d (show m+1≤k by omega);omega
    · have:=nums_mono d (show k+1≤m by omega);omega
theorem flat_w {k i c:Nat}(hk:k<ls.length)(hi:i<d (k+1))(hc:c<d k):(flatq ls).getD (nums d k+i*d k+c) 0=((ls.getD k lay0).W.getD i []).getD c 0:=by
  have h1:(i+1)*d k≤d (k+1)*d k:=Nat.mul_le_mul_right _ hi;have h2:(i+1)*d k=i*d k+d k:=Nat.succ_mul _ _;rw[show nums d k+i*d k+c=nums d k+(i*d k+c) by omega,flat_at o hk oM]
  unfold layGet
  rw[(o.lay k hk).1.rows,if_pos oM,Nat.mul_comm i,Nat.mul_add_div oM,Nat.div_eq_of_lt hc,Nat.add_zero,Nat.mul_add_mod,Nat.mod_eq_of_lt hc]
theorem flat_b {k i:Nat}(hk:k<ls.length)(hi:i<d (k+1)):(flatq ls).getD (nums d k+d (k+1)*d k+i) 0=(ls.getD k lay0).B.getD i 0:=by
  rw[show nums d k+d (k+1)*d k+i=nums d k+(d (k+1)*d k+i) by omega,flat_at o hk oM]
  unfold layGet
  rw[(o.lay k hk).1.rows,if_neg oM,show d (k+1)*d k+i-d (k+1)*d k=i by omega]
end
def wN:Nat→Nat
  | 0=>1
  | k+1=>8*wN k+10
def kN:Nat→Nat
  | 0=>1
  | k+1=>8*kN k+20
def cNk:Nat→Nat
  | 0=>0
  | k+1=>cNk k+4*cLay (wN k) (kN k)
theorem small_N {n:Nat}(h:n≤2):wN n≤154∧kN n≤244∧cNk n≤172528:=by
  rcases (by omega:n=0∨n=1∨n=2) with rfl|rfl|rfl<;>decide
theorem unit_get {n p q:Nat}(hp:p<n)(hq:q<n):(unitv n p).getD q 0=if q=p then 1 else 0:=by
  unfold unitv
  rw[getD_set_ (by simpa using hp),rep_zero];rfl
theorem inj_sum {n p fr R Cn i:Nat}(hp:p<n)(hfr:fr+R*Cn+R≤n)(hi:i<R){x:List Rat}(hx:x.length=Cn){L:Lay}(hL:L.W.length=R) :
    (unitv n p).getD (fr+R*Cn+i) 0+sumF (fun c=>x.getD c 0*(unitv n p).getD (fr+i*Cn+c) 0) Cn=inj L x ((p:Int)-(fr:Nat)) i:=by
  have h1:(i+1)*Cn≤R*Cn:=Nat.mul_le_mul_right _ hi;have h2:(i+1)*Cn=i*Cn+Cn:=Nat.succ_mul _ _
  have hs:sumF (fun c=>x.getD c 0*(unitv n p).getD (fr+i*Cn+c) 0) Cn=if 0≤(p:Int)-(fr:Nat)-(i*x.length:Nat)∧(p:Int)-(fr:Nat)-(i*x.length:Nat)<(x.length:Nat) then x.getD ((p:Int)-(fr:Nat)-(i*x.length:Nat)).toNat 0 else 0:=by
    rw[hx]
    by_cases e:0≤(p:Int)-(fr:Nat)-(i*Cn:Nat)∧(p:Int)-(fr:Nat)-(i*Cn:Nat)<(Cn:Nat)
    · rw[if_pos e]
      obtain ⟨c,hc⟩:∃ c:Nat,(p:Int)-(fr:Nat)-(i*Cn:Nat)=(c:Nat):=⟨((p:Int)-(fr:Nat)-(i*Cn:Nat)).toNat,by omega⟩;rw[hc,Int.toNat_natCast,sumF_one (k:=c) oM (fun m hm hne=>?_)]
      · rw[unit_get hp oM,if_pos oM,Rat.mul_one]
      · rw[unit_get hp oM,if_neg oM,Rat.mul_zero]
    · rw[if_neg e]
      exact sumF_zero (fun m hm=>by rw[unit_get hp oM,if_neg oM,Rat.mul_zero])
  unfold inj
  rw[hs,unit_get hp oM,hL,hx,Rat.add_comm]
  congr 1
  by_cases e:fr+R*Cn+i=p
  · rw[if_pos e,if_pos oM]
  · rw[if_neg e,if_neg oM]
section
variable {ls:List Lay} {d:Nat→Nat} (o:Net3 ls d) (hl:ls.length≤2) (hd:∀ k,k≤ls.length→d k≤4) {n0 p:Nat} (hn:n0=(flatq ls).length) (hp:p<n0)
include o hn
theorem nums_le {k:Nat}(hk:k<ls.length):nums d k+d (k+1)*d k+d (k+1)≤n0:=by
  have h1:=nums_mono d (show k+1≤ls.length by omega);rw[←(net_shp o).size,←hn] at h1
  exact h1
include hl hd hp
theorem nk_net {xs:List Rat}(hx:xs.length=d 0){l:List Stp}{ix:List Int}{C:Nat}(h:Rc ((n0:Nat):Int) (flatq ls) l C)(hN:Nms (flatq ls) (unitv n0 p) l n0)(hix:∀ j,j<d 0→At (flatq ls) (unitv n0 p) l (ix.getD j 0) (xs.getD j 0) 0 1 1) :
    ∀ k,k≤ls.length→Rc ((n0:Nat):Int) (flatq ls) (nwS ls d l ix k).1.1 (C+cNk k)∧(∃ r,(nwS ls d l ix k).1.1=l++r)∧(nwS ls d l ix k).2=nums d k ∧
      ∀ j,j<d k→At (flatq ls) (unitv n0 p) (nwS ls d l ix k).1.1 ((nwS ls d l ix k).1.2.getD j 0) ((outq ls xs k).getD j 0) ((tanq ls xs ((p:Nat):Int) k).getD j 0) (wN k) (kN k)
  | 0,_=>⟨h.mono (Nat.le_refl _),⟨[],(List.append_nil _).symm⟩,rfl,fun j hj=>by
      rw[show (tanq ls xs ((p:Nat):Int) 0).getD j 0=0 from rep_zero j];exact hix j hj⟩
  | k + 1,hk=>by
    obtain ⟨r1,⟨r,hr⟩,hf,a⟩:=nk_net hx h hN hix k oM;obtain ⟨m,hb,h12,hkd⟩:=o.lay k oM;have hol:=outq_len o hx k oM;have s2:=small_N (n:=k) oM
    have s3:8*wN k+10≤154∧8*kN k+20≤244:=by
      have:=small_N (n:=k+1) oM;exact ⟨this.1,this.2.1⟩
    have hsum:∀ i,i<d (k+1)→(flatq ls).getD (nums d k+d (k+1)*d k+i) 0+sumF (fun c=>(flatq ls).getD (nums d k+i*d k+c) 0*(outq ls xs k).getD c 0) (d k)=sumr (ls.getD k lay0) (outq ls xs k) i:=fun i hi=>by
      unfold sumr
      rw[flat_b o oM hi,sumF_congr (g:=fun c=>((ls.getD k lay0).W.getD i []).getD c 0*(outq ls xs k).getD c 0) (fun c hc=>by rw[flat_w o oM hi hc]),←dotq_sumF,hol,Rat.add_comm]
    obtain ⟨q1,⟨q,hq⟩,b⟩:=nk_lay (fr:=nums d k) (R:=d (k+1)) (Cn:=d k) (kd:=(ls.getD k lay0).k) hkd (ix:=(nwS ls d l ix k).1.2) (x:=outq ls xs k) (dx:=tanq ls xs ((p:Nat):Int) k) (z:=outq ls xs (k+1)) (dz:=tanq ls xs ((p:Nat):Int) (k+1)) (W:=wN k) (K:=kN k) r1 (by rw[hr];exact hN.app r) a (nums_le o hn oM) (hd k oM) oM oM
      (fun i hi=>by
        rw[hsum i hi]
        show _=(layq _ _).getD i 0
        unfold layq
        rw[getD_mapR (by rw[m.rows];exact hi)];rfl)
      (fun i hi=>by
        rw[hsum i hi]
        show _=(tanl (ls.getD k lay0) (outq ls xs k) (tanq ls xs ((p:Nat):Int) k) (((p:Nat):Int)-(atq ls xs k:Nat))).getD i 0
        unfold tanl
        rw[getD_mapR (by rw[m.rows];exact hi),slq_slp,atq_nums o hx k oM,←inj_sum hp (nums_le o hn oM) hi hol m.rows,hol,Rat.mul_comm,sumF_add,sumF_congr (f:=fun c=>(flatq ls).getD (nums d k+i*d k+c) 0*(tanq ls xs ((p:Nat):Int) k).getD c 0) (g:=fun c=>((ls.getD k lay0).W.getD i []).getD c 0*(tanq ls xs ((p:Nat):Int) k).getD c 0) (fun c hc=>by rw[flat_w o oM hi hc]),←dotq_sumF]
        grind) (d (k+1)) (Nat.le_refl _)
    have e:nwS ls d l ix (k+1)=(layS (nums d k) (d (k+1)) (d k) (ls.getD k lay0).k (nwS ls d l ix k).1.2 (nwS ls d l ix k).1.1 (d (k+1)),nums d k+(d (k+1)*d k+d (k+1))):=by rw[←hf];rfl
    have m1:d (k+1)*cLay (wN k) (kN k)≤4*cLay (wN k) (kN k):=Nat.mul_le_mul_right _ (hd (k+1) hk);have m2:cNk (k+1)=cNk k+4*cLay (wN k) (kN k):=rfl;rw[e];refine ⟨q1.mono oM,⟨r++q,by rw[hq,hr,List.append_assoc]⟩,(Nat.add_assoc _ _ _).symm,b⟩
theorem nk_rw {xs ys:List Rat}(hx:xs.length=d 0)(hy:ys.length=d ls.length)(hqx:∀ j,LQ 1 (xs.getD j 0))(hqy:∀ j,LQ 1 (ys.getD j 0)){l:List Stp}{C:Nat}(h:Rc ((n0:Nat):Int) (flatq ls) l C)(hN:Nms (flatq ls) (unitv n0 p) l n0) :
    Rc ((n0:Nat):Int) (flatq ls) (rwS ls d xs ys l).1 (C+506200)∧(∃ r,(rwS ls d xs ys l).1=l++r) ∧
      At (flatq ls) (unitv n0 p) (rwS ls d xs ys l).1 (rwS ls d xs ys l).2 (rowloss (outq ls xs ls.length) ys (outq ls xs ls.length).length) (dotq (topq (outq ls xs ls.length) ys) (tanq ls xs ((p:Nat):Int) ls.length) (outq ls xs ls.length).length) 1240 1972:=by
  have h0:0<l.length:=by have:=(hN p hp).i1;omega
  have hd0:=hd 0 oM;have hdn:=hd ls.length (Nat.le_refl _);have hol:=outq_len o hx ls.length (Nat.le_refl _);obtain ⟨o1,o2⟩:=o.len
  have hdp:0<d ls.length:=by
    obtain ⟨k,hk⟩:∃ k,ls.length=k+1:=⟨ls.length-1,by omega⟩;rw[hk];exact (o.lay k oM).1.rpos
  obtain ⟨s1,s2,s3⟩:=small_N hl;obtain ⟨r1,a1⟩:=nk_nums (way:=unitv n0 p) xs h h0 hqx
  obtain ⟨r2,⟨r,hr⟩,_,b⟩:=nk_net o hl hd hn hp hx (ix:=ixS l xs.length) r1 (hN.app _) (fun j hj=>by
    have:=a1 j oM;rw[show (ixS l xs.length).getD j 0=((l.length+j:Nat):Int) from getD_mapR oM];exact this) ls.length (Nat.le_refl _)
  obtain ⟨r3,⟨q,hq⟩,c⟩:=nk_sq (n:=d ls.length) (W:=154) (K:=244) r2 (by rw[hr,List.length_append,List.length_append];omega) (fun j hj=>(b j hj).mono s1 s2) hqy hdn oM oM (d ls.length) (Nat.le_refl _);have m1:d ls.length*cSq 154 244≤4*cSq 154 244:=Nat.mul_le_mul_right _ hdn;have m2:cSq 154 244=83394:=by decide
  have m3:d ls.length*(2*(154+1))≤1240:=Nat.mul_le_mul_right _ hdn;have m4:d ls.length*(2*244+5)≤1972:=Nat.mul_le_mul_right _ hdn
  have hdot:dotq (topq (outq ls xs ls.length) ys) (tanq ls xs ((p:Nat):Int) ls.length) (outq ls xs ls.length).length=sumF (fun j=>((outq ls xs ls.length).getD j 0-ys.getD j 0)*((2:Int):Rat)*(tanq ls xs ((p:Nat):Int) ls.length).getD j 0) (d ls.length):=by
    rw[dotq_sumF,hol];exact sumF_congr (fun j hj=>by unfold topq;rw[getD_mapR oM])
  unfold rwS
  rw[hdot,hol,hy];refine ⟨r3.mono oM,⟨xs.map numT++r++q,by rw[hq,hr];simp⟩,(c hdp).mono m3 m4⟩
theorem nk_tp {xss yss:List (List Rat)}{n:Nat}(hx:∀ i,i<n→(xss.getD i []).length=d 0)(hy:∀ i,i<n→(yss.getD i []).length=d ls.length)(hqx:∀ i j,LQ 1 ((xss.getD i []).getD j 0))(hqy:∀ i j,LQ 1 ((yss.getD i []).getD j 0))(hq:∀ j,LQ 1 ((flatq ls).getD j 0)) :
    ∀ r,r≤n→Rc ((n0:Nat):Int) (flatq ls) (tpS ls d xss yss r).1 (n0*3+r*506200)∧Nms (flatq ls) (unitv n0 p) (tpS ls d xss yss r).1 n0 ∧
      ∀ i,i<r→At (flatq ls) (unitv n0 p) (tpS ls d xss yss r).1 ((tpS ls d xss yss r).2.getD i 0) (rowloss (outq ls (xss.getD i []) ls.length) (yss.getD i []) (outq ls (xss.getD i []) ls.length).length)
        (dotq (topq (outq ls (xss.getD i []) ls.length) (yss.getD i [])) (tanq ls (xss.getD i []) ((p:Nat):Int) ls.length) (outq ls (xss.getD i []) ls.length).length) 1240 1972
  | 0,_=>by
    obtain ⟨h1,h2⟩:=nk_names (at_:=flatq ls) (way:=unitv n0 p) hq n0 (Nat.le_refl _);refine ⟨?_,?_,fun i hi=>absurd hi (Nat.not_lt_zero i)⟩
    · show Rc _ _ ((List.range (flatq ls).length).map nmT) _
      rw[←hn];exact h1.mono oM
    · show Nms _ _ ((List.range (flatq ls).length).map nmT) _
      rw[←hn];exact h2
  | r + 1,hr=>by
    obtain ⟨h1,h2,h3⟩:=nk_tp hx hy hqx hqy hq r oM;obtain ⟨k1,⟨q,hq2⟩,k3⟩:=nk_rw o hl hd hn hp (hx r oM) (hy r oM) (hqx r) (hqy r) h1 h2;refine ⟨k1.mono oM,?_,fun i hi=>?_⟩
    · show Nms _ _ (rwS _ _ _ _ _).1 _
      rw[hq2];exact h2.app q
    · show At _ _ (rwS _ _ _ _ _).1 (((tpS ls d xss yss r).2++[(rwS _ _ _ _ _).2]).getD i 0) _ _ _ _
      by_cases e:i=r
      · subst e
        rw[gsn' (tpS_outs ls d xss yss i)];exact k3
      · rw[gsn (tpS_outs ls d xss yss r) oM,hq2]
        exact (h3 i oM).app q
end
theorem wlS_get (l:List Stp)(k:Nat):∀ n,k<n→(wlS l n).getD k 0=weightS (l.getD k stp0) (wlS l k)
  | n+1,h=>by
    show (wlS l n++[_]).getD k 0=_
    by_cases e:k=n
    · subst e;rw[gsn' (wlS_len l k)]
    · rw[gsn (wlS_len l n) oM];exact wlS_get l k n oM
theorem Rc.go {inp:Int}{at_:List Rat}{l:List Stp}{C:Nat}(h:Rc inp at_ l C):goS inp l []=0:=by
  have hk:∀ k,k≤l.length→goS inp l []=goS inp (l.drop k) (wlS l k):=by
    intro k
    induction k with
    | zero=>intro _;rfl
    | succ k ih =>
      intro hk;have hw:=(h.ws k oM).2;rw[show (weL l).getD k 0=weightS (l.getD k stp0) (wlS l k) from wlS_get l k l.length oM] at hw
      rw[ih oM,goS_step oM (wlS_len l k) (h.fm k oM) oM];rfl
  rw[hk l.length (Nat.le_refl _),List.drop_length];rfl
structure Tpd (n0:Nat) (at_:List Rat) (l:List Stp) (os:List Int) (zs gs:List Rat):Prop where
  chk:chkTp ((n0:Nat):Int) l os=0
  e0:terr false l at_ l.length=0
  e1:terr true l at_ l.length=0∨terr true l at_ l.length=7
  vs:∀ k,k≤l.length→∀ j,LQ 100000 ((tvals l at_ k).getD j 0)
  bk:∃ wt sg:Nat→Nat,Wt l wt∧(∀ j,j<l.length→wt j≤2000)∧(∀ k,k<l.length→(l.getD k stp0).op≠2→LQ (sg k) (sla (l.getD k stp0).op (l.getD k stp0).n ((tvals l at_ l.length).getD (l.getD k stp0).a.toNat 0) ((tvals l at_ l.length).getD (l.getD k stp0).b.toNat 0))∧LQ (sg k) (slb (l.getD k stp0).op ((tvals l at_ l.length).getD (l.getD k stp0).a.toNat 0) ((tvals l at_ l.length).getD (l.getD k stp0).b.toNat 0)))∧1+pot wt (fun _=>1) l.length+os.length*(2*2000)+rem_ wt sg l.length≤100000000
  out:pickL (tvals l at_ l.length) os=zs
  grd:gradT n0 l os at_ (List.replicate os.length ((1:Int):Rat))=gs
def lossR (ls:List Lay)(xss yss:List (List Rat))(n:Nat):List Rat:=(List.range n).map fun i=>rowloss (outq ls (xss.getD i []) ls.length) (yss.getD i []) (outq ls (xss.getD i []) ls.length).length
theorem net_tape {ls:List Lay}{d:Nat→Nat}(o:Net3 ls d)(hl:ls.length≤2)(hd:∀ k,k≤ls.length→d k≤4){xss yss:List (List Rat)}{n:Nat}(hn4:n≤4)(hnx:xss.length=n)(hx:∀ i,i<n→(xss.getD i []).length=d 0)(hy:∀ i,i<n→(yss.getD i []).length=d ls.length)(hqx:∀ i j,LQ 1 ((xss.getD i []).getD j 0))(hqy:∀ i j,LQ 1 ((yss.getD i []).getD j 0))(hq:∀ j,LQ 1 ((flatq ls).getD j 0)) :
    Tpd (flatq ls).length (flatq ls) (tpS ls d xss yss n).1 (tpS ls d xss yss n).2 (lossR ls xss yss n) ((List.range (flatq ls).length).map fun p=>gradP ls xss yss p n):=by
  obtain ⟨o1,o2⟩:=o.len
  have hn0:0<(flatq ls).length:=by
    have h1:=nums_le o rfl (k:=0) oM;have:=(o.lay 0 oM).1.rpos
    omega
  have hf:=flatq_len o ls.length (Nat.le_refl _);rw[List.take_length] at hf
  have K:=fun p (hp:p<(flatq ls).length)=>nk_tp o hl hd rfl hp hx hy hqx hqy hq n (Nat.le_refl _)
  obtain ⟨r,_,a⟩:=K 0 hn0;have hol:=tpS_outs ls d xss yss n;have htl:(tpS ls d xss yss n).1.length≤(flatq ls).length+n*2100:=tpS_len o (xss:=xss) (yss:=yss) (fun i hi=>hx i oM) (fun i hi=>hy i oM) n oM;refine ⟨chkTp_ok ⟨by omega,by omega,by omega,by omega⟩ r.go (fun i hi=>?_),?_,?_,fun k hk j=>?_,?_,?_,?_⟩
  · rw[hol] at hi
    exact ⟨(a i hi).i0,(a i hi).i1⟩
  · rcases r.e0 false with e|⟨e,_⟩
    · exact e
    · exact absurd e kD
  · rcases r.e0 true with e|⟨_,e⟩
    · exact .inl e
    · exact .inr e
  · by_cases hj:j<k
    · rw[←tvals_get _ _ k _ hk j hj];exact r.vs j
    · rw[getD_outR (by rw[tvals_len];omega)];exact lq0 kD
  · obtain ⟨sg,h1,h2⟩:=r.sl
    rw[pot_split] at h2
    refine ⟨fun k=>((weL (tpS ls d xss yss n).1).getD k 0).toNat,sg,r.wt,fun j hj=>by have:=(r.ws j hj).2;dsimp only;omega,h1,by omega⟩
  · unfold pickL lossR
    refine List.ext_getElem (by simp[hol]) (fun i h1 h2=>?_);rw[List.length_map,hol] at h1
    have e:=(a i h1).vv
    simp only[List.getElem_map,List.getElem_range]
    rw[←e,List.getD_eq_getElem?_getD (l:=(tpS ls d xss yss n).2),List.getElem?_eq_getElem oM];rfl
  · unfold gradT
    refine List.map_congr_left (fun p hp=>?_);rw[List.mem_range] at hp
    obtain ⟨_,_,b⟩:=K p hp
    unfold tgt gradP
    rw[dotq_sumF,hol];refine sumF_congr (fun i hi=>?_);rw[pick_get oM,←(b i hi).dd]
    show (List.replicate n ((1:Int):Rat)).getD i 0*_=_
    rw[show (List.replicate n ((1:Int):Rat)).getD i 0=1 by simp[hi],Rat.one_mul];rfl
theorem insq_len (ls:List Lay)(xs:List Rat)(n:Nat):(insq ls xs n).length=n:=by simp[insq]
theorem sumsq_len (ls:List Lay)(xs:List Rat)(n:Nat):(sumsq ls xs n).length=n:=by simp[sumsq]
theorem insq_get {ls:List Lay}{xs:List Rat}{n k:Nat}(h:k<n):(insq ls xs n).getD k []=outq ls xs k:=getD_mapR h
theorem sumsq_get {ls:List Lay}{xs:List Rat}{n k:Nat}(h:k<n):(sumsq ls xs n).getD k []=sumq (ls.getD k lay0) (outq ls xs k):=getD_mapR h
theorem topq_len {z y:List Rat}:(topq z y).length=z.length:=by simp[topq]
theorem downq_len (L:Lay)(x bar:List Rat):(downq L x bar).length=x.length:=by simp[downq]
theorem yt_new {Y Y2:List Bx}(ht:∀ y∈Y,y.t=55)(hb:Y2.map (·.t)=Y.map (·.t)):∀ y∈Y2,y.t=55:=fun y hy=>by
  have:y.t∈Y2.map (·.t):=List.mem_map.2 ⟨y,hy,rfl⟩;rw[hb] at this
  obtain ⟨z,hz,e⟩:=List.mem_map.1 this;rw[←e];exact ht z hz
theorem nGradient (A:Option Addr)(cap:Nat)(ts:List LV)(ls:List Lay)(d:Nat→Nat)(hO:Net3 ls d)(X:Option Addr)(cX:Nat)(ux:List Value)(xss:List (List Rat))(Y_:Option Addr)(cY:Nat)(uy:List Value)(yss:List (List Rat))(hd5:∀ k,k<ls.length→d (k+1)≤5)(hwq:∀ k i j,LQ 1 (((ls.getD k lay0).W.getD i []).getD j 0))(hxd:∀ i,i<xss.length→(xss.getD i []).length=d 0)(hyd:∀ i,i<xss.length→(yss.getD i []).length=d ls.length)(hxy:yss.length=xss.length)(hr4:xss.length≤4)(hNB:∀ i,i<xss.length→NetB ls (xss.getD i []))(hZq:∀ i,i<xss.length→∀ j,LQ 42000 ((outq ls (xss.getD i []) ls.length).getD j 0))(hYq:∀ i j,LQ 1 ((yss.getD i []).getD j 0))(hGB:∀ i,i<xss.length→GB1 ls (xss.getD i []) (topq (outq ls (xss.getD i []) ls.length) (yss.getD i [])))(w:World)(h:Hp)(g:G w h)(hA:Sl A ts h)(hN:NetL h ts ls)(hX:Sv X ux h)(hU:QVs h ux xss)(hY:Sv Y_ uy h)(hV:QVs h uy yss)(tb:Tab h):CR 86 #[.agg #[.slice A ts.length cap],.slice X ux.length cX,.slice Y_ uy.length cY] w h (fun v h1=>∃ A c,v=.slice A ((List.range (flatq ls).length).map fun p=>gradP ls xss yss p xss.length).length c∧((List.range (flatq ls).length).map fun p=>gradP ls xss yss p xss.length).length≤c∧Sq A ((List.range (flatq ls).length).map fun p=>gradP ls xss yss p xss.length) h1):=by
 have hs:=sS g;have hGw:=Gw.refl h;replace hs:=((((((((hs.add (K:=fun h_=>Gw h h_) hGw).aS hA).aN hN).aS hX).aQ hU).aS hY).aQ hV).aB tb);have hl:=(hs.f.q.2.1).len;obtain ⟨o1,o2⟩:=hO.len;have o3:=hO.first;have hux:=(hs.f.r.2.1).len;have huy:=(hs.f.2.1).len;have hdn_:=(hO.lay (ls.length-1) oM).2.2.1;rw[show ls.length-1+1=ls.length by omega] at hdn_
 have hfq:=flatq_len hO ls.length (nR _);rw[List.take_length] at hfq
 refine go Tryz.func86 [(0,.agg #[qS A ts.length cap]),(1,qS X ux.length cX),(2,qS Y_ uy.length cY)] rfl (cSL ?_);have hR:=hs;refine lA 3 74 ([qS A ts.length cap]) hs (fun b1 w2 h3 hs=>lL hs [.v 6 (sZ)] (lN (cQ ?_)));have hsr:=hs;refine cR 7 [⟨6,7,.cells (List.toArray [sZ]) 74 (0,0)⟩] mixed hs (al_cons (alOk kR (fun _ _=>by kernel_rfl)) al_nil) (eO 0 14 [(0,0,1)] (.agg #[qS A ts.length cap]) hs (eO 1 15 [(0,0,1)] (.agg #[qS A ts.length cap]) hs (eC 2 16 hs (fun _ _ hs=>nflat A cap ts ls d hO _ _ hs.g hs.f.q.r.1 hs.f.q.2.1) ?_)));rintro _ _ _ w4 h5 hs ⟨Aq,cq,rfl,hcq,hAq⟩;refine eV 3 17 (nV ((flatq ls).length)) (eK 4 18 55 ((flatq ls).length) 5 56 (.agg #[qF,uV 0,eS,uV 0,eS]) qc 0 hs (fun b6 w7 h8 hs=>?_));have hl9:(List.replicate ((flatq ls).length) 0).length=((flatq ls).length):=by simp
 refine eClh 5 19 0 hs (fun _ hp g_ f_ sg_=>by have q_:=nFilledB A cap ts ls d hO (sB b6) ((flatq ls).length) (List.replicate (flatq ls).length (0:Rat)) (by simp) (by simp) _ _ g_ (f_.2.2.2.2.2.2.1) (f_.2.2.2.2.2.1) (SlO.of_flat (sz:=5) (f:=qc) (d:=0) (b:=b6) (o:=0) (l:=List.replicate (flatq ls).length (0:Rat)) (fun _=>rfl) sg_);rw[List.length_replicate] at q_;exact q_) (Ψ:=FilledP ls d (List.replicate (flatq ls).length (0:Rat)) h.size) (fun hp v h1 h2 p e1 e2=>FilledP.tr p e1 e2) ?_;rintro _ _ _ hs ⟨zs,hzl,hzs,hzk,hzf,bl,hinc,hbl,bL,cL,spL,us,rfl,hcL,hLN,hNN⟩;replace hs:=((hs.add (K:=fun h_=>Nw h.size h_ bL 144 (us.flatMap lvc++spL)) hLN).add (K:=fun h_=>NNb bl d h.size h_ us zs) hNN);refine eD1p [⟨b6,55,(List.replicate ((flatq ls).length) 0).flatMap qc⟩] hsr hs 74 [sZ] (fun _ _ za hs=>tP 7 0 0 ([qS (sB bL) us.length cL]) hs (fun _ hs=>tN (cQ (cSL ?_))));have hLN_:=(hs.f.2.1);have hNN_:=(hs.f.1);obtain ⟨Y,hy,hs,hmem,hnd,hkeep,hty⟩:=hs.retake2 h [55] hR.f hR.mo hs.f.q.q.2.1 (nR _);replace hs:=hs.to ([⟨za,74,[qS (sB bL) us.length cL]⟩,⟨b6,55,(List.replicate ((flatq ls).length) 0).flatMap qc⟩,⟨b1,74,[qS A ts.length cap]⟩]++Y) [];obtain ⟨pt,sp,hPt,hG,hYN⟩:=gnet_of (n:=ls.length) hmem hkeep hNN_ hzs hzl hinc hbl;have hLs:Sl (sB bL) us hy:=SlO.of_flat (fun _=>rfl) (hkeep _ _ _ hLN_ kD).seg;have hus:=hG.len;have hz0:=zero_lq hzf;have hGq:=gradN_lq hz0 hGB;have hGs:=fun q h0=>gradN_shp (yss:=yss) hO hxd hzs hzl q h0
 replace hs:=((hs.add (K:=fun h_=>Ptrs h_ us pt) hPt).aS hLs);refine lL hs [.m 20 1,.v 21 (nV ux.length),.v 22 (iV 0)] (lN (kZ ?_));refine cTo _ (CG.loop (fun μ_ Γ w_=>∃ (r:Nat) (Y:List Bx) (h_:Hp),μ_=xss.length-r∧Γ=[(1,qS X ux.length cX),(2,qS Y_ uy.length cY),(3,pB b1),(6,sZ),(7,pB za),(21,nV ux.length),(22,nV r)]∧SS w h w_ h_ ([⟨za,74,[qS (sB bL) us.length cL]⟩,⟨b6,55,(List.replicate ((flatq ls).length) 0).flatMap qc⟩,⟨b1,74,[qS A ts.length cap]⟩]++Y) [] [Sl (sB bL) us,fun h_=>Ptrs h_ us pt,fun h_=>Tab h_,Qu uy yss,Sv Y_ uy,Qu ux xss,Sv X ux,Nn ts ls,Sl A ts,fun h_=>Gw h h_]∧r≤xss.length∧YN Y d bl sp ls.length (gradN ls zs xss yss r)∧(∀ y∈Y,y.t=55)) _ ⟨0,Y,hy,rfl,rfl,hs.to _ _,Nat.zero_le _,hYN,(fun y hy=>List.mem_singleton.1 (hty y hy))⟩ ?_);rintro _ _ _ ⟨r,Y,_,hm18,rfl,hs,hr,hY1,hYt⟩;have hsh:=hGs r hr;have hGr:=hGq r hr;refine cSL ?_;cases zd:(decide ((r:Int)<(ux.length:Int)))
 ·
  have zi:=oF zd;refine lB 23 zd (lN (cQ (cIF (CG.exit ?_))))
  show CG _ _ _ _ _ _ _ _
  refine cSL ?_;have hrx:r=xss.length:=by omega
  obtain ⟨Zn,hZn⟩:∃ Zn,Zn=(gradN ls zs xss yss r):=⟨_,rfl⟩;obtain ⟨hp_,hs,gw_,hYc⟩:=hs.pubY (fun y hy=>by rw[hYt y hy];decide);replace hs:=hs.to [⟨za,74,[qS (sB bL) us.length cL]⟩,⟨b6,55,(List.replicate ((flatq ls).length) 0).flatMap qc⟩,⟨b1,74,[qS A ts.length cap]⟩] [];obtain ⟨hzs2,hzl2⟩:=hsh;rw[←hZn] at hY1 hzs2 hzl2
  have hzkk:∀ k,k<ls.length→(Zn.getD k lay0).k=(ls.getD k lay0).k:=by rw[hZn];exact gradN_kd hzk r
  have hNL_:NetL hp_ us Zn:=netl_of hY1 hG hs.f.2.1 hYc hzs2 hzl2 (fun k h0=>by rw[hzkk k h0,hzk k h0]);have hn3:=net3_of hO hzs2 hzl2 hzkk;have hgf:flatq Zn=((List.range (flatq ls).length).map fun p=>gradP ls xss yss p xss.length):=by rw[hZn,hrx];exact gradN_flat hO hxd hzs hzl (fun p=>by rw[hzf];exact rep_zero p)
  replace hs:=hs.aN hNL_;replace hs:=hs.aS hs.f.2.1;refine lL hs [.o 89 (.agg #[qS (sB bL) us.length cL]) 0 0 1] (lC 90 hs (nflat (sB bL) cL us Zn d hn3 _ _ hs.g hs.f.1 hs.f.2.1) ?_);rintro _ _ _ hs ⟨Af,cf,rfl,hcf,hAf⟩;replace hs:=hs.aS hAf;exact lL hs [.m 6 90] (lN (kX (hs.ret [] (qS Af ((flatq Zn).length) cf) (by rw[←hgf];exact ⟨Af,cf,rfl,hcf,hs.f.1⟩))))
 have zi:=oT zd;refine lB 23 zd (lN (cQ (cIT (cK (cQ (kZ (cSL (lL hs [.m 24 22,.m 8 24] (lN (cQ ?_))))))))));have hsr:=hs;refine cR 7 [⟨6,9,.cells (List.toArray [sZ,sZ,sZ]) 197 (0,0)⟩] mixed hs (al_cons (alOk kR (fun _ _=>by kernel_rfl)) al_nil) ?_;have hxl:=hxd r oM;have hyl:=hyd r oM;have hol:=outq_len hO hxl ls.length (nR _);refine eO 0 25 [(2,0,1)] (.agg #[qS A ts.length cap]) hs (eV 1 26 (qS X ux.length cX) (eV 2 27 (nV r) (eX 3 28 X ux.length cX 1 (r:Nat) r ((hs.f.q.r.1).ok oM) ?_)));obtain ⟨Aqx,cqx,eqx,hcqx,hRqx⟩:=(hs.f.q.2.1).at_ r oM;replace hs:=hs.aS hRqx;refine eHe 4 29 (ux.getD r undef) hs ((hs.f.q.r.2.1).el r oM) eqx (eC 5 30 hs (fun _ _ hs=>nForward A cap ts ls d hO Aqx cqx (xss.getD r []) hxl hcqx (hNB r oM) _ _ hs.g hs.f.q.q.2.1 hs.f.q.q.1 hs.f.1 hs.f.r.2.1) ?_);rintro _ _ _ _ _ hs ⟨P1,c1,u1,P2,c2,u2,Az,cz,rfl,hc1,hc2,hcz,hP1,hP2,hQ1,hQ2,hAz⟩;replace hs:=(((((hs.aS hP1).aS hP2).aQ hQ1).aQ hQ2).aS hAz);have hu1:=(hs.f.r.1).len;have hu2:=(hs.f.2.1).len;rw[insq_len] at hu1
 rw[sumsq_len] at hu2
 refine eD1p [] hsr hs 197 [sZ,sZ,sZ] (fun _ _ zb hs=>tP 7 0 0 ([qS P1 u1.length c1,qS P2 u2.length c2,qS Az ((outq ls (xss.getD r []) ls.length).length) cz]) hs (fun _ hs=>tNS (lL hs [.v 31 (qP zb 2),.o 32 (qS Az ((outq ls (xss.getD r []) ls.length).length) cz) 0 2 1,.v 33 (nV ((outq ls (xss.getD r []) ls.length).length))] (lK 34 55 ((outq ls (xss.getD r []) ls.length).length:Nat) 5 56 (.agg #[qF,uV 0,eS,uV 0,eS]) qc 0 hs (fun zc _ zo hs=>?_)))));have hl31:(List.replicate ((outq ls (xss.getD r []) ls.length).length:Nat) 0).length=((outq ls (xss.getD r []) ls.length).length:Nat):=by simp
 refine lL hs [.m 10 34] (lN (cQ (cSL (lL hs [.v 35 (qP zb 2),.o 36 (qS Az ((outq ls (xss.getD r []) ls.length).length) cz) 1 2 1,.v 37 (nV ((outq ls (xss.getD r []) ls.length).length)),.v 38 (iV 0)] (lN (kZ ?_))))));refine cTo _ (CG.loop (fun μ_ Γ w_=>∃ (j:Nat) (bl_:List Rat) (h_:Hp),μ_=(outq ls (xss.getD r []) ls.length).length-j∧Γ=[(1,qS X ux.length cX),(2,qS Y_ uy.length cY),(3,pB b1),(6,sZ),(7,pB za),(21,nV ux.length),(22,nV r),(8,nV r),(9,pB zb),(10,qS (sB zc) ((outq ls (xss.getD r []) ls.length).length:Nat) ((outq ls (xss.getD r []) ls.length).length:Nat)),(36,qS Az ((outq ls (xss.getD r []) ls.length).length) cz),(37,nV ((outq ls (xss.getD r []) ls.length).length)),(38,nV j)]∧SS w h w_ h_ ([⟨zc,55,(bl_).flatMap qc⟩,⟨zb,197,[qS P1 u1.length c1,qS P2 u2.length c2,qS Az ((outq ls (xss.getD r []) ls.length).length) cz]⟩,⟨za,74,[qS (sB bL) us.length cL]⟩,⟨b6,55,(List.replicate ((flatq ls).length) 0).flatMap qc⟩,⟨b1,74,[qS A ts.length cap]⟩]++Y) [] [Sq Az (outq ls (xss.getD r []) ls.length),Qu u2 (sumsq ls (xss.getD r []) ls.length),Qu u1 (insq ls (xss.getD r []) ls.length),Sv P2 u2,Sv P1 u1,Sq Aqx (xss.getD r []),Sl (sB bL) us,fun h_=>Ptrs h_ us pt,fun h_=>Tab h_,Qu uy yss,Sv Y_ uy,Qu ux xss,Sv X ux,Nn ts ls,Sl A ts,fun h_=>Gw h h_]∧j≤(outq ls (xss.getD r []) ls.length).length∧bl_.length=(outq ls (xss.getD r []) ls.length).length∧(∀ i,i<j→bl_.getD i 0=((outq ls (xss.getD r []) ls.length).getD i 0-(yss.getD r []).getD i 0)*((2:Int):Rat))) _ ⟨0,List.replicate (outq ls (xss.getD r []) ls.length).length (0:Rat),zo,rfl,rfl,hs.to _ _,Nat.zero_le _,(by simp),fun i hi=>absurd hi (Nat.not_lt_zero i)⟩ ?_);rintro _ _ _ ⟨j,bl_,_,hm34,rfl,hs,hj,hbl_,hbv⟩;refine cSL ?_;cases ze:(decide ((j:Int)<(((outq ls (xss.getD r []) ls.length).length:Nat):Int)))
 ·
  have zj:=oF ze;refine lB 39 ze (lN (cQ (cIF (CG.exit ?_))))
  show CG _ _ _ _ _ _ _ _
  refine cSL ?_;have hble:bl_=(topq (outq ls (xss.getD r []) ls.length) (yss.getD r [])):=map_of hbv (show j=(outq ls (xss.getD r []) ls.length).length by omega) (show bl_.length=(outq ls (xss.getD r []) ls.length).length from hbl_);obtain ⟨zl,hs,sg37,lo38,bc39⟩:=hs.pub 0;replace hs:=(hs.to ([⟨zb,197,[qS P1 u1.length c1,qS P2 u2.length c2,qS Az ((outq ls (xss.getD r []) ls.length).length) cz]⟩,⟨za,74,[qS (sB bL) us.length cL]⟩,⟨b6,55,(List.replicate ((flatq ls).length) 0).flatMap qc⟩,⟨b1,74,[qS A ts.length cap]⟩]++Y) []).aS (SlO.of_flat (sz:=5) (f:=qc) (d:=0) (b:=zc) (o:=0) (l:=bl_) (fun _=>rfl) sg37);have htl_:(topq (outq ls (xss.getD r []) ls.length) (yss.getD r [])).length=(outq ls (xss.getD r []) ls.length).length:=topq_len;replace hs:=hs.aS (show Sq (sB zc) (topq (outq ls (xss.getD r []) ls.length) (yss.getD r [])) zl by rw[←hble];exact hs.f.1);replace hs:=hs.to ([⟨zb,197,[qS P1 u1.length c1,qS P2 u2.length c2,qS Az ((outq ls (xss.getD r []) ls.length).length) cz]⟩,⟨za,74,[qS (sB bL) us.length cL]⟩,⟨b6,55,(List.replicate ((flatq ls).length) 0).flatMap qc⟩,⟨b1,74,[qS A ts.length cap]⟩]++Y) [];refine lL hs [.v 58 (pB b1),.o 59 (qS A ts.length cap) 3 0 1,.v 60 (nV ts.length)] (lV 61 (iV ((ls.length:Int)-1-(0:Nat))) ?_ (hr:=rS (((ts.length:Nat)-1)) kR ((wr64 oM oM).trans oM)));refine lL hs [.m 13 61] (lN (kZ ?_));replace hs:=hs.add (K:=Sq (sB zc) (barq ls (xss.getD r []) (topq (outq ls (xss.getD r []) ls.length) (yss.getD r [])) ls.length 0)) ((by show Sq _ (topq _ _) _;exact hs.f.1));refine cTo _ (CG.loop (fun μ_ Γ w_=>∃ (t:Nat) (Zb:Option Addr) (nb_:Nat) (cb:Nat) (Y:List Bx) (zst:List Lay) (h_:Hp),μ_=ls.length-t∧Γ=[(1,qS X ux.length cX),(2,qS Y_ uy.length cY),(3,pB b1),(6,sZ),(7,pB za),(21,nV ux.length),(22,nV r),(9,pB zb),(13,iV ((ls.length:Int)-1-(t:Nat))),(10,qS Zb nb_ cb)]∧SS w h w_ h_ ([⟨zb,197,[qS P1 u1.length c1,qS P2 u2.length c2,qS Az ((outq ls (xss.getD r []) ls.length).length) cz]⟩,⟨za,74,[qS (sB bL) us.length cL]⟩,⟨b6,55,(List.replicate ((flatq ls).length) 0).flatMap qc⟩,⟨b1,74,[qS A ts.length cap]⟩]++Y) [] [Sq Zb (barq ls (xss.getD r []) (topq (outq ls (xss.getD r []) ls.length) (yss.getD r [])) ls.length t),Sq (sB zc) (topq (outq ls (xss.getD r []) ls.length) (yss.getD r [])),Sq (sB zc) (bl_),Sq Az (outq ls (xss.getD r []) ls.length),Qu u2 (sumsq ls (xss.getD r []) ls.length),Qu u1 (insq ls (xss.getD r []) ls.length),Sv P2 u2,Sv P1 u1,Sq Aqx (xss.getD r []),Sl (sB bL) us,fun h_=>Ptrs h_ us pt,fun h_=>Tab h_,Qu uy yss,Sv Y_ uy,Qu ux xss,Sv X ux,Nn ts ls,Sl A ts,fun h_=>Gw h h_]∧t≤ls.length∧(barq ls (xss.getD r []) (topq (outq ls (xss.getD r []) ls.length) (yss.getD r [])) ls.length t).length=nb_∧zst.length=ls.length∧(∀ m,m<ls.length→zst.getD m lay0=if ls.length-t≤m then accl ((gradN ls zs xss yss r).getD m lay0) (ls.getD m lay0) (outq ls (xss.getD r []) m) (barq ls (xss.getD r []) (topq (outq ls (xss.getD r []) ls.length) (yss.getD r [])) ls.length (ls.length-1-m)) else (gradN ls zs xss yss r).getD m lay0)∧YN Y d bl sp ls.length zst∧(∀ y∈Y,y.t=55)∧(barq ls (xss.getD r []) (topq (outq ls (xss.getD r []) ls.length) (yss.getD r [])) ls.length t).length=d (ls.length-t)) _ ⟨0,sB zc,((outq ls (xss.getD r []) ls.length).length:Nat),((outq ls (xss.getD r []) ls.length).length:Nat),Y,(gradN ls zs xss yss r),zl,rfl,rfl,hs.to _ _,Nat.zero_le _,(show (topq _ _).length=_ from topq_len),hsh.2,(fun m hm=>by rw[if_neg oM]),hY1,hYt,(by show (topq _ _).length=_;rw[topq_len,hol,Nat.sub_zero])⟩ ?_);rintro _ _ _ ⟨t,Zb,nb_,cb,Y,zst,zp,hm44,rfl,hs,ht,hnb,hzt0,hzt,hY2,hYt,hbb⟩;refine cQ (cSL ?_);subst hnb;refine lL hs [.m 62 13] ?_;cases zf:(decide ((0:Int)≤((ls.length:Int)-1-(t:Nat):Int)))
  ·
   have zk:=oF zf;refine lB 63 zf (lN (cIF (CG.exit ?_)))
   show CG _ _ _ _ _ _ _ _
   refine kQ (lIn 88 ((r:Nat)+1) (r+1) ?_);refine lL hs [.m 22 88] (lD ?_);intro a_ ka;replace hs:=hs.tl.tl.tl.tl.tl.tl.tl.tl.tl;replace hs:=hs.drop 1 0;refine ⟨_,_,?_,⟨r+1,Y,zp,rfl,rfl,hs.to _ _,oM,(by have e_:zst=(gradN ls zs xss yss (r+1)):=acc_all hzt0 (fun m hm=>by rw[hzt m hm,if_pos oM]);rw[←e_];exact hY2),hYt⟩,ka.to _ kR⟩
   omega
  have zk:=oT zf;refine lB 63 zf (lN (cIT (cK (cQ (kZ ?_)))));obtain ⟨k,hk⟩:∃ k,k=ls.length-1-t:=⟨_,rfl⟩;have hkn:k<ls.length:=by omega
  have hMY:=hY2.mem hkn;have hlx:=outq_len hO hxl k oM;refine CG.region ⟨blks d bl k,none⟩ 22 [] mixed kR hs.g al_nil (fun b hb=>lt_of_some (hs.tail_jk hMY b hb)) (eV 0 66 (pB b1) (eO 1 67 [(3,0,1)] (qS A ts.length cap) hs ?_ (hM:=(fun p hp=>by obtain rfl:=List.mem_singleton.1 hp;exact hs.tail_ne hMY _))));refine eV 2 68 (iV ((ls.length:Int)-1-(t:Nat))) (eX 3 69 A ts.length cap 3 ((ls.length:Int)-1-(t:Nat)) k ((hs.f.q.q.q.q.2.1).ok oM) ?_);obtain ⟨ekx,⟨AWx,cWx,usx,eWx,hcWx,hAWx,hUx⟩,⟨ABx,cBx,eBx,hcBx,hABx⟩⟩:=(hs.f.q.q.q.q.1).at_ k oM;obtain ⟨mtx,lbx,r12x,kdx⟩:=hO.lay k oM;have lux:=hUx.len;have mrx:=mtx.rows;have mpx:=mtx.rpos;have mcx:=mtx.cpos;have m0x:=mtx.row 0 oM;replace hs:=(((hs.aS hAWx).aQ hUx).aS hABx);refine eHe 4 70 (.agg #[iV ((ts.getD k lvd).1),(ts.getD k lvd).2.1,(ts.getD k lvd).2.2]) hs ((hs.f.q.q.q.q.q.1).el k oM) (by rw[ekx,eWx,eBx]) ?_ (hM:=(fun b hb=>hs.tail_jk hMY b hb));refine eV 5 71 (pB za) (eO 6 72 [(1,0,1)] (qS (sB bL) us.length cL) hs ?_ (hM:=(fun p hp=>by obtain rfl:=List.mem_singleton.1 hp;exact hs.tail_ne hMY _)));refine eV 7 73 (iV ((ls.length:Int)-1-(t:Nat))) (eX 8 74 (sB bL) us.length cL 3 ((ls.length:Int)-1-(t:Nat)) k ((hs.f.q.q.q.1).ok oM) ?_);obtain ⟨AS,cS,eS1,hcS,hAS⟩:=(hs.f.q.q.q.2.1) k oM;obtain ⟨cSB,hcSB,eS2⟩:=hG.b k hkn;have hptl:=hG.ptl k hkn;replace hs:=hs.aS hAS;refine eHe 9 75 (.agg #[iV ((us.getD k lvd).1),(us.getD k lvd).2.1,(us.getD k lvd).2.2]) hs ((hs.f.q.q.q.2.1).el k oM) (by rw[eS1,eS2]) ?_ (hM:=(fun b hb=>hs.tail_jk hMY b hb));refine eV 10 76 (pB zb) (eO 11 77 [(0,0,1)] (qS P1 u1.length c1) hs ?_ (hM:=(fun p hp=>by obtain rfl:=List.mem_singleton.1 hp;exact hs.tail_ne hMY _)));refine eV 12 78 (iV ((ls.length:Int)-1-(t:Nat))) (eX 13 79 P1 u1.length c1 1 ((ls.length:Int)-1-(t:Nat)) k ((hs.f.q.q.r.2.1).ok oM) ?_);obtain ⟨Ai,ci,ei,hci,hAi⟩:=(hs.f.q.q.2.1).at_ k (by rw[insq_len];omega);rw[insq_get hkn] at ei hAi
  replace hs:=hs.aS hAi;refine eHe 14 80 (u1.getD k undef) hs ((hs.f.q.q.q.1).el k oM) ei ?_ (hM:=(fun b hb=>hs.tail_jk hMY b hb));refine eV 15 81 (qP zb 1) (eO 16 82 [(0,1,1)] (qS P2 u2.length c2) hs ?_ (hM:=(fun p hp=>by obtain rfl:=List.mem_singleton.1 hp;exact hs.tail_ne hMY _)));refine eV 17 83 (iV ((ls.length:Int)-1-(t:Nat))) (eX 18 84 P2 u2.length c2 1 ((ls.length:Int)-1-(t:Nat)) k ((hs.f.q.q.r.2.1).ok oM) ?_);obtain ⟨Av,cv,ev_,hcv,hAv⟩:=(hs.f.q.q.2.1).at_ k (by rw[sumsq_len];omega);rw[sumsq_get hkn] at ev_ hAv
  replace hs:=hs.aS hAv;refine eHe 19 85 (u2.getD k undef) hs ((hs.f.q.q.q.1).el k oM) ev_ ?_ (hM:=(fun b hb=>hs.tail_jk hMY b hb));refine eV 20 86 (qS Zb ((barq ls (xss.getD r []) (topq (outq ls (xss.getD r []) ls.length) (yss.getD r [])) ls.length t).length) cb) ?_;have hzk_:zst.getD k lay0=(gradN ls zs xss yss r).getD k lay0:=by rw[hzt k hkn,if_neg oM]
  obtain ⟨msx,hsb⟩:=hsh.1 k oM;have hm5:=hd5 k hkn;have zm:=hO.small k hkn;obtain ⟨hyR,hyB⟩:=hY2 k hkn;have hbe:(barq ls (xss.getD r []) (topq (outq ls (xss.getD r []) ls.length) (yss.getD r [])) ls.length (t+1))=downq (ls.getD k lay0) (outq ls (xss.getD r []) k) (barq ls (xss.getD r []) (topq (outq ls (xss.getD r []) ls.length) (yss.getD r [])) ls.length t):=by rw[hk];rfl
  refine eCms 21 87 hs rfl (fun _ _ hs=>by have q_:=nBackward (ls.getD k lay0) (d (k+1)) (d k) mtx hm5 zm kdx AWx cWx usx ABx cBx (ls.getD k lay0).B.length (us.getD k lvd).1 AS cS (pt k) cSB (fun j=>bl.getD (npos d k+j) 0) (sp k) (zst.getD k lay0) hptl (hG.row k hkn) hcSB (fun j hj=>by rw[hzk_];exact msx.row j hj) (by rw[hzk_];exact hsb) (by rw[hzk_];exact msx.rows) (fun i j hi hj e=>(hG.inj hkn hkn hi hj e).2) Ai ci (outq ls (xss.getD r []) k) hlx Av cv Zb cb (barq ls (xss.getD r []) (topq (outq ls (xss.getD r []) ls.length) (yss.getD r [])) ls.length t) (by rw[hbb,show ls.length-t=k+1 by omega]) ((hGB r oM).bar t oM) ((hGB r oM).su k hkn) ((hGB r oM).x k hkn) (hwq k) (fun i j=>by rw[hzk_];exact ((hGr k).w i j).mono oM) (fun j=>by rw[hzk_];exact ((hGr k).b j).mono oM) (bl.getD (npos d k+d (k+1)) 0) rfl _ _ hs.g (fun j hj=>hs.ownM (List.mem_append_right _ (hyR j hj))) (hs.ownM (List.mem_append_right _ hyB)) (fun j hj=>hs.tail_jk hMY _ (blks_in hj)) hs.f.q.2.1 hs.f.q.1 hs.f.r.1 hs.f.2.1 hs.f.1 hs.f.q.r.1 (hs.f.q.q.q.q.2.1);rw[←hbe] at q_;exact q_) ?_;rintro _ _ _ _ _ hs u51 ⟨Zc,cc_,rfl,hcc_,hdn,hoR,hoB⟩;obtain ⟨Y52,hs,hk1,hk2,hk3⟩:=hs.stepY u51 (hY2.own hkn hoR hoB);have hY3:=hY2.put hG hkn hzt0 hoR hoB hk1 hk2;have hYt3:=yt_new hYt hk3;replace hs:=hs.aS hdn;refine eD0 hs (fun _ zq hs=>tV 22 10 (qS Zc ((barq ls (xss.getD r []) (topq (outq ls (xss.getD r []) ls.length) (yss.getD r [])) ls.length (t+1)).length) cc_) (tN (kQ (lL hs [.m 64 13] (lV 65 (iV ((ls.length:Int)-1-(t+1:Nat))) ?_ (hr:=rS ((((ls.length:Int)-1-(t:Nat))-1)) kR ((wr64 oM oM).trans oM)))))));refine lL hs [.m 13 65] (lD ?_);intro a_ ka;replace hs:=(hs.tl.tl.tl.tl.tl.tl.tl.tl.aS hs.f.1);refine ⟨_,_,?_,⟨t+1,Zc,(barq ls (xss.getD r []) (topq (outq ls (xss.getD r []) ls.length) (yss.getD r [])) ls.length (t+1)).length,cc_,Y52,zst.set k (accl (zst.getD k lay0) (ls.getD k lay0) (outq ls (xss.getD r []) k) (barq ls (xss.getD r []) (topq (outq ls (xss.getD r []) ls.length) (yss.getD r [])) ls.length t)),zq,rfl,rfl,hs.to _ _,oM,rfl,(by rw[List.length_set];exact hzt0),(acc_put hzt0 hk oM hzt),hY3,hYt3,(by rw[hbe,downq_len,hlx,show ls.length-(t+1)=k by omega])⟩,ka.to _ kR⟩
  omega
 have zj:=oT ze;refine lB 39 ze (lN (cQ (cIT (cK (cQ (kZ (cSL (lL hs [.m 40 38] (lX 41 Az ((outq ls (xss.getD r []) ls.length).length) cz 5 (j:Nat) j ((hs.f.1).ok oM) ?_)))))))));refine lH 42 (qv ((outq ls (xss.getD r []) ls.length).getD j 0)) hs ((hs.f.1).el j oM) (lA 12 55 ([qF,uV 0,eS,uV 0,eS]) hs (fun zr _ _ hs=>lL hs [.m 11 40] (lP 0 0 (qc ((outq ls (xss.getD r []) ls.length).getD j 0)) hs (fun _ hs=>lN (cR 13 [] mixed hs al_nil ?_)))));refine eV 0 43 (qS (sB zc) ((outq ls (xss.getD r []) ls.length).length:Nat) ((outq ls (xss.getD r []) ls.length).length:Nat)) (eV 1 44 (nV j) (eO 2 45 [(0,0,5)] (qv ((outq ls (xss.getD r []) ls.length).getD j 0)) hs (eV 3 46 (qS Y_ uy.length cY) (eV 4 47 (nV r) (eX 5 48 Y_ uy.length cY 1 (r:Nat) r ((hs.f.q.q.r.1).ok oM) ?_)))));obtain ⟨Aqy,cqy,eqy,hcqy,hRqy⟩:=(hs.f.q.q.2.1).at_ r oM;replace hs:=hs.aS hRqy;refine eHe 6 49 (uy.getD r undef) hs ((hs.f.q.q.r.2.1).el r oM) eqy (eV 7 50 (nV j) (eX 8 51 Aqy ((yss.getD r []).length) cqy 5 (j:Nat) j ((hs.f.1).ok oM) (eH 9 52 (qv ((yss.getD r []).getD j 0)) hs ((hs.f.1).el j oM) ?_)));have zg:=LQ.sub (hZq r oM j) (hYq r j);refine eC 10 53 hs (fun _ _ hs=>fSub ((outq ls (xss.getD r []) ls.length).getD j 0) ((yss.getD r []).getD j 0) (LQ.mono (hZq r oM j) oM) (LQ.mono (hYq r j) oM) _ _ hs.g hs.f.q.q.2.1) ?_;rintro _ _ _ _ _ hs rfl;refine eC 11 54 hs (fun _ _ hs=>fOf 2 oM oM _ _ hs.g) ?_;rintro _ _ _ _ _ hs rfl;have hq72:=LQ.mul zg (LQ.lit (z:=2) kD);refine eC 12 55 hs (fun _ _ hs=>fMul (((outq ls (xss.getD r []) ls.length).getD j 0)-((yss.getD r []).getD j 0)) ((2:Int):Rat) (LQ.mono zg oM) (LQ.mono (LQ.lit (z:=2) kD) oM) _ _ hs.g hs.f.q.q.2.1) ?_;rintro _ _ _ _ _ hs rfl;refine eD0 hs (fun _ zt hs=>tX 13 56 (sB zc) ((outq ls (xss.getD r []) ls.length).length:Nat) ((outq ls (xss.getD r []) ls.length).length:Nat) 5 (j:Nat) j rfl (tW 14 1 bl_ qc 5 j ((((outq ls (xss.getD r []) ls.length).getD j 0)-((yss.getD r []).getD j 0))*((2:Int):Rat)) hs oM (fun _ hs=>?_)));have zn:((bl_).set j ((((outq ls (xss.getD r []) ls.length).getD j 0)-((yss.getD r []).getD j 0))*((2:Int):Rat))).length=((outq ls (xss.getD r []) ls.length).length:Nat):=by rw[List.length_set];exact hbl_
 replace hs:=hs.to ([⟨zr,55,qc ((outq ls (xss.getD r []) ls.length).getD j 0)⟩,⟨zc,55,((bl_).set j ((((outq ls (xss.getD r []) ls.length).getD j 0)-((yss.getD r []).getD j 0))*((2:Int):Rat))).flatMap qc⟩,⟨zb,197,[qS P1 u1.length c1,qS P2 u2.length c2,qS Az ((outq ls (xss.getD r []) ls.length).length) cz]⟩,⟨za,74,[qS (sB bL) us.length cL]⟩,⟨b6,55,(List.replicate ((flatq ls).length) 0).flatMap qc⟩,⟨b1,74,[qS A ts.length cap]⟩]++Y) [];refine tN (kQ (lIn 57 ((j:Nat)+1) (j+1) ?_));refine lL hs [.m 38 57] (lD ?_);intro a_ ka;replace hs:=hs.tl;replace hs:=hs.drop 1 0;refine ⟨_,_,?_,⟨j+1,(bl_).set j ((((outq ls (xss.getD r []) ls.length).getD j 0)-((yss.getD r []).getD j 0))*((2:Int):Rat)),zt,rfl,rfl,hs.to _ _,oM,zn,(fstep hbv oM rfl)⟩,ka.to _ kR⟩
 omega
theorem nGradE (A:Option Addr)(cap:Nat)(ts:List LV)(ls:List Lay)(hn:ls.length≤1000000)(hF:∀ i,i<ls.length→LayLen (ls.getD i lay0))(X:Option Addr)(cX:Nat)(ux:List Value)(xss:List (List Rat))(Y_:Option Addr)(cY:Nat)(uy:List Value)(yss:List (List Rat))(wx wy:Nat)(hxw:∀ i,i<xss.length→(xss.getD i []).length=wx)(hyw:∀ i,i<yss.length→(yss.getD i []).length=wy)(he:netE ls xss.length wx yss.length wy≠0)(w:World)(h:Hp)(g:G w h)(hA:Sl A ts h)(hN:NetL h ts ls)(hX:Sv X ux h)(hU:QVs h ux xss)(hY:Sv Y_ uy h)(hV:QVs h uy yss):CV 36 #[.agg #[.slice A ts.length cap],.slice X ux.length cX,.slice Y_ uy.length cY] w h (.tuple #[sZ,iV (netE ls xss.length wx yss.length wy)]):=by
 have hs:=(((((((sS g).aS hA).aN hN).aS hX).aQ hU).aS hY).aQ hV);refine go Tryz.func36 [(0,.agg #[qS A ts.length cap]),(1,qS X ux.length cX),(2,qS Y_ uy.length cY)] rfl (cSL (lA 3 74 ([qS A ts.length cap]) hs (fun b1 w2 h3 hs=>lL hs [.v 6 (sZ),.v 7 (iV 0)] (lN (cQ (cSL (lL hs [.o 9 (.agg #[qS A ts.length cap]) 0 0 1,.m 10 1,.m 11 2] (lC 12 hs (nRefused A cap ts ls hn hF X cX ux xss Y_ cY uy yss wx wy hxw hyw _ _ hs.g hs.f.q.2.1 hs.f.q.1 hs.f.r.2.1 hs.f.r.1 hs.f.2.1 hs.f.1) ?_))))))));rintro _ w4 h5 hs rfl;refine lL hs [.m 8 12] (lNS (lL hs [.m 13 8] ?_));have hb6:((netE ls xss.length wx yss.length wy:Int) != (0:Int))=true:=bneT he;have phb6:=neOfBne hb6;exact lB 14 hb6 (lN (cIT (cSL (lL hs [.m 15 8,.v 6 (sZ),.m 7 15] (lN (kX (hs.ret [] (.tuple #[sZ,iV (netE ls xss.length wx yss.length wy)]) rfl)))))))
theorem nGrad0 (A:Option Addr)(cap:Nat)(ts:List LV)(ls:List Lay)(hn:ls.length≤1000000)(hF:∀ i,i<ls.length→LayLen (ls.getD i lay0))(X:Option Addr)(cX:Nat)(ux:List Value)(xss:List (List Rat))(Y_:Option Addr)(cY:Nat)(uy:List Value)(yss:List (List Rat))(wx wy:Nat)(hxw:∀ i,i<xss.length→(xss.getD i []).length=wx)(hyw:∀ i,i<yss.length→(yss.getD i []).length=wy)(hd5:chkq ls=0→∀ k,k<ls.length→dOf ls (k+1)≤5)(hwq:∀ k i j,LQ 1 (((ls.getD k lay0).W.getD i []).getD j 0))(hr4:xss.length≤4)(hNB:chkq ls=0→∀ i,i<xss.length→NetB ls (xss.getD i []))(hZq:chkq ls=0→∀ i,i<xss.length→∀ j,LQ 42000 ((outq ls (xss.getD i []) ls.length).getD j 0))(hYq:∀ i j,LQ 1 ((yss.getD i []).getD j 0))(hGB:chkq ls=0→∀ i,i<xss.length→GB1 ls (xss.getD i []) (topq (outq ls (xss.getD i []) ls.length) (yss.getD i [])))(he:netE ls xss.length wx yss.length wy=0)(w:World)(h:Hp)(g:G w h)(hA:Sl A ts h)(hN:NetL h ts ls)(hX:Sv X ux h)(hU:QVs h ux xss)(hY:Sv Y_ uy h)(hV:QVs h uy yss)(tb:Tab h):CR 36 #[.agg #[.slice A ts.length cap],.slice X ux.length cX,.slice Y_ uy.length cY] w h (fun v h1=>∃ A c,v=.tuple #[.slice A ((List.range (flatq ls).length).map fun p=>gradP ls xss yss p xss.length).length c,iV 0]∧((List.range (flatq ls).length).map fun p=>gradP ls xss yss p xss.length).length≤c∧Sq A ((List.range (flatq ls).length).map fun p=>gradP ls xss yss p xss.length) h1):=by
 have hs:=((((((((sS g).aS hA).aN hN).aS hX).aQ hU).aS hY).aQ hV).aB tb);refine go Tryz.func36 [(0,.agg #[qS A ts.length cap]),(1,qS X ux.length cX),(2,qS Y_ uy.length cY)] rfl (cSL (lA 3 74 ([qS A ts.length cap]) hs (fun b1 w2 h3 hs=>lL hs [.v 6 (sZ),.v 7 (iV 0)] (lN (cQ (cSL (lL hs [.o 9 (.agg #[qS A ts.length cap]) 0 0 1,.m 10 1,.m 11 2] (lC 12 hs (nRefused A cap ts ls hn hF X cX ux xss Y_ cY uy yss wx wy hxw hyw _ _ hs.g hs.f.q.r.1 hs.f.q.2.1 hs.f.q.1 hs.f.r.2.1 hs.f.r.1 hs.f.2.1) ?_))))))));rintro _ w4 h5 hs rfl;refine lL hs [.m 8 12] (lNS (lL hs [.m 13 8] ?_));have hb6:((netE ls xss.length wx yss.length wy:Int) != (0:Int))=false:=bneF' he;have phb6:=eqOfBne hb6;refine lB 14 hb6 (lN (cIF (cK (cSL (lL hs [.o 16 (.agg #[qS A ts.length cap]) 0 0 1,.m 17 1,.m 18 2] (lC 19 hs (nGradient A cap ts ls (dOf ls) (chk_net3 (netE0 he).1) X cX ux xss Y_ cY uy yss (hd5 (netE0 he).1) hwq (fun i hi=>by rw[hxw i hi];exact (netE0 he).2.2.2.1) (fun i hi=>by rw[hyw i (by have:=(netE0 he).2.2.1;omega)];exact (netE0 he).2.2.2.2) (netE0 he).2.2.1 hr4 (hNB (netE0 he).1) (hZq (netE0 he).1) hYq (hGB (netE0 he).1) _ _ hs.g hs.f.q.r.1 hs.f.q.2.1 hs.f.q.1 hs.f.r.2.1 hs.f.r.1 hs.f.2.1 hs.f.1) ?_))))));rintro _ w7 h8 hs ⟨Af,cf,rfl,hcf,hAf⟩;replace hs:=hs.aS hAf;exact lL hs [.m 6 19,.v 7 (iV 0)] (lN (kX (hs.ret [] (.tuple #[qS Af (((List.range (flatq ls).length).map fun p=>gradP ls xss yss p xss.length).length) cf,iV 0]) (⟨Af,cf,rfl,hcf,hs.f.1⟩))))
theorem mk_s4 {ls:List Lay}{i m o kd:Int}(hl:ls.length+1=(netSizes i m o).length)(h:∀ k,k<ls.length→LayMk (ls.getD k lay0) (pick (kindAt kd k) 3+1:Nat) ((netSizes i m o).getD (k+1) 0) ((netSizes i m o).getD k 0)) :
    0<ls.length∧ls.length≤2∧(∀ k,LayS4 (ls.getD k lay0))∧∀ k,k<ls.length→0<(ls.getD k lay0).W.length∧0<(ls.getD k lay0).B.length:=by
  have hs:=sizes_len i m o;refine ⟨by omega,by omega,fun k=>?_,fun k hk=>?_⟩
  · rcases Nat.lt_or_ge k ls.length with hk|hk
    · have L:=h k hk
      have s1:=sizes_le i m o k;have s2:=sizes_le i m o (k+1);refine ⟨by rw[L.rows];exact s2,fun a=>?_,by rw[L.bl];exact s2,fun a b=>?_,lq_get (fun q hq=>?_) oM⟩
      · rw[List.getD_eq_getElem?_getD]
        cases hh:(ls.getD k lay0).W[a]? with
        | none=>exact Nat.zero_le _
        | some r=>have:=(L.row r (List.mem_of_getElem? hh)).1;show r.length≤4;omega
      · have hr:∀ r,(ls.getD k lay0).W[a]?=some r→LQ 1 (r.getD b 0):=fun r hh=>lq_get (fun q hq=>by obtain ⟨z,rfl⟩:=(L.row r (List.mem_of_getElem? hh)).2 q hq;exact LQ.small z) oM b
        rw[List.getD_eq_getElem?_getD (l:=(ls.getD k lay0).W)];cases hh:(ls.getD k lay0).W[a]? with
        | none=>exact lq0 oM
        | some r=>exact hr r hh
      · obtain ⟨z,rfl⟩:=L.bs q hq;exact LQ.small z
    · rw[List.getD_eq_getElem?_getD,List.getElem?_eq_none hk]
      exact ⟨by decide,fun i=>by simp[lay0],by decide,fun i j=>by simp[lay0];exact lq0 oM,fun i=>by simp[lay0];exact lq0 oM⟩
  · have L:=h k hk
    have:=sizes_pos i m o (k+1) oM;exact ⟨by rw[L.rows];exact this,by rw[L.bl];exact this⟩
theorem i64s_drop {zs:List Int}(h:I64s zs)(n:Nat):I64s (zs.drop n):=fun k=>by rw[getD_drop_];exact h _
def rowsq (zs:List Int)(n w:Nat):List (List Rat):=(List.range n).map fun k=>rowq (zs.drop (min zs.length (k*w))) w
structure Drw (xss:List (List Rat)) (w:Nat):Prop where
  len:xss.length≤4
  wd:∀ i,i<xss.length→(xss.getD i []).length=w
  w1:1≤w
  w4:w≤4
  lq:∀ i j,LQ 1 ((xss.getD i []).getD j 0)
theorem drw_rows (zs:List Int){n w:Nat}(h:n≤4)(h1:1≤w)(h4:w≤4):Drw (rowsq zs n w) w:=by
  have hl:(rowsq zs n w).length=n:=by simp[rowsq]
  refine ⟨by omega,fun i hi=>?_,h1,h4,fun i j=>?_⟩
  · unfold rowsq;rw[getD_mapR oM];exact rowq_len _ _
  · by_cases hi:i<n
    · unfold rowsq;rw[getD_mapR hi];exact rowq_lq _ _ j
    · rw[getD_outR (l:=rowsq zs n w) oM];exact lq0 oM
theorem hRows (A:Option Addr)(c:Nat)(zs:List Int)(n m:Nat)(hn:n≤1000)(hm:m≤1000)(hl:zs.length≤9223372036854775807)(hz:I64s zs)(hc:zs.length≤c)(w:World)(h:Hp)(g:G w h)(hA:Si A zs h):CR 71 #[.slice A zs.length c,nV n,nV m] w h (fun v h1=>∃ A c,∃ us:List Value,v=.slice A us.length c∧us.length≤c∧Sv A us h1∧RVs h1 us (rowsq zs n m)):=by
 have hs:=((sS g).aS hA);refine go Tryz.func71 [(0,qS A zs.length c),(1,nV n),(2,nV m)] rfl (cSL (lL hs [.v 6 (sZ)] (lNS (lL hs [.v 7 (sZ)] (lN (cQ (cSL (lL hs [.v 8 (iV 0)] (lN (kZ ?_))))))))));replace hs:=hs.nil 28 1;refine cTo [(0,qS A zs.length c),(1,nV n),(2,nV m),(6,sZ),(8,iV 0),(7,sZ)] ?_;replace hs:=hs.aV (RVs.nil);refine CG.loop (fun μ_ Γ w_=>∃ (k:Nat) (sA:Option Addr) (sc:Nat) (us:List Value) (h_:Hp),μ_=n-k∧Γ=[(0,qS A zs.length c),(1,nV n),(2,nV m),(6,sZ),(8,nV k),(7,qS sA ((us).length) sc)]∧SS w h w_ h_ [] [⟨28,1,sA,sc,(us).length,(us).flatMap vc⟩] [Ru us (rowsq zs k m),Si A zs]∧k≤n) _ ⟨0,none,0,[],h,rfl,rfl,hs.to _ _,Nat.zero_le _⟩ ?_;rintro _ _ w1 ⟨k,sA,sc,us,h2,hm3,rfl,hs,hk⟩;have hlU:=(hs.f.1).len;have hlr:(rowsq zs k m).length=k:=by simp[rowsq]
 refine cQ (cSL (lL hs [.m 9 8,.m 10 1] ?_));cases hb4:(decide ((k:Int)<(n:Int)))
 ·
  have phb4:=oF hb4;refine lB 11 hb4 (lN (cIF (CG.exit ?_)))
  show CG _ _ _ _ _ _ _ _
  refine cSL (lL hs [.m 27 7,.m 6 27] (lN (kX ?_)));have hkq:k=n:=by omega
  subst hkq;obtain ⟨h5,hs,hc6⟩:=hs.pubr 0 (A:=sA) (c:=sc) (l:=us) (f:=vc) (ty:=28) (sz:=1) undef (fun _=>rfl);exact hs.ret [] (qS sA ((us).length) sc) (⟨_,_,us,rfl,hc6,hs.f.1,hs.f.2.1⟩)
 have phb4:=oT hb4;refine lB 11 hb4 (lN (cIT (cK (cQ (kZ (kQ ?_))))));have hkm:k*m≤1000*1000:=Nat.mul_le_mul oM oM;have hkm2:((k*m:Nat):Int)=(k:Nat)*(m:Nat):=Int.natCast_mul k m;refine lL hs [.m 14 7,.m 15 0,.m 16 0,.v 17 (nV zs.length),.m 18 8,.m 19 2] (lIn 20 ((k:Nat)*(m:Nat)) (k*m) ?_);refine lV 21 (iV (min (zs.length:Int) ((k*m:Nat):Int))) ?_ (hr:=rint (n:=(if ((k*m:Nat):Int)<(zs.length:Int) then ((k*m:Nat):Int) else (zs.length:Int))) kR (by simp only[imin2]));refine lF 22 A zs.length c 1 (min (zs.length:Int) ((k*m:Nat):Int)) (min zs.length (k*m)) (lL hs [.m 23 2] (lC 24 hs ((by have q_:=hRow (if c=(min zs.length (k*m)) then A else A.map (·.add ((min zs.length (k*m))*1))) (c-(min zs.length (k*m))) (zs.drop ((min zs.length (k*m)))) m oM (by rw[List.length_drop];omega) (i64s_drop hz _) _ _ hs.g ((hs.f.2.1).drop ((min zs.length (k*m))) c hc);rw[List.length_drop] at q_;exact q_)) ?_));rintro _ w8 h9 hs ⟨Ar,cr,tr,rfl,hcr,hAr,hTr⟩;replace hs:=((hs.aS hAr).aT hTr);refine lR 25 28 1 ([qS Ar tr.length cr]) hs (fun za _ _ hs=>lY 26 0 28 1 sc sA us vc (qS Ar tr.length cr:Value) 24 za (sZ) hs hs.f.1 (fun zb zc _ zd hs=>lL hs [.m 7 26] (lN (kQ (lL hs [.m 12 8] (lIn 13 ((k:Nat)+1) (k+1) ?_))))));refine lL hs [.m 8 13] (lD ?_);intro a_ ka;replace hs:=(hs.tl.tl.tl.tl.add (K:=Ru (us++[(qS Ar tr.length cr:Value)]) (rowsq zs (k+1) m)) (by unfold rowsq;rw[List.range_succ,List.map_append];exact (hs.f.r.2.1).snoc ⟨_,_,tr,rfl,hcr,hs.f.r.1,hs.f.2.1⟩));refine ⟨_,_,?_,⟨k+1,zb,zc,us++[(qS Ar tr.length cr:Value)],zd,rfl,rfl,hs.to _ _,oM⟩,ka.to _ kR⟩
 omega
noncomputable def lossv (ls:List Lay)(xss yss:List (List Rat))(wx wy:Nat):Rat:=if netE ls xss.length wx yss.length wy=0 then lossq ls xss yss xss.length else 0
noncomputable def gradv (ls:List Lay)(xss yss:List (List Rat))(wx wy:Nat):List Rat:=if netE ls xss.length wx yss.length wy=0 then (List.range (flatq ls).length).map fun p=>gradP ls xss yss p xss.length else []
theorem netH {ls:List Lay}(hZ:∀ i,LaySz (ls.getD i lay0)){xss yss:List (List Rat)}{wx wy:Nat}(hDx:Drw xss wx)(he:netE ls xss.length wx yss.length wy=0):∀ i,i<xss.length→(xss.getD i []).length=dOf ls 0:=fun i hi=>by rw[hDx.wd i hi];exact (netE0 he).2.2.2.1
theorem gNB {ls:List Lay}(hZ:∀ i,LaySz (ls.getD i lay0)){xss:List (List Rat)}{wx:Nat}(hDx:Drw xss wx)(h1:chkq ls=0){i:Nat}(hx:(xss.getD i []).length=dOf ls 0):NetB ls (xss.getD i []):=netB (chk_net3 h1) hZ hx (hDx.lq i)
theorem bnd5 {r L:Nat}(h:L≤12):r*1100000+1+(L*84005+1)+1≤(r+1)*1100000+1:=by omega
theorem bnd6 {r X:Nat}(h:X≤12*(42003+90000+1)):r*1700000+1+(X+1)+1≤(r+1)*1700000+1:=by omega
theorem lossq_lq {ls:List Lay}{xss yss:List (List Rat)}{n:Nat}(hZq:∀ i,i<n→∀ j,LQ 42000 ((outq ls (xss.getD i []) ls.length).getD j 0))(hl:∀ i,i<n→(outq ls (xss.getD i []) ls.length).length≤12)(hYq:∀ i j,LQ 1 ((yss.getD i []).getD j 0)):∀ r,r≤n→LQ (r*1100000+1) (lossq ls xss yss r)
  | 0,_=>lq0 oM
  | r+1,h=>by
    have h1:=lossq_lq hZq hl hYq r oM;have h2:=rowloss_lq (hZq r oM) (hYq r) (outq ls (xss.getD r []) ls.length).length;exact (h1.add h2).mono (bnd5 (hl r oM))
theorem gradP_lq {ls:List Lay}{xss yss:List (List Rat)}{n:Nat}(hZq:∀ i,i<n→∀ j,LQ 42000 ((outq ls (xss.getD i []) ls.length).getD j 0))(hl:∀ i,i<n→(outq ls (xss.getD i []) ls.length).length≤12)(hYq:∀ i j,LQ 1 ((yss.getD i []).getD j 0))(p:Nat)(hT:∀ i,i<n→∀ j,LQ 90000 ((tanq ls (xss.getD i []) (p:Nat) ls.length).getD j 0)):∀ r,r≤n→LQ (r*1700000+1) (gradP ls xss yss p r)
  | 0,_=>lq0 oM
  | r+1,h=>by
    have h1:=gradP_lq hZq hl hYq p hT r oM;have h3:=hl r oM;have ht:∀ j,LQ 42003 ((topq (outq ls (xss.getD r []) ls.length) (yss.getD r [])).getD j 0):=fun j=>lq_map oM (fun i=>(((hZq r oM i).sub (hYq r i)).mul (LQ.lit (z:=2) kD)).mono oM) j
    have h2:=LQ.dot (n:=(outq ls (xss.getD r []) ls.length).length) (fun i _=>ht i) (fun i _=>hT r oM i) _ (Nat.le_refl _);have h4:(outq ls (xss.getD r []) ls.length).length*(42003+90000+1)≤12*(42003+90000+1):=Nat.mul_le_mul_right _ h3;exact (h1.add h2).mono (bnd6 h4)
theorem nLoss (A:Option Addr)(cap:Nat)(ts:List LV)(ls:List Lay)(hn:ls.length≤1000000)(hZ:∀ i,LaySz (ls.getD i lay0))(X:Option Addr)(cX:Nat)(ux:List Value)(xss:List (List Rat))(Y:Option Addr)(cY:Nat)(uy:List Value)(yss:List (List Rat))(wx wy:Nat)(hDx:Drw xss wx)(hDy:Drw yss wy)(w:World)(h:Hp)(g:G w h)(hA:Sl A ts h)(hN:NetL h ts ls)(hX:Sv X ux h)(hU:QVs h ux xss)(hY:Sv Y uy h)(hV:QVs h uy yss)(tb:Tab h):CV 37 #[.agg #[.slice A ts.length cap],.slice X ux.length cX,.slice Y uy.length cY] w h (.tuple #[qv (lossv ls xss yss wx wy),iV (netE ls xss.length wx yss.length wy)]):=by
  by_cases he:netE ls xss.length wx yss.length wy=0
  · unfold lossv;rw[if_pos he,he]
    have hx:=netH hZ hDx he;exact nLoss0 A cap ts ls hn (fun i _=>(hZ i).len) X cX ux xss Y cY uy yss wx wy hDx.wd hDy.wd hDx.len (fun h1 i hi=>gNB hZ hDx h1 (hx i hi)) (fun h1 i hi=>gZq (chk_net3 h1) hZ (hx i hi) (hDx.lq i)) hDy.lq he w h g hA hN hX hU hY hV tb
  · unfold lossv;rw[if_neg he]
    exact nLossE A cap ts ls hn (fun i _=>(hZ i).len) X cX ux xss Y cY uy yss wx wy hDx.wd hDy.wd he w h g hA hN hX hU hY hV
theorem nGrad (A:Option Addr)(cap:Nat)(ts:List LV)(ls:List Lay)(hn:ls.length≤1000000)(hZ:∀ i,LaySz (ls.getD i lay0))(X:Option Addr)(cX:Nat)(ux:List Value)(xss:List (List Rat))(Y:Option Addr)(cY:Nat)(uy:List Value)(yss:List (List Rat))(wx wy:Nat)(hDx:Drw xss wx)(hDy:Drw yss wy)(w:World)(h:Hp)(g:G w h)(hA:Sl A ts h)(hN:NetL h ts ls)(hX:Sv X ux h)(hU:QVs h ux xss)(hY:Sv Y uy h)(hV:QVs h uy yss)(tb:Tab h):CR 36 #[.agg #[.slice A ts.length cap],.slice X ux.length cX,.slice Y uy.length cY] w h (fun v h1=>∃ A c,v=.tuple #[.slice A (gradv ls xss yss wx wy).length c,iV (netE ls xss.length wx yss.length wy)]∧(gradv ls xss yss wx wy).length≤c∧Sq A (gradv ls xss yss wx wy) h1):=by
  by_cases he:netE ls xss.length wx yss.length wy=0
  · unfold gradv;rw[if_pos he,he]
    have hx:=netH hZ hDx he;have h1:=(netE0 he).1;exact nGrad0 A cap ts ls hn (fun i _=>(hZ i).len) X cX ux xss Y cY uy yss wx wy hDx.wd hDy.wd (fun h1 k hk=>by have:=d4 (chk_net3 h1) hZ (k+1) hk;omega) (fun k i j=>(hZ k).w i j) hDx.len (fun h1 i hi=>gNB hZ hDx h1 (hx i hi)) (fun h1 i hi=>gZq (chk_net3 h1) hZ (hx i hi) (hDx.lq i)) hDy.lq (fun h1 i hi=>gGB (chk_net3 h1) hZ (hx i hi) (hDx.lq i) (hDy.lq i)) he w h g hA hN hX hU hY hV tb
  · unfold gradv;rw[if_neg he]
    refine (nGradE A cap ts ls hn (fun i _=>(hZ i).len) X cX ux xss Y cY uy yss wx wy hDx.wd hDy.wd he w h g hA hN hX hU hY hV).mono ?_;rintro _ w' ⟨_,h',rfl,u,rfl⟩;exact ⟨_,h',rfl,u,none,0,rfl,nR _,SlO.nil⟩
theorem outD {ls:List Lay}(hZ:∀ i,LaySz (ls.getD i lay0)){xss yss:List (List Rat)}{wx wy:Nat}(hDx:Drw xss wx)(he:netE ls xss.length wx yss.length wy=0):∀ i,i<xss.length→(outq ls (xss.getD i []) ls.length).length≤12:=fun i hi=>by
  rw[outq_len (chk_net3 (netE0 he).1) (netH hZ hDx he i hi) _ (Nat.le_refl _)];have:=d4 (chk_net3 (netE0 he).1) hZ ls.length (Nat.le_refl _)
  omega
theorem lossv_lq {ls:List Lay}(hZ:∀ i,LaySz (ls.getD i lay0)){xss yss:List (List Rat)}{wx wy:Nat}(hDx:Drw xss wx)(hDy:Drw yss wy):LQ 10000000 (lossv ls xss yss wx wy):=by
  unfold lossv
  split
  · rename_i he
    have hx:=netH hZ hDx he;have h1:=(netE0 he).1;exact (lossq_lq (fun i hi=>gZq (chk_net3 h1) hZ (hx i hi) (hDx.lq i)) (outD hZ hDx he) hDy.lq xss.length (Nat.le_refl _)).mono (by have:=hDx.len;omega)
  · exact lq0 oM
theorem gradv_lq {ls:List Lay}(hZ:∀ i,LaySz (ls.getD i lay0)){xss yss:List (List Rat)}{wx wy:Nat}(hDx:Drw xss wx)(hDy:Drw yss wy)(j:Nat):LQ 10000000 ((gradv ls xss yss wx wy).getD j 0):=by
  unfold gradv
  split
  · rename_i he
    have hx:=netH hZ hDx he;have h1:=(netE0 he).1;exact lq_map oM (fun p=>(gradP_lq (fun i hi=>gZq (chk_net3 h1) hZ (hx i hi) (hDx.lq i)) (outD hZ hDx he) hDy.lq p (fun i hi=>gTB (chk_net3 h1) hZ (hx i hi) (hDx.lq i) p _ (Nat.le_refl _)) xss.length (Nat.le_refl _)).mono (by have:=hDx.len;omega)) j
  · exact lq0 oM
def toO (s:Stp):OSt:=⟨s.op,s.a,s.b,s.n,s.q,decide (s.op=1)⟩
structure RTp (h:Hp) (tr:List RSt) (tl:List Stp):Prop where
  s:RSs h tr (tl.map toO)
section calls
variable {w0:World} {h0:Hp} {B2:List Bx} {R2:List Rw} {F2:List (Hp→Prop)} {w:World} {h:Hp}
end calls
section laws
variable {M:Ms} {P:Program} {ops:Array Oper} {Q:Exit→Act→World→Prop} {k0:Nat}
end laws
section steps
variable {M:Ms} {P:Program} {n:Nat} {N R:Po} {X:Nat→Po} {ops:Array Oper} {k0:Nat} {hr:Hp} {AL:List Al} {L:Array Bool} {Γ:Env} {w:World} {h:Hp}
variable {w0:World} {h0:Hp} {B:List Bx} {Rs:List Rw} {F:List (Hp→Prop)}
end steps
section par
variable {M:Ms} {P:Program} {n:Nat} {N R:Po} {X:Nat→Po} {ops:Array Oper} {k0:Nat} {hr:Hp} {AL:List Al} {L:Array Bool} {Γ:Env} {w:World} {h:Hp}
theorem lookup_put {Γ:Env}{s t:Nat}{v:Value}(hn:Γ.lookup s=none)(h:s≠t):List.lookup s ((t,v)::Γ)=none:=by
  rw[List.lookup_cons];have e':(s == t)=false:=by simp[h]
  rw[e'];exact hn
end par
section alaws
variable {M:Ms} {P:Program} {ops:Array Oper} {Q:Exit→Act→World→Prop}
theorem A.of1 {L:Array Bool}{a:Act}{w:World}{i:Nat}(hi:i<ops.size)(hz:M.z=none)(hr:Region.ready .any ops L=[i])(h:OpR P ops (opAt ops i) a w (fun v w'=>A M P ops Q 0 (L.setIfInBounds i true) (a.put (opAt ops i).dst v) w')):A M P ops Q 0 L a w:=by
  refine A.intro (fun h0=>by rw[hr] at h0;cases h0) (fun j hj=>?_);rw[hr,List.mem_singleton] at hj
  subst hj;exact OpR.wpOp (opAt_get hi) h (fun v w' hq=>⟨Rl.tl (Nat.zero_le _) (Tl.none hz _ _),hq⟩)
theorem A.of2 {L:Array Bool}{a:Act}{w:World}{i j:Nat}(hi:i<ops.size)(hj:j<ops.size)(hz:M.z=none)(hr:Region.ready .any ops L=[i,j])(h:OpR P ops (opAt ops i) a w (fun v w'=>A M P ops Q 0 (L.setIfInBounds i true) (a.put (opAt ops i).dst v) w'))
    (h2:OpR P ops (opAt ops j) a w (fun v w'=>A M P ops Q 0 (L.setIfInBounds j true) (a.put (opAt ops j).dst v) w')):A M P ops Q 0 L a w:=by
  refine A.intro (fun h0=>by rw[hr] at h0;cases h0) (fun k hk=>?_);rw[hr] at hk
  rcases List.mem_cons.1 hk with rfl|hk
  · exact OpR.wpOp (opAt_get hi) h (fun v w' hq=>⟨Rl.tl (Nat.zero_le _) (Tl.none hz _ _),hq⟩)
  · rw[List.mem_singleton] at hk
    subst hk;exact OpR.wpOp (opAt_get hj) h2 (fun v w' hq=>⟨Rl.tl (Nat.zero_le _) (Tl.none hz _ _),hq⟩)
end alaws
section kn
variable {n:Nat} {Γ:Env}
theorem Kn.opv {P:Program}{ops:Array Oper}{i t:Nat}{v:Value}{w w':World}{a:Act}{K:Act→World→Prop}(k:Kn n a Γ)(hi:i<ops.size)(hs:Region.noSelect ops=true)(hw:wantE ops Γ (opAt ops i)=some true)(hk:knownOp Γ (opAt ops i)=true)(hd:(opAt ops i).dst=some t)(hr:(execOp (ev Γ) (opAt ops i)).run P w=.ok (.value v) w')
    (H:K (a.put (some t) v) w'):OpR P ops (opAt ops i) a w (fun u w1=>K (a.put (opAt ops i).dst u) w1):=by
  refine ⟨k.want hw,?_⟩;rw[k.exec (Region.noSelect_spec hs i _ · · (opAt_get hi)) hk,hd];exact .inl ⟨v,w',hr,H⟩
theorem Kn.deep {a:Act}{t:Nat}{v:Value}:∀ (D:Env),D.lookup t=none→Kn n a ((t,v)::(D++Γ))→Kn n a (D++(t,v)::Γ):=by
  intro D hD k;refine k.mono fun s u hu=>?_
  rw[List.lookup_append] at hu
  rw[List.lookup_cons]
  by_cases e:s=t
  · subst e
    rw[hD,List.lookup_cons] at hu
    simpa using hu
  · have e':(s == t)=false:=by simp[e]
    rw[List.lookup_cons,e'] at hu
    rw[e',List.lookup_append];exact hu
theorem Kn.less {a:Act}{t:Nat}{v:Value}(D:Env)(hΓ:Γ.lookup t=none)(k:Kn n a (D++(t,v)::Γ)):Kn n a (D++Γ):=by
  refine k.mono fun s u hu=>?_
  rw[List.lookup_append] at hu ⊢
  cases hd:D.lookup s with
  | some x=>rw[hd] at hu;exact hu
  | none =>
    rw[hd] at hu
    have hu':List.lookup s Γ=some u:=by simpa using hu
    have e:s≠t:=fun e=>by subst e;rw[hΓ] at hu';cases hu'
    have e':(s == t)=false:=by simp[e]
    show (none:Option Value).or _=_
    rw[List.lookup_cons,e']
    simpa using hu'
theorem lookup_ne {s t:Nat}{x:Value}(h:s≠t):List.lookup s ((t,x)::Γ)=List.lookup s Γ:=by
  rw[List.lookup_cons];have e':(s == t)=false:=by simp[h]
  rw[e']
end kn
section race
variable {M:Ms} {P:Program} {n:Nat} {N R:Po} {X:Nat→Po} {ops:Array Oper} {L:Array Bool} {Γ:Env} {w:World}
def chkRace (n:Nat)(ops:Array Oper)(L:Array Bool)(Γ:Env)(y:Value)(i t j1 t1 j2 t2 j3 t3:Nat):Bool :=
  let s:=fun (L:Array Bool) (i:Nat)=>L.setIfInBounds i true
  decide (i<ops.size) && decide (j1<ops.size) && decide (j2<ops.size) && decide (j3<ops.size) && Region.noSelect ops &&
  (Region.ready .any ops L == [i,j1]) && (Region.ready .any ops (s L i) == [j1]) && (Region.ready .any ops (s (s L i) j1) == [j2]) && (Region.ready .any ops (s (s (s L i) j1) j2) == [j3]) &&
  (Region.ready .any ops (s L j1) == [i,j2]) && (Region.ready .any ops (s (s L j1) j2) == [i,j3]) && (Region.ready .any ops (s (s (s L j1) j2) j3) == [i]) &&
  ((opAt ops i).dst == some t) && ((opAt ops j1).dst == some t1) && ((opAt ops j2).dst == some t2) && ((opAt ops j3).dst == some t3) && decide (t<n) && decide (t1<n) && decide (t2<n) && decide (t3<n) &&
  knownOp Γ (opAt ops i) && knownOp Γ (opAt ops j1) && knownOp ((t1,y)::Γ) (opAt ops j2) && (wantE ops Γ (opAt ops i) == some true) && (wantE ops Γ (opAt ops j1) == some true) && (wantE ops ((t1,y)::Γ) (opAt ops j2) == some true) &&
  (Γ.lookup t).isNone && (t != t1) && (t != t2) && (t != t3) && (i != j1) && (i != j2) && (i != j3) && (opAt ops i).guard.isNone && (opAt ops j1).guard.isNone && (opAt ops j2).guard.isNone && (opAt ops j3).guard.isNone && (Γ.lookup t1).isNone && (Γ.lookup t2).isNone && (Γ.lookup t3).isNone
theorem wantE_none {Γ:Env}{o:Oper}(h:o.guard.isNone=true):wantE ops Γ o=some true:=by
  unfold wantE
  rw[Option.isNone_iff_eq_none.1 h]
theorem zRace {f:FuncId}{args:Array Value}{Φ:Value→World→Hp→Prop}(i t j1 t1 j2 t2 j3 t3 rb off:Nat)(v y:Value)(ty:TypeId)(c:Calls P f args w (RetS Φ))(hv:w.cell? ⟨rb,off,none⟩=some v)(hv2:∀ u w' h',Φ u w' h'→w'.cell? ⟨rb,off,none⟩=some v∧G w' h'∧∃ z,u=.int .i64 z)
    {h:Hp}{b0 o0:Nat}{cs:List Value}(y0:Value)(g:G w h)(sg:Seg h b0 o0 cs)(ey:y0=y)
    (H:∀ u w' h',Φ u w' h'→∀ b w'' h'',Up w' h' w'' h''→Seg h'' b 0 [u]→AG M P n N R X ops 0 ((((L.setIfInBounds i true).setIfInBounds j1 true).setIfInBounds j2 true).setIfInBounds j3 true) ((t3,.slice (some ⟨b,0,none⟩) 1 1)::(t2,u)::(t1,y)::(t,v)::Γ) w'')
    (hy0:evalL P (execOp (ev Γ) (opAt ops j1)) cs=some (.value y0,mka b0 o0 cs.length):=by kernel_rfl)(hc:chkRace n ops L Γ y i t j1 t1 j2 t2 j3 t3=true:=by kernel_rfl)(he:∀ v,evalL P (execOp (ev Γ) (opAt ops i)) [v]=some (.value v,[⟨rb,off,none⟩]):=by intro _;kernel_rfl)(hr:(execOp (ev ((t1,y)::Γ)) (opAt ops j2)).run P w=.ok (.enter f args) w:=by kernel_rfl)
    (hk3:∀ u,knownOp ((t2,u)::(t1,y)::Γ) (opAt ops j3)=true:=by intro _;kernel_rfl)(h3:∀ z w',(execOp (ev ((t2,.int .i64 z)::(t1,y)::Γ)) (opAt ops j3)).run P w'=.ok (.value (.slice (some ⟨w'.heap.size,0,none⟩) 1 1)) (w'.alloc (.cells #[.int .i64 z] ty (0,0))):=by intro _ _;kernel_rfl)(hz:M.z=none:=by rfl):AG M P n N R X ops 0 L Γ w:=by
  unfold chkRace at hc
  simp only[Bool.and_eq_true,decide_eq_true_eq,beq_iff_eq,bne_iff_ne,ne_eq,Option.isNone_iff_eq_none] at hc
  obtain ⟨⟨⟨⟨⟨⟨⟨⟨⟨⟨⟨⟨⟨⟨⟨⟨⟨⟨⟨⟨⟨⟨⟨⟨⟨⟨⟨⟨⟨⟨⟨⟨⟨⟨⟨⟨⟨⟨⟨c1,c2⟩,c3⟩,c4⟩,cs⟩,r0⟩,r1⟩,r2⟩,r3⟩,s1⟩,s2⟩,s3⟩,d0⟩,d1⟩,d2⟩,d3⟩,n0⟩,n1⟩,n2⟩,n3⟩,k0⟩,k1⟩,k2⟩,-⟩,-⟩,-⟩,ht⟩,e1⟩,e2⟩,e3⟩,i1⟩,i2⟩,i3⟩,g0⟩,g1⟩,g2⟩,g3⟩,ht1⟩,ht2⟩,ht3⟩:=hc;have hy:(execOp (ev Γ) (opAt ops j1)).run P w=.ok (.value y) w:=ey▸Seg.run sg g (Ext.refl _) hy0
  have h3':∀ u w' h',Φ u w' h'→(execOp (ev ((t2,u)::(t1,y)::Γ)) (opAt ops j3)).run P w'=.ok (.value (.slice (some ⟨w'.heap.size,0,none⟩) 1 1)) (w'.alloc (.cells #[u] ty (0,0))):=fun u w' h' hq=>by
    obtain ⟨z,rfl⟩:=(hv2 u w' h' hq).2.2;exact h3 z w'
  have wn:∀ {j:Nat} {Γ:Env},(opAt ops j).guard=none→wantE ops Γ (opAt ops j)=some true:=fun h=>wantE_none (by rw[h];rfl)
  -- the load,wherever it comes
  have ld:∀ w',w'.cell? ⟨rb,off,none⟩=some v→(execOp (ev Γ) (opAt ops i)).run P w'=.ok (.value v) w':=fun w' h=>evalL_run _ _ _ _ (he v) (fun q a u ha hu=>by
    match q with
    | 0=>simp at ha hu;subst ha hu;exact h
    | q+1=>simp at ha)
  have al:∀ u w' h',Φ u w' h'→(w'.alloc (.cells #[u] ty (0,0))).cell? ⟨rb,off,none⟩=some v:=fun u w' h' hq=>by
    have h1:=(hv2 u w' h' hq).1
    unfold World.cell? at h1 ⊢
    rw[heap_alloc]
    have hlt:rb<w'.heap.size:=by
      rcases Nat.lt_or_ge rb w'.heap.size with hl|hl
      · exact hl
      · simp only[Array.getElem?_eq_none hl] at h1;cases h1
    simp only[Array.getElem?_push_lt hlt]
    simp only[Array.getElem?_eq_getElem hlt] at h1
    exact h1
  have H4:∀ u w' h',Φ u w' h'→AG M P n N R X ops 0 ((((L.setIfInBounds i true).setIfInBounds j1 true).setIfInBounds j2 true).setIfInBounds j3 true) ((t3,.slice (some ⟨w'.heap.size,0,none⟩) 1 1)::(t2,u)::(t1,y)::(t,v)::Γ) (w'.alloc (.cells #[u] ty (0,0))):=fun u w' h' hq =>
    H u w' h' hq _ _ _ (Up.allocAny (hv2 u w' h' hq).2.1 _ _ (.inl rfl)) (by rw[(hv2 u w' h' hq).2.1.size];exact Seg.new [u] ty)
  have D3:∀ u w' h',Φ u w' h'→∀ a,Kn n a ((t2,u)::(t1,y)::(t,v)::Γ)→A M P ops (mkQ N R X) 0 (((L.setIfInBounds i true).setIfInBounds j1 true).setIfInBounds j2 true) a w':=fun u w' h' hq a ka =>
    A.of1 c4 hz r3 ((ka.less (D:=[(t2,u),(t1,y)]) ht).opv c4 cs (wn g3) (hk3 u) d3 (h3' u w' h' hq) (K:=fun a w=>A M P ops (mkQ N R X) 0 _ a w) (H4 u w' h' hq _ (ka.put n3 _)))
  have D2:∀ a,Kn n a ((t1,y)::(t,v)::Γ)→A M P ops (mkQ N R X) 0 ((L.setIfInBounds i true).setIfInBounds j1 true) a w:=fun a ka=>by
    refine A.of1 c3 hz r2 ⟨ka.want (wn g2),?_⟩;rw[(ka.less (D:=[(t1,y)]) ht).exec (Region.noSelect_spec cs j2 _ · · (opAt_get c3)) k2,d2];exact .inr (.inr ⟨f,args,hr,c.mono fun e w' ⟨u,h',he,hq⟩=>⟨u,he,D3 u w' h' hq _ (ka.put n2 _)⟩⟩)
  have D1:∀ a,Kn n a ((t,v)::Γ)→A M P ops (mkQ N R X) 0 (L.setIfInBounds i true) a w:=fun a ka =>
    A.of1 c2 hz r1 ((ka.less (D:=[]) ht).opv c2 cs (wn g1) k1 d1 hy (K:=fun a w=>A M P ops (mkQ N R X) 0 _ a w) (D2 _ (ka.put n1 _)))
  have cm:∀ (L:Array Bool) {x y:Nat},x≠y→(L.setIfInBounds x true).setIfInBounds y true=(L.setIfInBounds y true).setIfInBounds x true:=fun L x y h=>Array.setIfInBounds_comm _ _ h
  have lk:∀ {s:Nat} {x:Value} {D:Env},t≠s→D.lookup t=none→List.lookup t ((s,x)::D)=none:=fun hs hD=>lookup_put hD hs
  have U3:∀ u w' h',Φ u w' h'→∀ a,Kn n a ((t3,.slice (some ⟨w'.heap.size,0,none⟩) 1 1)::(t2,u)::(t1,y)::Γ)→A M P ops (mkQ N R X) 0 (((L.setIfInBounds j1 true).setIfInBounds j2 true).setIfInBounds j3 true) a (w'.alloc (.cells #[u] ty (0,0))):=fun u w' h' hq a ka=>by
    refine A.of1 c1 hz s3 ((ka.mono (Γ':=Γ) fun s x hx=>?_).opv c1 cs (wn g0) k0 d0 (ld _ (al u w' h' hq)) (K:=fun a w=>A M P ops (mkQ N R X) 0 _ a w) ?_)
    · have h1:s≠t1:=fun e=>by subst e;rw[ht1] at hx;cases hx
      have h2:s≠t2:=fun e=>by subst e;rw[ht2] at hx;cases hx
      have h3:s≠t3:=fun e=>by subst e;rw[ht3] at hx;cases hx
      rw[lookup_ne h3,lookup_ne h2,lookup_ne h1];exact hx
    · have k:=Kn.deep (D:=[(t3,.slice (some ⟨w'.heap.size,0,none⟩) 1 1),(t2,u),(t1,y)]) (lk e3 (lk e2 (lk e1 rfl))) (ka.put n0 v)
      have:=H4 u w' h' hq _ k;rw[cm _ (Ne.symm i3),cm _ (Ne.symm i2),cm _ (Ne.symm i1)];exact this
  have U2:∀ u w' h',Φ u w' h'→∀ a,Kn n a ((t2,u)::(t1,y)::Γ)→A M P ops (mkQ N R X) 0 ((L.setIfInBounds j1 true).setIfInBounds j2 true) a w':=fun u w' h' hq a ka=>by
    refine A.of2 c1 c4 hz s2 ((ka.mono (Γ':=Γ) fun s x hx=>?_).opv c1 cs (wn g0) k0 d0 (ld _ (hv2 u w' h' hq).1) (K:=fun a w=>A M P ops (mkQ N R X) 0 _ a w) ?_) (ka.opv c4 cs (wn g3) (hk3 u) d3 (h3' u w' h' hq) (K:=fun a w=>A M P ops (mkQ N R X) 0 _ a w) (U3 u w' h' hq _ (ka.put n3 _)))
    · have h1:s≠t1:=fun e=>by subst e;rw[ht1] at hx;cases hx
      have h2:s≠t2:=fun e=>by subst e;rw[ht2] at hx;cases hx
      rw[lookup_ne h2,lookup_ne h1];exact hx
    · have k:=Kn.deep (D:=[(t2,u),(t1,y)]) (lk e2 (lk e1 rfl)) (ka.put n0 v)
      have:=D3 u w' h' hq _ k;rw[cm _ (Ne.symm i2),cm _ (Ne.symm i1)];exact this
  have U1:∀ a,Kn n a ((t1,y)::Γ)→A M P ops (mkQ N R X) 0 (L.setIfInBounds j1 true) a w:=fun a ka=>by
    refine A.of2 c1 c3 hz s1 ((ka.mono (Γ':=Γ) fun s x hx=>?_).opv c1 cs (wn g0) k0 d0 (ld _ hv) (K:=fun a w=>A M P ops (mkQ N R X) 0 _ a w) ?_) ⟨ka.want (wn g2),?_⟩
    · have h1:s≠t1:=fun e=>by subst e;rw[ht1] at hx;cases hx
      rw[lookup_ne h1];exact hx
    · have k:=Kn.deep (D:=[(t1,y)]) (lk e1 rfl) (ka.put n0 v)
      have:=D2 _ k;rw[cm _ (Ne.symm i1)];exact this
    · rw[ka.exec (Region.noSelect_spec cs j2 _ · · (opAt_get c3)) k2,d2]
      exact .inr (.inr ⟨f,args,hr,c.mono fun e w' ⟨u,h',he,hq⟩=>⟨u,he,U2 u w' h' hq _ (ka.put n2 _)⟩⟩)
  exact fun a ka=>A.of2 c1 c2 hz r0 (ka.opv c1 cs (wn g0) k0 d0 (ld _ hv) (K:=fun a w=>A M P ops (mkQ N R X) 0 _ a w) (D1 _ (ka.put n0 _))) (ka.opv c2 cs (wn g1) k1 d1 hy (K:=fun a w=>A M P ops (mkQ N R X) 0 _ a w) (U1 _ (ka.put n1 _)))
theorem zX (i t:Nat)(A:Option Addr)(len cap sz:Nat)(x:Int)(j:Nat)(hA:A=some ⟨aB A,aO A,none⟩)(H:AG M P n N R X ops 0 (L.setIfInBounds i true) ((t,.pointer (some ⟨aB A,aO A+j*sz,none⟩))::Γ) w)(hc:chkZ n ops L Γ i t=true:=by kernel_rfl)(he:ixE P (ev Γ) (opAt ops i)=some (.slice A len cap,.int .i64 x,sz):=by kernel_rfl)(hk:x=j:=by omega)(hlt:j<len:=by omega):AG M P n N R X ops 0 L Γ w :=
  zV i t _ H hc (fun w=>ixE_run he hA hk hlt w)
end race
theorem nNumbersL {w0:World}{h0:Hp}{B2:List Bx}{R2:List Rw}{F2:List (Hp→Prop)}(rb:Nat)(inp:Int)(A:Option Addr)(c:Nat)(l:List Stp)(ov:Value)(xs:List Rat)(X:Option Addr)(cX:Nat)(hl:l.length+xs.length≤1000000)(w:World)(h:Hp)(g:G w h)(hX:Sq X xs h)(hs:SS w0 h0 w h (⟨rb,140,[iV inp,.slice A (l).length c,ov]⟩::B2) (⟨110,9,A,c,(l).length,(l).flatMap stc⟩::R2) F2):Calls Tryz.prog 75 #[pB rb,.slice X xs.length cX] w (RetS fun v w1 h1=>∃ A1 c1 N cN,v=.slice N (ixS l xs.length).length cN∧Si N (ixS l xs.length) h1∧SS w0 h0 w1 h1 (⟨rb,140,[iV inp,.slice A1 (l++xs.map numT).length c1,ov]⟩::B2) (⟨110,9,A1,c1,(l++xs.map numT).length,(l++xs.map numT).flatMap stc⟩::R2) F2):=by
  rw[ixS_len];exact nNumbers rb inp A c l ov xs X cX hl w h g hX hs
theorem nLayerL {w0:World}{h0:Hp}{B2:List Bx}{R2:List Rw}{F2:List (Hp→Prop)}(rb:Nat)(inp:Int)(A:Option Addr)(c:Nat)(l:List Stp)(ov:Value)(kd:Int)(AW:Option Addr)(us:List Value)(cW:Nat)(Ws:List (List Rat))(BV:Value)(fr R C:Nat)(ix:List Int)(N:Option Addr)(cN:Nat)(hR:us.length=R)(hR2:R≤1000)(hC2:C≤1000)(hfr:fr≤1000000)(hWs:Ws.length=R)(hC:∀ i,i<R→(Ws.getD i []).length=C)(hix:C≤ix.length)(hl:l.length+R*(2*C+1)≤1000000)(w:World)(h:Hp)(g:G w h)(hA:Sv AW us h)(hU:QVs h us Ws)(hN:Si N ix h)(hs:SS w0 h0 w h (⟨rb,140,[iV inp,.slice A (l).length c,ov]⟩::B2) (⟨110,9,A,c,(l).length,(l).flatMap stc⟩::R2) F2):Calls Tryz.prog 76 #[pB rb,.agg #[iV kd,.slice AW us.length cW,BV],nV fr,.slice N ix.length cN] w (RetS fun v w1 h1=>∃ A1 c1 M cM,v=.slice M (layS fr R C kd ix l R).2.length cM∧Si M (layS fr R C kd ix l R).2 h1∧SS w0 h0 w1 h1 (⟨rb,140,[iV inp,.slice A1 ((layS fr R C kd ix l R).1).length c1,ov]⟩::B2) (⟨110,9,A1,c1,((layS fr R C kd ix l R).1).length,((layS fr R C kd ix l R).1).flatMap stc⟩::R2) F2):=by
  rw[layS_outs];exact nLayer rb inp A c l ov kd AW us cW Ws BV fr R C ix N cN hR hR2 hC2 hfr hWs hC hix hl w h g hA hU hN hs
section
variable {ls:List Lay} {d:Nat→Nat} {xss yss:List (List Rat)} {r:Nat} {tl:List Stp} (h:tl=(tpS ls d xss yss r).1)
include h
theorem tpS_r:(tpS ls d xss yss (r+1)).1=(rwS ls d (xss.getD r []) (yss.getD r []) tl).1:=by rw[h];rfl
theorem tpS_o:(tpS ls d xss yss (r+1)).2=(tpS ls d xss yss r).2++[(rwS ls d (xss.getD r []) (yss.getD r []) tl).2]:=by rw[h];rfl
end
theorem nTapeE (A:Option Addr)(cap:Nat)(ts:List LV)(ls:List Lay)(hn:ls.length≤1000000)(hF:∀ i,i<ls.length→LayLen (ls.getD i lay0))(X:Option Addr)(cX:Nat)(ux:List Value)(xss:List (List Rat))(Y:Option Addr)(cY:Nat)(uy:List Value)(yss:List (List Rat))(wx wy:Nat)(hxw:∀ i,i<xss.length→(xss.getD i []).length=wx)(hyw:∀ i,i<yss.length→(yss.getD i []).length=wy)(he:netE ls xss.length wx yss.length wy≠0)(w:World)(h:Hp)(g:G w h)(hA:Sl A ts h)(hN:NetL h ts ls)(hX:Sv X ux h)(hU:QVs h ux xss)(hY:Sv Y uy h)(hV:QVs h uy yss):CV 28 #[.agg #[.slice A ts.length cap],.slice X ux.length cX,.slice Y uy.length cY] w h (.tuple #[.agg #[iV 0,sZ,sZ],iV (netE ls xss.length wx yss.length wy)]):=by
 have hs:=(((((((sS g).aS hA).aN hN).aS hX).aQ hU).aS hY).aQ hV);refine go Tryz.func28 [(0,.agg #[qS A ts.length cap]),(1,qS X ux.length cX),(2,qS Y uy.length cY)] rfl (cSL (lA 3 74 ([qS A ts.length cap]) hs (fun b1 w2 h3 hs=>lA 6 36 ([iV 0,sZ,sZ]) hs (fun b4 w5 h6 hs=>lL hs [.v 7 (iV 0)] (lN (cQ (cSL (lL hs [.o 17 (.agg #[qS A ts.length cap]) 1 0 1,.m 18 1,.m 19 2] (lC 20 hs (nRefused A cap ts ls hn hF X cX ux xss Y cY uy yss wx wy hxw hyw _ _ hs.g hs.f.q.2.1 hs.f.q.1 hs.f.r.2.1 hs.f.r.1 hs.f.2.1 hs.f.1) ?_)))))))));rintro _ w7 h8 hs rfl;refine lL hs [.m 8 20] (lNS (lL hs [.m 21 8] ?_));have hb9:((netE ls xss.length wx yss.length wy:Int) != (0:Int))=true:=bneT he;have phb9:=neOfBne hb9;exact lB 22 hb9 (lN (cIT (cSL (lL hs [.v 23 (.agg #[iV 0,sZ,sZ]),.m 24 8] (lP 0 0 ([iV 0,sZ,sZ]) hs (fun _ hs=>lL hs [.m 7 24] (lN (kX (hs.ret [(0,0,3)] (.tuple #[.agg #[iV 0,sZ,sZ],iV (netE ls xss.length wx yss.length wy)]) rfl)))))))))
theorem nTape0 (A:Option Addr)(cap:Nat)(ts:List LV)(ls:List Lay)(hn:ls.length≤1000000)(hF:∀ i,i<ls.length→LayLen (ls.getD i lay0))(X:Option Addr)(cX:Nat)(ux:List Value)(xss:List (List Rat))(Y:Option Addr)(cY:Nat)(uy:List Value)(yss:List (List Rat))(wx wy:Nat)(hxw:∀ i,i<xss.length→(xss.getD i []).length=wx)(hyw:∀ i,i<yss.length→(yss.getD i []).length=wy)(hr4:xss.length≤4)(hqx:∀ i j,LQ 1 ((xss.getD i []).getD j 0))(hqy:∀ i j,LQ 1 ((yss.getD i []).getD j 0))(he:netE ls xss.length wx yss.length wy=0)(w:World)(h:Hp)(g:G w h)(hA:Sl A ts h)(hN:NetL h ts ls)(hX:Sv X ux h)(hU:QVs h ux xss)(hY:Sv Y uy h)(hV:QVs h uy yss):CR 28 #[.agg #[.slice A ts.length cap],.slice X ux.length cX,.slice Y uy.length cY] w h (fun v h1=>∃ A c O e,v=.tuple #[.agg #[iV (tpN (chkTp ((flatq ls).length:Nat) (tpS ls (dOf ls) xss yss xss.length).1 (tpS ls (dOf ls) xss yss xss.length).2) (flatq ls).length),.slice A (tpL (chkTp ((flatq ls).length:Nat) (tpS ls (dOf ls) xss yss xss.length).1 (tpS ls (dOf ls) xss yss xss.length).2) (tpS ls (dOf ls) xss yss xss.length).1).length c,.slice O (tpL (chkTp ((flatq ls).length:Nat) (tpS ls (dOf ls) xss yss xss.length).1 (tpS ls (dOf ls) xss yss xss.length).2) (tpS ls (dOf ls) xss yss xss.length).2).length e],iV (chkTp ((flatq ls).length:Nat) (tpS ls (dOf ls) xss yss xss.length).1 (tpS ls (dOf ls) xss yss xss.length).2)]∧(tpL (chkTp ((flatq ls).length:Nat) (tpS ls (dOf ls) xss yss xss.length).1 (tpS ls (dOf ls) xss yss xss.length).2) (tpS ls (dOf ls) xss yss xss.length).1).length≤c∧(tpL (chkTp ((flatq ls).length:Nat) (tpS ls (dOf ls) xss yss xss.length).1 (tpS ls (dOf ls) xss yss xss.length).2) (tpS ls (dOf ls) xss yss xss.length).2).length≤e∧SlO 9 stc stp0 h1 A (tpL (chkTp ((flatq ls).length:Nat) (tpS ls (dOf ls) xss yss xss.length).1 (tpS ls (dOf ls) xss yss xss.length).2) (tpS ls (dOf ls) xss yss xss.length).1)∧Si O (tpL (chkTp ((flatq ls).length:Nat) (tpS ls (dOf ls) xss yss xss.length).1 (tpS ls (dOf ls) xss yss xss.length).2) (tpS ls (dOf ls) xss yss xss.length).2) h1):=by
 have hs:=(((((((sS g).aS hA).aN hN).aS hX).aQ hU).aS hY).aQ hV);have hO:=chk_net3 (netE0 he).1;have hl:=(hs.f.q.1).len;obtain ⟨o1,o2⟩:=hO.len;have o3:=hO.first;have hux:=(hs.f.r.1).len;have huy:=(hs.f.1).len;have hyx:=(netE0 he).2.2.1;have hxd:∀ i,i<xss.length→(xss.getD i []).length=dOf ls 0:=fun i hi=>by rw[hxw i hi];exact (netE0 he).2.2.2.1
 have hyd:∀ i,i<xss.length→(yss.getD i []).length=dOf ls ls.length:=fun i hi=>by rw[hyw i oM];exact (netE0 he).2.2.2.2
 have hfq:=flatq_len hO ls.length (nR _);rw[List.take_length] at hfq
 have hsl:=hO.d12 (k:=ls.length-1) oM;rw[show ls.length-1+1=ls.length by omega] at hsl
 refine go Tryz.func28 [(0,.agg #[qS A ts.length cap]),(1,qS X ux.length cX),(2,qS Y uy.length cY)] rfl (cSL (lA 3 74 ([qS A ts.length cap]) hs (fun b1 w2 h3 hs=>lA 6 36 ([iV 0,sZ,sZ]) hs (fun b4 w5 h6 hs=>lL hs [.v 7 (iV 0)] (lN (cQ (cSL (lL hs [.o 17 (.agg #[qS A ts.length cap]) 1 0 1,.m 18 1,.m 19 2] (lC 20 hs (nRefused A cap ts ls hn hF X cX ux xss Y cY uy yss wx wy hxw hyw _ _ hs.g hs.f.q.2.1 hs.f.q.1 hs.f.r.2.1 hs.f.r.1 hs.f.2.1 hs.f.1) ?_)))))))));rintro _ w7 h8 hs rfl;refine lL hs [.m 8 20] (lNS (lL hs [.m 21 8] ?_));have hb9:((netE ls xss.length wx yss.length wy:Int) != (0:Int))=false:=bneF' he;have phb9:=eqOfBne hb9;refine lB 22 hb9 (lN (cIF (cK (cSL (lL hs [.v 25 (.agg #[iV 0,sZ,sZ])] (lA 26 140 ([iV 0,sZ,sZ]) hs (fun za _ _ hs=>lL hs [.m 9 26] (lNS (lL hs [.m 27 9,.o 28 (.agg #[qS A ts.length cap]) 2 0 1] (lC 29 hs (nflat A cap ts ls (dOf ls) hO _ _ hs.g hs.f.q.2.1 hs.f.q.1) ?_))))))))));rintro _ _ zA hs ⟨Aq,cq,rfl,hcq,hAq⟩;replace hs:=hs.aS hAq;refine lL hs [.v 30 (nV ((flatq ls).length)),.v 31 (pB za),.v 32 (pB za),.v 33 (pB za)] (lP 0 0 ([nV ((flatq ls).length)]) hs (fun _ hs=>lN (cQ (cSL (lL hs [.m 34 9,.v 35 (pB za),.v 36 (pB za),.v 37 (pB za),.o 38 (nV ((flatq ls).length)) 0 0 1,.v 39 (iV 0)] (lN (kZ ?_)))))));replace hs:=hs.nil 110 9;refine cTo [(1,qS X ux.length cX),(2,qS Y uy.length cY),(3,pB b1),(6,pB b4),(7,iV 0),(9,pB za),(38,nV ((flatq ls).length)),(39,iV 0)] ?_;refine CG.loop (fun μ_ Γ w_=>∃ (i:Nat) (srA:Option Addr) (src:Nat) (tl:List Stp) (h_:Hp),μ_=(flatq ls).length-i∧Γ=[(1,qS X ux.length cX),(2,qS Y uy.length cY),(3,pB b1),(6,pB b4),(7,iV 0),(9,pB za),(38,nV ((flatq ls).length)),(39,nV i)]∧SS w h w_ h_ [⟨za,140,[nV ((flatq ls).length),qS srA ((tl).length) src,sZ]⟩,⟨b4,36,[iV 0,sZ,sZ]⟩,⟨b1,74,[qS A ts.length cap]⟩] [⟨110,9,srA,src,(tl).length,(tl).flatMap stc⟩] [Sq Aq (flatq ls),Qu uy yss,Sv Y uy,Qu ux xss,Sv X ux,Nn ts ls,Sl A ts]∧i≤(flatq ls).length∧tl=(List.range i).map nmT) _ ⟨0,none,0,[],zA,rfl,rfl,hs.to _ _,Nat.zero_le _,rfl⟩ ?_;rintro _ _ _ ⟨i,srA,src,tl,zB,hm18,rfl,hs,hi,htl⟩;have hll:tl.length=i:=by rw[htl];simp
 refine cSL ?_;cases zc:(decide ((i:Int)<(((flatq ls).length:Nat):Int)))
 ·
  have zp:=oF zc;refine lB 40 zc (lN (cQ (cIF (CG.exit ?_))))
  show CG _ _ _ _ _ _ _ _
  refine cQ (cSL (lL hs [.m 47 1,.v 48 (nV ux.length),.v 49 (iV 0)] (lN (kZ ?_))));replace hs:=hs.nil 3 1;refine cTo [(1,qS X ux.length cX),(2,qS Y uy.length cY),(3,pB b1),(6,pB b4),(7,iV 0),(9,pB za),(48,nV ux.length),(49,iV 0)] ?_;have hti:i=(flatq ls).length:=by omega
  rw[hti] at htl
  refine CG.loop (fun μ_ Γ w_=>∃ (r:Nat) (srA:Option Addr) (src:Nat) (tl:List Stp) (soA:Option Addr) (soc:Nat) (ol:List Int) (h_:Hp),μ_=ux.length-r∧Γ=[(1,qS X ux.length cX),(2,qS Y uy.length cY),(3,pB b1),(6,pB b4),(7,iV 0),(9,pB za),(48,nV ux.length),(49,nV r)]∧SS w h w_ h_ [⟨za,140,[nV ((flatq ls).length),qS srA ((tl).length) src,qS soA ((ol).length) soc]⟩,⟨b4,36,[iV 0,sZ,sZ]⟩,⟨b1,74,[qS A ts.length cap]⟩] [⟨3,1,soA,soc,(ol).length,(ol).flatMap i64c⟩,⟨110,9,srA,src,(tl).length,(tl).flatMap stc⟩] [Sq Aq (flatq ls),Qu uy yss,Sv Y uy,Qu ux xss,Sv X ux,Nn ts ls,Sl A ts]∧r≤ux.length∧tl=(tpS ls (dOf ls) xss yss r).1∧ol=(tpS ls (dOf ls) xss yss r).2) _ ⟨0,srA,src,tl,none,0,[],zB,rfl,rfl,hs.to _ _,Nat.zero_le _,htl,rfl⟩ ?_;rintro _ _ _ ⟨r,srA,src,tl,soA,soc,ol,_,hm22,rfl,hs,hr,htl,hol⟩;have hll:tl.length≤(flatq ls).length+r*2100:=by rw[htl];exact tpS_len hO hxd hyd r oM
  have hlo:ol.length=r:=by rw[hol];exact tpS_outs _ _ _ _ _
  refine cSL ?_;cases zd:(decide ((r:Int)<(ux.length:Int)))
  ·
   have zq:=oF zd;refine lB 50 zd (lN (cQ (cIF (CG.exit ?_))))
   show CG _ _ _ _ _ _ _ _
   refine cQ (cSL ?_);have hrn:r=xss.length:=by omega
   rw[hrn] at htl hol
   have hsq:∀ i,i<tl.length→LQ 1 (tl.getD i stp0).q:=by rw[htl];exact Q1.get (tpS_q ls _ hqx hqy _)
   obtain ⟨_,hs,zv⟩:=hs.pubr 1 (A:=srA) (c:=src) (l:=tl) (f:=stc) (ty:=110) (sz:=9) stp0 (fun _=>rfl);obtain ⟨_,hs,zw⟩:=hs.pubr 0 (A:=soA) (c:=soc) (l:=ol) (f:=i64c) (ty:=3) (sz:=1) 0 (fun _=>rfl);refine lL hs [.m 105 9,.v 106 (pB za),.v 107 (pB za),.o 108 (.agg #[nV ((flatq ls).length),qS srA ((tl).length) src,qS soA ((ol).length) soc]) 0 0 3] (lC 109 hs (tCheck ((flatq ls).length:Nat) srA src tl soA soc ol oM oM hsq _ _ hs.g hs.f.2.1 hs.f.1) ?_);rintro _ _ _ hs rfl;refine lL hs [.m 16 109] (lNS (lL hs [.m 110 16] ?_));cases ze:((chkTp ((flatq ls).length:Nat) tl ol:Int) != (0:Int))
   ·
    have zr:=eqOfBne ze;refine lB 111 ze (lN (cIF (cK (cSL (lL hs [.m 114 9,.v 115 (pB za),.v 116 (pB za),.o 117 (.agg #[nV ((flatq ls).length),qS srA ((tl).length) src,qS soA ((ol).length) soc]) 0 0 3] (lP 1 0 ([nV ((flatq ls).length),qS srA ((tl).length) src,qS soA ((ol).length) soc]) hs (fun _ hs=>lL hs [.v 7 (iV 0)] (lN (kX ?_)))))))));rw[←htl,←hol];exact hs.ret [(1,0,3)] (.tuple #[.agg #[nV ((flatq ls).length),qS srA ((tl).length) src,qS soA ((ol).length) soc],iV 0]) (by have hck:chkTp ((flatq ls).length:Nat) tl ol=0:=oM;rw[tpN0 hck,tpL0 hck,tpL0 hck,hck];exact ⟨_,_,_,_,rfl,zv,zw,hs.f.2.1,hs.f.1⟩)
   have zr:=neOfBne ze;refine lB 111 ze (lN (cIT (cSL (lL hs [.v 112 (.agg #[iV 0,sZ,sZ]),.m 113 16] (lP 1 0 ([iV 0,sZ,sZ]) hs (fun _ hs=>lL hs [.m 7 113] (lN (kX ?_))))))));rw[←htl,←hol];exact hs.ret [(1,0,3)] (.tuple #[.agg #[iV 0,sZ,sZ],iV (chkTp ((flatq ls).length:Nat) tl ol)]) (by have hck:chkTp ((flatq ls).length:Nat) tl ol≠0:=aM;rw[tpN1 hck,tpL1 hck,tpL1 hck];exact ⟨none,0,none,0,rfl,nR _,nR _,SlO.nil,SlO.nil⟩)
  have zq:=oT zd;refine lB 50 zd (lN (cQ (cIT (cK (cQ (kZ (cSL (lL hs [.m 51 49,.m 11 51] (lNS (lL hs [.m 52 9,.m 53 1,.m 54 11] (lX 55 X ux.length cX 1 (r:Nat) r ((hs.f.q.1).ok oM) ?_)))))))))));obtain ⟨Aqx,cqx,eqx,hcqx,hRqx⟩:=(hs.f.r.2.1).at_ r oM;replace hs:=hs.aS hRqx;refine lHe 56 (ux.getD r undef) hs ((hs.f.q.2.1).el r oM) eqx ?_;have hxl:=hxd r oM;have hyl:=hyd r oM;refine lCs 57 (nNumbersL za ((flatq ls).length:Nat) srA src tl (qS soA ((ol).length) soc) (xss.getD r []) Aqx cqx oM _ _ hs.g hs.f.1 (hs.front [] [⟨b4,36,[iV 0,sZ,sZ]⟩,⟨b1,74,[qS A ts.length cap]⟩] ⟨za,140,[nV ((flatq ls).length),qS srA ((tl).length) src,qS soA ((ol).length) soc]⟩ [⟨3,1,soA,soc,(ol).length,(ol).flatMap i64c⟩] [] ⟨110,9,srA,src,(tl).length,(tl).flatMap stc⟩)) ?_;rintro _ _ zD ⟨zg,zi,N0,cN0,rfl,hN0,hs⟩;replace hs:=(SS.back [] [⟨b4,36,[iV 0,sZ,sZ]⟩,⟨b1,74,[qS A ts.length cap]⟩] ⟨za,140,[nV ((flatq ls).length),qS zg ((tl++(xss.getD r []).map numT).length) zi,qS soA ((ol).length) soc]⟩ [⟨3,1,soA,soc,(ol).length,(ol).flatMap i64c⟩] [] ⟨110,9,zg,zi,(tl++(xss.getD r []).map numT).length,(tl++(xss.getD r []).map numT).flatMap stc⟩ hs).to [⟨za,140,[nV ((flatq ls).length),qS zg ((tl++(xss.getD r []).map numT).length) zi,qS soA ((ol).length) soc]⟩,⟨b4,36,[iV 0,sZ,sZ]⟩,⟨b1,74,[qS A ts.length cap]⟩] [⟨3,1,soA,soc,(ol).length,(ol).flatMap i64c⟩,⟨110,9,zg,zi,(tl++(xss.getD r []).map numT).length,(tl++(xss.getD r []).map numT).flatMap stc⟩];replace hs:=hs.aS hN0;refine lL hs [.m 12 57] (lNS (lL hs [.v 13 (iV 0)] (lN (cQ (cSL (lL hs [.v 58 (pB b1),.o 59 (qS A ts.length cap) 2 0 1,.v 60 (nV ts.length),.v 61 (iV 0)] (lN (kZ ?_))))))));replace hs:=hs.aS hs.f.1;refine cTo _ (CG.loop (fun μ_ Γ w_=>∃ (k:Nat) (sqA:Option Addr) (sqc:Nat) (tq:List Stp) (N:Option Addr) (cN:Nat) (ix:List Int) (fr:Nat) (h_:Hp),μ_=ts.length-k∧Γ=[(1,qS X ux.length cX),(2,qS Y uy.length cY),(3,pB b1),(6,pB b4),(7,iV 0),(9,pB za),(48,nV ux.length),(49,nV r),(11,nV r),(59,qS A ts.length cap),(60,nV ts.length),(61,nV k),(12,qS N ix.length cN),(13,nV fr)]∧SS w h w_ h_ [⟨za,140,[nV ((flatq ls).length),qS sqA ((tq).length) sqc,qS soA ((ol).length) soc]⟩,⟨b4,36,[iV 0,sZ,sZ]⟩,⟨b1,74,[qS A ts.length cap]⟩] [⟨3,1,soA,soc,(ol).length,(ol).flatMap i64c⟩,⟨110,9,sqA,sqc,(tq).length,(tq).flatMap stc⟩] [Si N ix,Si N0 (ixS tl (xss.getD r []).length),Sq Aqx (xss.getD r []),Sq Aq (flatq ls),Qu uy yss,Sv Y uy,Qu ux xss,Sv X ux,Nn ts ls,Sl A ts]∧k≤ts.length∧tq=(nwS ls (dOf ls) (tl++(xss.getD r []).map numT) (ixS tl (xss.getD r []).length) k).1.1∧ix=(nwS ls (dOf ls) (tl++(xss.getD r []).map numT) (ixS tl (xss.getD r []).length) k).1.2∧fr=(nwS ls (dOf ls) (tl++(xss.getD r []).map numT) (ixS tl (xss.getD r []).length) k).2) _ ⟨0,zg,zi,tl++(xss.getD r []).map numT,N0,cN0,ixS tl (xss.getD r []).length,0,zD,rfl,rfl,hs.to _ _,Nat.zero_le _,rfl,rfl,rfl⟩ ?_);rintro _ _ _ ⟨k,sqA,sqc,tq,N,cN,ix,fr,_,hm42,rfl,hs,hk,htq,hix,hfr⟩;have hlq:tq.length≤(tl++(xss.getD r []).map numT).length+k*492:=by rw[htq];exact nwS_len hO _ _ k oM
  have hl2_:(tl++(xss.getD r []).map numT).length=tl.length+(xss.getD r []).length:=by rw[List.length_append,List.length_map]
  have hlx_:ix.length=dOf ls k:=by rw[hix];exact nwS_ix _ _ (by rw[ixS_len];exact hxl) k
  have hlf:fr≤k*252:=by rw[hfr];exact nwS_fr hO _ _ k oM
  have hsm:=fun h0=>hO.small k h0
  have hlb:=fun h0=>hO.lay_b (k:=k) h0
  refine cSL ?_;cases zf:(decide ((k:Int)<(ts.length:Int)))
  ·
   have zs:=oF zf;refine lB 62 zf (lN (cQ (cIF (CG.exit ?_))))
   show CG _ _ _ _ _ _ _ _
   refine cRa ⟨[],none⟩ 0 mixed ?_;replace hs:=hs.drew;have hkn:k=ls.length:=by omega
   rw[hkn] at htq hix hlx_
   have hixk:=hix;have htqk:=htq;refine zV 0 86 (pB za) (zV 1 87 (pB za) (zV 2 88 (pB za) (zV 3 89 (pB za) (zV 4 90 (qP za 2) (zV 6 92 (pB za) (zV 7 93 (qS N ix.length cN) (zV 8 94 (qS Y uy.length cY) (zV 9 95 (nV r) (zX 10 96 Y uy.length cY 1 (r:Nat) r ((hs.f.q.2.1).ok oM) ?_)))))))));obtain ⟨Aqy,cqy,eqy,hcqy,hRqy⟩:=(hs.f.q.1).at_ r oM;replace hs:=hs.aS hRqy;refine zRace 5 91 11 97 12 98 13 99 za 2 (qS soA ((ol).length) soc) (qS Aqy (yss.getD r []).length cqy) 3 (nSquares za ((flatq ls).length:Nat) sqA sqc tq (qS soA ((ol).length) soc) ix N cN (yss.getD r []) Aqy cqy oM oM _ _ hs.g hs.f.2.1 hs.f.1 (hs.front [] [⟨b4,36,[iV 0,sZ,sZ]⟩,⟨b1,74,[qS A ts.length cap]⟩] ⟨za,140,[nV ((flatq ls).length),qS sqA ((tq).length) sqc,qS soA ((ol).length) soc]⟩ [⟨3,1,soA,soc,(ol).length,(ol).flatMap i64c⟩] [] ⟨110,9,sqA,sqc,(tq).length,(tq).flatMap stc⟩)) ((hs.own 0).cell 2) (fun _ _ _ ⟨_,_,e_,s_⟩=>⟨(s_.own 0).cell 2,s_.g,_,e_⟩) (uy.getD r undef) hs.g ((hs.f.q.r.1).el r oM) eqy ?_;rintro _ _ _ ⟨zj,zk,rfl,hs⟩ zE _ _ up52 zx;replace hs:=((SS.back [] [⟨b4,36,[iV 0,sZ,sZ]⟩,⟨b1,74,[qS A ts.length cap]⟩] ⟨za,140,[nV ((flatq ls).length),qS zj (((sqS tq ix (yss.getD r []) (yss.getD r []).length).1).length) zk,qS soA ((ol).length) soc]⟩ [⟨3,1,soA,soc,(ol).length,(ol).flatMap i64c⟩] [] ⟨110,9,zj,zk,((sqS tq ix (yss.getD r []) (yss.getD r []).length).1).length,((sqS tq ix (yss.getD r []) (yss.getD r []).length).1).flatMap stc⟩ hs).to [⟨za,140,[nV ((flatq ls).length),qS zj (((sqS tq ix (yss.getD r []) (yss.getD r []).length).1).length) zk,qS soA ((ol).length) soc]⟩,⟨b4,36,[iV 0,sZ,sZ]⟩,⟨b1,74,[qS A ts.length cap]⟩] [⟨3,1,soA,soc,(ol).length,(ol).flatMap i64c⟩,⟨110,9,zj,zk,((sqS tq ix (yss.getD r []) (yss.getD r []).length).1).length,((sqS tq ix (yss.getD r []) (yss.getD r []).length).1).flatMap stc⟩]).step up52;replace hs:=hs.a_Seg zx;refine tY 14 100 0 3 1 soc soA ol i64c ((sqS tq ix (yss.getD r []) (yss.getD r []).length).2) 8 zE (iV 0) hs hs.f.1 (fun zt zu _ zF hs=>tV 15 101 (pB za) (tV 16 102 (pB za) (tV 17 103 (qP za 2) (tP 18 0 2 ([qS zt ((ol++[(sqS tq ix (yss.getD r []) (yss.getD r []).length).2]).length) zu]) hs (fun _ hs=>tN (kQ (lIn 104 ((r:Nat)+1) (r+1) ?_)))))));refine lL hs [.m 49 104] (lD ?_);intro a_ ka;replace hs:=hs.tl.tl.tl.tl.tl;refine ⟨_,_,?_,⟨r+1,zj,zk,(sqS tq ix (yss.getD r []) (yss.getD r []).length).1,zt,zu,ol++[(sqS tq ix (yss.getD r []) (yss.getD r []).length).2],zF,rfl,rfl,hs.to _ _,oM,(by rw[tpS_r htl];unfold rwS;rw[←hixk,←htqk]),(by rw[tpS_o htl,hol];unfold rwS;rw[←hixk,←htqk])⟩,ka.to _ kR⟩
   omega
  have zs:=oT zf;refine lB 62 zf (lN (cQ (cIT (cK (cQ (kZ (cSL (lX 63 A ts.length cap 3 (k:Nat) k ((hs.f.q.q.2.1).ok oM) ?_))))))));obtain ⟨ekx,⟨AWx,cWx,usx,eWx,hcWx,hAWx,hUx⟩,⟨ABx,cBx,eBx,hcBx,hABx⟩⟩:=(hs.f.q.q.1).at_ k oM;obtain ⟨mtx,lbx,r12x,kdx⟩:=hO.lay k oM;have lux:=hUx.len;have mrx:=mtx.rows;have mpx:=mtx.rpos;have mcx:=mtx.cpos;have m0x:=mtx.row 0 oM;replace hs:=(((hs.aS hAWx).aQ hUx).aS hABx);refine lHe 64 (.agg #[iV ((ts.getD k lvd).1),(ts.getD k lvd).2.1,(ts.getD k lvd).2.2]) hs ((hs.f.q.q.q.1).el k oM) (by rw[ekx,eWx,eBx]) (lA 15 144 ([iV 0,sZ,sZ]) hs (fun zb _ _ hs=>lP 0 0 ([iV ((ls.getD k lay0).k),qS AWx usx.length cWx,qS ABx ((ls.getD k lay0).B.length) cBx]) hs (fun _ hs=>lNS (lL hs [.m 65 9,.o 66 (.agg #[iV ((ls.getD k lay0).k),qS AWx usx.length cWx,qS ABx ((ls.getD k lay0).B.length) cBx]) 0 0 3,.m 67 13,.m 68 12] (lCs 69 (nLayerL za ((flatq ls).length:Nat) sqA sqc tq (qS soA ((ol).length) soc) (ls.getD k lay0).k AWx usx cWx (ls.getD k lay0).W (qS ABx ((ls.getD k lay0).B.length) cBx) fr (dOf ls (k+1)) (dOf ls k) ix N cN oM oM oM oM mrx (fun i hi=>mtx.row i hi) oM oM _ _ hs.g hs.f.r.1 hs.f.2.1 hs.f.r.2.1 (hs.front [⟨zb,144,[iV ((ls.getD k lay0).k),qS AWx usx.length cWx,qS ABx ((ls.getD k lay0).B.length) cBx]⟩] [⟨b4,36,[iV 0,sZ,sZ]⟩,⟨b1,74,[qS A ts.length cap]⟩] ⟨za,140,[nV ((flatq ls).length),qS sqA ((tq).length) sqc,qS soA ((ol).length) soc]⟩ [⟨3,1,soA,soc,(ol).length,(ol).flatMap i64c⟩] [] ⟨110,9,sqA,sqc,(tq).length,(tq).flatMap stc⟩)) ?_)))));rintro _ _ _ ⟨zl,zm,N1,cN1,rfl,hN1,hs⟩;replace hs:=(SS.back [⟨zb,144,[iV ((ls.getD k lay0).k),qS AWx usx.length cWx,qS ABx ((ls.getD k lay0).B.length) cBx]⟩] [⟨b4,36,[iV 0,sZ,sZ]⟩,⟨b1,74,[qS A ts.length cap]⟩] ⟨za,140,[nV ((flatq ls).length),qS zl (((layS fr (dOf ls (k+1)) (dOf ls k) (ls.getD k lay0).k ix tq (dOf ls (k+1))).1).length) zm,qS soA ((ol).length) soc]⟩ [⟨3,1,soA,soc,(ol).length,(ol).flatMap i64c⟩] [] ⟨110,9,zl,zm,((layS fr (dOf ls (k+1)) (dOf ls k) (ls.getD k lay0).k ix tq (dOf ls (k+1))).1).length,((layS fr (dOf ls (k+1)) (dOf ls k) (ls.getD k lay0).k ix tq (dOf ls (k+1))).1).flatMap stc⟩ hs).to [⟨zb,144,[iV ((ls.getD k lay0).k),qS AWx usx.length cWx,qS ABx ((ls.getD k lay0).B.length) cBx]⟩,⟨za,140,[nV ((flatq ls).length),qS zl (((layS fr (dOf ls (k+1)) (dOf ls k) (ls.getD k lay0).k ix tq (dOf ls (k+1))).1).length) zm,qS soA ((ol).length) soc]⟩,⟨b4,36,[iV 0,sZ,sZ]⟩,⟨b1,74,[qS A ts.length cap]⟩] [⟨3,1,soA,soc,(ol).length,(ol).flatMap i64c⟩,⟨110,9,zl,zm,((layS fr (dOf ls (k+1)) (dOf ls k) (ls.getD k lay0).k ix tq (dOf ls (k+1))).1).length,((layS fr (dOf ls (k+1)) (dOf ls k) (ls.getD k lay0).k ix tq (dOf ls (k+1))).1).flatMap stc⟩];replace hs:=hs.aS hN1;refine lL hs [.m 12 69] (lN (cR 15 [] mixed hs al_nil ?_));have hmu:(usx.length:Int)*((((ls.getD k lay0).W).getD 0 []).length:Nat)=((dOf ls (k+1)*dOf ls k:Nat):Int):=by rw[lux,mrx,m0x,Int.natCast_mul]
  refine eV 0 70 (nV fr) (eV 1 71 (qP zb 1) (eO 2 72 [(0,1,1)] (qS AWx usx.length cWx) hs (eV 3 73 (nV usx.length) (eV 4 74 (qP zb 1) (eO 5 75 [(0,1,1)] (qS AWx usx.length cWx) hs (eX 6 76 AWx usx.length cWx 1 0 0 ((hs.f.r.2.1).ok oM) ?_))))));obtain ⟨Arp,crp,erp,hcrp,hRrp⟩:=(hs.f.r.1).at_ 0 oM;replace hs:=hs.aS hRrp;refine eHe 7 77 (usx.getD 0 undef) hs ((hs.f.q.1).el 0 oM) erp (eV 8 78 (nV ((((ls.getD k lay0).W).getD 0 []).length)) (eIn 9 79 ((usx.length:Nat)*((((ls.getD k lay0).W).getD 0 []).length:Nat)) (dOf ls (k+1)*dOf ls k) (eV 10 80 (qP zb 2) (eO 11 81 [(0,2,1)] (qS ABx ((ls.getD k lay0).B.length) cBx) hs (eV 12 82 (nV ((ls.getD k lay0).B.length)) (eIn 13 83 ((dOf ls (k+1)*dOf ls k:Nat)+((ls.getD k lay0).B.length:Nat)) ((dOf ls (k+1)*dOf ls k)+((ls.getD k lay0).B.length)) (eIn 14 84 ((fr:Nat)+((dOf ls (k+1)*dOf ls k)+((ls.getD k lay0).B.length):Nat)) (fr+((dOf ls (k+1)*dOf ls k)+((ls.getD k lay0).B.length):Nat)) (eD0 hs (fun _ zG hs=>tV 15 13 (nV (fr+((dOf ls (k+1)*dOf ls k)+((ls.getD k lay0).B.length):Nat))) (tN (kQ (lIn 85 ((k:Nat)+1) (k+1) ?_))))))))))));refine lL hs [.m 61 85] (lD ?_);intro a_ ka;replace hs:=(hs.tl.tl.tl.tl.tl.tl.aS hs.f.2.1);replace hs:=hs.drop 1 0;refine ⟨_,_,?_,⟨k+1,zl,zm,(layS fr (dOf ls (k+1)) (dOf ls k) (ls.getD k lay0).k ix tq (dOf ls (k+1))).1,N1,cN1,(layS fr (dOf ls (k+1)) (dOf ls k) (ls.getD k lay0).k ix tq (dOf ls (k+1))).2,(fr+((dOf ls (k+1)*dOf ls k)+((ls.getD k lay0).B.length):Nat):Nat),zG,rfl,rfl,hs.to _ _,oM,(by rw[htq,hix,hfr];rfl),(by rw[htq,hix,hfr];rfl),(by rw[lbx,hfr];rfl)⟩,ka.to _ kR⟩
  omega
 have zp:=oT zc;refine lB 40 zc (lN (cQ (cIT (cK (cQ (kZ (cSL (lL hs [.m 41 39,.m 10 41] (lN (kQ (lL hs [.m 42 9,.m 43 10,.v 44 (.agg #[iV 2,iV 0,iV 0,nV i,qF,uV 0,eS,uV 0,eS])] (lCs 45 (nAdd_ za ((flatq ls).length:Nat) srA src tl (sZ) (⟨2,0,0,(i:Nat),0⟩:Stp) oM _ _ hs.g (hs.front [] [⟨b4,36,[iV 0,sZ,sZ]⟩,⟨b1,74,[qS A ts.length cap]⟩] ⟨za,140,[nV ((flatq ls).length),qS srA ((tl).length) src,sZ]⟩ [] [] ⟨110,9,srA,src,(tl).length,(tl).flatMap stc⟩)) ?_))))))))))));rintro _ _ zH ⟨zn,zo,rfl,hs⟩;replace hs:=(SS.back [] [⟨b4,36,[iV 0,sZ,sZ]⟩,⟨b1,74,[qS A ts.length cap]⟩] ⟨za,140,[nV ((flatq ls).length),qS zn ((tl++[(⟨2,0,0,(i:Nat),0⟩:Stp)]).length) zo,sZ]⟩ [] [] ⟨110,9,zn,zo,(tl++[(⟨2,0,0,(i:Nat),0⟩:Stp)]).length,(tl++[(⟨2,0,0,(i:Nat),0⟩:Stp)]).flatMap stc⟩ hs).to [⟨za,140,[nV ((flatq ls).length),qS zn ((tl++[(⟨2,0,0,(i:Nat),0⟩:Stp)]).length) zo,sZ]⟩,⟨b4,36,[iV 0,sZ,sZ]⟩,⟨b1,74,[qS A ts.length cap]⟩] [⟨110,9,zn,zo,(tl++[(⟨2,0,0,(i:Nat),0⟩:Stp)]).length,(tl++[(⟨2,0,0,(i:Nat),0⟩:Stp)]).flatMap stc⟩];have hl82:(tl++[(⟨2,0,0,(i:Nat),0⟩:Stp)]).length=(tl).length+1:=by rw[List.length_append];rfl
 refine lN (kQ (lIn 46 ((i:Nat)+1) (i+1) ?_));refine lL hs [.m 39 46] (lD ?_);intro a_ ka;refine ⟨_,_,?_,⟨i+1,zn,zo,tl++[(⟨2,0,0,(i:Nat),0⟩:Stp)],zH,rfl,rfl,hs.to _ _,oM,(by rw[List.range_succ,List.map_append,htl];rfl)⟩,ka.to _ kR⟩
 omega
noncomputable def tpT (ls:List Lay)(xss yss:List (List Rat)):List Stp × List Int:=tpS ls (dOf ls) xss yss xss.length
noncomputable def tapE (ls:List Lay)(xss yss:List (List Rat))(wx wy:Nat):Int:=if netE ls xss.length wx yss.length wy=0 then chkTp ((flatq ls).length:Nat) (tpT ls xss yss).1 (tpT ls xss yss).2 else netE ls xss.length wx yss.length wy
section
variable {ls:List Lay} {xss yss:List (List Rat)} {wx wy:Nat}
theorem tap_0 (he:netE ls xss.length wx yss.length wy=0):tapE ls xss yss wx wy=chkTp ((flatq ls).length:Nat) (tpT ls xss yss).1 (tpT ls xss yss).2:=if_pos he
theorem tap_n (he:¬netE ls xss.length wx yss.length wy=0):tapE ls xss yss wx wy=netE ls xss.length wx yss.length wy∧(tpL (tapE ls xss yss wx wy) (tpT ls xss yss).1).length=0∧(tpL (tapE ls xss yss wx wy) (tpT ls xss yss).2).length=0∧tpN (tapE ls xss yss wx wy) (flatq ls).length=0:=by
  have e:tapE ls xss yss wx wy=netE ls xss.length wx yss.length wy:=if_neg he;have e2:tapE ls xss yss wx wy≠0:=by rw[e];exact he
  exact ⟨e,by rw[tpL1 e2];rfl,by rw[tpL1 e2];rfl,tpN1 e2 _⟩
end
theorem nTapeD (A:Option Addr)(cap:Nat)(ts:List LV)(ls:List Lay)(hn:ls.length≤1000000)(hZ:∀ i,LaySz (ls.getD i lay0))(X:Option Addr)(cX:Nat)(ux:List Value)(xss:List (List Rat))(Y:Option Addr)(cY:Nat)(uy:List Value)(yss:List (List Rat))(wx wy:Nat)(hDx:Drw xss wx)(hDy:Drw yss wy)(w:World)(h:Hp)(g:G w h)(hA:Sl A ts h)(hN:NetL h ts ls)(hX:Sv X ux h)(hU:QVs h ux xss)(hY:Sv Y uy h)(hV:QVs h uy yss)(tb:Tab h):CR 28 #[.agg #[.slice A ts.length cap],.slice X ux.length cX,.slice Y uy.length cY] w h (fun v h1=>∃ A c O e,v=.tuple #[.agg #[iV (tpN (tapE ls xss yss wx wy) (flatq ls).length),.slice A (tpL (tapE ls xss yss wx wy) (tpT ls xss yss).1).length c,.slice O (tpL (tapE ls xss yss wx wy) (tpT ls xss yss).2).length e],iV (tapE ls xss yss wx wy)]∧(tpL (tapE ls xss yss wx wy) (tpT ls xss yss).1).length≤c∧(tpL (tapE ls xss yss wx wy) (tpT ls xss yss).2).length≤e∧SlO 9 stc stp0 h1 A (tpL (tapE ls xss yss wx wy) (tpT ls xss yss).1)∧Si O (tpL (tapE ls xss yss wx wy) (tpT ls xss yss).2) h1):=by
  by_cases he:netE ls xss.length wx yss.length wy=0
  · rw[tap_0 he]
    exact nTape0 A cap ts ls hn (fun i _=>(hZ i).len) X cX ux xss Y cY uy yss wx wy hDx.wd hDy.wd hDx.len hDx.lq hDy.lq he w h g hA hN hX hU hY hV
  · obtain ⟨e1,e2,e3,e4⟩:=tap_n (yss:=yss) he
    refine (nTapeE A cap ts ls hn (fun i _=>(hZ i).len) X cX ux xss Y cY uy yss wx wy hDx.wd hDy.wd he w h g hA hN hX hU hY hV).mono ?_;rintro _ w' ⟨_,h',rfl,u,rfl⟩;rw[List.eq_nil_of_length_eq_zero e2,List.eq_nil_of_length_eq_zero e3,e4,e1];exact ⟨_,h',rfl,u,none,0,none,0,rfl,nR _,nR _,SlO.nil,SlO.nil⟩
theorem sgn0 {a:Rat}(h:a.num.sign=0):a=0:=by
  rw[←Rat.num_eq_zero];exact Int.sign_eq_zero_iff_zero.1 h
theorem Bz.sgb {wt sg:Nat→Nat}{C k:Nat}{bar g:List Rat}(Z:Bz wt sg C (k+1) bar g)(hw:1≤wt k):sg k≤C:=by
  obtain ⟨f,E,hf,hE,hC⟩:=Z;rw[rem_s] at hC
  have h2:=Nat.mul_le_mul_left (sg k+2) hw
  omega
theorem tBackN (n_:Nat)(A:Option Addr)(c:Nat)(l:List Stp)(O:Option Addr)(d:Nat)(os:List Int)(at_:List Rat)(X:Option Addr)(cX:Nat)(by_:List Rat)(Y:Option Addr)(cY:Nat)(wt sg:Nat→Nat)(W_:Nat)(hl:l.length≤65536)(ho:os.length≤300)(hat2:at_.length≤1000000)(hbt2:by_.length≤1000000)(hq:∀ i,LQ 1 (l.getD i stp0).q)(hby:∀ i,LQ 1 (by_.getD i 0))(hB:chkTp (n_:Int) l os=0→(at_.length:Int)=(n_:Int)→∀ k,k≤l.length→terr true l at_ k=0→∀ j,LQ 1000000 ((tvals l at_ k).getD j 0))(hwt:chkTp (n_:Int) l os=0→Wt l wt)(hW:∀ j,j<l.length→wt j≤W_)(hSg:chkTp (n_:Int) l os=0→(at_.length:Int)=(n_:Int)→terr true l at_ l.length=0→∀ k,k<l.length→(l.getD k stp0).op≠2→LQ (sg k) (sla (l.getD k stp0).op (l.getD k stp0).n ((tvals l at_ l.length).getD (l.getD k stp0).a.toNat 0) ((tvals l at_ l.length).getD (l.getD k stp0).b.toNat 0))∧LQ (sg k) (slb (l.getD k stp0).op ((tvals l at_ l.length).getD (l.getD k stp0).a.toNat 0) ((tvals l at_ l.length).getD (l.getD k stp0).b.toNat 0)))(hC:chkTp (n_:Int) l os=0→1+pot wt (fun _=>1) l.length+os.length*(2*W_)+rem_ wt sg l.length≤100000000)(w:World)(h:Hp)(g:G w h)(hA:SlO 9 stc stp0 h A l)(hO:Si O os h)(hX:Sq X at_ h)(hY:Sq Y by_ h)(tb:Tab h):CR 19 #[.agg #[nV n_,.slice A ((l).length) c,.slice O ((os).length) d],.slice X at_.length cX,.slice Y by_.length cY] w h (fun v h1=>∃ A c B d,v=.tuple #[.slice A (backO (n_:Int) l os at_ by_).length c,.slice B (backG (n_:Int) l os at_ by_).length d,iV (backE (n_:Int) l os at_ by_)]∧(backO (n_:Int) l os at_ by_).length≤c∧(backG (n_:Int) l os at_ by_).length≤d∧Sq A (backO (n_:Int) l os at_ by_) h1∧Sq B (backG (n_:Int) l os at_ by_) h1∧(backE (n_:Int) l os at_ by_=0→∀ way,dotq (backG (n_:Int) l os at_ by_) way ((n_:Int)).toNat=tgt l os at_ by_ way)):=by
 have hs:=((((((sS g).aS hA).aS hO).aS hX).aS hY).aB tb);refine go Tryz.func19 [(0,.agg #[nV n_,qS A ((l).length) c,qS O ((os).length) d]),(1,qS X at_.length cX),(2,qS Y by_.length cY)] rfl (cSL (lA 3 36 ([nV n_,qS A ((l).length) c,qS O ((os).length) d]) hs (fun b1 w2 h3 hs=>lL hs [.v 6 (sZ),.v 7 (sZ),.v 8 (iV 0)] (lN (cQ (cSL (lL hs [.o 17 (.agg #[nV n_,qS A ((l).length) c,qS O ((os).length) d]) 0 0 3] (lC 18 hs (tCheck (n_:Int) A c l O d os oM oM (fun i _=>hq i) _ _ hs.g hs.f.q.1 hs.f.r.2.1) ?_))))))));rintro _ w4 h5 hs rfl;cases hb6:((chkTp (n_:Int) l os:Int) != (0:Int))
 ·
  have phb6:=eqOfBne hb6;refine lB 19 hb6 (lN (cIF (cK (cQ (cSL (lL hs [.m 20 1,.v 21 (nV at_.length),.v 22 (pB b1),.o 23 (nV n_) 0 0 1] ?_))))));cases hb7:((at_.length:Int) != (n_:Int))
  ·
   have phb7:=eqOfBne hb7;refine lB 24 hb7 (lL hs [.m 25 24,.m 26 2,.v 27 (nV by_.length),.v 28 (qP b1 2),.o 29 (qS O ((os).length) d) 0 2 1,.v 30 (nV ((os).length))] ?_);cases hb8:((by_.length:Int) != (((os).length:Nat):Int))
   ·
    have phb8:=eqOfBne hb8;refine lB 31 hb8 (lL hs [.v 32 qF] (lN (cIF (cK (cSL (lL hs [.o 34 (.agg #[nV n_,qS A ((l).length) c,qS O ((os).length) d]) 0 0 3,.m 35 1] ?_))))));have hck:chkTp (n_:Int) l os=0:=by omega
    refine lC 36 hs (tValues true true rfl (n_:Int) A c l O d os at_ X cX (chk_formed hck).1 oM oM hq (hB hck oM) _ _ hs.g hs.f.q.1 hs.f.r.2.1 hs.f.r.1 hs.f.1) ?_;rintro _ w9 _ hs ⟨Av,cv,rfl,hcv,hAv⟩;replace hs:=hs.aS hAv;refine lL hs [.m 33 36,.v 37 (qS Av ((vlist true l at_).length) cv),.v 38 (iV (terr true l at_ l.length)),.m 9 37,.m 8 38] (lN (cQ (cSL (lL hs [.m 39 8] ?_))));cases zd:((terr true l at_ l.length:Int) != (0:Int))
    ·
     have zo:=eqOfBne zd;refine lB 40 zd (lN (cIF (cK (cSL (lL hs [.v 42 (pB b1),.o 43 (nV n_) 0 0 1] (lK 44 55 n_ 5 56 (.agg #[qF,uV 0,eS,uV 0,eS]) qc 0 hs (fun zb _ _ hs=>?_)))))));have hl15:(List.replicate n_ 0).length=n_:=by simp
     refine lL hs [.m 7 44] (lNS (lL hs [.v 45 (qP b1 1),.o 46 (qS A ((l).length) c) 1 1 1,.v 47 (nV ((l).length))] (lK 48 55 ((l).length) 5 56 (.agg #[qF,uV 0,eS,uV 0,eS]) qc 0 hs (fun za _ zD hs=>?_))));have hl19:(List.replicate ((l).length) 0).length=((l).length):=by simp
     refine lL hs [.m 10 48] (lN (cQ (cSL (lL hs [.v 49 (qP b1 2),.o 50 (qS O ((os).length) d) 2 2 1,.v 51 (nV ((os).length)),.v 52 (iV 0)] (lN (cTo [(2,qS Y by_.length cY),(3,pB b1),(6,sZ),(7,qS (sB zb) n_ n_),(8,iV (terr true l at_ l.length)),(9,qS Av ((vlist true l at_).length) cv),(10,qS (sB za) ((l).length) ((l).length)),(50,qS O ((os).length) d),(51,nV ((os).length)),(52,iV 0)] ?_))))));refine kZ ?_;have hter:terr true l at_ l.length=0:=by omega
     have hvl:vlist true l at_=tvals l at_ l.length:=if_pos hter;have hLb:∀ j,LQ 1000000 ((vlist true l at_).getD j 0):=fun j=>by rw[hvl];exact hB hck oM l.length (nR _) hter j
     have hvn:(vlist true l at_).length=l.length:=by rw[hvl,tvals_len]
     have hWt:=hwt hck;have hw1:=fun j (hj:j<l.length)=>(hWt j hj).1
     have hSgk:=hSg hck oM hter;have hCC:=hC hck;have hOok:=(chk_formed hck).2.1;refine cTo _ (CG.loop (fun μ_ Γ w_=>∃ (i:Nat) (bar:List Rat) (h_:Hp),μ_=os.length-i∧Γ=[(2,qS Y by_.length cY),(3,pB b1),(6,sZ),(7,qS (sB zb) n_ n_),(8,iV (terr true l at_ l.length)),(9,qS Av ((vlist true l at_).length) cv),(10,qS (sB za) ((l).length) ((l).length)),(50,qS O ((os).length) d),(51,nV ((os).length)),(52,nV i)]∧SS w h w_ h_ [⟨za,55,(bar).flatMap qc⟩,⟨zb,55,(List.replicate n_ 0).flatMap qc⟩,⟨b1,36,[nV n_,qS A ((l).length) c,qS O ((os).length) d]⟩] [] [Sq Av (vlist true l at_),fun h_=>Tab h_,Sq Y by_,Sq X at_,Si O os,fun h_=>SlO 9 stc stp0 h_ A l]∧i≤os.length∧bar.length=l.length∧Bo l os at_ by_ i bar∧Bos wt l.length W_ i bar) _ ⟨0,List.replicate l.length (0:Rat),zD,rfl,rfl,hs.to _ _,Nat.zero_le _,(by simp),Bo.init,Bos.init _ _ _⟩ ?_);rintro _ _ _ ⟨i,bar,zE,hm22,rfl,hs,hik,hbl,hBo,hBs⟩;have hiW:=Nat.mul_le_mul_right (2*W_) hik;have hiC:pot wt (fun _=>1) l.length+i*(2*W_)≤100000000:=by omega
     have hok:=fun h0=>hOok i h0
     refine cSL ?_;cases ze:(decide ((i:Int)<(((os).length:Nat):Int)))
     ·
      have zp:=oF ze;refine lB 53 ze (lN (cQ (cIF (CG.exit ?_))))
      show CG _ _ _ _ _ _ _ _
      refine cQ (cSL (lL hs [.v 70 (qP b1 1),.o 71 (qS A ((l).length) c) 2 1 1,.v 72 (nV ((l).length))] (lI 73 (((l).length:Nat)-1) ?_)));refine lL hs [.m 13 73] (lN (kZ ?_));have hie:i=os.length:=by omega
      rw[hie] at hBo hBs
      refine cTo _ (CG.loop (fun μ_ Γ w_=>∃ (k:Nat) (g:List Rat) (bar:List Rat) (h_:Hp),μ_=k∧Γ=[(3,pB b1),(6,sZ),(7,qS (sB zb) n_ n_),(8,iV (terr true l at_ l.length)),(9,qS Av ((vlist true l at_).length) cv),(10,qS (sB za) ((l).length) ((l).length)),(13,iV ((k:Nat)-1))]∧SS w h w_ h_ [⟨za,55,(bar).flatMap qc⟩,⟨zb,55,(g).flatMap qc⟩,⟨b1,36,[nV n_,qS A ((l).length) c,qS O ((os).length) d]⟩] [] [Sq Av (vlist true l at_),fun h_=>Tab h_,Sq Y by_,Sq X at_,Si O os,fun h_=>SlO 9 stc stp0 h_ A l]∧k≤l.length∧g.length=n_∧bar.length=l.length∧Bk l at_ n_ (tgt l os at_ by_) k bar g∧Bz wt sg 100000000 k bar g) _ ⟨l.length,List.replicate n_ (0:Rat),bar,zE,rfl,rfl,hs.to _ _,nR _,(by simp),hbl,(hBo.bk n_),(hBs.bz oM)⟩ ?_);rintro _ _ _ ⟨k,g,bar,_,hm26,rfl,hs,hk,hgl,hbl,hBk,hZ⟩;have hw1k:=fun j (hj:j<k)=>hw1 j oM
      refine cQ (cSL (lL hs [.m 74 13] ?_));cases zf:(decide ((0:Int)≤((k:Nat)-1:Int)))
      ·
       have zq:=oF zf;refine lB 75 zf (lN (cIF (CG.exit ?_)))
       show CG _ _ _ _ _ _ _ _
       refine cSL ?_;have hkn:k=0:=by omega
       rw[hkn] at hBk
       have hfin:=hBk.fin hgl;have hgd:g=gradT n_ l os at_ by_:=hfin.1;rw[hgd] at hfin
       obtain ⟨_,hs,sg29,lo30,bc31⟩:=hs.pub 1;replace hs:=(hs.to [⟨za,55,(bar).flatMap qc⟩,⟨b1,36,[nV n_,qS A ((l).length) c,qS O ((os).length) d]⟩] []).aS (SlO.of_flat (sz:=5) (f:=qc) (d:=0) (b:=zb) (o:=0) (l:=g) (fun _=>rfl) sg29);replace hs:=hs.aS (show Sq (sB zb) (gradT n_ l os at_ by_) _ from by rw[←hgd];exact hs.f.1);have hgn:(gradT n_ l os at_ by_).length=n_:=by rw[←hgd];exact hgl
       have hcd:(gradT n_ l os at_ by_).length≤n_:=by omega
       refine lL hs [.o 161 (.agg #[nV n_,qS A ((l).length) c,qS O ((os).length) d]) 1 0 3,.m 162 9] (lC 163 hs (tOuts (n_:Int) A c l O d os (vlist true l at_) Av cv oM (by rw[hvl,tvals_len];exact (chk_formed hck).2.1) _ _ hs.g hs.f.q.r.2.1 hs.f.q.r.1 hs.f.r.1) ?_);rintro _ _ _ hs ⟨Ao,co,rfl,hco,hAo⟩;replace hs:=hs.aS hAo;exact lL hs [.m 164 7,.m 6 163,.m 7 164,.v 8 (iV 0)] (lN (kX (hs.ret [] (.tuple #[qS Ao ((pickL (vlist true l at_) os).length) co,qS (sB zb) n_ n_,iV 0]) (by obtain ⟨e1,e2,e3⟩:=back_0 (inp:=(n_:Int)) (l:=l) (os:=os) (at_:=at_) (by_:=by_) hck oM oM hter;rw[e1,e2,e3,←hvl];exact ⟨_,_,_,_,(by rw[show (gradT (n_:Int).toNat l os at_ by_).length=n_ from hgn]),hco,hcd,hs.f.1,hs.f.2.1,fun _=>hfin.2⟩))))
      have zq:=oT zf;refine lB 75 zf (lN (cIT (cK (cQ (kZ (cSL ?_))))));have hk1:k-1+1=k:=by omega
      have hB1:Bk l at_ n_ (tgt l os at_ by_) (k-1+1) bar g:=by rw[hk1];exact hBk
      have hZ1:Bz wt sg 100000000 (k-1+1) bar g:=by rw[hk1];exact hZ
      have hwk:=hw1 (k-1) oM;have fk:=(chk_formed hck).1 (k-1) oM;have hopr:=fk.opr;have hok_:=ok_at hter (by omega:k-1<l.length) (chk_formed hck).1;obtain ⟨hx1,hx2,hx3,hx4⟩:=fk.ix;refine lL hs [.v 78 (qP b1 1),.o 79 (qS A ((l).length) c) 2 1 1,.m 80 13] (lX 81 A ((l).length) c 9 ((k:Nat)-1) (k-1) ((hs.f.q.2.1).ok oM) ?_);refine lH 82 (.agg #[iV ((l.getD (k-1) stp0).op),iV ((l.getD (k-1) stp0).a),iV ((l.getD (k-1) stp0).b),iV ((l.getD (k-1) stp0).n),.bool (ineg ((l.getD (k-1) stp0).q).num),uV (lo (iabs ((l.getD (k-1) stp0).q).num)),.string (hi (iabs ((l.getD (k-1) stp0).q).num)),uV (lo (qd ((l.getD (k-1) stp0).q))),.string (hi (qd ((l.getD (k-1) stp0).q)))]) hs ((hs.f.q.2.1).el (k-1) oM) (lA 14 110 ([iV 0,iV 0,iV 0,iV 0,qF,uV 0,eS,uV 0,eS]) hs (fun zc _ _ hs=>lP 0 0 ([iV ((l.getD (k-1) stp0).op),iV ((l.getD (k-1) stp0).a),iV ((l.getD (k-1) stp0).b),iV ((l.getD (k-1) stp0).n),.bool (ineg ((l.getD (k-1) stp0).q).num),uV (lo (iabs ((l.getD (k-1) stp0).q).num)),.string (hi (iabs ((l.getD (k-1) stp0).q).num)),uV (lo (qd ((l.getD (k-1) stp0).q))),.string (hi (qd ((l.getD (k-1) stp0).q)))]) hs (fun _ hs=>lN (cQ (cSL (lL hs [.m 83 10,.m 84 13] (lX 85 (sB za) ((l).length) ((l).length) 5 ((k:Nat)-1) (k-1) rfl ?_)))))));refine lQ 86 1 bar qc 5 0 (k-1) (qv ((bar).getD (k-1) 0)) hs oM (lC 87 hs (fSign ((bar).getD (k-1) 0) (LQ.mono (hZ.lb hw1k (k-1) oM) oM) _ _ hs.g) ?_);rintro _ _ zF hs rfl;cases zg:((((bar).getD (k-1) 0).num.sign:Int) == (0:Int))
      ·
       have zr:=neOfBeq zg;refine lB 88 zg (lN (cIF (cK (cQ (cSL (lL hs [.v 89 (pB zc),.o 90 (iV ((l.getD (k-1) stp0).op)) 0 0 1] ?_))))));cases zi:(((l.getD (k-1) stp0).op:Int) == (2:Int))
       ·
        have zs:=neOfBeq zi;refine lB 91 zi (lN (cIF (cK (cQ ?_))));have hsr:=hs;refine cR 17 [⟨15,15,.cells (List.toArray [qF,uV 0,eS,uV 0,eS]) 55 (0,0)⟩,⟨16,16,.cells (List.toArray [qF,uV 0,eS,uV 0,eS]) 55 (0,0)⟩] mixed hs (al_cons (alOk kR (fun _ _=>by kernel_rfl)) (al_cons (alOk kR (fun _ _=>by kernel_rfl)) al_nil)) ?_;have ho2:(l.getD (k-1) stp0).op≠2:=by omega
        obtain ⟨hok6,hok8⟩:=ok_use hvl hok_ ho2 oM fk.o68.1 fk.o68.2;have hsg8:sg (k-1)≤100000000:=hZ1.sgb hwk;refine eO 0 107 [(0,0,9)] (.agg #[iV ((l.getD (k-1) stp0).op),iV ((l.getD (k-1) stp0).a),iV ((l.getD (k-1) stp0).b),iV ((l.getD (k-1) stp0).n),.bool (ineg ((l.getD (k-1) stp0).q).num),uV (lo (iabs ((l.getD (k-1) stp0).q).num)),.string (hi (iabs ((l.getD (k-1) stp0).q).num)),uV (lo (qd ((l.getD (k-1) stp0).q))),.string (hi (qd ((l.getD (k-1) stp0).q)))]) hs (eV 1 108 (qS Av ((vlist true l at_).length) cv) (eV 2 109 (qP zc 1) (eO 3 110 [(0,1,1)] (iV ((l.getD (k-1) stp0).a)) hs (eX 4 111 Av ((vlist true l at_).length) cv 5 ((l.getD (k-1) stp0).a) ((l.getD (k-1) stp0).a.toNat) ((hs.f.1).ok oM) (eH 5 112 (qv ((vlist true l at_).getD ((l.getD (k-1) stp0).a.toNat) 0)) hs ((hs.f.1).el ((l.getD (k-1) stp0).a.toNat) oM) (eV 6 113 (qS Av ((vlist true l at_).length) cv) (eV 7 114 (qP zc 2) (eO 8 115 [(0,2,1)] (iV ((l.getD (k-1) stp0).b)) hs (eX 9 116 Av ((vlist true l at_).length) cv 5 ((l.getD (k-1) stp0).b) ((l.getD (k-1) stp0).b.toNat) ((hs.f.1).ok oM) (eH 10 117 (qv ((vlist true l at_).getD ((l.getD (k-1) stp0).b.toNat) 0)) hs ((hs.f.1).el ((l.getD (k-1) stp0).b.toNat) oM) (eC 11 118 hs (fun _ _ hs=>tSlopesX (l.getD (k-1) stp0) ((vlist true l at_).getD (l.getD (k-1) stp0).a.toNat 0) ((vlist true l at_).getD (l.getD (k-1) stp0).b.toNat 0) 1000000 oM (hLb _) (hLb _) (hq (k-1)) kD (fk.op_ ho2) fk.2.2.2.2.2.1 hok6 hok8 _ _ hs.g hs.f.2.1) ?_)))))))))));rintro _ _ _ _ _ hs ⟨da,db,rfl,hda,hdb⟩;obtain ⟨hsa,hsb⟩:=hSgk (k-1) oM oM;rw[←hvl,←hda] at hsa
        rw[←hvl,←hdb] at hsb
        refine eV 12 106 (.tuple #[qv da,qv db]) (eV 13 119 (qv da) (eV 14 120 (qv db) (eD2 hsr hs 55 [qF,uV 0,eS,uV 0,eS] 55 [qF,uV 0,eS,uV 0,eS] (fun _ _ zl zm hs=>tP 17 0 0 (qc da) hs (fun _ hs=>tP 18 1 0 (qc db) hs (fun _ hs=>tN (cTo [(3,pB b1),(6,sZ),(7,qS (sB zb) n_ n_),(8,iV (terr true l at_ l.length)),(9,qS Av ((vlist true l at_).length) cv),(10,qS (sB za) ((l).length) ((l).length)),(13,iV ((k:Nat)-1)),(14,pB zc),(16,pB zm),(15,pB zl)] ?_)))))));refine cQ (cSL (lL hs [.v 121 (pB zc),.o 122 (iV ((l.getD (k-1) stp0).op)) 2 0 1] (lC 123 hs (tArity (l.getD (k-1) stp0).op _ _ hs.g) ?_)));rintro _ _ _ hs rfl;cases zj:(decide ((0:Int)<(ari (l.getD (k-1) stp0).op:Int)))
        ·
         have zt:=oF zj;refine lB 124 zj (lN (cIF (cK (cSL (lL hs [.v 141 (pB zc),.o 142 (iV ((l.getD (k-1) stp0).op)) 2 0 1] (lC 143 hs (tArity (l.getD (k-1) stp0).op _ _ hs.g) ?_))))));rintro _ _ zG hs rfl;have ⟨zx,phb56⟩:=dF (p:=(1:Int)<(ari (l.getD (k-1) stp0).op:Int)) oM;refine lB 144 zx (lN (cIF (cK (kQ (lL hs [.m 76 13] (lI 77 (((k:Nat)-1)-1) ?_))))));refine lE (ik:=.i64) 13 (show (k:Int)-1-1=((k-1:Nat):Int)-1 by omega) (lD ?_);intro a_ ka;replace hs:=hs.drop 3 0;refine ⟨_,_,?_,⟨k-1,g,bar,zG,rfl,rfl,hs.to _ _,oM,hgl,hbl,(by first|exact hB1.skip (sgn0 oM)|exact hB1.num oM hopr oM oM),hZ1.skip⟩,ka.to _ kR⟩
         omega
        have zt:=oT zj;refine lB 124 zj (lN (cIT (cR 15 [] mixed hs al_nil ?_)));refine eV 0 125 (qS (sB za) ((l).length) ((l).length)) (eV 1 126 (qP zc 1) (eO 2 127 [(2,1,1)] (iV ((l.getD (k-1) stp0).a)) hs (eV 3 128 (qS (sB za) ((l).length) ((l).length)) (eV 4 129 (qP zc 1) (eO 5 130 [(2,1,1)] (iV ((l.getD (k-1) stp0).a)) hs (eX 6 131 (sB za) ((l).length) ((l).length) 5 ((l.getD (k-1) stp0).a) ((l.getD (k-1) stp0).a.toNat) rfl (eQ 7 132 3 bar qc 5 0 ((l.getD (k-1) stp0).a.toNat) (qv ((bar).getD ((l.getD (k-1) stp0).a.toNat) 0)) hs oM (eV 8 133 (qS (sB za) ((l).length) ((l).length)) (eV 9 134 (iV ((k:Nat)-1)) (eX 10 135 (sB za) ((l).length) ((l).length) 5 ((k:Nat)-1) (k-1) rfl (eQ 11 136 3 bar qc 5 0 (k-1) (qv ((bar).getD (k-1) 0)) hs oM (eO 12 137 [(0,0,5)] (qv da) hs ?_))))))))))));have hq62:=LQ.mul (hZ.lb hw1k (k-1) oM) hsa;refine eC 13 138 hs (fun _ _ hs=>fMul ((bar).getD (k-1) 0) da (LQ.mono (hZ.lb hw1k (k-1) oM) oM) (LQ.mono hsa oM) _ _ hs.g hs.f.2.1) ?_;rintro _ _ _ _ _ hs rfl;have hq65:=LQ.add (hZ.lb hw1k ((l.getD (k-1) stp0).a.toNat) oM) (hZ1.mul hwk hsa);refine eC 14 139 hs (fun _ _ hs=>fAdd ((bar).getD ((l.getD (k-1) stp0).a.toNat) 0) (((bar).getD (k-1) 0)*da) (LQ.mono (hZ.lb hw1k ((l.getD (k-1) stp0).a.toNat) oM) oM) (LQ.mono (hZ1.mul hwk hsa) oM) _ _ hs.g hs.f.2.1) ?_;rintro _ _ _ _ _ hs rfl;refine eD0 hs (fun _ _ hs=>tX 15 140 (sB za) ((l).length) ((l).length) 5 ((l.getD (k-1) stp0).a) ((l.getD (k-1) stp0).a.toNat) rfl (tW 16 3 bar qc 5 ((l.getD (k-1) stp0).a.toNat) (((bar).getD ((l.getD (k-1) stp0).a.toNat) 0)+(((bar).getD (k-1) 0)*da)) hs oM (fun _ hs=>?_)));have zn:((bar).set ((l.getD (k-1) stp0).a.toNat) (((bar).getD ((l.getD (k-1) stp0).a.toNat) 0)+(((bar).getD (k-1) 0)*da))).length=((l).length):=by rw[List.length_set];exact hbl
        replace hs:=hs.to [⟨zl,55,qc da⟩,⟨zm,55,qc db⟩,⟨zc,110,[iV ((l.getD (k-1) stp0).op),iV ((l.getD (k-1) stp0).a),iV ((l.getD (k-1) stp0).b),iV ((l.getD (k-1) stp0).n),.bool (ineg ((l.getD (k-1) stp0).q).num),uV (lo (iabs ((l.getD (k-1) stp0).q).num)),.string (hi (iabs ((l.getD (k-1) stp0).q).num)),uV (lo (qd ((l.getD (k-1) stp0).q))),.string (hi (qd ((l.getD (k-1) stp0).q)))]⟩,⟨za,55,((bar).set ((l.getD (k-1) stp0).a.toNat) (((bar).getD ((l.getD (k-1) stp0).a.toNat) 0)+(((bar).getD (k-1) 0)*da))).flatMap qc⟩,⟨zb,55,(g).flatMap qc⟩,⟨b1,36,[nV n_,qS A ((l).length) c,qS O ((os).length) d]⟩] [];refine tNS (lL hs [.v 141 (pB zc),.o 142 (iV ((l.getD (k-1) stp0).op)) 2 0 1] (lC 143 hs (tArity (l.getD (k-1) stp0).op _ _ hs.g) ?_));rintro _ _ zH hs rfl;cases zk:(decide ((1:Int)<(ari (l.getD (k-1) stp0).op:Int)))
        ·
         have zu:=oF zk;refine lB 144 zk (lN (cIF (cK (kQ (lL hs [.m 76 13] (lI 77 (((k:Nat)-1)-1) ?_))))));refine lE (ik:=.i64) 13 (show (k:Int)-1-1=((k-1:Nat):Int)-1 by omega) (lD ?_);intro a_ ka;replace hs:=hs.drop 3 0;refine ⟨_,_,?_,⟨k-1,g,(bar).set ((l.getD (k-1) stp0).a.toNat) (((bar).getD ((l.getD (k-1) stp0).a.toNat) 0)+(((bar).getD (k-1) 0)*da)),zH,rfl,rfl,hs.to _ _,oM,hgl,zn,(hB1.one oM hopr oM oM oM oM (by rw[hda,hvl])),(hZ1.one ((hWt _ oM).2.1 oM) (hopr.1 oM) hsa)⟩,ka.to _ kR⟩
         omega
        have zu:=oT zk;refine lB 144 zk (lN (cIT (cR 15 [] mixed hs al_nil ?_)));have hT2:=hZ1.two (a:=(l.getD (k-1) stp0).a.toNat) (b:=(l.getD (k-1) stp0).b.toNat) hwk (fun j hj=>hw1 j oM) ((hWt _ oM).2.2 oM) (hopr.1 oM) (hopr.2.1 oM) oM hsa hsb rfl;refine eV 0 145 (qS (sB za) ((l).length) ((l).length)) (eV 1 146 (qP zc 2) (eO 2 147 [(2,2,1)] (iV ((l.getD (k-1) stp0).b)) hs (eV 3 148 (qS (sB za) ((l).length) ((l).length)) (eV 4 149 (qP zc 2) (eO 5 150 [(2,2,1)] (iV ((l.getD (k-1) stp0).b)) hs (eX 6 151 (sB za) ((l).length) ((l).length) 5 ((l.getD (k-1) stp0).b) ((l.getD (k-1) stp0).b.toNat) rfl (eQ 7 152 3 ((bar).set ((l.getD (k-1) stp0).a.toNat) (((bar).getD ((l.getD (k-1) stp0).a.toNat) 0)+(((bar).getD (k-1) 0)*da))) qc 5 0 ((l.getD (k-1) stp0).b.toNat) (qv (((bar).set ((l.getD (k-1) stp0).a.toNat) (((bar).getD ((l.getD (k-1) stp0).a.toNat) 0)+(((bar).getD (k-1) 0)*da))).getD ((l.getD (k-1) stp0).b.toNat) 0)) hs oM (eV 8 153 (qS (sB za) ((l).length) ((l).length)) (eV 9 154 (iV ((k:Nat)-1)) (eX 10 155 (sB za) ((l).length) ((l).length) 5 ((k:Nat)-1) (k-1) rfl (eQ 11 156 3 ((bar).set ((l.getD (k-1) stp0).a.toNat) (((bar).getD ((l.getD (k-1) stp0).a.toNat) 0)+(((bar).getD (k-1) 0)*da))) qc 5 0 (k-1) (qv (((bar).set ((l.getD (k-1) stp0).a.toNat) (((bar).getD ((l.getD (k-1) stp0).a.toNat) 0)+(((bar).getD (k-1) 0)*da))).getD (k-1) 0)) hs oM (eO 12 157 [(1,0,5)] (qv db) hs ?_))))))))))));have hq80:=LQ.mul hT2.1 hsb;refine eC 13 158 hs (fun _ _ hs=>fMul (((bar).set ((l.getD (k-1) stp0).a.toNat) (((bar).getD ((l.getD (k-1) stp0).a.toNat) 0)+(((bar).getD (k-1) 0)*da))).getD (k-1) 0) db (LQ.mono hT2.1 oM) (LQ.mono hsb oM) _ _ hs.g hs.f.2.1) ?_;rintro _ _ _ _ _ hs rfl;have hq83:=LQ.add hT2.2.1 hT2.2.2.1;refine eC 14 159 hs (fun _ _ hs=>fAdd (((bar).set ((l.getD (k-1) stp0).a.toNat) (((bar).getD ((l.getD (k-1) stp0).a.toNat) 0)+(((bar).getD (k-1) 0)*da))).getD ((l.getD (k-1) stp0).b.toNat) 0) ((((bar).set ((l.getD (k-1) stp0).a.toNat) (((bar).getD ((l.getD (k-1) stp0).a.toNat) 0)+(((bar).getD (k-1) 0)*da))).getD (k-1) 0)*db) (LQ.mono hT2.2.1 oM) (LQ.mono hT2.2.2.1 oM) _ _ hs.g hs.f.2.1) ?_;rintro _ _ _ _ _ hs rfl;refine eD0 hs (fun _ zI hs=>tX 15 160 (sB za) ((l).length) ((l).length) 5 ((l.getD (k-1) stp0).b) ((l.getD (k-1) stp0).b.toNat) rfl (tW 16 3 ((bar).set ((l.getD (k-1) stp0).a.toNat) (((bar).getD ((l.getD (k-1) stp0).a.toNat) 0)+(((bar).getD (k-1) 0)*da))) qc 5 ((l.getD (k-1) stp0).b.toNat) ((((bar).set ((l.getD (k-1) stp0).a.toNat) (((bar).getD ((l.getD (k-1) stp0).a.toNat) 0)+(((bar).getD (k-1) 0)*da))).getD ((l.getD (k-1) stp0).b.toNat) 0)+((((bar).set ((l.getD (k-1) stp0).a.toNat) (((bar).getD ((l.getD (k-1) stp0).a.toNat) 0)+(((bar).getD (k-1) 0)*da))).getD (k-1) 0)*db)) hs oM (fun _ hs=>?_)));have zA:(((bar).set ((l.getD (k-1) stp0).a.toNat) (((bar).getD ((l.getD (k-1) stp0).a.toNat) 0)+(((bar).getD (k-1) 0)*da))).set ((l.getD (k-1) stp0).b.toNat) ((((bar).set ((l.getD (k-1) stp0).a.toNat) (((bar).getD ((l.getD (k-1) stp0).a.toNat) 0)+(((bar).getD (k-1) 0)*da))).getD ((l.getD (k-1) stp0).b.toNat) 0)+((((bar).set ((l.getD (k-1) stp0).a.toNat) (((bar).getD ((l.getD (k-1) stp0).a.toNat) 0)+(((bar).getD (k-1) 0)*da))).getD (k-1) 0)*db))).length=((l).length):=by rw[List.length_set];exact zn
        replace hs:=hs.to [⟨zl,55,qc da⟩,⟨zm,55,qc db⟩,⟨zc,110,[iV ((l.getD (k-1) stp0).op),iV ((l.getD (k-1) stp0).a),iV ((l.getD (k-1) stp0).b),iV ((l.getD (k-1) stp0).n),.bool (ineg ((l.getD (k-1) stp0).q).num),uV (lo (iabs ((l.getD (k-1) stp0).q).num)),.string (hi (iabs ((l.getD (k-1) stp0).q).num)),uV (lo (qd ((l.getD (k-1) stp0).q))),.string (hi (qd ((l.getD (k-1) stp0).q)))]⟩,⟨za,55,(((bar).set ((l.getD (k-1) stp0).a.toNat) (((bar).getD ((l.getD (k-1) stp0).a.toNat) 0)+(((bar).getD (k-1) 0)*da))).set ((l.getD (k-1) stp0).b.toNat) ((((bar).set ((l.getD (k-1) stp0).a.toNat) (((bar).getD ((l.getD (k-1) stp0).a.toNat) 0)+(((bar).getD (k-1) 0)*da))).getD ((l.getD (k-1) stp0).b.toNat) 0)+((((bar).set ((l.getD (k-1) stp0).a.toNat) (((bar).getD ((l.getD (k-1) stp0).a.toNat) 0)+(((bar).getD (k-1) 0)*da))).getD (k-1) 0)*db))).flatMap qc⟩,⟨zb,55,(g).flatMap qc⟩,⟨b1,36,[nV n_,qS A ((l).length) c,qS O ((os).length) d]⟩] [];refine tN (cTo [(3,pB b1),(6,sZ),(7,qS (sB zb) n_ n_),(8,iV (terr true l at_ l.length)),(9,qS Av ((vlist true l at_).length) cv),(10,qS (sB za) ((l).length) ((l).length)),(13,iV ((k:Nat)-1))] ?_);refine kQ (lL hs [.m 76 13] (lI 77 (((k:Nat)-1)-1) ?_));refine lE (ik:=.i64) 13 (show (k:Int)-1-1=((k-1:Nat):Int)-1 by omega) (lD ?_);intro a_ ka;replace hs:=hs.drop 3 0;refine ⟨_,_,?_,⟨k-1,g,((bar).set ((l.getD (k-1) stp0).a.toNat) (((bar).getD ((l.getD (k-1) stp0).a.toNat) 0)+(((bar).getD (k-1) 0)*da))).set ((l.getD (k-1) stp0).b.toNat) ((((bar).set ((l.getD (k-1) stp0).a.toNat) (((bar).getD ((l.getD (k-1) stp0).a.toNat) 0)+(((bar).getD (k-1) 0)*da))).getD ((l.getD (k-1) stp0).b.toNat) 0)+((((bar).set ((l.getD (k-1) stp0).a.toNat) (((bar).getD ((l.getD (k-1) stp0).a.toNat) 0)+(((bar).getD (k-1) 0)*da))).getD (k-1) 0)*db)),zI,rfl,rfl,hs.to _ _,oM,hgl,zA,(hB1.two oM hopr oM oM oM (by rw[hda,hvl]) (by rw[hdb,hvl]) rfl),hT2.2.2.2⟩,ka.to _ kR⟩
        omega
       have zs:=eq_of_beq zi;refine lB 91 zi (lN (cIT (cQ (cR 13 [] mixed hs al_nil ?_))));obtain ⟨hx5,hx6⟩:=fk.nm oM;refine eV 0 92 (qS (sB zb) n_ n_) (eV 1 93 (qP zc 3) (eO 2 94 [(0,3,1)] (iV ((l.getD (k-1) stp0).n)) hs (eV 3 95 (qS (sB zb) n_ n_) (eV 4 96 (qP zc 3) (eO 5 97 [(0,3,1)] (iV ((l.getD (k-1) stp0).n)) hs (eX 6 98 (sB zb) n_ n_ 5 ((l.getD (k-1) stp0).n) ((l.getD (k-1) stp0).n.toNat) rfl (eQ 7 99 2 g qc 5 0 ((l.getD (k-1) stp0).n.toNat) (qv ((g).getD ((l.getD (k-1) stp0).n.toNat) 0)) hs oM (eV 8 100 (qS (sB za) ((l).length) ((l).length)) (eV 9 101 (iV ((k:Nat)-1)) (eX 10 102 (sB za) ((l).length) ((l).length) 5 ((k:Nat)-1) (k-1) rfl (eQ 11 103 1 bar qc 5 0 (k-1) (qv ((bar).getD (k-1) 0)) hs oM ?_)))))))))));have hq95:=LQ.add (hZ.lg ((l.getD (k-1) stp0).n.toNat)) (hZ.lb hw1k (k-1) oM);refine eC 12 104 hs (fun _ _ hs=>fAdd ((g).getD ((l.getD (k-1) stp0).n.toNat) 0) ((bar).getD (k-1) 0) (LQ.mono (hZ.lg ((l.getD (k-1) stp0).n.toNat)) oM) (LQ.mono (hZ.lb hw1k (k-1) oM) oM) _ _ hs.g hs.f.2.1) ?_;rintro _ _ _ _ _ hs rfl;refine eD0 hs (fun _ zJ hs=>tX 13 105 (sB zb) n_ n_ 5 ((l.getD (k-1) stp0).n) ((l.getD (k-1) stp0).n.toNat) rfl (tW 14 2 g qc 5 ((l.getD (k-1) stp0).n.toNat) (((g).getD ((l.getD (k-1) stp0).n.toNat) 0)+((bar).getD (k-1) 0)) hs oM (fun _ hs=>?_)));have zv:((g).set ((l.getD (k-1) stp0).n.toNat) (((g).getD ((l.getD (k-1) stp0).n.toNat) 0)+((bar).getD (k-1) 0))).length=n_:=by rw[List.length_set];exact hgl
       replace hs:=hs.to [⟨zc,110,[iV ((l.getD (k-1) stp0).op),iV ((l.getD (k-1) stp0).a),iV ((l.getD (k-1) stp0).b),iV ((l.getD (k-1) stp0).n),.bool (ineg ((l.getD (k-1) stp0).q).num),uV (lo (iabs ((l.getD (k-1) stp0).q).num)),.string (hi (iabs ((l.getD (k-1) stp0).q).num)),uV (lo (qd ((l.getD (k-1) stp0).q))),.string (hi (qd ((l.getD (k-1) stp0).q)))]⟩,⟨za,55,(bar).flatMap qc⟩,⟨zb,55,((g).set ((l.getD (k-1) stp0).n.toNat) (((g).getD ((l.getD (k-1) stp0).n.toNat) 0)+((bar).getD (k-1) 0))).flatMap qc⟩,⟨b1,36,[nV n_,qS A ((l).length) c,qS O ((os).length) d]⟩] [];refine tN (CG.exit ?_)
       show CG _ _ _ _ _ _ _ _
       refine kQ (lL hs [.m 76 13] (lI 77 (((k:Nat)-1)-1) ?_));refine lE (ik:=.i64) 13 (show (k:Int)-1-1=((k-1:Nat):Int)-1 by omega) (lD ?_);intro a_ ka;replace hs:=hs.drop 1 0;refine ⟨_,_,?_,⟨k-1,(g).set ((l.getD (k-1) stp0).n.toNat) (((g).getD ((l.getD (k-1) stp0).n.toNat) 0)+((bar).getD (k-1) 0)),bar,zJ,rfl,rfl,hs.to _ _,oM,zv,hbl,(hB1.name oM hopr oM oM oM),(hZ1.name hwk _)⟩,ka.to _ kR⟩
       omega
      have zr:=eq_of_beq zg;refine lB 88 zg (lN (cIT (CG.exit ?_)))
      show CG _ _ _ _ _ _ _ _
      refine kQ (lL hs [.m 76 13] (lI 77 (((k:Nat)-1)-1) ?_));refine lE (ik:=.i64) 13 (show (k:Int)-1-1=((k-1:Nat):Int)-1 by omega) (lD ?_);intro a_ ka;replace hs:=hs.drop 1 0;refine ⟨_,_,?_,⟨k-1,g,bar,zF,rfl,rfl,hs.to _ _,oM,hgl,hbl,(by first|exact hB1.skip (sgn0 oM)|exact hB1.num oM hopr oM oM),hZ1.skip⟩,ka.to _ kR⟩
      omega
     have zp:=oT ze;refine lB 53 ze (lN (cQ (cIT (cK (cQ (kZ (cSL (lL hs [.m 54 52] (lX 55 O ((os).length) d 1 (i:Nat) i ((hs.f.q.1).ok oM) ?_)))))))));refine lH 56 (iV (os.getD i 0)) hs ((hs.f.q.1).el i oM) (lL hs [.m 11 54,.m 12 56] (lN (cR 11 [] mixed hs al_nil ?_)));refine eV 0 57 (qS (sB za) ((l).length) ((l).length)) (eV 1 58 (iV (os.getD i 0)) (eV 2 59 (qS (sB za) ((l).length) ((l).length)) (eV 3 60 (iV (os.getD i 0)) (eX 4 61 (sB za) ((l).length) ((l).length) 5 (os.getD i 0) ((os.getD i 0).toNat) rfl (eQ 5 62 0 bar qc 5 0 ((os.getD i 0).toNat) (qv ((bar).getD ((os.getD i 0).toNat) 0)) hs oM (eV 6 63 (qS Y by_.length cY) (eV 7 64 (nV i) (eX 8 65 Y by_.length cY 5 (i:Nat) i ((hs.f.r.1).ok oM) (eH 9 66 (qv (by_.getD i 0)) hs ((hs.f.r.1).el i oM) ?_)))))))));have hq112:=LQ.add (hBs.lb hw1 hiC ((os.getD i 0).toNat) oM) (hby i);refine eC 10 67 hs (fun _ _ hs=>fAdd ((bar).getD ((os.getD i 0).toNat) 0) (by_.getD i 0) (LQ.mono (hBs.lb hw1 hiC ((os.getD i 0).toNat) oM) oM) (LQ.mono (hby i) oM) _ _ hs.g hs.f.2.1) ?_;rintro _ _ _ _ _ hs rfl;refine eD0 hs (fun _ zB hs=>tX 11 68 (sB za) ((l).length) ((l).length) 5 (os.getD i 0) ((os.getD i 0).toNat) rfl (tW 12 0 bar qc 5 ((os.getD i 0).toNat) (((bar).getD ((os.getD i 0).toNat) 0)+(by_.getD i 0)) hs oM (fun _ hs=>?_)));have zw:((bar).set ((os.getD i 0).toNat) (((bar).getD ((os.getD i 0).toNat) 0)+(by_.getD i 0))).length=((l).length):=by rw[List.length_set];exact hbl
     replace hs:=hs.to [⟨za,55,((bar).set ((os.getD i 0).toNat) (((bar).getD ((os.getD i 0).toNat) 0)+(by_.getD i 0))).flatMap qc⟩,⟨zb,55,(List.replicate n_ 0).flatMap qc⟩,⟨b1,36,[nV n_,qS A ((l).length) c,qS O ((os).length) d]⟩] [];refine tN (kQ (lIn 69 ((i:Nat)+1) (i+1) ?_));refine lL hs [.m 52 69] (lD ?_);intro a_ ka;refine ⟨_,_,?_,⟨i+1,(bar).set ((os.getD i 0).toNat) (((bar).getD ((os.getD i 0).toNat) 0)+(by_.getD i 0)),zB,rfl,rfl,hs.to _ _,oM,zw,(hBo.step oM oM hbl),(hBs.step oM (hW _ oM) (hby _))⟩,ka.to _ kR⟩
     omega
    have zo:=neOfBne zd;exact lB 40 zd (lN (cIT (cSL (lL hs [.m 41 8,.v 6 (sZ),.v 7 (sZ),.m 8 41] (lN (kX (hs.ret [] (.tuple #[sZ,sZ,iV (terr true l at_ l.length)]) (by obtain ⟨e1,e2,e3⟩:=back_e (inp:=(n_:Int)) (l:=l) (os:=os) (at_:=at_) (by_:=by_) hck oM oM oM;rw[e1,e2,e3];exact ⟨none,0,none,0,rfl,nR _,nR _,SlO.nil,SlO.nil,fun h_=>absurd h_ oM⟩))))))))
   have phb8:=neOfBne hb8;exact lB 31 hb8 (lL hs [.v 32 qT] (lN (cIT (cSL (lL hs [.v 6 (sZ),.v 7 (sZ),.v 8 (iV 5)] (lN (kX (hs.ret [] (.tuple #[sZ,sZ,iV 5]) (by obtain ⟨e1,e2,e3⟩:=back_5 (inp:=(n_:Int)) (l:=l) (os:=os) (at_:=at_) (by_:=by_) oM oM;rw[e1,e2,e3];exact ⟨none,0,none,0,rfl,nR _,nR _,SlO.nil,SlO.nil,fun h_=>absurd h_ oM⟩)))))))))
  have phb7:=neOfBne hb7;refine lB 24 hb7 (lL hs [.m 25 24] (lG 26 ?_));exact lG 27 (lG 28 (lG 29 (lG 30 (lG 31 (lL hs [.v 32 qT] (lN (cIT (cSL (lL hs [.v 6 (sZ),.v 7 (sZ),.v 8 (iV 5)] (lN (kX (hs.ret [] (.tuple #[sZ,sZ,iV 5]) (by obtain ⟨e1,e2,e3⟩:=back_5 (inp:=(n_:Int)) (l:=l) (os:=os) (at_:=at_) (by_:=by_) oM oM;rw[e1,e2,e3];exact ⟨none,0,none,0,rfl,nR _,nR _,SlO.nil,SlO.nil,fun h_=>absurd h_ oM⟩)))))))))))))
 have phb6:=neOfBne hb6;exact lB 19 hb6 (lN (cIT (cSL (lL hs [.v 6 (sZ),.v 7 (sZ),.v 8 (iV 1)] (lN (kX (hs.ret [] (.tuple #[sZ,sZ,iV 1]) (by obtain ⟨e1,e2,e3⟩:=back_1 (inp:=(n_:Int)) (l:=l) (os:=os) (at_:=at_) (by_:=by_) oM;rw[e1,e2,e3];exact ⟨none,0,none,0,rfl,nR _,nR _,SlO.nil,SlO.nil,fun h_=>absurd h_ oM⟩))))))))
theorem tBackM (inp:Int)(A:Option Addr)(c:Nat)(l:List Stp)(O:Option Addr)(d:Nat)(os:List Int)(at_:List Rat)(X:Option Addr)(cX:Nat)(by_:List Rat)(Y:Option Addr)(cY:Nat)(hl:l.length≤65536)(ho:os.length≤300)(hq:∀ i,LQ 1 (l.getD i stp0).q)(hneg:inp<0)(w:World)(h:Hp)(g:G w h)(hA:SlO 9 stc stp0 h A l)(hO:Si O os h)(hX:Sq X at_ h)(hY:Sq Y by_ h)(tb:Tab h):CR 19 #[.agg #[iV inp,.slice A ((l).length) c,.slice O ((os).length) d],.slice X at_.length cX,.slice Y by_.length cY] w h (fun v h1=>∃ A c B d,v=.tuple #[.slice A (backO inp l os at_ by_).length c,.slice B (backG inp l os at_ by_).length d,iV (backE inp l os at_ by_)]∧(backO inp l os at_ by_).length≤c∧(backG inp l os at_ by_).length≤d∧Sq A (backO inp l os at_ by_) h1∧Sq B (backG inp l os at_ by_) h1∧(backE inp l os at_ by_=0→∀ way,dotq (backG inp l os at_ by_) way (inp).toNat=tgt l os at_ by_ way)):=by
 have hs:=((((((sS g).aS hA).aS hO).aS hX).aS hY).aB tb);have hck:chkTp inp l os≠0:=by rw[chkTp_shape oM];decide
 refine go Tryz.func19 [(0,.agg #[iV inp,qS A ((l).length) c,qS O ((os).length) d]),(1,qS X at_.length cX),(2,qS Y by_.length cY)] rfl (cSL (lA 3 36 ([iV inp,qS A ((l).length) c,qS O ((os).length) d]) hs (fun b1 w2 h3 hs=>lL hs [.v 6 (sZ),.v 7 (sZ),.v 8 (iV 0)] (lN (cQ (cSL (lL hs [.o 17 (.agg #[iV inp,qS A ((l).length) c,qS O ((os).length) d]) 0 0 3] (lC 18 hs (tCheck inp A c l O d os oM oM (fun i _=>hq i) _ _ hs.g hs.f.q.1 hs.f.r.2.1) ?_))))))));rintro _ w4 h5 hs rfl;have hb6:((chkTp inp l os:Int) != (0:Int))=true:=bneT oM;have phb6:=neOfBne hb6;exact lB 19 hb6 (lN (cIT (cSL (lL hs [.v 6 (sZ),.v 7 (sZ),.v 8 (iV 1)] (lN (kX (hs.ret [] (.tuple #[sZ,sZ,iV 1]) (by obtain ⟨e1,e2,e3⟩:=back_1 (inp:=inp) (l:=l) (os:=os) (at_:=at_) (by_:=by_) hck;rw[e1,e2,e3];exact ⟨none,0,none,0,rfl,nR _,nR _,SlO.nil,SlO.nil,fun h_=>absurd h_ kD⟩))))))))
theorem tBack (inp:Int)(A:Option Addr)(c:Nat)(l:List Stp)(O:Option Addr)(d:Nat)(os:List Int)(at_:List Rat)(X:Option Addr)(cX:Nat)(by_:List Rat)(Y:Option Addr)(cY:Nat)(wt sg:Nat→Nat)(W_:Nat)(hl:l.length≤65536)(ho:os.length≤300)(hat2:at_.length≤1000000)(hbt2:by_.length≤1000000)(hq:∀ i,LQ 1 (l.getD i stp0).q)(hby:∀ i,LQ 1 (by_.getD i 0))(hB:chkTp inp l os=0→(at_.length:Int)=inp→∀ k,k≤l.length→terr true l at_ k=0→∀ j,LQ 1000000 ((tvals l at_ k).getD j 0))(hwt:chkTp inp l os=0→Wt l wt)(hW:∀ j,j<l.length→wt j≤W_)(hSg:chkTp inp l os=0→(at_.length:Int)=inp→terr true l at_ l.length=0→∀ k,k<l.length→(l.getD k stp0).op≠2→LQ (sg k) (sla (l.getD k stp0).op (l.getD k stp0).n ((tvals l at_ l.length).getD (l.getD k stp0).a.toNat 0) ((tvals l at_ l.length).getD (l.getD k stp0).b.toNat 0))∧LQ (sg k) (slb (l.getD k stp0).op ((tvals l at_ l.length).getD (l.getD k stp0).a.toNat 0) ((tvals l at_ l.length).getD (l.getD k stp0).b.toNat 0)))(hC:chkTp inp l os=0→1+pot wt (fun _=>1) l.length+os.length*(2*W_)+rem_ wt sg l.length≤100000000)(w:World)(h:Hp)(g:G w h)(hA:SlO 9 stc stp0 h A l)(hO:Si O os h)(hX:Sq X at_ h)(hY:Sq Y by_ h)(tb:Tab h):CR 19 #[.agg #[iV inp,.slice A l.length c,.slice O os.length d],.slice X at_.length cX,.slice Y by_.length cY] w h (fun v h1=>∃ A c B d,v=.tuple #[.slice A (backO inp l os at_ by_).length c,.slice B (backG inp l os at_ by_).length d,iV (backE inp l os at_ by_)]∧(backO inp l os at_ by_).length≤c∧(backG inp l os at_ by_).length≤d∧Sq A (backO inp l os at_ by_) h1∧Sq B (backG inp l os at_ by_) h1∧(backE inp l os at_ by_=0→∀ way,dotq (backG inp l os at_ by_) way (inp).toNat=tgt l os at_ by_ way)):=by
  by_cases hs:0≤inp
  · obtain ⟨n,rfl⟩:=Int.eq_ofNat_of_zero_le hs
    exact tBackN n A c l O d os at_ X cX by_ Y cY wt sg W_ hl ho hat2 hbt2 hq hby hB hwt hW hSg hC w h g hA hO hX hY tb
  · exact tBackM inp A c l O d os at_ X cX by_ Y cY hl ho hq oM w h g hA hO hX hY tb
structure LayQ (L:Lay):Prop where
  rl:L.W.length≤1000000
  rls:∀ i,(L.W.getD i []).length≤1000000
  bl:L.B.length≤1000000
  w:∀ i j,LQ 100000000 ((L.W.getD i []).getD j 0)
  b:∀ i,LQ 100000000 (L.B.getD i 0)
theorem fCmpS (q:Rat)(hq:LQ 100000000 q)(w:World)(h:Hp)(g:G w h):CV 23 #[qv q,qv q] w h (iV 0):=by
  have x:=fCmp q q hq hq w h g;rw[cmpR_self] at x
  exact x
theorem sCmpF (A:Option Addr)(ca:Nat)(qs:List Rat)(D:Option Addr)(cd:Nat)(hl:qs.length≤1000000)(hf:∀ i,LQ 100000000 (qs.getD i 0))(w:World)(h:Hp)(g:G w h)(hA:Sq A qs h)(hD:Sq D qs h):CV 68 #[.slice A qs.length ca,.slice D qs.length cd,.func (.func 23) #[] #[]] w h (iV 0):=by
 have hs:=(((sS g).aS hA).aS hD);refine go Tryz.func68 [(0,qS A qs.length ca),(1,qS D qs.length cd),(2,.func (.func 23) #[] #[])] rfl (cSL (lL hs [.v 6 (iV 0)] (lN (cQ (cSL (lL hs [.m 11 0,.v 12 (nV qs.length),.v 13 (iV 0)] (lN (kZ ?_))))))));refine cTo _ (CG.loop (fun μ_ Γ w_=>∃ (k:Nat) (h_:Hp),μ_=qs.length-k∧Γ=[(0,qS A qs.length ca),(1,qS D qs.length cd),(2,.func (.func 23) #[] #[]),(11,qS A qs.length ca),(12,nV qs.length),(13,nV k)]∧SS w h w_ h_ [] [] [Sq D qs,Sq A qs]∧k≤qs.length) _ ⟨0,h,rfl,rfl,hs.to _ _,Nat.zero_le _⟩ ?_);rintro _ _ w1 ⟨k,h2,hm3,rfl,hs,hk⟩;refine cSL ?_;cases hb4:(decide ((k:Int)<(qs.length:Int)))
 ·
  have phb4:=oF hb4;refine lB 14 hb4 (lN (cQ (cIF (CG.exit ?_))))
  show CG _ _ _ _ _ _ _ _
  refine cQ (cSL (lL hs [.m 34 0,.v 35 (nV qs.length),.m 36 1,.v 37 (nV qs.length)] ?_));have ⟨hb5,phb5⟩:=dF (p:=(qs.length:Int)<(qs.length:Int)) oM;exact lB 38 hb5 (lN (cIF (cK (cSL (lL hs [.v 6 (iV 0)] (lN (kX (hs.ret [] (iV 0) rfl))))))))
 have phb4:=oT hb4;refine lB 14 hb4 (lN (cQ (cIT (cK (cQ (kZ (cSL (lL hs [.m 15 13] (lX 16 A qs.length ca 5 (k:Nat) k ((hs.f.2.1).ok oM) ?_)))))))));refine lH 17 (qv (qs.getD k 0)) hs ((hs.f.2.1).el k oM) (lA 8 55 ([qF,uV 0,eS,uV 0,eS]) hs (fun b6 w7 h8 hs=>lL hs [.m 7 15] (lP 0 0 (qc (qs.getD k 0)) hs (fun w9 hs=>lN (cQ (cSL (lL hs [.m 18 7,.m 19 1,.v 20 (nV qs.length)] ?_)))))));have ⟨za,phb10⟩:=dF (p:=(qs.length:Int)≤(k:Int)) oM;refine lB 21 za (lN (cIF (cK (cSL (lL hs [.m 22 1,.m 23 7] (lX 24 D qs.length cd 5 (k:Nat) k ((hs.f.1).ok oM) ?_))))));refine lH 25 (qv (qs.getD k 0)) hs ((hs.f.1).el k oM) (lA 9 55 ([qF,uV 0,eS,uV 0,eS]) hs (fun b11 _ _ hs=>lP 0 0 (qc (qs.getD k 0)) hs (fun _ hs=>lNS (lL hs [.m 26 2,.o 27 (qv (qs.getD k 0)) 1 0 5,.o 28 (qv (qs.getD k 0)) 0 0 5] (lC 29 hs (fCmpS (qs.getD k 0) (hf k) _ _ hs.g) ?_)))));rintro _ _ zb hs rfl;refine lL hs [.m 10 29] (lNS (lL hs [.m 30 10,.v 31 qF] (lN (cIF (cK (kQ (lIn 33 ((k:Nat)+1) (k+1) ?_)))))));refine lL hs [.m 13 33] (lD ?_);intro a_ ka;replace hs:=hs.drop 2 0;refine ⟨_,_,?_,⟨k+1,zb,rfl,rfl,hs.to _ _,oM⟩,ka.to _ kR⟩
 omega
theorem fSame (A:Option Addr)(ca:Nat)(qs:List Rat)(D:Option Addr)(cd:Nat)(hl:qs.length≤1000000)(hf:∀ i,LQ 100000000 (qs.getD i 0))(w:World)(h:Hp)(g:G w h)(hA:Sq A qs h)(hD:Sq D qs h):CV 24 #[.slice A qs.length ca,.slice D qs.length cd] w h (.bool true):=by
 have hs:=(((sS g).aS hA).aS hD);refine go Tryz.func24 [(0,qS A qs.length ca),(1,qS D qs.length cd)] rfl (cSL (lL hs [.v 4 qF] (lNS (lL hs [.m 5 0,.m 6 1] (lC 7 hs (sCmpF A ca qs D cd hl hf _ _ hs.g hs.f.2.1 hs.f.1) ?_)))));rintro _ w1 h2 hs rfl;exact lL hs [.v 8 qT,.m 4 8] (lN (kX (hs.ret [] qT rfl)))
theorem rowsq_len (zs:List Int)(n w:Nat):(rowsq zs n w).length=n:=by simp[rowsq]
theorem hPickN (n:Nat)(hn:n<4)(w:World)(h:Hp)(g:G w h):CV 35 #[nV n,iV 4] w h (nV n):=by
  have x:=hPick (n:Nat) 4 oM oM w h g;rw[show pick (n:Nat) 4=n by unfold pick;omega] at x
  exact x
theorem hPick3 (w:World)(h:Hp)(g:G w h):CV 35 #[iV 3,iV 12] w h (iV 3):=hPick 3 12 oM oM w h g
theorem getD_memB {α:Type}{l:List α}{a:Nat}{d:α}(h:a<l.length):l.getD a d∈l:=by
  rw[List.getD_eq_getElem?_getD,List.getElem?_eq_getElem h];exact List.getElem_mem h
theorem chkFrom_z {ls:List Lay}:∀ n k,(∀ i,k≤i→i<k+n→Fine ls i∧Kd ls i)→chkFrom ls k n=0
  | 0,_,_=>rfl
  | n+1,k,h=>by
    unfold chkFrom
    rw[if_pos (h k (Nat.le_refl _) oM).1,if_pos (h k (Nat.le_refl _) oM).2];exact chkFrom_z n (k+1) (fun i a b=>h i oM oM)
theorem mk_net {ls:List Lay}{i m o kd:Int}(hl:ls.length+1=(netSizes i m o).length)(h:∀ k,k<ls.length→LayMk (ls.getD k lay0) (pick (kindAt kd k) 3+1:Nat) ((netSizes i m o).getD (k+1) 0) ((netSizes i m o).getD k 0)) :
    chkq ls=0∧dOf ls 0=pick i 3+1∧dOf ls ls.length=pick o 3+1∧(∀ k,k≤ls.length→dOf ls k≤4)∧ls.length≤2∧∀ k,LaySz (ls.getD k lay0):=by
  obtain ⟨hne,hl2,hZ4,hpp⟩:=mk_s4 hl h
  have hrow:∀ k,k<ls.length→∀ a,a<(ls.getD k lay0).W.length→((ls.getD k lay0).W.getD a []).length=(netSizes i m o).getD k 0:=fun k hk a ha=>by
    exact ((h k hk).row _ (getD_memB ha)).1
  have hd:∀ k,k≤ls.length→dOf ls k=(netSizes i m o).getD k 0:=fun k hk=>by
    unfold dOf
    by_cases e:k=0
    · subst e;rw[if_pos rfl];exact hrow 0 hne 0 (hpp 0 hne).1
    · rw[if_neg e,(h (k-1) oM).rows,show k-1+1=k by omega]
  have hs:=sizes_len i m o;refine ⟨?_,?_,?_,fun k hk=>by rw[hd k hk];exact sizes_le i m o k,hl2,fun k=>(hZ4 k).sz⟩
  · unfold chkq
    rw[if_pos ⟨by omega,by omega⟩];refine chkFrom_z _ _ (fun k _ hk=>?_);have hk2:k<ls.length:=by omega
    have L:=h k hk2;have p1:=hpp k hk2;have s1:=sizes_le i m o (k+1);have s2:=sizes_le i m o k;have s3:=sizes_pos i m o k oM;have r0:=hrow k hk2 0 p1.1;have lr:=L.rows;have lb:=L.bl;have lk:=L.k;have pl:=pick_lt (kindAt kd k) 3 oM;refine ⟨⟨⟨p1.1,by omega,fun a ha=>by rw[hrow k hk2 a ha,r0]⟩,by omega,by omega,fun _=>by omega,fun h0=>?_⟩,by constructor<;>omega⟩;have L2:=(h (k-1) oM).rows;rw[show k-1+1=k by omega] at L2
    omega
  · rw[hd 0 oM];unfold netSizes;split<;>rfl
  · rw[hd _ (Nat.le_refl _)]
    unfold netSizes at hl ⊢
    split
    · rename_i h0
      rw[if_pos h0] at hl
      rw[show ls.length=2 by simpa using hl];rfl
    · rename_i h0
      rw[if_neg h0] at hl
      rw[show ls.length=1 by simpa using hl];rfl
theorem flat_lq {ls:List Lay}(hZ:∀ i,LaySz (ls.getD i lay0))(j:Nat):LQ 1 ((flatq ls).getD j 0):=lq_get (fun q hq=>by
  obtain ⟨L,hL,hq⟩:=List.mem_flatMap.1 hq;obtain ⟨i,hi,rfl⟩:=List.mem_iff_getElem.1 hL;have z:=hZ i;rw[show ls.getD i lay0=ls[i] by simp[hi]] at z
  rcases List.mem_append.1 hq with h|h
  · obtain ⟨r,hr,hq⟩:=List.mem_flatten.1 h
    obtain ⟨a,ha,rfl⟩:=List.mem_iff_getElem.1 hr;obtain ⟨b,hb,rfl⟩:=List.mem_iff_getElem.1 hq;have:=z.w a b
    simpa [ha,hb] using this
  · obtain ⟨b,hb,rfl⟩:=List.mem_iff_getElem.1 h
    have:=z.b b
    simpa [hb] using this) oM j
noncomputable def gradR (ls:List Lay)(xss yss:List (List Rat)):List Rat:=(List.range (flatq ls).length).map fun p=>gradP ls xss yss p xss.length
theorem lossR_len (ls:List Lay)(xss yss:List (List Rat))(n:Nat):(lossR ls xss yss n).length=n:=by simp[lossR]
theorem loss_sum (ls:List Lay)(xss yss:List (List Rat)):∀ n,sumF (fun i=>rowloss (outq ls (xss.getD i []) ls.length) (yss.getD i []) (outq ls (xss.getD i []) ls.length).length) n=lossq ls xss yss n
  | 0=>rfl
  | n+1=>by
    show sumF _ n+_=lossq ls xss yss n+_
    rw[loss_sum ls xss yss n]
section
variable {ls:List Lay} {xss yss:List (List Rat)} {wx wy:Nat} (hck:chkq ls=0) (hl2:ls.length≤2) (hd4:∀ k,k≤ls.length→dOf ls k≤4) (hZ:∀ i,LaySz (ls.getD i lay0)) (hDx:Drw xss wx) (hDy:Drw yss wy) (he:netE ls xss.length wx yss.length wy=0)
include hl2 hZ hDx hDy he
include hd4 in
theorem tp_of:Tpd (flatq ls).length (flatq ls) (tpT ls xss yss).1 (tpT ls xss yss).2 (lossR ls xss yss xss.length) (gradR ls xss yss):=by
  obtain ⟨h1,_,h3,h4,h5⟩:=netE0 he;exact net_tape (chk_net3 h1) hl2 hd4 hDx.len rfl (fun i hi=>by rw[hDx.wd i hi];exact h4) (fun i hi=>by rw[hDy.wd i oM];exact h5) hDx.lq hDy.lq (flat_lq hZ)
theorem tp_bd (hT:Tpd (flatq ls).length (flatq ls) (tpT ls xss yss).1 (tpT ls xss yss).2 (lossR ls xss yss xss.length) (gradR ls xss yss)):(tpT ls xss yss).1.length≤65536∧(∀ i,LQ 1 ((tpT ls xss yss).1.getD i stp0).q)∧(tpT ls xss yss).2.length≤300∧(flatq ls).length≤1000000∧(∀ i,LQ 100000000 ((gradR ls xss yss).getD i 0))∧LQ 100000000 (lossq ls xss yss xss.length)∧(∀ i,LQ 100000 ((lossR ls xss yss xss.length).getD i 0))∧(gradR ls xss yss).length≤1000000:=by
  obtain ⟨h1,_,h3,h4,h5⟩:=netE0 he;have o:=chk_net3 h1;have hf:=flatq_len o ls.length (Nat.le_refl _);rw[List.take_length] at hf
  have hr:=hDx.len;have a1:=tpS_len o (xss:=xss) (yss:=yss) (fun i hi=>by rw[hDx.wd i hi];exact h4) (fun i hi=>by rw[hDy.wd i oM];exact h5) xss.length (Nat.le_refl _);have a2:(tpT ls xss yss).2.length=xss.length:=tpS_outs ls (dOf ls) xss yss xss.length;have a3:(tpT ls xss yss).1.length≤(flatq ls).length+xss.length*2100:=a1;have hg:=gradv_lq hZ hDx hDy;have hs:=lossv_lq hZ hDx hDy
  unfold gradv at hg
  unfold lossv at hs
  rw[if_pos he] at hg hs
  refine ⟨by omega,fun i=>?_,by omega,by omega,fun i=>(hg i).mono oM,hs.mono oM,fun i=>?_,by unfold gradR;rw[List.length_map,List.length_range];omega⟩
  · by_cases hi:i<(tpT ls xss yss).1.length
    · exact Q1.get (tpS_q ls _ hDx.lq hDy.lq _) i hi
    · rw[List.getD_eq_getElem?_getD,List.getElem?_eq_none oM];exact lq0 kD
  · rw[←hT.out]
    by_cases hi:i<(tpT ls xss yss).2.length
    · rw[pick_get hi];exact hT.vs _ (Nat.le_refl _) _
    · rw[getD_outR (by unfold pickL;rw[List.length_map];omega)];exact lq0 kD
end
theorem fSameE (A:Option Addr)(ca:Nat)(qs:List Rat)(D:Option Addr)(cd:Nat)(rs:List Rat)(e:qs=rs)(hl:rs.length≤1000000)(hf:∀ i,LQ 100000000 (rs.getD i 0))(w:World)(h:Hp)(g:G w h)(hA:Sq A qs h)(hD:Sq D rs h):CV 24 #[.slice A qs.length ca,.slice D rs.length cd] w h (.bool true):=by
  subst e;exact fSame A ca qs D cd hl hf w h g hA hD
theorem hSum (A:Option Addr)(c:Nat)(qs:List Rat)(K:Nat)(hn:qs.length≤100)(hK:∀ i,LQ K (qs.getD i 0))(hb:K≤100000)(w:World)(h:Hp)(g:G w h)(hA:Sq A qs h)(tb:Tab h):CV 40 #[.slice A qs.length c] w h (qv (sumF (fun i=>qs.getD i 0) qs.length)):=by
 have hs:=(((sS g).aS hA).aB tb);refine go Tryz.func40 [(0,qS A qs.length c)] rfl (cSL (lA 2 55 ([qF,uV 0,eS,uV 0,eS]) hs (fun b1 w2 h3 hs=>lNS (lA 3 55 ([qF,uV 0,eS,uV 0,eS]) hs (fun b4 w5 h6 hs=>lN (cQ (cSL (lL hs [.v 4 (iV 0)] (lN (kZ ?_))))))))));refine cTo _ (CG.loop (fun μ_ Γ w_=>∃ (k:Nat) (s:Rat) (h_:Hp),μ_=qs.length-k∧Γ=[(0,qS A qs.length c),(2,pB b1),(3,pB b4),(4,nV k)]∧SS w h w_ h_ [⟨b4,55,qc s⟩,⟨b1,55,[qF,uV 0,eS,uV 0,eS]⟩] [] [fun h_=>Tab h_,Sq A qs]∧k≤qs.length∧s=sumF (fun i=>qs.getD i 0) k∧LQ (k*(K+1)+1) s) _ ⟨0,0,h6,rfl,rfl,hs.to _ _,Nat.zero_le _,rfl,(lq0 oM)⟩ ?_);rintro _ _ w7 ⟨k,s,h8,hm9,rfl,hs,hk,hse,hsb⟩;have hkK:k*(K+1)≤100*(K+1):=Nat.mul_le_mul_right _ oM;refine cQ (cSL (lL hs [.m 5 4,.m 6 0,.v 7 (nV qs.length)] ?_));cases za:(decide ((k:Int)<(qs.length:Int)))
 ·
  have zb:=oF za;refine lB 8 za (lN (cIF (CG.exit ?_)))
  show CG _ _ _ _ _ _ _ _
  exact cSL (lL hs [.o 17 (qv s) 0 0 5] (lP 1 0 (qc s) hs (fun _ hs=>lN (kX (hs.ret [(1,0,5)] (qv s) (by rw[show qs.length=k by omega,←hse]))))))
 have zb:=oT za;refine lB 8 za (lN (cIT (cK (cQ (kZ (cR 6 [] mixed hs al_nil ?_))))));refine eO 0 11 [(0,0,5)] (qv s) hs (eV 1 12 (qS A qs.length c) (eV 2 13 (nV k) (eX 3 14 A qs.length c 5 (k:Nat) k ((hs.f.2.1).ok oM) (eH 4 15 (qv (qs.getD k 0)) hs ((hs.f.2.1).el k oM) ?_))));have hq12:=LQ.add hsb (hK k);refine eC 5 16 hs (fun _ _ hs=>fAdd s (qs.getD k 0) (LQ.mono hsb oM) (LQ.mono (hK k) oM) _ _ hs.g hs.f.1) ?_;rintro _ _ _ _ _ hs rfl;refine eD0 hs (fun _ zc hs=>tP 6 0 0 (qc (s+(qs.getD k 0))) hs (fun _ hs=>tN (kQ (lL hs [.m 9 4] (lIn 10 ((k:Nat)+1) (k+1) ?_)))));refine lL hs [.m 4 10] (lD ?_);intro a_ ka;refine ⟨_,_,?_,⟨k+1,(s+(qs.getD k 0)),zc,rfl,rfl,hs.to _ _,oM,(by rw[hse];rfl),((hsb.add (hK k)).mono (by rw[Nat.succ_mul];omega))⟩,ka.to _ kR⟩
 omega
theorem hSumLoss (A:Option Addr)(c:Nat)(ls:List Lay)(xss yss:List (List Rat))(hK:∀ i,LQ 100000 ((lossR ls xss yss xss.length).getD i 0))(hn:xss.length≤100)(w:World)(h:Hp)(g:G w h)(hA:Sq A (lossR ls xss yss xss.length) h)(tb:Tab h):CV 40 #[.slice A (lossR ls xss yss xss.length).length c] w h (qv (lossq ls xss yss xss.length)):=by
  have x:=hSum A c (lossR ls xss yss xss.length) 100000 (by rw[lossR_len];exact hn) hK (nR _) w h g hA tb
  rw[show sumF (fun i=>(lossR ls xss yss xss.length).getD i 0) (lossR ls xss yss xss.length).length=lossq ls xss yss xss.length by
    rw[lossR_len,←loss_sum];exact sumF_congr (fun i hi=>by unfold lossR;rw[getD_mapR hi])] at x
  exact x
theorem lDrawnN (A1:Option Addr)(c1:Nat)(z1:List Int)(A2:Option Addr)(c2:Nat)(z2:List Int)(hl1:z1.length≤9223372036854775807)(hz1:I64s z1)(hl2:z2.length≤9223372036854775807)(hz2:I64s z2)(hc1:z1.length≤c1)(hc2:z2.length≤c2)(i_ o_:Int)(n:Nat)(hn:n<4)(w:World)(h:Hp)(g:G w h)(hA1:Si A1 z1 h)(hA2:Si A2 z2 h):CR 27 #[.slice A1 z1.length c1,.slice A2 z2.length c2,iV i_,iV o_,nV n,iV 3] w h (fun v h1=>∃ A c,∃ ux:List Value,∃ xss B d,∃ uy:List Value,∃ yss,v=.tuple #[.slice A ux.length c,.slice B uy.length d]∧ux.length≤c∧uy.length≤d∧Sv A ux h1∧RVs h1 ux xss∧Sv B uy h1∧RVs h1 uy yss∧Drw xss (pick i_ 3+1)∧Drw yss (pick o_ 3+1)∧xss.length=n∧yss.length=n):=by
 have hs:=(((sS g).aS hA1).aS hA2);refine go Tryz.func27 [(0,qS A1 z1.length c1),(1,qS A2 z2.length c2),(2,iV i_),(3,iV o_),(4,nV n),(5,iV 3)] rfl (cSL (lL hs [.v 12 (sZ),.v 13 (sZ)] (lNS (lL hs [.m 16 4] (lC 17 hs (hPickN n hn _ _ hs.g) ?_)))));rintro _ w1 h2 hs rfl;refine lL hs [.m 4 17] (lNS (lL hs [.m 18 0,.m 19 4,.m 20 2] (lC 21 hs (hPick (i_) 3 oM oM _ _ hs.g) ?_)));rintro _ w4 h5 hs rfl;have lp3:=pick_lt (i_) 3 oM;refine lIn 22 ((pick (i_) 3:Nat)+1) ((pick (i_) 3)+1) (lC 23 hs (hRows A1 c1 z1 n ((pick (i_) 3)+1:Nat) oM oM hl1 hz1 hc1 _ _ hs.g hs.f.2.1) ?_);rintro _ w6 h7 hs ⟨Ar1,cr1,ur1,rfl,hcr1,hAr1,hUr1⟩;replace hs:=((hs.aS hAr1).aV hUr1);refine lL hs [.m 14 23] (lNS (lL hs [.m 24 1,.m 25 4,.m 26 3] (lC 27 hs (hPick (o_) 3 oM oM _ _ hs.g) ?_)));rintro _ w9 _ hs rfl;have lp8:=pick_lt (o_) 3 oM;refine lIn 28 ((pick (o_) 3:Nat)+1) ((pick (o_) 3)+1) (lC 29 hs (hRows A2 c2 z2 n ((pick (o_) 3)+1:Nat) oM oM hl2 hz2 hc2 _ _ hs.g hs.f.r.1) ?_);rintro _ _ _ hs ⟨Ar2,cr2,ur2,rfl,hcr2,hAr2,hUr2⟩;replace hs:=((hs.aS hAr2).aV hUr2);refine lL hs [.m 15 29] (lN (cQ (cSL (lL hs [.m 30 5] (lC 31 hs (hPick3 _ _ hs.g) ?_)))));rintro _ _ _ hs rfl;exact lN (kZ (cSL (lL hs [.v 33 qF,.m 32 33] (lN (cIF (cSL (lL hs [.v 41 qF,.m 40 41] (lN (cIF (cSL (lL hs [.v 50 qF,.m 49 50] (lN (cIF (cK (cSL (lL hs [.m 57 14,.m 58 15,.m 12 57,.m 13 58] (lN (kX (hs.ret [] (.tuple #[qS Ar1 ur1.length cr1,qS Ar2 ur2.length cr2]) (⟨_,_,ur1,_,_,_,ur2,_,rfl,hcr1,hcr2,hs.f.r.2.1,hs.f.r.1,hs.f.2.1,hs.f.1,drw_rows _ oM oM oM,drw_rows _ oM oM oM,rowsq_len _ _ _,rowsq_len _ _ _⟩))))))))))))))))))))
theorem nTapeOk (A:Option Addr)(cap:Nat)(ts:List LV)(ls:List Lay)(hn:ls.length≤1000000)(hZ:∀ i,LaySz (ls.getD i lay0))(X:Option Addr)(cX:Nat)(ux:List Value)(xss:List (List Rat))(Y:Option Addr)(cY:Nat)(uy:List Value)(yss:List (List Rat))(wx wy:Nat)(hDx:Drw xss wx)(hDy:Drw yss wy)(he:netE ls xss.length wx yss.length wy=0)(hc:chkTp ((flatq ls).length:Nat) (tpT ls xss yss).1 (tpT ls xss yss).2=0)(w:World)(h:Hp)(g:G w h)(hA:Sl A ts h)(hN:NetL h ts ls)(hX:Sv X ux h)(hU:QVs h ux xss)(hY:Sv Y uy h)(hV:QVs h uy yss)(tb:Tab h):CR 28 #[.agg #[.slice A ts.length cap],.slice X ux.length cX,.slice Y uy.length cY] w h (fun v h1=>∃ A c O e,v=.tuple #[.agg #[nV ((flatq ls).length),.slice A (tpT ls xss yss).1.length c,.slice O (tpT ls xss yss).2.length e],iV 0]∧(tpT ls xss yss).1.length≤c∧(tpT ls xss yss).2.length≤e∧SlO 9 stc stp0 h1 A (tpT ls xss yss).1∧Si O (tpT ls xss yss).2 h1):=by
  have x:=nTapeD A cap ts ls hn hZ X cX ux xss Y cY uy yss wx wy hDx hDy w h g hA hN hX hU hY hV tb;have e:tapE ls xss yss wx wy=0:=by rw[tap_0 he];exact hc
  rw[e] at x
  exact x
theorem nGradOk (A:Option Addr)(cap:Nat)(ts:List LV)(ls:List Lay)(hn:ls.length≤1000000)(hZ:∀ i,LaySz (ls.getD i lay0))(X:Option Addr)(cX:Nat)(ux:List Value)(xss:List (List Rat))(Y:Option Addr)(cY:Nat)(uy:List Value)(yss:List (List Rat))(wx wy:Nat)(hDx:Drw xss wx)(hDy:Drw yss wy)(he:netE ls xss.length wx yss.length wy=0)(w:World)(h:Hp)(g:G w h)(hA:Sl A ts h)(hN:NetL h ts ls)(hX:Sv X ux h)(hU:QVs h ux xss)(hY:Sv Y uy h)(hV:QVs h uy yss)(tb:Tab h):CR 36 #[.agg #[.slice A ts.length cap],.slice X ux.length cX,.slice Y uy.length cY] w h (fun v h1=>∃ A c,v=.tuple #[.slice A (gradR ls xss yss).length c,iV 0]∧(gradR ls xss yss).length≤c∧Sq A (gradR ls xss yss) h1):=by
  have x:=nGrad A cap ts ls hn hZ X cX ux xss Y cY uy yss wx wy hDx hDy w h g hA hN hX hU hY hV tb
  unfold gradv at x
  rw[if_pos he,he] at x
  exact x
theorem nLossOk (A:Option Addr)(cap:Nat)(ts:List LV)(ls:List Lay)(hn:ls.length≤1000000)(hZ:∀ i,LaySz (ls.getD i lay0))(X:Option Addr)(cX:Nat)(ux:List Value)(xss:List (List Rat))(Y:Option Addr)(cY:Nat)(uy:List Value)(yss:List (List Rat))(wx wy:Nat)(hDx:Drw xss wx)(hDy:Drw yss wy)(he:netE ls xss.length wx yss.length wy=0)(w:World)(h:Hp)(g:G w h)(hA:Sl A ts h)(hN:NetL h ts ls)(hX:Sv X ux h)(hU:QVs h ux xss)(hY:Sv Y uy h)(hV:QVs h uy yss)(tb:Tab h):CV 37 #[.agg #[.slice A ts.length cap],.slice X ux.length cX,.slice Y uy.length cY] w h (.tuple #[qv (lossq ls xss yss xss.length),iV 0]):=by
  have x:=nLoss A cap ts ls hn hZ X cX ux xss Y cY uy yss wx wy hDx hDy w h g hA hN hX hU hY hV tb
  unfold lossv at x
  rw[if_pos he,he] at x
  exact x
theorem nRunOk (n0:Nat)(A:Option Addr)(c:Nat)(l:List Stp)(O:Option Addr)(d:Nat)(os:List Int)(at_:List Rat)(X:Option Addr)(cX:Nat)(zs gs:List Rat)(hT:Tpd n0 at_ l os zs gs)(hl:l.length≤65536)(ho:os.length≤300)(hn:at_.length=n0)(hn6:n0≤1000000)(hq:∀ i,LQ 1 (l.getD i stp0).q)(w:World)(h:Hp)(g:G w h)(hA:SlO 9 stc stp0 h A l)(hO:Si O os h)(hX:Sq X at_ h)(tb:Tab h):CR 11 #[.agg #[nV n0,.slice A l.length c,.slice O os.length d],.slice X at_.length cX] w h (fun v h1=>∃ A c,v=.tuple #[.slice A zs.length c,iV 0]∧zs.length≤c∧Sq A zs h1):=by
  have x:=tRun (n0:Nat) A c l O d os at_ X cX hl ho oM hq (fun _ _ k hk _ j=>(hT.vs k hk j).mono oM) w h g hA hO hX tb;obtain ⟨e1,e2⟩:=run_0 (sm:=false) hT.chk (by omega:(at_.length:Int)=(n0:Nat)) hT.e0;have e3:vlist false l at_=tvals l at_ l.length:=if_pos hT.e0;rw[e1,e2,e3,hT.out] at x
  exact x
theorem nBackOk (n0:Nat)(A:Option Addr)(c:Nat)(l:List Stp)(O:Option Addr)(d:Nat)(os:List Int)(at_:List Rat)(X:Option Addr)(cX:Nat)(zs gs:List Rat)(hT:Tpd n0 at_ l os zs gs)(hl:l.length≤65536)(ho:os.length≤300)(hn:at_.length=n0)(hn6:n0≤1000000)(hq:∀ i,LQ 1 (l.getD i stp0).q)(by_:List Rat)(Y:Option Addr)(cY:Nat)(hby:by_=List.replicate os.length ((1:Int):Rat))(w:World)(h:Hp)(g:G w h)(hA:SlO 9 stc stp0 h A l)(hO:Si O os h)(hX:Sq X at_ h)(hY:Sq Y by_ h)(tb:Tab h):CR 19 #[.agg #[nV n0,.slice A l.length c,.slice O os.length d],.slice X at_.length cX,.slice Y by_.length cY] w h (fun v h1=>∃ A c B d,∃ ob gb:List Rat,∃ ej:Int,v=.tuple #[.slice A ob.length c,.slice B gb.length d,iV ej]∧ob.length≤c∧gb.length≤d∧Sq A ob h1∧Sq B gb h1∧(ej=0∨ej=7)∧(ej=0→ob=zs∧gb=gs)):=by
  obtain ⟨wt,sg,b1,b2,b3,b4⟩:=hT.bk;have hbl:by_.length=os.length:=by rw[hby,List.length_replicate]
  have hal:(at_.length:Int)=(n0:Nat):=by omega
  refine (tBack (n0:Nat) A c l O d os at_ X cX by_ Y cY wt sg 2000 hl ho oM oM hq (fun i=>?_) (fun _ _ k hk _ j=>(hT.vs k hk j).mono oM) (fun _=>b1) b2 (fun _ _ _=>b3) (fun _=>b4) w h g hA hO hX hY tb).mono ?_
  · rw[hby];exact lq_get (fun q hq=>by rw[(List.mem_replicate.1 hq).2];exact lqO) oM i
  · rintro _ w' ⟨_,h',rfl,u,A1,c1,B1,d1,rfl,k1,k2,k3,k4,_⟩
    rcases hT.e1 with e|e
    · obtain ⟨e1,e2,e3⟩:=back_0 (by_:=by_) hT.chk hal hbl e
      rw[e2] at k1 k3
      rw[e3] at k2 k4
      rw[e1,e2,e3];exact ⟨_,h',rfl,u,A1,c1,B1,d1,_,_,0,rfl,k1,k2,k3,k4,.inl rfl,fun _=>⟨hT.out,by rw[←hT.grd,hby];rfl⟩⟩
    · obtain ⟨e1,e2,e3⟩:=back_e (by_:=by_) hT.chk hal hbl (by rw[e];decide)
      rw[e2] at k1 k3
      rw[e3] at k2 k4
      rw[e1,e2,e3,e];exact ⟨_,h',rfl,u,A1,c1,B1,d1,_,_,7,rfl,k1,k2,k3,k4,.inr rfl,fun x=>absurd x kD⟩
theorem lNetBack (A0:Option Addr)(c0:Nat)(zl:List Int)(A1:Option Addr)(c1:Nat)(zv:List Int)(A2:Option Addr)(c2:Nat)(zw:List Int)(i_ m_ o_ kd rows:Int)(hl0:zl.length≤9223372036854775807)(hz0:I64s zl)(hl1:zv.length≤9223372036854775807)(hz1:I64s zv)(hl2:zw.length≤9223372036854775807)(hz2:I64s zw)(hc1:zv.length≤c1)(hc2:zw.length≤c2)(hkd : -9223372036854775808≤kd∧kd≤9223372036854775807)(w:World)(h:Hp)(g:G w h)(hA0:Si A0 zl h)(hA1:Si A1 zv h)(hA2:Si A2 zw h)(tb:Tab h):CV 7 #[.slice A0 zl.length c0,.slice A1 zv.length c1,.slice A2 zw.length c2,iV i_,iV m_,iV o_,iV kd,iV rows] w h (.bool true):=by
 have hs:=(((((sS g).aS hA0).aS hA1).aS hA2).aB tb);refine go Tryz.func7 [(0,qS A0 zl.length c0),(1,qS A1 zv.length c1),(2,qS A2 zw.length c2),(3,iV i_),(4,iV m_),(5,iV o_),(6,iV kd),(7,iV rows)] rfl (cSL (lL hs [.v 16 qF] (lNS (lL hs [.m 35 0,.m 36 3,.m 37 4,.m 38 5,.m 39 6] (lC 40 hs (mNet A0 c0 zl hl0 hz0 i_ m_ o_ kd hkd _ _ hs.g hs.f.r.2.1) ?_)))));rintro _ w1 h2 hs ⟨An,cn,ts,ls,rfl,hcn,hAn,hNn,hln,hMk⟩;replace hs:=((hs.aS hAn).aM hNn);obtain ⟨hck,hd0,hdn,hd4,hl2_,hZ2⟩:=mk_net hln hMk;refine lC 41 hs (mInNet An cn ts ls oM (fun i _=>(hZ2 i).fit) _ _ hs.g hs.f.2.1 hs.f.1 hs.f.r.1) ?_;rintro _ w3 h4 hs ⟨Ai,ci,ti,rfl,hci,hAi,hNi⟩;replace hs:=((hs.aS hAi).aN hNi);refine lA 17 74 ([sZ]) hs (fun b5 w6 h7 hs=>lP 0 0 ([qS Ai ti.length ci]) hs (fun w8 hs=>lNS (lL hs [.m 43 1,.m 44 2,.m 45 3,.m 46 5,.m 47 7] (lC 48 hs (hPick (rows) 3 oM oM _ _ hs.g) ?_))));rintro _ _ _ hs rfl;have lp9:=pick_lt (rows) 3 oM;refine lIn 49 ((pick (rows) 3:Nat)+1) ((pick (rows) 3)+1) (lC 50 hs (lDrawnN A1 c1 zv A2 c2 zw hl1 hz1 hl2 hz2 hc1 hc2 i_ o_ (pick (rows) 3+1) oM _ _ hs.g hs.f.q.r.1 hs.f.q.2.1) ?_);rintro _ _ _ hs ⟨Ax,cx,ux,xss,Ay,cy,uy,yss,rfl,hcx,hcy,hAx,hUx,hAy,hUy,hDx,hDy,hnx,hny⟩;replace hs:=((((hs.aS hAx).aV hUx).aS hAy).aV hUy);have hlx_:=hDx.len;have hly_:=hDy.len;have hwx_:=hDx.w4;have hwy_:=hDy.w4;have he:netE ls xss.length (pick (i_) 3+1) yss.length (pick (o_) 3+1)=0:=by rw[netE_0 hck];exact fitE0 oM
 have hT:=tp_of hl2_ hd4 hZ2 hDx hDy he;obtain ⟨hbl,hbq,hbo,hbn,hbg,hbs,hbz,hbgl⟩:=tp_bd hl2_ hZ2 hDx hDy he hT;refine lL hs [.m 42 50,.v 51 (qS Ax ux.length cx),.v 52 (qS Ay uy.length cy),.m 18 51,.m 19 52] (lNS (lL hs [.m 53 18] (lC 54 hs (hInRows Ax cx ux xss oM (fun i hi=>by rw[hDx.wd i hi];omega) (fun i _ j _=>(hDx.lq i j).mono oM) _ _ hs.g hs.f.r.2.1 hs.f.r.1 hs.f.q.q.1) ?_)));rintro _ _ _ hs ⟨Bx,dx,vx,rfl,hdx,hBx,hVx⟩;replace hs:=((hs.aS hBx).aQ hVx);refine lL hs [.m 55 19] (lC 56 hs (hInRows Ay cy uy yss oM (fun i hi=>by rw[hDy.wd i hi];omega) (fun i _ j _=>(hDy.lq i j).mono oM) _ _ hs.g hs.f.r.2.1 hs.f.r.1 hs.f.q.q.r.1) ?_);rintro _ _ _ hs ⟨By,dy,vy,rfl,hdy,hBy,hVy⟩;replace hs:=((hs.aS hBy).aQ hVy);refine lL hs [.m 20 54,.m 21 56] (lNS (lL hs [.o 58 (.agg #[qS Ai ti.length ci]) 0 0 1,.m 59 20,.m 60 21] (lC 61 hs (nTapeOk Ai ci ti ls oM hZ2 Bx dx vx xss By dy vy yss (pick (i_) 3+1) (pick (o_) 3+1) hDx hDy he hT.chk _ _ hs.g hs.f.q.q.2.1 hs.f.q.q.1 hs.f.r.2.1 hs.f.r.1 hs.f.2.1 hs.f.1 hs.f.q.q.q.1) ?_)));rintro _ _ _ hs ⟨At,ct,Ot,dt,rfl,hct,hdt,hAt,hOt⟩;replace hs:=hs.aP hAt hOt;refine lL hs [.m 57 61,.v 62 (.agg #[nV ((flatq ls).length),qS At ((tpT ls xss yss).1.length) ct,qS Ot ((tpT ls xss yss).2.length) dt]),.v 63 (iV 0)] (lA 22 36 ([iV 0,sZ,sZ]) hs (fun zc _ _ hs=>lP 0 0 ([nV ((flatq ls).length),qS At ((tpT ls xss yss).1.length) ct,qS Ot ((tpT ls xss yss).2.length) dt]) hs (fun _ hs=>lL hs [.m 23 63] (lN (cTo [(16,qF),(17,pB b5),(20,qS Bx vx.length dx),(21,qS By vy.length dy),(22,pB zc),(23,iV 0)] ?_)))));refine cSL (lL hs [.o 65 (.agg #[qS Ai ti.length ci]) 1 0 1,.m 66 20,.m 67 21] (lC 68 hs (nGradOk Ai ci ti ls oM hZ2 Bx dx vx xss By dy vy yss (pick (i_) 3+1) (pick (o_) 3+1) hDx hDy he _ _ hs.g hs.f.q.q.r.2.1 hs.f.q.q.r.1 hs.f.q.2.1 hs.f.q.1 hs.f.r.2.1 hs.f.r.1 hs.f.q.q.q.r.1) ?_));rintro _ _ _ hs ⟨Ag,cg,rfl,hcg,hAg⟩;replace hs:=hs.aS hAg;refine lL hs [.m 64 68,.v 69 (qS Ag ((gradR ls xss yss).length) cg),.v 70 (iV 0),.m 24 69,.m 25 70] (lNS (lL hs [.o 72 (.agg #[qS Ai ti.length ci]) 1 0 1,.m 73 20,.m 74 21] (lC 75 hs (nLossOk Ai ci ti ls oM hZ2 Bx dx vx xss By dy vy yss (pick (i_) 3+1) (pick (o_) 3+1) hDx hDy he _ _ hs.g hs.f.q.q.q.1 hs.f.q.q.r.2.1 hs.f.q.r.1 hs.f.q.2.1 hs.f.q.1 hs.f.r.2.1 hs.f.q.q.q.r.2.1) ?_)));rintro _ _ _ hs rfl;refine lL hs [.m 71 75,.v 76 (qv (lossq ls xss yss xss.length)),.v 77 (iV 0)] (lA 26 55 ([qF,uV 0,eS,uV 0,eS]) hs (fun zd _ zj hs=>lP 0 0 (qc (lossq ls xss yss xss.length)) hs (fun _ hs=>lL hs [.m 27 77] (lN (cQ (cSL (lL hs [.m 78 23,.v 79 qF,.m 80 79,.m 81 25,.v 82 qF,.v 83 qF,.m 84 83,.m 85 27,.v 86 qF,.v 87 qF] (lN (cIF (cK (cSL (lL hs [.v 28 (sZ)] (lN (cQ (cSL (lL hs [.v 29 (iV 0)] (lN (kZ ?_))))))))))))))))));replace hs:=hs.nil 55 5;refine cTo [(16,qF),(17,pB b5),(22,pB zc),(24,qS Ag ((gradR ls xss yss).length) cg),(26,pB zd),(29,iV 0),(28,sZ)] ?_;refine CG.loop (fun μ_ Γ w_=>∃ (k:Nat) (saA:Option Addr) (sac:Nat) (al:List Rat) (h_:Hp),μ_=(tpT ls xss yss).2.length-k∧Γ=[(16,qF),(17,pB b5),(22,pB zc),(24,qS Ag ((gradR ls xss yss).length) cg),(26,pB zd),(29,nV k),(28,qS saA ((al).length) sac)]∧SS w h w_ h_ [⟨zd,55,qc (lossq ls xss yss xss.length)⟩,⟨zc,36,[nV ((flatq ls).length),qS At ((tpT ls xss yss).1.length) ct,qS Ot ((tpT ls xss yss).2.length) dt]⟩,⟨b5,74,[qS Ai ti.length ci]⟩] [⟨55,5,saA,sac,(al).length,(al).flatMap qc⟩] [Sq Ag (gradR ls xss yss),Si Ot (tpT ls xss yss).2,fun h_=>SlO 9 stc stp0 h_ At (tpT ls xss yss).1,Qu vy yss,Sv By vy,Qu vx xss,Sv Bx vx,Ru uy yss,Sv Ay uy,Ru ux xss,Sv Ax ux,Nn ti ls,Sl Ai ti,Rn ts ls,Sl An ts,fun h_=>Tab h_,Si A2 zw,Si A1 zv,Si A0 zl]∧k≤(tpT ls xss yss).2.length∧al=List.replicate k ((1:Int):Rat)) _ ⟨0,none,0,[],zj,rfl,rfl,hs.to _ _,Nat.zero_le _,rfl⟩ ?_;rintro _ _ _ ⟨k,saA,sac,al,_,hm34,rfl,hs,hk,hal⟩;have hll:al.length=k:=by rw[hal,List.length_replicate]
 refine cQ (cSL (lL hs [.m 88 29,.v 89 (qP zc 2),.o 90 (qS Ot ((tpT ls xss yss).2.length) dt) 1 2 1,.v 91 (nV ((tpT ls xss yss).2.length))] ?_));cases za:(decide ((k:Int)<(((tpT ls xss yss).2.length:Nat):Int)))
 ·
  have zg:=oF za;refine lB 92 za (lN (cIF (CG.exit ?_)))
  show CG _ _ _ _ _ _ _ _
  refine cQ ?_;have hkn:k=(tpT ls xss yss).2.length:=by omega
  rw[hkn] at hal
  obtain ⟨_,hs,hc37⟩:=hs.pubr 0 (A:=saA) (c:=sac) (l:=al) (f:=qc) (ty:=55) (sz:=5) 0 (fun _=>rfl);refine cR 7 [] mixed hs al_nil (eO 0 100 [(1,0,3)] (.agg #[nV ((flatq ls).length),qS At ((tpT ls xss yss).1.length) ct,qS Ot ((tpT ls xss yss).2.length) dt]) hs (eO 1 101 [(2,0,1)] (.agg #[qS Ai ti.length ci]) hs (eC 2 102 hs (fun _ _ hs=>nFlat0 Ai ci ti ls oM (fun i _=>(hZ2 i).len) hck _ _ hs.g hs.f.q.q.q.2.1 hs.f.q.q.q.1) ?_)));rintro _ _ _ _ _ hs ⟨Af1,cf1,rfl,hcf1,hAf1⟩;replace hs:=hs.aS hAf1;refine eC 3 103 hs (fun _ _ hs=>nRunOk (flatq ls).length At ct (tpT ls xss yss).1 Ot dt (tpT ls xss yss).2 (flatq ls) Af1 cf1 (lossR ls xss yss xss.length) (gradR ls xss yss) hT hbl hbo rfl hbn hbq _ _ hs.g hs.f.q.1 hs.f.r.2.1 hs.f.1 hs.f.q.q.q.q.2.1) ?_;rintro _ _ _ _ _ hs ⟨Ar,cr,rfl,hcr,hAr⟩;replace hs:=hs.aS hAr;refine eV 4 99 (.tuple #[qS Ar ((lossR ls xss yss xss.length).length) cr,iV 0]) (eV 5 104 (qS Ar ((lossR ls xss yss xss.length).length) cr) (eV 6 105 (iV 0) (eD0 hs (fun _ _ hs=>tV 7 30 (qS Ar ((lossR ls xss yss xss.length).length) cr) (tV 8 31 (iV 0) (tN (cQ (cR 9 [] mixed hs al_nil ?_))))))));refine eO 0 107 [(1,0,3)] (.agg #[nV ((flatq ls).length),qS At ((tpT ls xss yss).1.length) ct,qS Ot ((tpT ls xss yss).2.length) dt]) hs (eO 1 108 [(2,0,1)] (.agg #[qS Ai ti.length ci]) hs (eV 3 110 (qS saA ((al).length) sac) (eC 2 109 hs (fun _ _ hs=>nFlat0 Ai ci ti ls oM (fun i _=>(hZ2 i).len) hck _ _ hs.g hs.f.q.q.q.r.2.1 hs.f.q.q.q.r.1) ?_)));rintro _ _ _ _ _ hs ⟨Af2,cf2,rfl,hcf2,hAf2⟩;replace hs:=hs.aS hAf2;refine eC 4 111 hs (fun _ _ hs=>nBackOk (flatq ls).length At ct (tpT ls xss yss).1 Ot dt (tpT ls xss yss).2 (flatq ls) Af2 cf2 (lossR ls xss yss xss.length) (gradR ls xss yss) hT hbl hbo rfl hbn hbq al saA sac hal _ _ hs.g hs.f.q.r.1 hs.f.q.2.1 hs.f.1 hs.f.r.2.1 hs.f.q.q.q.q.r.2.1) ?_;rintro _ _ _ _ _ hs ⟨Ab,cb,Ad,cd,ob,gb,ej,rfl,hcb,hcd,hAb,hAd,hej,hejz⟩;replace hs:=hs.aP hAb hAd;refine eV 5 106 (.tuple #[qS Ab ob.length cb,qS Ad gb.length cd,iV ej]) (eV 6 112 (qS Ab ob.length cb) (eV 7 113 (qS Ad gb.length cd) (eV 8 114 (iV ej) (eD0 hs (fun _ _ hs=>tV 9 32 (qS Ab ob.length cb) (tV 10 33 (qS Ad gb.length cd) (tV 11 34 (iV ej) (tN (cQ (cQ (cR 9 [] mixed hs al_nil ?_)))))))))));refine eV 0 115 (iV 0) (eV 1 116 qF (eV 2 117 qF (eV 3 118 (qS Ar ((lossR ls xss yss xss.length).length) cr) (eO 5 120 [(0,0,5)] (qv (lossq ls xss yss xss.length)) hs (eC 4 119 hs (fun _ _ hs=>hSumLoss Ar cr ls xss yss hbz oM _ _ hs.g hs.f.r.2.1 hs.f.q.q.q.q.q.2.1) ?_)))));rintro _ _ _ _ _ hs rfl;refine eC 6 121 hs (fun _ _ hs=>fCmpS (lossq ls xss yss xss.length) hbs _ _ hs.g) ?_;rintro _ _ _ _ _ hs rfl;refine eV 7 122 qF (eV 8 123 qF (eD0 hs (fun _ _ hs=>tN (cTo [(16,qF),(24,qS Ag ((gradR ls xss yss).length) cg),(30,qS Ar ((lossR ls xss yss xss.length).length) cr),(32,qS Ab ob.length cb),(33,qS Ad gb.length cd),(34,iV ej),(123,qF)] ?_))));refine cIF (cK (cSL (lC 124 hs (lKnown30 _ _ hs.g hs.f.q.q.q.q.q.2.1) ?_)));rintro _ _ _ hs rfl;refine lL hs [.m 125 124,.m 126 34] ?_;cases zb:((ej:Int) != (0:Int))
  ·
   have zi:=eqOfBne zb;refine lB 127 zb (lL hs [.m 128 127] (lG 129 ?_));refine lG 130 (lL hs [.v 131 qF,.m 132 131,.m 133 34] ?_);have ze:((ej:Int) == (0:Int))=true:=decide_eq_true oM;have phb60:=eq_of_beq ze;refine lB 134 ze (lL hs [.m 135 134,.m 136 33,.m 137 24] (lC 138 hs (fSameE Ad cd gb Ag cg (gradR ls xss yss) (hejz oM).2 hbgl hbg _ _ hs.g hs.f.1 hs.f.q.r.1) ?_));rintro _ _ _ hs rfl;refine lL hs [.v 139 qT,.m 140 139,.m 141 32,.m 142 30] (lC 143 hs (fSameE Ab cb ob Ar cr (lossR ls xss yss xss.length) (hejz oM).1 (by rw[lossR_len];omega) (fun i=>(hbz i).mono oM) _ _ hs.g hs.f.2.1 hs.f.r.2.1) ?_);rintro _ _ _ hs rfl;exact lL hs [.v 144 qT,.v 145 qT,.v 146 qT,.m 16 146] (lN (kX (hs.ret [] qT rfl)))
  have zi:=neOfBne zb;refine lB 127 zb (lL hs [.m 128 127,.m 129 34] ?_);have zf:((ej:Int) == (7:Int))=true:=decide_eq_true oM;have phb65:=eq_of_beq zf;refine lB 130 zf (lL hs [.v 131 qT,.m 132 131] (lG 133 ?_));exact lG 134 (lG 135 (lG 136 (lG 137 (lG 138 (lG 139 (lG 140 (lG 141 (lG 142 (lG 143 (lG 144 (lL hs [.v 145 qT,.v 146 qT,.m 16 146] (lN (kX (hs.ret [] qT rfl))))))))))))))
 have zg:=oT za;refine lB 92 za (lN (cIT (cK (cQ (kZ (kQ (lL hs [.m 95 28] (lC 96 hs (fOf 1 oM oM _ _ hs.g) ?_))))))));rintro _ _ _ hs rfl;refine lR 97 55 1 (qc ((1:Int):Rat)) hs (fun zk _ _ hs=>lY 98 0 55 5 sac saA al qc (((1:Int):Rat):Rat) 56 zk (.agg #[qF,uV 0,eS,uV 0,eS]) hs hs.f.1 (fun zm zn _ zo hs=>lL hs [.m 28 98] (lN (kQ (lL hs [.m 93 29] (lIn 94 ((k:Nat)+1) (k+1) ?_))))));refine lL hs [.m 29 94] (lD ?_);intro a_ ka;replace hs:=hs.tl;refine ⟨_,_,?_,⟨k+1,zm,zn,al++[(((1:Int):Rat):Rat)],zo,rfl,rfl,hs.to _ _,oM,(by rw[hal,List.replicate_succ'])⟩,ka.to _ kR⟩
 omega
end Go.Proofs.YtmkcmnhnmajheaaGreatDoor
