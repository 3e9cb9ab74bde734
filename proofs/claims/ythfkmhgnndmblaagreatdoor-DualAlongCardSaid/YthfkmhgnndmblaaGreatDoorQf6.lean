/- Laws of this claim, part 7. -/
import Derived.Test.YthfkmhgnndmblaaGreatDoorQf0
import Derived.Test.YthfkmhgnndmblaaGreatDoorQf1
import Derived.Test.YthfkmhgnndmblaaGreatDoorQf2
import Derived.Test.YthfkmhgnndmblaaGreatDoorQf3
import Derived.Test.YthfkmhgnndmblaaGreatDoorQf4
import Derived.Test.YthfkmhgnndmblaaGreatDoorQf5
set_option maxRecDepth 100000
set_option maxHeartbeats 4000000
namespace Go.Proofs.YthfkmhgnndmblaaGreatDoor
open Bool renaming and_eq_true -> i3, noConfusion -> NS
open List renaming all_eq_true -> oi, any_eq_true -> sc, cons_append -> H1, getD_eq_getElem?_getD -> LM, getElem?_eq_getElem -> NO, length_replicate -> NL, length_set -> Mg, length_take -> Lu, lookup_cons -> hP, mem_cons -> g2, mem_cons_of_mem -> MH, mem_cons_self -> MG, mem_filter -> Oh, mem_iff_getElem -> ua, mem_map -> gx, mem_range -> o0, mem_singleton -> sy, range -> ov, replicate -> zY, set_eq_of_length_le -> Oe, take_length -> yz, toArray -> MU
open Nat renaming le_of_ble_eq_true -> D1, le_refl -> eb, le_trans -> ep, lt_or_ge -> dS, lt_succ_iff_lt_or_eq -> NT, lt_succ_self -> Of, not_lt_zero -> NN, strongRecOn -> g4, succ_pos -> MB, zero_le -> My
open Option renaming isNone_iff_eq_none -> Og
open Go.RowKit
open Go.RowKit Go.Shelf
open Go.RowKit Go.WideMaps
theorem DckR.cg {d:Nat}{t:Tm}{ns:List ByteArray}{M M':Prop}{e:Int}(x:DckR d t ns M e)(h:M↔M'):DckR d t ns M' e:=propext h▸x
theorem C5 (d:Nat)(p:PTm)(t:Tm)(C:d<=20)(l:Z9)(b:Nat)(ns:List ByteArray)(o:NsD ns)(c:Z9)(z:Nat)(y:Z9)(a B:Nat)(i:a<=1000000)(w:World)(h:Hp)(g:G w h)(D:TmH d h p t)(F:SmT1 ge d t)(I:SlO 1 bD ⟨#[]⟩ h l ns)(J:Sv (c) ([.slice y a B]:List Value) h):Calls Tryz.prog 24 #[bO p,.slice l ns.length b,.slice c 1 z] w (Ret w h (fun v _=>∃ e:Int,v=iV e/\DckR d t ns (a=ns.length) e)) :=
 (tF d p t C l b ns o c z [.slice y a B] [a] (D1 rfl) (fun j f=>by match j,f with|0,_=>exact ⟨_,_,rfl,i⟩) w h g D F I J).mono fun e w' ⟨v,H,e1,u,x,e2,k⟩=>⟨v,H,e1,u,x,e2,k.cg ⟨fun h=>h 0 (MB _),fun h j f=>by match j,f with|0,_=>exact h⟩⟩
theorem ve (d:Nat)(p:PTm)(t:Tm)(H:d<=20)(o:Z9)(c:Nat)(ns:List ByteArray)(y:NsD ns)(f:Z9)(D:Nat)(B:Z9)(b F:Nat)(C:Z9)(a u1:Nat)(l:b<=1000000)(z:a<=1000000)(w:World)(h:Hp)(g:G w h)(I:TmH d h p t)(J:SmT1 ge d t)(L:SlO 1 bD ⟨#[]⟩ h o ns)(M:Sv (f) ([.slice B b F,.slice C a u1]:List Value) h):Calls Tryz.prog 24 #[bO p,.slice o ns.length c,.slice f 2 D] w (Ret w h (fun v _=>∃ e:Int,v=iV e/\DckR d t ns (b=ns.length/\a=ns.length) e)) :=
 (tF d p t H o c ns y f D [.slice B b F,.slice C a u1] [b,a] (D1 rfl) (fun j i=>by match j,i with|0,_=>exact ⟨_,_,rfl,l⟩|1,_=>exact ⟨_,_,rfl,z⟩) w h g I J L M).mono fun e w' ⟨v,K,e1,u,x,e2,k⟩=>⟨v,K,e1,u,x,e2,k.cg ⟨fun h=>⟨h 0 (MB _),h 1 (nR 2)⟩,fun h j i=>by match j,i with|0,_=>exact h.1|1,_=>exact h.2⟩⟩
def DrunR (d:Nat)(t:Tm)(ns:List ByteArray)(fs:List Rat)(e:Int)(q:Rat)(G_:List Rat):Prop :=
  ∃ ec,DckR d t ns (fs.length=ns.length) ec/\((ec≠0/\e=ec/\q=0/\G_=[])\/(ec=0/\(e,q,G_)=bA (bI ns) fs d t))
theorem mC {d:Nat}{t:Tm}{ns:List ByteArray}{M:Prop}(h:qA dr d t/\M/\(∀ i,i<ns.length->dr (ns.getD i ⟨#[]⟩)=true)/\(∀ s,fH d t s->s∈ns)/\ns.Nodup):WfT1 (fun s=>s∈ns) d t :=
 WfT1.imp (fun _ x=>x.2) (h.1.1.names h.2.2.2.1)
theorem Ir {ns:List ByteArray}{fs:List Rat}(d:NsD ns)(a:ns.Nodup)(f:fs.length=ns.length)(s:ByteArray)(b:s∈ns):bI ns s<fs.length/\∃ i,Instr.findNow .string (.string s) (jz ns) 0=some (some (i,.int .i64 (bI ns s:Nat))):=by
 have c:ns≠o4:=fun e=>by subst e;exact absurd a kD
 refine ⟨by rw[f];exact (lc b).1,?_⟩
 unfold jz;rw[if_neg c]
 rcases E1 a s with ⟨i,e1,_⟩|⟨_,e2,_⟩
 ·exact ⟨i,by rw[e1,vb b]⟩
 ·exact absurd b (oF e2)
theorem Gy (d:Nat)(p:PTm)(t:Tm)(O:d<=20)(D:Z9)(y:Nat)(ns:List ByteArray)(B:NsD ns)(fs:List Rat)(u:Z9)(x:Nat)(Y:fs.length<=1000)(V:∀ i,LQ 1 (fs.getD i 0))(w:World)(h:Hp)(g:G w h)(Q:TmH d h p t)(S:SmT1 ge d t)(W:SlO 1 bD ⟨#[]⟩ h D ns)(U:Sq u fs h)(Z:Tab h):CR 14 #[bO p,.slice D ns.length y,.slice u fs.length x] w h (fun v h1=>∃ (e:Int)(q:Rat)(A_:Z9)(c_:Nat)(G_:List Rat),v=.tuple #[pn q A_ G_.length c_,iV e]/\Sq A_ G_ h1/\DrunR d t ns fs e q G_):=by
 have a:=(((((sS g).add (K:=fun L=>TmH d L p t) Q).aS W).aS U).aB Z);refine go Tryz.func14 [(0,bO p),(1,qS D ns.length y),(2,qS u fs.length x)] rfl (ax (lA 3 50 (da p) a (fun b1 w2 h3 a=>lA 6 59 ([qF,uV 0,eS,uV 0,eS,sZ]) a (fun b4 w5 h6 a=>lL a ac (ag (aa a [.o (bO p) 1 0 9,.c,.c] (lR 13 52 1 ([qS u fs.length x]) a (fun M w8 h9 a=>?_))))))));replace a:=a.aS (SlO.of_flat (sz:=1) (f:=vc) (d:=undef) (b:=M) (o:=0) (l:=([qS u fs.length x]:List Value)) (fun _=>rfl) a.f.1);refine lC 14 a (C5 d p t O D y ns B (sB M) 1 u fs.length x oM _ _ a.g a.f.q.2.1 S a.f.q.1 a.f.1) ?_;rintro _ _ _ a ⟨F,rfl,z⟩;refine lL a ac (aG (lL a ac ?_));cases H:((F:Int) != (0:Int))
 .
  have zb:=aJ H;refine lB 16 H (ah (cK ?_));have j:=z.ok oM;refine aa a [.c,.v (.agg #[qS u fs.length x]),.v (.iface 94 (.agg #[qS u fs.length x])),.c] (lC 23 a (lk B j.2.2.1 D y _ _ a.g a.f.q.1) ?_);rintro _ _ _ a ⟨C,rfl,hM⟩;replace a:=(a.add (K:=fun L=>MapS L C (jz ns)) hM);refine lL a [.v (.agg #[.iface 94 (.agg #[qS u fs.length x]),.map (some C),qF])] (lA 9 100 ([.nilIface,.map none,qF]) a (fun X _ _ a=>lP 0 0 ([.iface 94 (.agg #[qS u fs.length x]),.map (some C),qF]) a (fun _ a=>aG (lL a [.o (.agg #[.iface 94 (.agg #[qS u fs.length x]),.map (some C),qF]) 0 0 3,.o (bO p) 2 0 9] (lC 27 a (ET (fun s=>s∈ns) (bI ns) fs u x Y C (jz ns) V (Ir B j.2.2.2.2 j.2.1) d p t _ _ oM a.g a.f.q.r.1 (mC j) j.1.2 a.f.q.1 a.f.1 a.f.r.2.1) ?_)))));rintro _ _ _ a ⟨I,cg,rfl,J⟩;replace a:=a.aS J;exact lL a [.v (qY ((bA (bI ns) fs d t).2.1) I (((bA (bI ns) fs d t).2.2).length) cg),.v (iV ((bA (bI ns) fs d t).1))] (lP 1 0 (qZ ((bA (bI ns) fs d t).2.1) I (((bA (bI ns) fs d t).2.2).length) cg) a (fun _ a=>lL a ac (ae a [(1,0,6)] (.tuple #[qY ((bA (bI ns) fs d t).2.1) I (((bA (bI ns) fs d t).2.2).length) cg,iV ((bA (bI ns) fs d t).1)]) (⟨_,_,_,_,_,rfl,a.f.1,F,z,.inr ⟨by omega,rfl⟩⟩))))
 have zb:=aI H;exact lB 16 H (am (aa a [.v (.agg #[qF,uV 0,eS,uV 0,eS,sZ]),.c] (lP 0 0 ([qF,uV 0,eS,uV 0,eS,sZ]) a (fun _ a=>lL a ac (ae a [(0,0,6)] (.tuple #[.agg #[qF,uV 0,eS,uV 0,eS,sZ],iV F]) (⟨_,0,none,0,[],rfl,SlO.nil,F,z,.inl ⟨by omega,rfl,rfl,rfl⟩⟩))))))
def Jh (n:Nat):List Value:=[.int .i64 (n:Nat)]
theorem Js:∀ s,ge s->∀ (w:World) (h:Hp),G w h->Calls Tryz.prog 62 #[.string s] w (Ret w h (fun v _=>∃ b,v=.bool b/\b=dr s)):=fun s c w h g =>
 (Ks s (by unfold ge at c;omega) w h g).mono fun e w' ⟨v,a,e1,u,e2⟩=>⟨v,a,e1,u,_,e2,rfl⟩
theorem G7 {ok:ByteArray->Prop}{d:Nat}{t:Tm}(h:WfT1 ok d t)(a:d<=12):eF d t<=1000000:=by
 have:=sP h;have:=Nat.pow_le_pow_right (show 0<2 by decide) a;have e:(2:Nat)^12=4096:=by decide
 omega
theorem Cp {l:List ByteArray}{i:Nat}(h:l.Nodup)(hi:i<l.length):¬l.getD i ⟨#[]⟩∈l.take i:=fun b=>by
 obtain ⟨j,a,e⟩:=ua.1 b;rw[Lu] at a
 rw[List.getElem_take,LM,NO hi] at e
 exact (List.pairwise_iff_getElem.1 h j i oM hi oM) e
theorem Ec {l:List ByteArray}(h:∀ i,i<l.length->l.getD i ⟨#[]⟩ ∉ l.take i):l.Nodup:=by
  have key:∀ k,k<=l.length->(l.take k).Nodup:=fun k=>by
    induction k with
    | zero=>intro _;simp
    | succ k ih =>
      intro hk;have e:=h k oM;rw[LM,NO oM] at e
      rw[List.take_add_one,NO oM];refine List.nodup_append.2 ⟨ih oM,by simp,fun a ha b c e2=>?_⟩;rw[Option.toList_some,sy] at c
      subst c;subst e2;exact e ha
  have:=key l.length (eb _)
  rwa [yz] at this
theorem BS (d:Nat)(p:RTm)(t:Tm)(hd:d<=12)(y:Z9)(l:Nat)(ns:List ByteArray)(V:NsD ns)(hcN:ns.length<=l)(z:Z9)(D:Nat)(F:Nat)(hm0:F<=1000)(H:Nat)(hm1:H<=1000)(x:qA dr d t)(w:World)(h:Hp)(g:G w h)(hT:RmH d h p t)(hN:SlO 1 bD ⟨#[]⟩ h y ns)(hU:SlO 1 Jh 0 h z ([F,H]:List Nat)):CR 27 #[bK p,.slice y ns.length l,.slice z 2 D] w h (fun v _=>∃ e:Int,v=iV e/\DckR d t ns (F=ns.length/\H=ns.length) e):=by
 have a:=((((sS g).add (K:=fun b=>RmH d b p t) hT).aS hN).aS hU);have b0:=V.len;have O:(([F,H]:List Nat):List Nat).length=2:=rfl;have bm:eF d t<=1000000:=G7 x.1 hd;refine go Tryz.func27 [(0,bK p),(1,qS y ns.length l),(2,qS z 2 D)] rfl (ax (lA 3 31 (bF p) a (fun U w2 h3 a=>lL a ac (ag (aa a ac (aZ (cU ?_)))))));refine cN (cQ (aa a [.c,.c,.v (iV 2),.v qT] (am (cK (cQ (kZ (aa a aD (lX 20 z 2 D 1 0 0 ((a.f.1).ok oM) ?_))))))));refine lH 21 (nV F) a ((a.f.1).el 0 (by rw[O];decide)) (lL a [.c,.v (nV ns.length)] ?_);cases L:((F:Int) != (ns.length:Int))
 .
  have bl:=aJ L;refine lB 24 L (ah (cK (kQ (lL a [.c,.v (iV 1),.c] (lD (CL.to [(1,qS y ns.length l),(2,qS z 2 D),(3,pB U),(6,iV 0),(7,iV 1),(12,iV 0),(13,qS z 2 D),(14,iV 2),(15,qT),(18,qS z 2 D),(19,iV 0),(20,.pointer (some ⟨(aB z),aO z+0*1,none⟩)),(21,nV F),(22,qS y ns.length l),(23,nV ns.length),(24,qF),(16,iV 0),(17,iV 1)] ?_))))));replace a:=a.to [⟨U,31,bF p⟩] [];refine cN (cQ (aa a [.c,.c,.v (iV 2),.v qT] (am (cK (cQ (kZ (aa a aD (lX 20 z 2 D 1 1 1 ((a.f.1).ok oM) ?_))))))));refine lH 21 (nV H) a ((a.f.1).el 1 (by rw[O];decide)) (lL a [.c,.v (nV ns.length)] ?_);cases J:((H:Int) != (ns.length:Int))
  .
   have bk:=aJ J;refine lB 24 J (ah (cK (kQ (lL a [.c,.v (iV 2),.c] (lD (CL.to [(1,qS y ns.length l),(2,qS z 2 D),(3,pB U),(6,iV 0),(7,iV 2),(12,iV 1),(13,qS z 2 D),(14,iV 2),(15,qT),(18,qS z 2 D),(19,iV 1),(20,.pointer (some ⟨(aB z),aO z+1*1,none⟩)),(21,nV H),(22,qS y ns.length l),(23,nV ns.length),(24,qF),(16,iV 1),(17,iV 2)] ?_))))));replace a:=a.to [⟨U,31,bF p⟩] [];refine cN (cQ (aa a [.c,.c,.v (iV 2),.v qF] (ah (CG.exit ?_))))
   show CG _ _ _ _ _ _ _ _
   refine cQ (aa a [.c,.v (nV ns.length)] ?_);cases I:(decide ((20:Int)<(ns.length:Int)))
   .
    have bb:=oF I;refine lB 27 I (ah (cK (aa a [.o (bK p) 0 0 7] (lC 29 a (vr (fun s=>dr s=true) d p t x.1.wf bm _ _ a.g a.f.r.1) ?_))));rintro _ w7 h8 a ⟨W,nc,u,rfl,hnc,hnl,hnS,Q⟩;replace a:=a.aS hnS;refine lL a ac (ag (aa a ac (aZ ?_)));refine bH _ (CG.loop (fun C Γ w_=>∃ (k:Nat)(b:Hp),C=ns.length-k/\Γ=[(1,qS y ns.length l),(8,qS W u.length nc),(9,nV k)]/\SS w h w_ b [⟨U,31,bF p⟩] [] [fun b=>SlO 1 bD ⟨#[]⟩ b W u,fun b=>SlO 1 Jh 0 b z ([F,H]:List Nat),fun b=>SlO 1 bD ⟨#[]⟩ b y ns,fun b=>RmH d b p t]/\k<=ns.length/\(∀ i,i<k->dr (ns.getD i ⟨#[]⟩)=true)) _ ⟨0,h8,rfl,rfl,a.to _ _,My _,(fun i hi=>absurd hi (NN i))⟩ ?_);rintro _ _ w9 ⟨k,zg,bz,rfl,a,hk,hal⟩;refine cQ (aa a [.c,.c,.v (nV ns.length)] ?_);cases za:(decide ((k:Int)<(ns.length:Int)))
    .
     have zd:=oF za;refine lB 33 za (ah (CG.exit ?_))
     show CG _ _ _ _ _ _ _ _
     refine cQ ?_;have B:∀ i,i<ns.length->dr (ns.getD i ⟨#[]⟩)=true:=fun i hi=>hal i oM
     refine aa a ac (aZ ?_);refine bH _ (CG.loop (fun C Γ w_=>∃ (j:Nat)(b:Hp),C=u.length-j/\Γ=[(1,qS y ns.length l),(8,qS W u.length nc),(10,nV j)]/\SS w h w_ b [⟨U,31,bF p⟩] [] [fun b=>SlO 1 bD ⟨#[]⟩ b W u,fun b=>SlO 1 Jh 0 b z ([F,H]:List Nat),fun b=>SlO 1 bD ⟨#[]⟩ b y ns,fun b=>RmH d b p t]/\j<=u.length/\(∀ i,i<j->u.getD i ⟨#[]⟩∈ns)) _ ⟨0,zg,rfl,rfl,a.to _ _,My _,(fun i hi=>absurd hi (NN i))⟩ ?_);rintro _ _ _ ⟨j,zi,bt,rfl,a,hj,M⟩;refine cQ (aa a [.c,.c,.v (nV u.length)] ?_);cases zb:(decide ((j:Int)<(u.length:Int)))
     .
      have ze:=oF zb;refine lB 45 zb (ah (CG.exit ?_))
      show CG _ _ _ _ _ _ _ _
      refine cQ ?_;have S:∀ s,fH d t s->s∈ns:=fun s_ b=>by obtain ⟨i_,hi_,e_⟩:=uT ((Q s_).2 b);rw[<-e_];exact M i_ oM
      refine aa a ac (aZ ?_);refine bH _ (CG.loop (fun C Γ w_=>∃ (i:Nat)(b:Hp),C=ns.length-i/\Γ=[(1,qS y ns.length l),(11,nV i)]/\SS w h w_ b [⟨U,31,bF p⟩] [] [fun b=>SlO 1 bD ⟨#[]⟩ b W u,fun b=>SlO 1 Jh 0 b z ([F,H]:List Nat),fun b=>SlO 1 bD ⟨#[]⟩ b y ns,fun b=>RmH d b p t]/\i<=ns.length/\(∀ m,m<i->ns.getD m ⟨#[]⟩ ∉ ns.take m)) _ ⟨0,zi,rfl,rfl,a.to _ _,My _,(fun i hi=>absurd hi (NN i))⟩ ?_);rintro _ _ _ ⟨i,_,bx,rfl,a,hi,hdu⟩;refine cQ (aa a [.c,.c,.v (nV ns.length)] ?_);cases zc:(decide ((i:Int)<(ns.length:Int)))
      .
       have zf:=oF zc;refine lB 58 zc (ah (CG.exit ?_))
       show CG _ _ _ _ _ _ _ _
       exact aa a ac (ae a [] (iV 0) (⟨_,rfl,.inr ⟨x,.inr ⟨by omega,.inr ⟨B,.inr ⟨S,.inr ⟨Ec (fun m hm=>hdu m oM),rfl⟩⟩⟩⟩⟩⟩))
      have zf:=oT zc;refine lB 58 zc (am (cK (cQ (kZ (cQ (cR 8 [] mixed a ao ?_))))));refine eV 0 61 (qS y ns.length l) (eV 1 62 (nV i) ?_);have bf:(ns.take i).length=i:=by rw[Lu];omega
      refine eT 2 63 y ns.length l 1 (i:Nat) i ?_;replace a:=a.aS ((a.f.r.1).take i);refine eV 3 64 (qS y ns.length l) (eV 4 65 (nV i) (eX 5 66 y ns.length l 1 (i:Nat) i ((a.f.r.2.1).ok oM) (eH 6 67 (.string (ns.getD i ⟨#[]⟩)) a ((a.f.r.2.1).el i oM) (eC 7 68 a (fun _ _ a=>(by have Y:=tC y l (ns.take i) (ns.getD i ⟨#[]⟩) oM _ _ a.g (a.f.1);rw[bf] at Y;exact Y)) ?_))));rintro _ _ _ _ _ a ⟨bd,rfl,X⟩;cases bn:(bd)
      .
       refine bU a (fun _ zj a=>tN (dD (cK (kQ (lL a ac (bp 60 ((i:Nat)+1) (i+1) ?_))))));refine lL a ac (lD ?_);intro a_ ka;replace a:=a.tl;refine ⟨_,_,?_,⟨i+1,zj,rfl,rfl,a.to _ _,oM,(fun m hm=>by rcases NT.1 hm with b|rfl;exact hdu m b;exact fun b=>NS ((X.2 b).symm.trans aM))⟩,ka.to _ kR⟩
       omega
      exact bU a (fun _ _ a=>tN (ct (aa a ac (ae a [] (iV 8) (⟨_,rfl,.inr ⟨x,.inr ⟨by omega,.inr ⟨B,.inr ⟨S,.inl ⟨fun b=>Cp b oM (X.1 aM),rfl⟩⟩⟩⟩⟩⟩)))))
     have ze:=oT zb;refine lB 45 zb (am (cK (cQ (kZ (aa a dl (lX 51 W u.length nc 1 (j:Nat) j ((a.f.1).ok oM) ?_))))));refine lH 52 (.string (u.getD j ⟨#[]⟩)) a ((a.f.1).el j oM) (lC 53 a (tC y l ns (u.getD j ⟨#[]⟩) oM _ _ a.g a.f.r.1) ?_);rintro _ _ zk a ⟨ba,rfl,Z⟩;cases br:(ba)
     .
      exact lL a [.v qT] (am (aa a ac (ae a [] (iV 11) (⟨_,rfl,.inr ⟨x,.inr ⟨by omega,.inr ⟨B,.inl ⟨fun b=>NS ((Z.2 (b _ ((Q _).1 (BP oM)))).symm.trans (by first|assumption|exact G0 aM)),rfl⟩⟩⟩⟩⟩))))
     refine lL a [.v qF] (ah (cK (kQ (lL a ac (bp 47 ((j:Nat)+1) (j+1) ?_)))));refine lL a ac (lD ?_);intro a_ ka;refine ⟨_,_,?_,⟨j+1,zk,rfl,rfl,a.to _ _,oM,(fun i hi=>by rcases NT.1 hi with b|rfl;exact M i b;exact Z.1 (by first|assumption|exact EC aM))⟩,ka.to _ kR⟩
     omega
    have zd:=oT za;refine lB 33 za (am (cK (cQ (kZ (aa a aD (lX 38 y ns.length l 1 (k:Nat) k ((a.f.r.1).ok oM) ?_))))));refine lH 39 (.string (ns.getD k ⟨#[]⟩)) a ((a.f.r.1).el k oM) (lC 40 a (Js (ns.getD k ⟨#[]⟩) (V.small k oM) _ _ a.g) ?_);rintro _ _ zl a ⟨bi,rfl,hbi⟩;cases bq:(bi)
    .
     exact lL a [.v qT] (am (aa a ac (ae a [] (iV 11) (⟨_,rfl,.inr ⟨x,.inr ⟨by omega,.inl ⟨(fun b=>by have Y:=b k oM;rw[<-hbi] at Y;have q2_:bi=false:=(by first|assumption|exact G0 aM);rw[Y] at q2_;cases q2_),rfl⟩⟩⟩⟩))))
    refine lL a [.v qF] (ah (cK (kQ (lL a ac (bp 35 ((k:Nat)+1) (k+1) ?_)))));refine lL a ac (lD ?_);intro a_ ka;refine ⟨_,_,?_,⟨k+1,zl,rfl,rfl,a.to _ _,oM,(fun i hi=>by rcases NT.1 hi with b|rfl;exact hal i b;rw[<-hbi];first|assumption|exact EC aM)⟩,ka.to _ kR⟩
    omega
   have bb:=oT I;refine lB 27 I (am (aa a ac (lN (kX ?_))))
   exfalso;have:=V.len;omega
  have bk:=aI J;exact lB 24 J (am (aa a ac (ae a [] (iV 5) (⟨_,rfl,.inr ⟨x,.inl ⟨fun b=>by omega,rfl⟩⟩⟩))))
 have bl:=aI L;exact lB 24 L (am (aa a ac (ae a [] (iV 5) (⟨_,rfl,.inr ⟨x,.inl ⟨fun b=>by omega,rfl⟩⟩⟩))))
theorem wY {ix:ByteArray->Nat}{fs:List Rat}:∀ {d:Nat} {t:Tm},(bA ix fs d t).1≠0->bA ix fs d t=((bA ix fs d t).1,0,[])
  | 0,_,h=>absurd rfl h
  | d + 1,t,h=>by
    by_cases o1:t.op=1
    . have e:bA ix fs (d+1) t=(0,t.q,zY fs.length 0):=if_pos o1
      rw[e] at h;exact absurd rfl h
    . by_cases o2:t.op=2
      . have e:bA ix fs (d+1) t=(0,fs.getD (ix t.s) 0,fD fs.length (ix t.s)):=(if_neg o1).trans (if_pos o2)
        rw[e] at h;exact absurd rfl h
      . have e:bA ix fs (d+1) t=qW fs.length t.op t.n _ _:=(if_neg o1).trans (if_neg o2)
        rw[e] at h ⊢
        generalize (if 0<t.ks.length then bA ix fs d (t.ks.getD 0 cY) else (0,0,[]))=x at *
        generalize (if 1<t.ks.length then bA ix fs d (t.ks.getD 1 cY) else (0,0,[]))=y at *
        by_cases c1:x.1=0
        . by_cases c2:y.1=0
          . by_cases c3:bJ t.op t.n x.2.1 y.2.1=0
            . rw[kJ c1 c2 c3] at h;exact absurd rfl h
            . rw[nG c1 c2 c3]
          . rw[py c1 c2]
        . rw[nE c1]
theorem Hq (ns:List ByteArray)(s:ByteArray)(b:s∈ns):(∃ i,i<ns.length/\ns.getD i ⟨#[]⟩=s)/\∀ k,k<ns.length->ns.getD k ⟨#[]⟩=s->(∀ i,i<k->ns.getD i ⟨#[]⟩≠s)->bI ns s=k :=
 ⟨⟨_,lc b⟩,fun k hk e a=>ph a hk e⟩
theorem FU {ns:List ByteArray}{fs:List Rat}{d:Nat}{t:Tm}(a:fs.length=ns.length)(wf:WfT1 (fun s=>s∈ns) d t)(ws:List Rat):(cM (bI ns) fs ws d t).1=(bA (bI ns) fs d t).1/\((bA (bI ns) fs d t).1=0->(cM (bI ns) fs ws d t).2.length=2/\(cM (bI ns) fs ws d t).2.getD 0 0=(bA (bI ns) fs d t).2.1/\(cM (bI ns) fs ws d t).2.getD 1 0=bW (bA (bI ns) fs d t).2.2 ws fs.length):=by
 obtain ⟨e1,e2⟩:=xi (at_:=fs) (way:=ws) (fun s (hs:s∈ns)=>by rw[a];exact (lc hs).1) wf.wf;exact ⟨e1,fun h=>⟨k7 wf (e1.trans h),e2 h⟩⟩
theorem Kg (b:Bool)(f:Z9)(i d:Nat)(j:Z9)(c a:Nat)(w:World)(h:Hp)(g:G w h):CV 46 #[.agg #[.bool b,.slice f i d,.slice j c a]] w h (bK ⟨1,0,b,f,i,d,j,c,a,⟨#[]⟩,none,0,0⟩):=by
 have e:=sS g;exact go Tryz.func46 [(0,.agg #[.bool b,qS f i d,qS j c a])] rfl (ax (lA 1 28 ([.bool b,qS f i d,qS j c a]) e (fun u w2 x e=>lA 2 31 (bF ⟨0,0,false,none,0,0,none,0,0,⟨#[]⟩,none,0,0⟩) e (fun z p y e=>aG (lL e [.o (.agg #[.bool b,qS f i d,qS j c a]) 1 0 3,.v (bK ⟨1,0,b,f,i,d,j,c,a,⟨#[]⟩,none,0,0⟩)] (lP 0 0 (bF ⟨1,0,b,f,i,d,j,c,a,⟨#[]⟩,none,0,0⟩) e (fun l e=>ae e [(0,0,7)] (bK ⟨1,0,b,f,i,d,j,c,a,⟨#[]⟩,none,0,0⟩) rfl)))))))
theorem Ji (op:Int)(a rb:RTm)(w:World)(h:Hp)(g:G w h):CR 49 #[iV op,bK a,bK rb] w h (fun v h1=>∃ b,v=bK ⟨op,0,false,none,0,0,none,0,0,⟨#[]⟩,sB b,2,2⟩/\SlO 7 bF bV h1 (sB b) [a,rb]):=by
 have e:=sS g;refine go Tryz.func49 [(0,iV op),(1,bK a),(2,bK rb)] rfl (ax (lA 4 31 (bF a) e (fun x w2 y e=>lA 5 31 (bF rb) e (fun z u j e=>lA 6 31 (bF ⟨0,0,false,none,0,0,none,0,0,⟨#[]⟩,none,0,0⟩) e (fun p B C e=>aG (lL e [.c,.o (bK a) 2 0 7,.o (bK rb) 1 0 7] (lR 10 31 2 ([iV a.op,iV a.n,.bool a.neg,qS a.zA a.zn a.zc,qS a.dA a.dn a.dc,.string a.s,qS a.A a.m a.c,iV rb.op,iV rb.n,.bool rb.neg,qS rb.zA rb.zn rb.zc,qS rb.dA rb.dn rb.dc,.string rb.s,qS rb.A rb.m rb.c]) e (fun i _ _ e=>?_))))))));replace e:=e.aS (SlO.of_flat (sz:=7) (f:=bF) (d:=bV) (b:=i) (o:=0) (l:=([(⟨a.op,a.n,a.neg,a.zA,a.zn,a.zc,a.dA,a.dn,a.dc,a.s,a.A,a.m,a.c⟩:RTm),(⟨rb.op,rb.n,rb.neg,rb.zA,rb.zn,rb.zc,rb.dA,rb.dn,rb.dc,rb.s,rb.A,rb.m,rb.c⟩:RTm)]:List RTm)) (fun _=>rfl) e.f.1);exact lL e [.v (bK ⟨op,0,false,none,0,0,none,0,0,⟨#[]⟩,sB i,2,2⟩)] (lP 0 0 (bF ⟨op,0,false,none,0,0,none,0,0,⟨#[]⟩,sB i,2,2⟩) e (fun _ e=>ae e [(0,0,7)] (bK ⟨op,0,false,none,0,0,none,0,0,⟨#[]⟩,sB i,2,2⟩) (⟨_,rfl,e.f.1⟩)))
theorem xO  (w:World)(h:Hp)(g:G w h):CR 22 #[] w h (fun v h1=>∃ b,v=.slice (sB b) 3 3/\SlO 1 bD ⟨#[]⟩ h1 (sB b) cD):=by
 have a:=sS g;refine go Tryz.func22 [] rfl (aa a ac (aG (lR 1 9 3 ([.string (⟨#[120]⟩),.string (⟨#[121]⟩),.string (⟨#[122]⟩)]) a (fun c w2 e a=>?_))));replace a:=a.aS (SlO.of_flat (sz:=1) (f:=bD) (d:=⟨#[]⟩) (b:=c) (o:=0) (l:=cD) (fun _=>rfl) a.f.1);exact lL a ac (ae a [] (qS (sB c) 3 3) (⟨_,rfl,a.f.1⟩))
theorem Iy (op:Int)(a:RTm)(w:World)(h:Hp)(g:G w h):CR 50 #[iV op,bK a] w h (fun v h1=>∃ b,v=bK ⟨op,0,false,none,0,0,none,0,0,⟨#[]⟩,sB b,1,1⟩/\SlO 7 bF bV h1 (sB b) [a]):=by
 have e:=sS g;refine go Tryz.func50 [(0,iV op),(1,bK a)] rfl (ax (lA 3 31 (bF a) e (fun u w2 y e=>lA 4 31 (bF ⟨0,0,false,none,0,0,none,0,0,⟨#[]⟩,none,0,0⟩) e (fun B p z e=>aG (lL e [.c,.o (bK a) 1 0 7] (lR 7 31 1 ([iV a.op,iV a.n,.bool a.neg,qS a.zA a.zn a.zc,qS a.dA a.dn a.dc,.string a.s,qS a.A a.m a.c]) e (fun i j x e=>?_)))))));replace e:=e.aS (SlO.of_flat (sz:=7) (f:=bF) (d:=bV) (b:=i) (o:=0) (l:=([(⟨a.op,a.n,a.neg,a.zA,a.zn,a.zc,a.dA,a.dn,a.dc,a.s,a.A,a.m,a.c⟩:RTm)]:List RTm)) (fun _=>rfl) e.f.1);exact lL e [.v (bK ⟨op,0,false,none,0,0,none,0,0,⟨#[]⟩,sB i,1,1⟩)] (lP 0 0 (bF ⟨op,0,false,none,0,0,none,0,0,⟨#[]⟩,sB i,1,1⟩) e (fun _ e=>ae e [(0,0,7)] (bK ⟨op,0,false,none,0,0,none,0,0,⟨#[]⟩,sB i,1,1⟩) (⟨_,rfl,e.f.1⟩)))
theorem Jr (a:RTm)(i:Int)(w:World)(h:Hp)(g:G w h):CR 20 #[bK a,iV i] w h (fun v h1=>∃ b,v=bK ⟨8,i,false,none,0,0,none,0,0,⟨#[]⟩,sB b,1,1⟩/\SlO 7 bF bV h1 (sB b) [a]):=by
 have e:=sS g;refine go Tryz.func20 [(0,bK a),(1,iV i)] rfl (ax (lA 2 31 (bF a) e (fun x w2 z e=>lA 4 31 (bF ⟨0,0,false,none,0,0,none,0,0,⟨#[]⟩,none,0,0⟩) e (fun C u B e=>aG (lL e [.c,.o (bK a) 1 0 7] (lR 7 31 1 ([iV a.op,iV a.n,.bool a.neg,qS a.zA a.zn a.zc,qS a.dA a.dn a.dc,.string a.s,qS a.A a.m a.c]) e (fun j p y e=>?_)))))));replace e:=e.aS (SlO.of_flat (sz:=7) (f:=bF) (d:=bV) (b:=j) (o:=0) (l:=([(⟨a.op,a.n,a.neg,a.zA,a.zn,a.zc,a.dA,a.dn,a.dc,a.s,a.A,a.m,a.c⟩:RTm)]:List RTm)) (fun _=>rfl) e.f.1);exact lL e [.v (bK ⟨8,i,false,none,0,0,none,0,0,⟨#[]⟩,sB j,1,1⟩)] (lP 0 0 (bF ⟨8,i,false,none,0,0,none,0,0,⟨#[]⟩,sB j,1,1⟩) e (fun _ e=>ae e [(0,0,7)] (bK ⟨8,i,false,none,0,0,none,0,0,⟨#[]⟩,sB j,1,1⟩) (⟨_,rfl,e.f.1⟩)))
section
variable {d:Nat}
theorem Jg (b:Bool)(c:Z9)(f l:Nat)(a:Z9)(j i:Nat){q:Rat}(w:World)(h:Hp)(g:G w h)(hz:RZ h (b,.slice c f l,.slice a j i) q):CR 46 #[.agg #[.bool b,.slice c f l,.slice a j i]] w h (fun v h1=>∃ r,v=bK r/\RmH (d+1) h1 r (.mk 1 0 q ⟨#[]⟩ [])) :=
 (Kg b c f l a j i w h g).mono fun e w' ⟨v,o,e1,u,e2⟩=>⟨v,o,e1,u,_,e2,HC (hz.gw u.gr.gw)⟩
theorem nI (op:Int)(a rb:RTm)(t u:Tm)(w:World)(h:Hp)(g:G w h)(x:RmH d h a t)(y:RmH d h rb u):CR 49 #[iV op,bK a,bK rb] w h (fun v h1=>∃ r,v=bK r/\RmH (d+1) h1 r (.mk op 0 0 ⟨#[]⟩ [t,u])) :=
 (Ji op a rb w h g).mono fun e w' ⟨v,c,e1,up,b,e2,f⟩=>⟨v,c,e1,up,_,e2,HK (x.gw up.gr.gw) (y.gw up.gr.gw) f⟩
theorem tB (op:Int)(a:RTm)(t:Tm)(w:World)(h:Hp)(g:G w h)(x:RmH d h a t):CR 50 #[iV op,bK a] w h (fun v h1=>∃ r,v=bK r/\RmH (d+1) h1 r (.mk op 0 0 ⟨#[]⟩ [t])) :=
 (Iy op a w h g).mono fun e w' ⟨v,c,e1,up,b,e2,f⟩=>⟨v,c,e1,up,_,e2,xl (x.gw up.gr.gw) f⟩
theorem uS (a:RTm)(t:Tm)(c:Int)(w:World)(h:Hp)(g:G w h)(x:RmH d h a t):CR 20 #[bK a,iV c] w h (fun v h1=>∃ r,v=bK r/\RmH (d+1) h1 r (.mk 8 c 0 ⟨#[]⟩ [t])) :=
 (Jr a c w h g).mono fun e w' ⟨v,f,e1,up,b,e2,i⟩=>⟨v,f,e1,up,_,e2,xl (x.gw up.gr.gw) i⟩
end
theorem Bn (i:Nat)(A:Z9)(u:Nat)(x:List Int)(hl:x.length<=9223372036854775807)(hz:nh x)(j:Nat)(hdp:j<=1000)(S:∀ z:Int,z+1=(j:Nat)->0<=z->∀ at_:Nat,at_<=x.length->∀ (w:World) (h:Hp),G w h->Own w i 73 [.slice A x.length u,nV at_]->h[i]?=some be->Si A x h->Calls Tryz.prog 21 #[pB i,iV z,.bool false] w (eW i w h (fun v w' h'=>∃ (r:RTm)(t:Tm)(at2:Nat),v=bK r/\at2<=x.length/\Own w' i 73 [.slice A x.length u,nV at2]/\RmH j h' r t/\GrT j t)))(at_:Nat)(ha:at_<=x.length)(w:World)(h:Hp)(g:G w h)(ho:Own w i 73 [.slice A x.length u,nV at_])(hj:h[i]?=some be)(hA:Si A x h):Calls Tryz.prog 21 #[pB i,nV j,.bool false] w (eW i w h (fun v w' h'=>∃ (r:RTm)(t:Tm)(at2:Nat),v=bK r/\at2<=x.length/\Own w' i 73 [.slice A x.length u,nV at2]/\RmH (j+1) h' r t/\GrT (j+1) t)):=by
 have b:UpM [i] w h w h:=UpM.refl g;obtain ⟨wz,q6,a⟩:=SS.at_ g ho hj;replace a:=a.aS hA;refine go Tryz.func21 [(0,pB i),(1,nV j),(2,qF)] rfl (ax (JO 6 31 (bF ⟨0,0,false,none,0,0,none,0,0,⟨#[]⟩,none,0,0⟩) a (fun B w2 h3 u4 e a=>?_)));replace e:=ep b.gr.size e;replace b:=b.trans (u4.m _);refine aG (lL a ac (gh 11 (Bw A u x hl hz i at_ oM _ _ a.g (a.own 1) (a.jk 1) a.f.1) ?_));rintro _ w6 h7 u8 ⟨D,p,rfl,r5,mf,q5⟩;replace a:=(a.stepM 1 u8 q5).to [⟨B,31,bF ⟨0,0,false,none,0,0,none,0,0,⟨#[]⟩,none,0,0⟩⟩,⟨i,73,[qS A x.length u,nV p]⟩] [];replace b:=b.trans u8;have r2:=mf.1;have rk:=mf.2;refine kd 12 (fb (D) 19 oM oM _ _ a.g) ?_;rintro _ _ zr u12 rfl;replace b:=b.trans (u12.m _);replace a:=a.step u12;have lp9:=cO (D) 19 oM;refine lL a ac (ag (aa a aD (lG 15 ?_)));refine lG 16 ?_;refine lL a [.v qF] (ah (cK (cQ (kZ (CG.join (fun Γ w_=>∃ (zq:Bool)(l:Hp),Γ=[(0,pB i),(1,nV j),(2,qF),(6,pB B),(7,nV (aW (D) 19)),(20,.bool zq)]/\SS wz q6 w_ l [⟨B,31,bF ⟨0,0,false,none,0,0,none,0,0,⟨#[]⟩,none,0,0⟩⟩,⟨i,73,[qS A x.length u,nV p]⟩] [] [Si A x]/\(zq=true->¬(1<=j/\2<=(aW (D) 19)/\(aW (D) 19)<17))/\(zq=false->(1<=j/\2<=(aW (D) 19)/\(aW (D) 19)<17))/\UpM [i] w h w_ l) ?_ ?_)))))
 .
  refine kQ (lL a ac ?_);cases zb:(decide ((j:Int)<(1:Int)))
  .
   have zu:=oF zb;refine lB 22 zb (lL a aD ?_);cases zc:(decide (((aW (D) 19:Nat):Int)<(2:Int)))
   .
    have zv:=oF zc;refine lB 25 zc (lL a [.v qF,.c,.c] ?_);cases zd:(decide ((17:Int)<=((aW (D) 19:Nat):Int)))
    .
     have zw:=oF zd;refine lB 29 zd (lL a [.v qF,.c] (lD ?_));intro a_ ka;exact ⟨_,⟨false,zr,rfl,a.to _ _,(fun l=>absurd l kD),(fun _=>by omega),b⟩,ka.to _ kR⟩
    have zw:=oT zd;refine lB 29 zd (lL a [.v qT,.c] (lD ?_));intro a_ ka;exact ⟨_,⟨true,zr,rfl,a.to _ _,(fun _=>by omega),(fun l=>absurd l kD),b⟩,ka.to _ kR⟩
   have zv:=oT zc;refine lB 25 zc (lL a [.v qT,.c] (lG 28 ?_));refine lG 29 (lL a [.v qT,.c] (lD ?_));intro a_ ka;exact ⟨_,⟨true,zr,rfl,a.to _ _,(fun _=>by omega),(fun l=>absurd l kD),b⟩,ka.to _ kR⟩
  have zu:=oT zb;refine lB 22 zb (lL a ac (lG 24 ?_));refine lG 25 (lL a [.v qT,.c] (lG 28 ?_));refine lG 29 (lL a [.v qT,.c] (lD ?_));intro a_ ka;exact ⟨_,⟨true,zr,rfl,a.to _ _,(fun _=>by omega),(fun l=>absurd l kD),b⟩,ka.to _ kR⟩
 rintro _ _ ⟨zq,_,rfl,a,r9,q4,b⟩;cases ze:(zq)
 .
  try rw[ze] at a
  try rw[ze]
  refine dD (ax ?_);have r3:=q4 aM;refine lL a ac ?_;cases zf:(decide (((aW (D) 19:Nat):Int)<(4:Int)))
  .
   have zx:=oF zf;refine lB 49 zf (lL a ac (ah (aa a ac ?_)));cases zg:(decide (((aW (D) 19:Nat):Int)<(5:Int)))
   .
    have zA:=oF zg;refine lB 63 zg (lL a ac (ah (aa a ac ?_)));cases zi:(decide (((aW (D) 19:Nat):Int)<(7:Int)))
    .
     have zB:=oF zi;refine lB 77 zi (lL a ac (ah (aa a ac ?_)));cases zj:(decide (((aW (D) 19:Nat):Int)<(8:Int)))
     .
      have zD:=oF zj;refine lB 91 zj (lL a ac (ah (aa a ac ?_)));cases zk:(decide (((aW (D) 19:Nat):Int)<(9:Int)))
      .
       have zE:=oF zk;refine lB 100 zk (lL a ac (ah (aa a ac ?_)));cases zl:(decide (((aW (D) 19:Nat):Int)<(11:Int)))
       .
        have zG:=oF zl;refine lB 117 zl (lL a ac (ah (aa a ac ?_)));cases zm:(decide (((aW (D) 19:Nat):Int)<(12:Int)))
        .
         have zH:=oF zm;refine lB 131 zm (lL a ac (ah (aa a ac ?_)));cases zn:(decide (((aW (D) 19:Nat):Int)<(13:Int)))
         .
          have zI:=oF zn;refine lB 140 zn (lL a ac (ah (aa a ac ?_)));cases zo:(decide (((aW (D) 19:Nat):Int)<(15:Int)))
          .
           have zJ:=oF zo;refine lB 149 zo (lL a ac (ah (aa a ac ?_)));cases zp:(decide (((aW (D) 19:Nat):Int)<(16:Int)))
           .
            have zK:=oF zp;refine lB 158 zp (lL a ac (ah (cK (aa a aD (lI 172 ((j:Nat)-1) ?_)))));refine lL a ac (gh 174 (S ((j:Nat)-1) oM oM p oM _ _ a.g (a.own 1) (a.jk 1) a.f.1) ?_);rintro _ _ _ u44 ⟨h8,c4,b3,rfl,rh,m4,nq,q1⟩;replace a:=(a.stepM 1 u44 m4).to [⟨B,31,bF ⟨0,0,false,none,0,0,none,0,0,⟨#[]⟩,none,0,0⟩⟩,⟨i,73,[qS A x.length u,nV b3]⟩] [];replace b:=b.trans u44;replace a:=(a.add (K:=fun l=>RmH j l h8 c4) nq);refine lL a aD (lI 177 ((j:Nat)-1) ?_);refine lL a ac (gh 179 (S ((j:Nat)-1) oM oM b3 oM _ _ a.g (a.own 1) (a.jk 1) a.f.2.1) ?_);rintro _ _ _ u48 ⟨mp,cq,bt,rfl,n6,p3,p0,m0⟩;replace a:=(a.stepM 1 u48 p3).to [⟨B,31,bF ⟨0,0,false,none,0,0,none,0,0,⟨#[]⟩,none,0,0⟩⟩,⟨i,73,[qS A x.length u,nV bt]⟩] [];replace b:=b.trans u48;replace a:=(a.add (K:=fun l=>RmH j l mp cq) p0);refine kd 180 (nI 13 h8 mp c4 cq _ _ a.g a.f.2.1 a.f.1) ?_;rintro _ _ _ u52 ⟨r49,rfl,p4⟩;replace b:=b.trans (u52.m _);replace a:=a.step u52;replace a:=(a.add (K:=fun l=>RmH (j+1) l r49 (.mk 13 0 0 ⟨#[]⟩ [c4,cq])) p4);refine nC 0 0 (bF r49) a (fun _ y a=>?_);replace b:=b.put2 y e g a.g;refine lN (bH [(6,pB B)] ?_);exact kX (a.retM b [(0,0,7)] (bK r49) ⟨_,_,bt,rfl,n6,a.own 1,a.f.1,q1.two m0 rfl⟩)
           have zK:=oT zp;refine lB 158 zp (lL a ac (am (aa a aD (lI 161 ((j:Nat)-1) ?_))));refine lL a ac (gh 163 (S ((j:Nat)-1) oM oM p oM _ _ a.g (a.own 1) (a.jk 1) a.f.1) ?_);rintro _ _ _ u57 ⟨hy,b7,bl,rfl,rs,pw,q0,my⟩;replace a:=(a.stepM 1 u57 pw).to [⟨B,31,bF ⟨0,0,false,none,0,0,none,0,0,⟨#[]⟩,none,0,0⟩⟩,⟨i,73,[qS A x.length u,nV bl]⟩] [];replace b:=b.trans u57;replace a:=(a.add (K:=fun l=>RmH j l hy b7) q0);refine lL a aD (lI 166 ((j:Nat)-1) ?_);refine lL a ac (gh 168 (S ((j:Nat)-1) oM oM bl oM _ _ a.g (a.own 1) (a.jk 1) a.f.2.1) ?_);rintro _ _ _ u61 ⟨h9,cp,bn,rfl,n7,qr,p7,pb⟩;replace a:=(a.stepM 1 u61 qr).to [⟨B,31,bF ⟨0,0,false,none,0,0,none,0,0,⟨#[]⟩,none,0,0⟩⟩,⟨i,73,[qS A x.length u,nV bn]⟩] [];replace b:=b.trans u61;replace a:=(a.add (K:=fun l=>RmH j l h9 cp) p7);refine kd 169 (nI 12 hy h9 b7 cp _ _ a.g a.f.2.1 a.f.1) ?_;rintro _ _ _ u65 ⟨r62,rfl,n1⟩;replace b:=b.trans (u65.m _);replace a:=a.step u65;replace a:=(a.add (K:=fun l=>RmH (j+1) l r62 (.mk 12 0 0 ⟨#[]⟩ [b7,cp])) n1);refine nC 0 0 (bF r62) a (fun _ y a=>?_);replace b:=b.put2 y e g a.g;refine lN (bH [(0,pB i),(1,nV j),(2,qF),(6,pB B)] ?_);exact kX (a.retM b [(0,0,7)] (bK r62) ⟨_,_,bn,rfl,n7,a.own 1,a.f.1,my.two pb rfl⟩)
          have zJ:=oT zo;refine lB 149 zo (lL a ac (am (aa a aD (lI 152 ((j:Nat)-1) ?_))));refine lL a ac (gh 154 (S ((j:Nat)-1) oM oM p oM _ _ a.g (a.own 1) (a.jk 1) a.f.1) ?_);rintro _ _ _ u70 ⟨k4,cm,br,rfl,p6,nm,qs,pl⟩;replace a:=(a.stepM 1 u70 nm).to [⟨B,31,bF ⟨0,0,false,none,0,0,none,0,0,⟨#[]⟩,none,0,0⟩⟩,⟨i,73,[qS A x.length u,nV br]⟩] [];replace b:=b.trans u70;replace a:=(a.add (K:=fun l=>RmH j l k4 cm) qs);refine kd 155 (tB 11 k4 cm _ _ a.g a.f.1) ?_;rintro _ _ _ u74 ⟨r71,rfl,q2⟩;replace b:=b.trans (u74.m _);replace a:=a.step u74;replace a:=(a.add (K:=fun l=>RmH (j+1) l r71 (.mk 11 0 0 ⟨#[]⟩ [cm])) q2);refine nC 0 0 (bF r71) a (fun _ y a=>?_);replace b:=b.put2 y e g a.g;exact lN (kX (a.retM b [(0,0,7)] (bK r71) ⟨_,_,br,rfl,p6,a.own 1,a.f.1,pl.one rfl (fun _=>rfl) kD kD⟩))
         have zI:=oT zn;refine lB 140 zn (lL a ac (am (aa a aD (lI 143 ((j:Nat)-1) ?_))));refine lL a ac (gh 145 (S ((j:Nat)-1) oM oM p oM _ _ a.g (a.own 1) (a.jk 1) a.f.1) ?_);rintro _ _ _ u79 ⟨mv,b6,b0,rfl,n2,m3,nj,pv⟩;replace a:=(a.stepM 1 u79 m3).to [⟨B,31,bF ⟨0,0,false,none,0,0,none,0,0,⟨#[]⟩,none,0,0⟩⟩,⟨i,73,[qS A x.length u,nV b0]⟩] [];replace b:=b.trans u79;replace a:=(a.add (K:=fun l=>RmH j l mv b6) nj);refine kd 146 (tB 10 mv b6 _ _ a.g a.f.1) ?_;rintro _ _ _ u83 ⟨r80,rfl,p5⟩;replace b:=b.trans (u83.m _);replace a:=a.step u83;replace a:=(a.add (K:=fun l=>RmH (j+1) l r80 (.mk 10 0 0 ⟨#[]⟩ [b6])) p5);refine nC 0 0 (bF r80) a (fun _ y a=>?_);replace b:=b.put2 y e g a.g;exact lN (kX (a.retM b [(0,0,7)] (bK r80) ⟨_,_,b0,rfl,n2,a.own 1,a.f.1,pv.one rfl (fun _=>rfl) kD kD⟩))
        have zH:=oT zm;refine lB 131 zm (lL a ac (am (aa a aD (lI 134 ((j:Nat)-1) ?_))));refine lL a ac (gh 136 (S ((j:Nat)-1) oM oM p oM _ _ a.g (a.own 1) (a.jk 1) a.f.1) ?_);rintro _ _ _ u88 ⟨k5,cb,bz,rfl,nd,mz,p2,p1⟩;replace a:=(a.stepM 1 u88 mz).to [⟨B,31,bF ⟨0,0,false,none,0,0,none,0,0,⟨#[]⟩,none,0,0⟩⟩,⟨i,73,[qS A x.length u,nV bz]⟩] [];replace b:=b.trans u88;replace a:=(a.add (K:=fun l=>RmH j l k5 cb) p2);refine kd 137 (tB 9 k5 cb _ _ a.g a.f.1) ?_;rintro _ _ _ u92 ⟨r89,rfl,qq⟩;replace b:=b.trans (u92.m _);replace a:=a.step u92;replace a:=(a.add (K:=fun l=>RmH (j+1) l r89 (.mk 9 0 0 ⟨#[]⟩ [cb])) qq);refine nC 0 0 (bF r89) a (fun _ y a=>?_);replace b:=b.put2 y e g a.g;exact lN (kX (a.retM b [(0,0,7)] (bK r89) ⟨_,_,bz,rfl,nd,a.own 1,a.f.1,p1.one rfl (fun _=>rfl) kD kD⟩))
       have zG:=oT zl;refine lB 117 zl (lL a ac (am (aa a aD (lI 120 ((j:Nat)-1) ?_))));refine lL a ac (gh 122 (S ((j:Nat)-1) oM oM p oM _ _ a.g (a.own 1) (a.jk 1) a.f.1) ?_);rintro _ _ _ u97 ⟨md,cj,bx,rfl,r4,nn,pc,pk⟩;replace a:=(a.stepM 1 u97 nn).to [⟨B,31,bF ⟨0,0,false,none,0,0,none,0,0,⟨#[]⟩,none,0,0⟩⟩,⟨i,73,[qS A x.length u,nV bx]⟩] [];replace b:=b.trans u97;replace a:=(a.add (K:=fun l=>RmH j l md cj) pc);refine lL a aD (lI 125 ((j:Nat)-1) ?_);refine lL a ac (gh 127 (S ((j:Nat)-1) oM oM bx oM _ _ a.g (a.own 1) (a.jk 1) a.f.2.1) ?_);rintro _ _ _ k3 ⟨kr,c5,bm,rfl,m1,qb,m5,ql⟩;replace a:=(a.stepM 1 k3 qb).to [⟨B,31,bF ⟨0,0,false,none,0,0,none,0,0,⟨#[]⟩,none,0,0⟩⟩,⟨i,73,[qS A x.length u,nV bm]⟩] [];replace b:=b.trans k3;replace a:=(a.add (K:=fun l=>RmH j l kr c5) m5);refine kd 128 (nI 6 md kr cj c5 _ _ a.g a.f.2.1 a.f.1) ?_;rintro _ _ _ mb ⟨cx,rfl,f9⟩;replace b:=b.trans (mb.m _);replace a:=a.step mb;replace a:=(a.add (K:=fun l=>RmH (j+1) l cx (.mk 6 0 0 ⟨#[]⟩ [cj,c5])) f9);refine nC 0 0 (bF cx) a (fun _ y a=>?_);replace b:=b.put2 y e g a.g;exact lN (kX (a.retM b [(0,0,7)] (bK cx) ⟨_,_,bm,rfl,m1,a.own 1,a.f.1,pk.two ql rfl⟩))
      have zE:=oT zk;refine lB 100 zk (lL a ac (am (aa a ac (gh 102 (Bw A u x hl hz i p oM _ _ a.g (a.own 1) (a.jk 1) a.f.1) ?_))));rintro _ _ _ h2 ⟨M,Q,rfl,rf,bq,f3⟩;replace a:=(a.stepM 1 h2 f3).to [⟨B,31,bF ⟨0,0,false,none,0,0,none,0,0,⟨#[]⟩,none,0,0⟩⟩,⟨i,73,[qS A x.length u,nV Q]⟩] [];replace b:=b.trans h2;have q3:=bq.1;have q7:=bq.2;refine kd 103 (fb (M) 6 oM oM _ _ a.g) ?_;rintro _ _ _ ls rfl;replace b:=b.trans (ls.m _);replace a:=a.step ls;have r0:=cO (M) 6 oM;refine lI 104 ((aW (M) 6:Nat)-2) (lL a ac (ag (aa a ac (ah (cK (aa a aD (lI 110 ((j:Nat)-1) ?_)))))));refine lL a ac (gh 112 (S ((j:Nat)-1) oM oM Q oM _ _ a.g (a.own 1) (a.jk 1) a.f.1) ?_);rintro _ _ _ k1 ⟨c8,bf,O,rfl,hd,dw,f2,hh⟩;replace a:=(a.stepM 1 k1 dw).to [⟨B,31,bF ⟨0,0,false,none,0,0,none,0,0,⟨#[]⟩,none,0,0⟩⟩,⟨i,73,[qS A x.length u,nV O]⟩] [];replace b:=b.trans k1;replace a:=(a.add (K:=fun l=>RmH j l c8 bf) f2);refine lL a ac (kd 114 (uS c8 bf ((aW (M) 6:Nat)-2) _ _ a.g a.f.1) ?_);rintro _ _ _ ly ⟨c9,rfl,d1⟩;replace b:=b.trans (ly.m _);replace a:=a.step ly;replace a:=(a.add (K:=fun l=>RmH (j+1) l c9 (.mk 8 ((aW (M) 6:Nat)-2) 0 ⟨#[]⟩ [bf])) d1);refine nC 0 0 (bF c9) a (fun _ y a=>?_);replace b:=b.put2 y e g a.g;exact lN (kX (a.retM b [(0,0,7)] (bK c9) ⟨_,_,O,rfl,hd,a.own 1,a.f.1,hh.one rfl (fun l=>absurd rfl l) oM oM⟩))
     have zD:=oT zj;refine lB 91 zj (lL a ac (am (aa a aD (lI 94 ((j:Nat)-1) ?_))));refine lL a ac (gh 96 (S ((j:Nat)-1) oM oM p oM _ _ a.g (a.own 1) (a.jk 1) a.f.1) ?_);rintro _ _ _ h5 ⟨c7,bb,L,rfl,hx,f6,d5,hb⟩;replace a:=(a.stepM 1 h5 f6).to [⟨B,31,bF ⟨0,0,false,none,0,0,none,0,0,⟨#[]⟩,none,0,0⟩⟩,⟨i,73,[qS A x.length u,nV L]⟩] [];replace b:=b.trans h5;replace a:=(a.add (K:=fun l=>RmH j l c7 bb) d5);refine kd 97 (tB 7 c7 bb _ _ a.g a.f.1) ?_;rintro _ _ _ ms ⟨dc,rfl,d6⟩;replace b:=b.trans (ms.m _);replace a:=a.step ms;replace a:=(a.add (K:=fun l=>RmH (j+1) l dc (.mk 7 0 0 ⟨#[]⟩ [bb])) d6);refine nC 0 0 (bF dc) a (fun _ y a=>?_);replace b:=b.put2 y e g a.g;exact lN (kX (a.retM b [(0,0,7)] (bK dc) ⟨_,_,L,rfl,hx,a.own 1,a.f.1,hb.one rfl (fun _=>rfl) kD kD⟩))
    have zB:=oT zi;refine lB 77 zi (lL a ac (am (aa a aD (lI 80 ((j:Nat)-1) ?_))));refine lL a ac (gh 82 (S ((j:Nat)-1) oM oM p oM _ _ a.g (a.own 1) (a.jk 1) a.f.1) ?_);rintro _ _ _ lb ⟨cr,Z,H,rfl,q8,df,hw,dz⟩;replace a:=(a.stepM 1 lb df).to [⟨B,31,bF ⟨0,0,false,none,0,0,none,0,0,⟨#[]⟩,none,0,0⟩⟩,⟨i,73,[qS A x.length u,nV H]⟩] [];replace b:=b.trans lb;replace a:=(a.add (K:=fun l=>RmH j l cr Z) hw);refine lL a aD (lI 85 ((j:Nat)-1) ?_);refine lL a ac (gh 87 (S ((j:Nat)-1) oM oM H oM _ _ a.g (a.own 1) (a.jk 1) a.f.2.1) ?_);rintro _ _ _ h4 ⟨c3,bd,F,rfl,hc,fn,d4,dm⟩;replace a:=(a.stepM 1 h4 fn).to [⟨B,31,bF ⟨0,0,false,none,0,0,none,0,0,⟨#[]⟩,none,0,0⟩⟩,⟨i,73,[qS A x.length u,nV F]⟩] [];replace b:=b.trans h4;replace a:=(a.add (K:=fun l=>RmH j l c3 bd) d4);refine kd 88 (nI 5 cr c3 Z bd _ _ a.g a.f.2.1 a.f.1) ?_;rintro _ _ _ l0 ⟨b9,rfl,dy⟩;replace b:=b.trans (l0.m _);replace a:=a.step l0;replace a:=(a.add (K:=fun l=>RmH (j+1) l b9 (.mk 5 0 0 ⟨#[]⟩ [Z,bd])) dy);refine nC 0 0 (bF b9) a (fun _ y a=>?_);replace b:=b.put2 y e g a.g;exact lN (kX (a.retM b [(0,0,7)] (bK b9) ⟨_,_,F,rfl,hc,a.own 1,a.f.1,dz.two dm rfl⟩))
   have zA:=oT zg;refine lB 63 zg (lL a ac (am (aa a aD (lI 66 ((j:Nat)-1) ?_))));refine lL a ac (gh 68 (S ((j:Nat)-1) oM oM p oM _ _ a.g (a.own 1) (a.jk 1) a.f.1) ?_);rintro _ _ _ kq ⟨cw,Y,I,rfl,rd,dv,hm,fp⟩;replace a:=(a.stepM 1 kq dv).to [⟨B,31,bF ⟨0,0,false,none,0,0,none,0,0,⟨#[]⟩,none,0,0⟩⟩,⟨i,73,[qS A x.length u,nV I]⟩] [];replace b:=b.trans kq;replace a:=(a.add (K:=fun l=>RmH j l cw Y) hm);refine lL a aD (lI 71 ((j:Nat)-1) ?_);refine lL a ac (gh 73 (S ((j:Nat)-1) oM oM I oM _ _ a.g (a.own 1) (a.jk 1) a.f.2.1) ?_);rintro _ _ _ h6 ⟨cz,W,J,rfl,f7,hq,dx,ht⟩;replace a:=(a.stepM 1 h6 hq).to [⟨B,31,bF ⟨0,0,false,none,0,0,none,0,0,⟨#[]⟩,none,0,0⟩⟩,⟨i,73,[qS A x.length u,nV J]⟩] [];replace b:=b.trans h6;replace a:=(a.add (K:=fun l=>RmH j l cz W) dx);refine kd 74 (nI 4 cw cz Y W _ _ a.g a.f.2.1 a.f.1) ?_;rintro _ _ _ mj ⟨cv,rfl,d7⟩;replace b:=b.trans (mj.m _);replace a:=a.step mj;replace a:=(a.add (K:=fun l=>RmH (j+1) l cv (.mk 4 0 0 ⟨#[]⟩ [Y,W])) d7);refine nC 0 0 (bF cv) a (fun _ y a=>?_);replace b:=b.put2 y e g a.g;exact lN (kX (a.retM b [(0,0,7)] (bK cv) ⟨_,_,J,rfl,f7,a.own 1,a.f.1,fp.two ht rfl⟩))
  have zx:=oT zf;refine lB 49 zf (lL a ac (am (aa a aD (lI 52 ((j:Nat)-1) ?_))));refine lL a ac (gh 54 (S ((j:Nat)-1) oM oM p oM _ _ a.g (a.own 1) (a.jk 1) a.f.1) ?_);rintro _ _ _ lx ⟨cy,X,V,rfl,rc,hp,f1,dd⟩;replace a:=(a.stepM 1 lx hp).to [⟨B,31,bF ⟨0,0,false,none,0,0,none,0,0,⟨#[]⟩,none,0,0⟩⟩,⟨i,73,[qS A x.length u,nV V]⟩] [];replace b:=b.trans lx;replace a:=(a.add (K:=fun l=>RmH j l cy X) f1);refine lL a aD (lI 57 ((j:Nat)-1) ?_);refine lL a ac (gh 59 (S ((j:Nat)-1) oM oM V oM _ _ a.g (a.own 1) (a.jk 1) a.f.2.1) ?_);rintro _ _ _ j1 ⟨c6,bk,U,rfl,d3,dn,f8,d0⟩;replace a:=(a.stepM 1 j1 dn).to [⟨B,31,bF ⟨0,0,false,none,0,0,none,0,0,⟨#[]⟩,none,0,0⟩⟩,⟨i,73,[qS A x.length u,nV U]⟩] [];replace b:=b.trans j1;replace a:=(a.add (K:=fun l=>RmH j l c6 bk) f8);refine kd 60 (nI 3 cy c6 X bk _ _ a.g a.f.2.1 a.f.1) ?_;rintro _ _ _ l1 ⟨cf,rfl,ds⟩;replace b:=b.trans (l1.m _);replace a:=a.step l1;replace a:=(a.add (K:=fun l=>RmH (j+1) l cf (.mk 3 0 0 ⟨#[]⟩ [X,bk])) ds);refine nC 0 0 (bF cf) a (fun _ y a=>?_);replace b:=b.put2 y e g a.g;exact lN (kX (a.retM b [(0,0,7)] (bK cf) ⟨_,_,U,rfl,d3,a.own 1,a.f.1,dd.two d0 rfl⟩))
 try rw[ze] at a
 try rw[ze]
 refine ct (aa a ac (gh 32 (Bw A u x hl hz i p oM _ _ a.g (a.own 1) (a.jk 1) a.f.1) ?_));rintro _ _ _ mx ⟨o,C,rfl,b2,b4,fm⟩;replace a:=(a.stepM 1 mx fm).to [⟨B,31,bF ⟨0,0,false,none,0,0,none,0,0,⟨#[]⟩,none,0,0⟩⟩,⟨i,73,[qS A x.length u,nV C]⟩] [];replace b:=b.trans mx;have ch:=b4.1;have cd:=b4.2;have r6:=uf o 3 oM ch cd;refine lL a ac (ag (aa a ac (kd 34 (fb (o) 3 oM oM _ _ a.g) ?_)));rintro _ _ _ l4 rfl;replace b:=b.trans (l4.m _);replace a:=a.step l4;have rl:=cO (o) 3 oM;cases za:(((aW (o) 3:Nat):Int) == (0:Int))
 .
  have zt:=aj za;refine lB 35 za (ah (cK (ax (kd 40 (xO _ _ a.g) ?_))));rintro _ _ _ kn ⟨bN,rfl,hN0⟩;replace b:=b.trans (kn.m _);replace a:=a.step kn;replace a:=a.aS hN0;have r7:cD.length=3:=rfl;refine lL a ac (lV 42 (iV ((o).tdiv 3)) ?_ (hr:=rS (((o).tdiv 3)) kR (pd oM oM)));refine kd 43 (fb ((o).tdiv 3) 3 oM oM _ _ a.g) ?_;rintro _ _ _ mw rfl;replace b:=b.trans (mw.m _);replace a:=a.step mw;have r1:=cO ((o).tdiv 3) 3 oM;refine lX 44 (sB bN) 3 3 1 (aW ((o).tdiv 3) 3:Nat) (aW ((o).tdiv 3) 3:Nat) ((a.f.1).ok oM) (lH 45 (.string (cD.getD (aW ((o).tdiv 3) 3:Nat) ⟨#[]⟩)) a ((a.f.1).el (aW ((o).tdiv 3) 3:Nat) oM) (lL a [.v (bK ⟨2,0,false,none,0,0,none,0,0,cD.getD (aW ((o).tdiv 3) 3:Nat) ⟨#[]⟩,none,0,0⟩)] (nC 0 0 (bF ⟨2,0,false,none,0,0,none,0,0,cD.getD (aW ((o).tdiv 3) 3:Nat) ⟨#[]⟩,none,0,0⟩) a (fun _ y a=>?_))));replace b:=b.put2 y e g a.g;exact lN (kX (a.retM b [(0,0,7)] (bK ⟨2,0,false,none,0,0,none,0,0,cD.getD (aW ((o).tdiv 3) 3:Nat) ⟨#[]⟩,none,0,0⟩) ⟨⟨2,0,false,none,0,0,none,0,0,cD.getD (aW ((o).tdiv 3) 3:Nat) ⟨#[]⟩,none,0,0⟩,_,C,rfl,b2,a.own 1,Eb,GrT.name (G4 oM)⟩))
 have zt:=eq_of_beq za;refine lB 35 za (am (aa a ac (lV 37 (iV ((o).tdiv 3)) ?_ (hr:=rS (((o).tdiv 3)) kR (pd oM oM)))));refine kd 38 (hR ((o).tdiv 3) oM oM _ _ a.g) ?_;rintro _ _ _ kx ⟨zQ,zR,zS,zU,rfl,zL,zM,zN,zP⟩;replace b:=b.trans (kx.m _);replace a:=a.step kx;replace a:=a.aP zN zP;refine kd 39 (Jg (d:=j) (af (dQ ((o).tdiv 3)).num) zQ ((lim (ab (dQ ((o).tdiv 3)).num)).length) zR zS ((lim (dQ ((o).tdiv 3)).den).length) zU _ _ a.g ⟨true,⟨_,_,_,_,rfl,zL,zM,a.f.2.1,a.f.1⟩,fun l=>(by cases l)⟩) ?_;rintro _ _ _ mc ⟨b5,rfl,d2⟩;replace b:=b.trans (mc.m _);replace a:=a.step mc;replace a:=(a.add (K:=fun l=>RmH (j+1) l b5 (.mk 1 0 (dQ ((o).tdiv 3)) ⟨#[]⟩ [])) d2);refine nC 0 0 (bF b5) a (fun _ y a=>?_);replace b:=b.put2 y e g a.g;exact lN (kX (a.retM b [(0,0,7)] (bK b5) ⟨_,_,C,rfl,b2,a.own 1,a.f.1,GrT.num (LQ.hand _)⟩))
theorem Fg (a:Nat):∀ (k:Nat) {z:Int},z=(k:Nat)->∀ (A:Z9) (cap:Nat) (zs:List Int) (hl:zs.length<=9223372036854775807) (hz:nh zs) (dp:Nat),dp=k->dp<=1000->∀ (at_:Nat),at_<=zs.length->∀ (w:World) (h:Hp),G w h->Own w a 73 [.slice A zs.length cap,nV at_]->h[a]?=some be->Si A zs h->Calls Tryz.prog 21 #[pB a,iV z,.bool false] w (eW a w h (fun v w' c=>∃ (r:RTm)(t:Tm)(at2:Nat),v=bK r/\at2<=zs.length/\Own w' a 73 [.slice A zs.length cap,nV at2]/\RmH (dp+1) c r t/\GrT (dp+1) t))
  | 0,z,e,A,cap,zs,hl,hz,dp,ed,hd,at_,ha,w,h,g,ho,hj,hA=>by
    subst ed e;exact Bn a A cap zs hl hz 0 hd (fun z h1 b=>by omega) at_ ha w h g ho hj hA
  | k+1,z,e,A,cap,zs,hl,hz,dp,ed,hd,at_,ha,w,h,g,ho,hj,hA=>by
    subst ed e;exact Bn a A cap zs hl hz (k+1) hd (fun z h1 b=>Fg a k (z:=z) oM A cap zs hl hz k rfl oM) at_ ha w h g ho hj hA
theorem DC (z:Int)(h0 : -9223372036854775808<=z)(h1:z<=9223372036854775807)(w:World)(h:Hp)(g:G w h):CR 19 #[iV z] w h (fun v h1=>∃ r,v=bK r/\RmH 1 h1 r (.mk 1 0 ((z:Int):Rat) ⟨#[]⟩ [])):=by
 have a:=sS g;refine go Tryz.func19 [(0,iV z)] rfl (ax (lA 2 31 (bF ⟨0,0,false,none,0,0,none,0,0,⟨#[]⟩,none,0,0⟩) a (fun B w2 C a=>aG (lL a ac (lC 4 a (oH z h0 oM _ _ a.g) ?_)))));rintro _ _ _ a ⟨o,u,p,l,rfl,c,x,j,y⟩;replace a:=a.aP j y;refine lC 5 a (Jg (d:=0) (af ((z:Int):Rat).num) o ((lim (ab ((z:Int):Rat).num)).length) u p ((lim ((z:Int):Rat).den).length) l _ _ a.g ⟨true,⟨_,_,_,_,rfl,c,x,a.f.2.1,a.f.1⟩,fun i=>(by cases i)⟩) ?_;rintro _ _ _ a ⟨b,rfl,e⟩;replace a:=(a.add (K:=fun i=>RmH 1 i b (.mk 1 0 ((z:Int):Rat) ⟨#[]⟩ [])) e);exact lP 0 0 (bF b) a (fun _ a=>ae a [(0,0,7)] (bK b) (⟨b,rfl,a.f.1⟩))
theorem Cr (z:Int)(h0 : -9223372036854775808<=z)(h1:z<=9223372036854775807)(w:World)(h:Hp)(g:G w h):CR 19 #[iV z] w h (fun v h1=>∃ r,v=bK r/\RmH 1 h1 r (.mk 1 0 ((z:Int):Rat) ⟨#[]⟩ [])):=DC z h0 h1 w h g
theorem JY {d:Nat}:SmT1 ge (d+1) (.mk 1 0 ((1:Int):Rat) ⟨#[]⟩ []):=⟨by show 0<=3;decide,by show (-1000:Int)<=1/\(1:Int)<=1000;decide,by show (-1000:Int)<=0/\(0:Int)<=1000;decide,LQ.int kD kD,Ei,fun i hi=>absurd hi (NN i)⟩
theorem Bd  (d:Nat)(ih:∀ (r:RTm) (t:Tm) (way at_ e:Int) (w:World) (h:Hp),G w h->RmH d h r t->WfT1 Fb d t->Calls Tryz.prog 4 #[bK r,iV way,iV at_,iV e] w (Ret w h (fun v h1=>∃ L Z,v=bK L/\SpO d h1 L Z)))(op n:Int)(C:Bool)(D:Z9)(x B:Nat)(F:Z9)(y z:Nat)(q:Rat)(s:ByteArray)(A:Z9)(c:Nat)(j:List RTm)(ks:List Tm)(W:j.length<=c)(way at_ e:Int)(hl2:ks.length<=2)(bz:fu op=(ks.length:Nat))(hn1 : -12<=n)(hn2:n<=12)(S:LQ 1 q)(J:ge s)(Q:∀ i,i<ks.length->WfT1 Fb d (ks.getD i cY))(w:World)(h:Hp)(g:G w h)(hZ:RZ h (C,.slice D x B,.slice F y z) q)(hK:SlO 7 bF bV h A j)(hKs:Rms d h j ks):CR 4 #[bK ⟨op,n,C,D,x,B,F,y,z,s,A,j.length,c⟩,iV way,iV at_,iV e] w h (fun v h1=>∃ L Z,v=bK L/\SpO (d+1) h1 L Z):=by
 have a:=((((sS g).add (K:=fun p=>RZ p (C,qS D x B,qS F y z) q) hZ).aS hK).add (K:=fun p=>Rms d p j ks) hKs);have hln:=(a.f.1).len;have hac:=aE op;have bf:([]:List RTm).length=0:=rfl;have bn:(([]:List RTm)++j).length=j.length:=rfl;refine go Tryz.func4 [(0,bK ⟨op,n,C,D,x,B,F,y,z,s,A,j.length,c⟩),(1,iV way),(2,iV at_),(3,iV e)] rfl (ax (lA 4 31 (bF ⟨op,n,C,D,x,B,F,y,z,s,A,j.length,c⟩) a (fun I w2 h3 a=>lA 8 31 (bF ⟨0,0,false,none,0,0,none,0,0,⟨#[]⟩,none,0,0⟩) a (fun b4 w5 h6 a=>aG (lL a ac (aq 12 a (fb (at_) 4 oM oM _ _ a.g) (fun w8 h9 a=>?_)))))));have lp7:=cO (at_) 4 oM;refine lL a ac (ag (CG.join (fun Γ w_=>∃ (zp:Bool)(p:Hp),Γ=[(1,iV way),(2,nV (aW (at_) 4)),(3,iV e),(4,pB I),(8,pB b4),(20,.bool zp)]/\SS w h w_ p [⟨b4,31,bF ⟨0,0,false,none,0,0,none,0,0,⟨#[]⟩,none,0,0⟩⟩,⟨I,31,bF ⟨op,n,C,D,x,B,F,y,z,s,A,j.length,c⟩⟩] [] [fun p=>Rms d p j ks,fun p=>SlO 7 bF bV p A j,fun p=>RZ p (C,qS D x B,qS F y z) q]/\(zp=true->¬(aW at_ 4=0\/j.length=0))/\(zp=false->(aW at_ 4=0\/j.length=0))) ?_ ?_))
 .
  refine kQ (lL a ac ?_);cases zd:(decide ((0:Int)<((aW (at_) 4:Nat):Int)))
  .
   have zD:=oF zd;refine lB 14 zd (lL a ac (lG 16 ?_));refine lG 17 (lG 18 (lG 19 (lL a [.v qF] (lD ?_))));intro M H;exact ⟨_,⟨false,h9,rfl,a.to _ _,(fun p=>absurd p kD),(fun _=>by omega)⟩,H.to _ kR⟩
  have zD:=oT zd;refine lB 14 zd (lL a [.c,.v (qP I 6),.o (qS A j.length c) 1 6 1,.v (nV j.length)] ?_);cases ze:(decide ((0:Int)<(j.length:Int)))
  .
   have zE:=oF ze;refine lB 19 ze (lL a [.v qF] (lD ?_));intro M H;exact ⟨_,⟨false,h9,rfl,a.to _ _,(fun p=>absurd p kD),(fun _=>by omega)⟩,H.to _ kR⟩
  have zE:=oT ze;refine lB 19 ze (lL a [.v qT] (lD ?_));intro M H;exact ⟨_,⟨true,h9,rfl,a.to _ _,(fun _=>by omega),(fun p=>absurd p kD)⟩,H.to _ kR⟩
 rintro _ _ ⟨zp,_,rfl,a,zR,bx⟩;cases zf:(zp)
 .
  try rw[zf] at a
  try rw[zf]
  refine dD (cK (CG.join (fun Γ w_=>∃ (L:RTm)(Z:Tm)(p:Hp),Γ=[(4,pB I),(8,pB b4)]/\SS w h w_ p [⟨b4,31,bF ⟨0,0,false,none,0,0,none,0,0,⟨#[]⟩,none,0,0⟩⟩,⟨I,31,bF L⟩] [] [fun p=>SpO (d+1) p L Z,fun p=>Rms d p j ks,fun p=>SlO 7 bF bV p A j,fun p=>RZ p (C,qS D x B,qS F y z) q]) ?_ ?_))
  .
   refine aa a ac (aq 48 a (fb (way) 9 oM oM _ _ a.g) (fun _ zP a=>?_));have bt:=cO (way) 9 oM;refine aZ (ax ?_);cases zg:(((aW (way) 9:Nat):Int) == (0:Int))
   .
    have zG:=aj zg;refine lB 50 zg (lL a ac (ah (ax ?_)));cases zi:(((aW (way) 9:Nat):Int) == (1:Int))
    .
     have zH:=aj zi;refine lB 56 zi (lL a ac (ah (ax ?_)));cases zj:(((aW (way) 9:Nat):Int) == (2:Int))
     .
      have zI:=aj zj;refine lB 62 zj (lL a ac (ah (ax ?_)));cases zk:(((aW (way) 9:Nat):Int) == (3:Int))
      .
       have zJ:=aj zk;refine lB 69 zk (lL a ac (ah (ax ?_)));cases zl:(((aW (way) 9:Nat):Int) == (4:Int))
       .
        have zK:=aj zl;refine lB 75 zl (lL a ac (ah (ax ?_)));cases zm:(((aW (way) 9:Nat):Int) == (5:Int))
        .
         have zL:=aj zm;refine lB 85 zm (lL a ac (ah (ax ?_)));cases zo:(((aW (way) 9:Nat):Int) == (6:Int))
         .
          have zM:=aj zo;refine lB 88 zo (lL a ac (ah (CG.skip ?_)));intro M H;replace a:=(a.add (K:=fun p=>SpO (d+1) p (⟨op,n,C,D,x,B,F,y,z,s,A,j.length,c⟩:RTm) (.mk (op) (n) q (s) ks)) ⟨(RmH.mk a.f.r.1 a.f.1 W a.f.2.1).mono oM,ir oM (by omega:(-1000:Int)<=op/\(op:Int)<=1000) (by omega:(-1000:Int)<=n/\(n:Int)<=1000) S J (fun i hi=>(fx (Q i hi)).mono oM)⟩);exact ⟨_,⟨(⟨op,n,C,D,x,B,F,y,z,s,A,j.length,c⟩:RTm),(.mk (op) (n) q (s) ks),zP,rfl,a.to _ _⟩,H.to _ kR⟩
         have zM:=eq_of_beq zo;refine lB 88 zo (lL a ac (am (kQ (lL a [.o (bK ⟨op,n,C,D,x,B,F,y,z,s,A,j.length,c⟩) 1 0 7] (lC 90 a (uS (d:=d+1) ⟨op,n,C,D,x,B,F,y,z,s,A,j.length,c⟩ (.mk op n q s ks) (12) _ _ a.g (RmH.mk a.f.r.1 a.f.1 W a.f.2.1)) ?_)))));rintro _ _ _ a ⟨r32,rfl,bb⟩;replace a:=(a.add (K:=fun p=>RmH (d+2) p r32 (.mk 8 (12) 0 ⟨#[]⟩ [(.mk op n q s ks)])) bb);refine lL a ac (aq 92 a (fb (e) 20 oM oM _ _ a.g) (fun _ _ a=>?_));have b0:=cO (e) 20 oM;refine lI 93 ((aW (e) 20:Nat)-10) (lC 94 a (uS (d:=d+2) r32 (.mk 8 (12) 0 ⟨#[]⟩ [(.mk op n q s ks)]) ((aW (e) 20:Nat)-10) _ _ a.g a.f.1) ?_);rintro _ _ _ a ⟨r38,rfl,bd⟩;replace a:=(a.add (K:=fun p=>RmH (d+3) p r38 (.mk 8 ((aW (e) 20:Nat)-10) 0 ⟨#[]⟩ [(.mk 8 (12) 0 ⟨#[]⟩ [(.mk op n q s ks)])])) bd);refine lC 95 a (uS (d:=d+3) r38 (.mk 8 ((aW (e) 20:Nat)-10) 0 ⟨#[]⟩ [(.mk 8 (12) 0 ⟨#[]⟩ [(.mk op n q s ks)])]) (9) _ _ a.g a.f.1) ?_;rintro _ _ yf a ⟨X,rfl,Y⟩;replace a:=(a.add (K:=fun p=>RmH (d+4) p X (.mk 8 (9) 0 ⟨#[]⟩ [(.mk 8 ((aW (e) 20:Nat)-10) 0 ⟨#[]⟩ [(.mk 8 (12) 0 ⟨#[]⟩ [(.mk op n q s ks)])])])) Y);refine lP 1 0 (bF X) a (fun _ a=>lD ?_);intro M H;replace a:=(a.tl.tl.tl.add (K:=fun p=>SpO (d+1) p X (.mk 8 (9) 0 ⟨#[]⟩ [(.mk 8 ((aW (e) 20:Nat)-10) 0 ⟨#[]⟩ [(.mk 8 (12) 0 ⟨#[]⟩ [(.mk op n q s ks)])])])) ⟨a.f.1,rN oM (rN oM (rN oM ((ir oM (by omega:(-1000:Int)<=op/\(op:Int)<=1000) (by omega:(-1000:Int)<=n/\(n:Int)<=1000) S J (fun i hi=>(fx (Q i hi)).mono oM)))))⟩);exact ⟨_,⟨X,(.mk 8 (9) 0 ⟨#[]⟩ [(.mk 8 ((aW (e) 20:Nat)-10) 0 ⟨#[]⟩ [(.mk 8 (12) 0 ⟨#[]⟩ [(.mk op n q s ks)])])]),yf,rfl,a.to _ _⟩,H.to _ kR⟩
        have zL:=eq_of_beq zm;refine lB 85 zm (lL a ac (am (kQ (lL a [.v (qP I 6)] (lP 1 6 ([sZ]) a (fun _ a=>lD ?_))))));intro M H;replace a:=(a.add (K:=fun p=>SpO (d+1) p (⟨op,n,C,D,x,B,F,y,z,s,none,0,0⟩:RTm) (.mk op n q s [])) ⟨RmH.mk (ps:=[]) a.f.r.1 Rms.nil (nR _) SlO.nil,ir (by show 0<=3;decide) (by omega:(-1000:Int)<=op/\(op:Int)<=1000) (by omega:(-1000:Int)<=n/\(n:Int)<=1000) S J (fun i hi=>absurd hi (NN i))⟩);exact ⟨_,⟨(⟨op,n,C,D,x,B,F,y,z,s,none,0,0⟩:RTm),(.mk op n q s []),zP,rfl,a.to _ _⟩,H.to _ kR⟩
       have zK:=eq_of_beq zl;refine lB 75 zl (lL a ac (am (kQ (HO 76 31 7 bF ([]:List RTm) a (fun yg _ _ a=>lL a [.v (qP I 6),.o (qS A j.length c) 1 6 1] (Ky 79 0 31 7 ((([]:List RTm)).length) (sB yg) ([]:List RTm) bF bV A j j.length c 112 (bK ⟨0,0,false,none,0,0,none,0,0,⟨#[]⟩,none,0,0⟩) a a.f.2.1 (fun yi yj _ _ a=>lC 80 a (Cr 1 kD kD _ _ a.g) ?_)))))));rintro _ _ _ a ⟨u,rfl,hrw⟩;replace a:=(a.add (K:=fun p=>RmH 1 p u (.mk 1 0 (((1:Int)):Rat) ⟨#[]⟩ [])) hrw);refine lR 81 31 1 ([iV u.op,iV u.n,.bool u.neg,qS u.zA u.zn u.zc,qS u.dA u.dn u.dc,.string u.s,qS u.A u.m u.c]) a (fun zQ _ _ a=>?_);replace a:=a.aS (SlO.of_flat (sz:=7) (f:=bF) (d:=bV) (b:=zQ) (o:=0) (l:=([u]:List RTm)) (fun _=>rfl) a.f.1);refine lY 82 0 31 7 yj yi (([]:List RTm)++j) bF u 112 zQ (bK ⟨0,0,false,none,0,0,none,0,0,⟨#[]⟩,none,0,0⟩) a a.f.2.1 (fun zs zt _ _ a=>lL a [.v (qP I 6)] (lP 1 6 ([qS zs ((([]:List RTm)++j++[u]).length) zt]) a (fun _ a=>lD ?_)));obtain ⟨yk,a,zS⟩:=a.pubr 0 (A:=zs) (c:=zt) (l:=([]:List RTm)++j++[u]) (f:=bF) (ty:=31) (sz:=7) bV (fun _=>rfl);intro M H;replace a:=(a.tl.tl.tl.tl.add (K:=fun p=>SpO (d+1) p (⟨op,n,C,D,x,B,F,y,z,s,zs,(([]:List RTm)++j++[u]).length,zt⟩:RTm) (.mk op n q s (ks++[.mk 1 0 (((1:Int)):Rat) ⟨#[]⟩ []]))) ⟨(RmH.mk a.f.q.r.1 (((a.f.q.1).mono (show d<=d+3 by omega)).snoc ((a.f.r.2.1).mono oM)) zS a.f.1),ir (by rw[List.length_append,List.length_singleton];omega) (by omega:(-1000:Int)<=op/\(op:Int)<=1000) (by omega:(-1000:Int)<=n/\(n:Int)<=1000) S J (fun i hi=>sx (SmT1 ge (d+3)) (fun i hi=>(fx (Q i hi)).mono oM) JY hi)⟩);exact ⟨_,⟨(⟨op,n,C,D,x,B,F,y,z,s,zs,(([]:List RTm)++j++[u]).length,zt⟩:RTm),(.mk op n q s (ks++[.mk 1 0 (((1:Int)):Rat) ⟨#[]⟩ []])),yk,rfl,a.to _ _⟩,H.to _ kR⟩
      have zJ:=eq_of_beq zk;refine lB 69 zk (lL a ac (am (kQ (lL a ac (aq 71 a (fb (e) 3 oM oM _ _ a.g) (fun _ _ a=>?_))))));have b2:=cO (e) 3 oM;refine lC 72 a (oH (aW (e) 3:Nat) oM oM _ _ a.g) ?_;rintro _ _ yl a ⟨zu,zv,zw,zx,rfl,zU,zW,zX,ya⟩;replace a:=a.aP zX ya;refine lL a [.v (qP I 2)] (lP 1 2 (gE (((aW (e) 3:Nat):Int):Rat) zu zv zw zx) a (fun _ a=>lD ?_));intro M H;replace a:=(a.tl.tl.add (K:=fun p=>SpO (d+1) p (⟨op,n,af (((aW (e) 3:Nat):Int):Rat).num,zu,(lim (ab (((aW (e) 3:Nat):Int):Rat).num)).length,zv,zw,(lim (((aW (e) 3:Nat):Int):Rat).den).length,zx,s,A,j.length,c⟩:RTm) (.mk (op) (n) ((((aW (e) 3:Nat):Int):Rat)) (s) ks)) ⟨(RmH.mk ⟨true,⟨_,_,_,_,rfl,zU,zW,a.f.2.1,a.f.1⟩,fun p=>(by cases p)⟩ a.f.r.1 W a.f.r.2.1).mono oM,ir oM (by omega:(-1000:Int)<=op/\(op:Int)<=1000) (by omega:(-1000:Int)<=n/\(n:Int)<=1000) (LQ.int oM oM) J (fun i hi=>(fx (Q i hi)).mono oM)⟩);exact ⟨_,⟨(⟨op,n,af (((aW (e) 3:Nat):Int):Rat).num,zu,(lim (ab (((aW (e) 3:Nat):Int):Rat).num)).length,zv,zw,(lim (((aW (e) 3:Nat):Int):Rat).den).length,zx,s,A,j.length,c⟩:RTm),(.mk (op) (n) ((((aW (e) 3:Nat):Int):Rat)) (s) ks),yl,rfl,a.to _ _⟩,H.to _ kR⟩
     have zI:=eq_of_beq zj;refine lB 62 zj (lL a ac (am (kQ (lL a [.v (.agg #[eS,.string (⟨#[109,97,120]⟩),.string (⟨#[120,95,49]⟩),.string (⟨#[49,120]⟩)]),.c] ?_))))
     rcases Ie e with hq0|hq1|hq2|hq3
     .
      refine aq 65 a ((by have U:=fb e 4 oM oM _ _ a.g;rw[hq0] at U;exact U)) (fun _ ym a=>lL a [.v (eS),.v (qP I 5)] (lP 1 5 ([eS]) a (fun _ a=>lD ?_)));intro M H;replace a:=(a.add (K:=fun p=>SpO (d+1) p (⟨op,n,C,D,x,B,F,y,z,⟨#[]⟩,A,j.length,c⟩:RTm) (.mk (op) (n) q (⟨#[]⟩) ks)) ⟨(RmH.mk a.f.r.1 a.f.1 W a.f.2.1).mono oM,ir oM (by omega:(-1000:Int)<=op/\(op:Int)<=1000) (by omega:(-1000:Int)<=n/\(n:Int)<=1000) S (by unfold ge;decide) (fun i hi=>(fx (Q i hi)).mono oM)⟩);exact ⟨_,⟨(⟨op,n,C,D,x,B,F,y,z,⟨#[]⟩,A,j.length,c⟩:RTm),(.mk (op) (n) q (⟨#[]⟩) ks),ym,rfl,a.to _ _⟩,H.to _ kR⟩
     .
      refine aq 65 a ((by have U:=fb e 4 oM oM _ _ a.g;rw[hq1] at U;exact U)) (fun _ yn a=>lL a [.v (.string (⟨#[109,97,120]⟩)),.v (qP I 5)] (lP 1 5 ([.string (⟨#[109,97,120]⟩)]) a (fun _ a=>lD ?_)));intro M H;replace a:=(a.add (K:=fun p=>SpO (d+1) p (⟨op,n,C,D,x,B,F,y,z,⟨#[109,97,120]⟩,A,j.length,c⟩:RTm) (.mk (op) (n) q (⟨#[109,97,120]⟩) ks)) ⟨(RmH.mk a.f.r.1 a.f.1 W a.f.2.1).mono oM,ir oM (by omega:(-1000:Int)<=op/\(op:Int)<=1000) (by omega:(-1000:Int)<=n/\(n:Int)<=1000) S (by unfold ge;decide) (fun i hi=>(fx (Q i hi)).mono oM)⟩);exact ⟨_,⟨(⟨op,n,C,D,x,B,F,y,z,⟨#[109,97,120]⟩,A,j.length,c⟩:RTm),(.mk (op) (n) q (⟨#[109,97,120]⟩) ks),yn,rfl,a.to _ _⟩,H.to _ kR⟩
     .
      refine aq 65 a ((by have U:=fb e 4 oM oM _ _ a.g;rw[hq2] at U;exact U)) (fun _ yo a=>lL a [.v (.string (⟨#[120,95,49]⟩)),.v (qP I 5)] (lP 1 5 ([.string (⟨#[120,95,49]⟩)]) a (fun _ a=>lD ?_)));intro M H;replace a:=(a.add (K:=fun p=>SpO (d+1) p (⟨op,n,C,D,x,B,F,y,z,⟨#[120,95,49]⟩,A,j.length,c⟩:RTm) (.mk (op) (n) q (⟨#[120,95,49]⟩) ks)) ⟨(RmH.mk a.f.r.1 a.f.1 W a.f.2.1).mono oM,ir oM (by omega:(-1000:Int)<=op/\(op:Int)<=1000) (by omega:(-1000:Int)<=n/\(n:Int)<=1000) S (by unfold ge;decide) (fun i hi=>(fx (Q i hi)).mono oM)⟩);exact ⟨_,⟨(⟨op,n,C,D,x,B,F,y,z,⟨#[120,95,49]⟩,A,j.length,c⟩:RTm),(.mk (op) (n) q (⟨#[120,95,49]⟩) ks),yo,rfl,a.to _ _⟩,H.to _ kR⟩
     refine aq 65 a ((by have U:=fb e 4 oM oM _ _ a.g;rw[hq3] at U;exact U)) (fun _ yb a=>lL a [.v (.string (⟨#[49,120]⟩)),.v (qP I 5)] (lP 1 5 ([.string (⟨#[49,120]⟩)]) a (fun _ a=>lD ?_)));intro M H;replace a:=(a.add (K:=fun p=>SpO (d+1) p (⟨op,n,C,D,x,B,F,y,z,⟨#[49,120]⟩,A,j.length,c⟩:RTm) (.mk (op) (n) q (⟨#[49,120]⟩) ks)) ⟨(RmH.mk a.f.r.1 a.f.1 W a.f.2.1).mono oM,ir oM (by omega:(-1000:Int)<=op/\(op:Int)<=1000) (by omega:(-1000:Int)<=n/\(n:Int)<=1000) S (by unfold ge;decide) (fun i hi=>(fx (Q i hi)).mono oM)⟩);exact ⟨_,⟨(⟨op,n,C,D,x,B,F,y,z,⟨#[49,120]⟩,A,j.length,c⟩:RTm),(.mk (op) (n) q (⟨#[49,120]⟩) ks),yb,rfl,a.to _ _⟩,H.to _ kR⟩
    have zH:=eq_of_beq zi;refine lB 56 zi (lL a ac (am (kQ (lL a ac (aq 58 a (fb (e) 30 oM oM _ _ a.g) (fun _ yc a=>?_))))));have bl:=cO (e) 30 oM;refine lI 59 ((aW (e) 30:Nat)-15) (lL a [.v (qP I 1)] (lP 1 1 ([iV ((aW (e) 30:Nat)-15)]) a (fun _ a=>lD ?_)));intro M H;replace a:=(a.add (K:=fun p=>SpO (d+1) p (⟨op,(aW (e) 30:Nat)-15,C,D,x,B,F,y,z,s,A,j.length,c⟩:RTm) (.mk (op) ((aW (e) 30:Nat)-15) q (s) ks)) ⟨(RmH.mk a.f.r.1 a.f.1 W a.f.2.1).mono oM,ir oM (by omega:(-1000:Int)<=op/\(op:Int)<=1000) (by omega:(-1000:Int)<=(aW (e) 30:Nat)-15/\((aW (e) 30:Nat)-15:Int)<=1000) S J (fun i hi=>(fx (Q i hi)).mono oM)⟩);exact ⟨_,⟨(⟨op,(aW (e) 30:Nat)-15,C,D,x,B,F,y,z,s,A,j.length,c⟩:RTm),(.mk (op) ((aW (e) 30:Nat)-15) q (s) ks),yc,rfl,a.to _ _⟩,H.to _ kR⟩
   have zG:=eq_of_beq zg;refine lB 50 zg (lL a ac (am (kQ (lL a ac (aq 52 a (fb (e) 16 oM oM _ _ a.g) (fun _ yd a=>?_))))));have bk:=cO (e) 16 oM;refine lI 53 ((aW (e) 16:Nat)-1) (lL a [.v (pB I)] (lP 1 0 ([iV ((aW (e) 16:Nat)-1)]) a (fun _ a=>lD ?_)));intro M H;replace a:=(a.add (K:=fun p=>SpO (d+1) p (⟨(aW (e) 16:Nat)-1,n,C,D,x,B,F,y,z,s,A,j.length,c⟩:RTm) (.mk ((aW (e) 16:Nat)-1) (n) q (s) ks)) ⟨(RmH.mk a.f.r.1 a.f.1 W a.f.2.1).mono oM,ir oM (by omega:(-1000:Int)<=(aW (e) 16:Nat)-1/\((aW (e) 16:Nat)-1:Int)<=1000) (by omega:(-1000:Int)<=n/\(n:Int)<=1000) S J (fun i hi=>(fx (Q i hi)).mono oM)⟩);exact ⟨_,⟨(⟨(aW (e) 16:Nat)-1,n,C,D,x,B,F,y,z,s,A,j.length,c⟩:RTm),(.mk ((aW (e) 16:Nat)-1) (n) q (s) ks),yd,rfl,a.to _ _⟩,H.to _ kR⟩
  rintro _ _ ⟨L,Z,_,rfl,a⟩;exact aa a [.o (bK L) 1 0 7] (lP 0 0 (bF L) a (fun _ a=>ae a [(0,0,7)] (bK L) (⟨L,Z,rfl,a.f.1⟩)))
 try rw[zf] at a
 try rw[zf]
 refine ct (ax ?_);have bm:=zR aM;refine lL a [.c,.v (qP I 6),.o (qS A j.length c) 1 6 1,.v (nV j.length)] (aq 25 a (fb (e) j.length oM oM _ _ a.g) (fun _ _ a=>?_));have br:=cO (e) j.length oM;refine lL a ac (aG (lL a [.o (bK ⟨op,n,C,D,x,B,F,y,z,s,A,j.length,c⟩) 1 0 7] (lA 10 31 (bF ⟨0,0,false,none,0,0,none,0,0,⟨#[]⟩,none,0,0⟩) a (fun zq _ _ a=>lP 0 0 (bF ⟨op,n,C,D,x,B,F,y,z,s,A,j.length,c⟩) a (fun _ a=>aG (HO 27 31 7 bF ([]:List RTm) a (fun ye _ _ a=>lL a [.v (qP I 6),.o (qS A j.length c) 2 6 1] (Ky 30 0 31 7 ((([]:List RTm)).length) (sB ye) ([]:List RTm) bF bV A j j.length c 112 (bK ⟨0,0,false,none,0,0,none,0,0,⟨#[]⟩,none,0,0⟩) a a.f.2.1 (fun zr O _ _ a=>lL a [.v (qP zq 6)] (lP 0 6 ([qS zr ((([]:List RTm)++j).length) O]) a (fun _ a=>ag (cR 13 [] mixed a ao ?_))))))))))));refine eV 0 32 (qP zq 6) (eO 1 33 [(0,6,1)] (qS zr ((([]:List RTm)++j).length) O) a (eV 2 34 (nV (aW (e) j.length)) (eV 3 35 (qP I 6) (eO 4 36 [(2,6,1)] (qS A j.length c) a (eV 5 37 (nV (aW (e) j.length)) (eX 6 38 A j.length c 7 (aW (e) j.length:Nat) (aW (e) j.length) ((a.f.2.1).ok oM) (eH 7 39 (bK (j.getD (aW (e) j.length) bV)) a ((a.f.2.1).el (aW (e) j.length) oM) (eV 8 40 (iV way) (eV 9 41 (nV (aW (at_) 4)) (eI 10 42 ((aW (at_) 4:Nat)-1) (eV 11 43 (iV e) (eC 12 44 a (fun _ _ a=>ih (j.getD (aW e j.length) bV) (ks.getD (aW e j.length) cY) way ((aW (at_) 4:Nat)-1) e _ _ a.g ((a.f.1).at_ (aW e j.length) oM) (Q (aW e j.length) oM)) ?_))))))))))));rintro _ _ _ _ _ a ⟨rk,tk,rfl,hrk⟩;replace a:=(a.add (K:=fun p=>SpO d p rk tk) hrk);refine bU a (fun _ _ a=>?_);obtain ⟨V,zB⟩:=a.rowA 0 (A:=zr) (c:=O) (m:=(([]:List RTm)++j).length) (ty:=31) (sz:=7) (cs:=(([]:List RTm)++j).flatMap bF) oM;subst zB;refine tX 13 45 (sB V) ((([]:List RTm)++j).length) O 7 (aW (e) j.length:Nat) (aW (e) j.length) rfl (La 14 (ty:=31) (c:=O) (b:=V) 0 (aW (e) j.length) 0 (bF rk) (([]:List RTm)++j) bF 7 bV rk a oM (fun _ a=>?_));replace a:=a.to [⟨zq,31,[iV op,iV n,.bool C,qS D x B,qS F y z,.string s,qS (sB V) ((([]:List RTm)++j).length) O]⟩,⟨b4,31,bF ⟨0,0,false,none,0,0,none,0,0,⟨#[]⟩,none,0,0⟩⟩,⟨I,31,bF ⟨op,n,C,D,x,B,F,y,z,s,A,j.length,c⟩⟩] [⟨31,7,sB V,O,(([]:List RTm)++j).length,((([]:List RTm)++j).set (aW (e) j.length) rk).flatMap bF⟩];refine qy ?_;replace a:=a.rown [⟨31,7,sB V,O,((([]:List RTm)++j).set (aW (e) j.length) rk).length,((([]:List RTm)++j).set (aW (e) j.length) rk).flatMap bF⟩] (by simp only[Mg]);obtain ⟨_,a,zN⟩:=a.pubr 0 (A:=sB V) (c:=O) (l:=(([]:List RTm)++j).set (aW (e) j.length) rk) (f:=bF) (ty:=31) (sz:=7) bV (fun _=>rfl);exact lL a [.o (bK ⟨op,n,C,D,x,B,F,y,z,s,sB V,(([]:List RTm)++j).length,O⟩) 0 0 7] (lP 1 0 (bF ⟨op,n,C,D,x,B,F,y,z,s,sB V,(([]:List RTm)++j).length,O⟩) a (fun _ a=>ae a [(1,0,7)] (bK ⟨op,n,C,D,x,B,F,y,z,s,sB V,(([]:List RTm)++j).length,O⟩) (⟨(⟨op,n,C,D,x,B,F,y,z,s,sB V,(([]:List RTm)++j).length,O⟩:RTm),(.mk op n q s (ks.set (aW e j.length) tk)),rfl,(by have p:=RmH.mk (op:=op) (n:=n) (s:=s) a.f.q.1 (((a.f.r.1).mono (show d<=d+3 by omega)).set (aW e j.length) (a.f.2.1).1) zN (a.f.1);rw[Mg] at p;exact p),ir (by rw[Mg];omega) oM oM S J (fun i hi=>vn (SmT1 ge (d+3)) (fun i hi=>(fx (Q i hi)).mono oM) (a.f.2.1).2 hi)⟩)))
theorem qO:∀ (d:Nat) (r:RTm) (t:Tm) (way at_ a:Int) (w:World) (h:Hp),G w h->RmH d h r t->WfT1 Fb d t->Calls Tryz.prog 4 #[bK r,iV way,iV at_,iV a] w (Ret w h (fun v h1=>∃ r1 t1,v=bK r1/\SpO d h1 r1 t1))
  | 0,_,_,_,_,_,_,_,_,x,_=>x.elim
  | d+1,r,t,way,at_,a,w,h,g,x,wf=>by
    obtain ⟨op,n,b,zA,zn,zc,dA,dn,dc,q,s,A,c,rs,ks,rfl,rfl,hZ,hc,hK,hKs⟩:=x.open;have e:ks.length<=2:=wf.two;have f:ge s:=(fx wf).2.2.2.2.1;obtain ⟨w1,w2,w3,o,u,p,i,l,j⟩:=wf;exact Bd d (fun r t way at_ a w h=>qO d r t way at_ a w h) op n b zA zn zc dA dn dc q s A c rs ks hc way at_ a e w1 i l w3 f j w h g hZ hK hKs
theorem G9 {h:Hp}{b:Bool}{f j:Z9}{i d a c:Nat}{q:Rat}(x:RZ h (b,.slice f i d,.slice j a c) q)(e:a=0):q=0:=by subst e;exact Ja x
theorem wG  (sm:ByteArray->Prop)(d:Nat)(ih:∀ (r:RTm) (t:Tm) (w:World) (h:Hp),G w h->RmH d h r t->nW sm d t->Tab h->Calls Tryz.prog 9 #[bK r] w (Ret w h (fun v h1=>∃ p,v=bO p/\TmH d h1 p t)))(op n:Int)(I:Bool)(J:Z9)(F H:Nat)(D:Z9)(z C:Nat)(q:Rat)(s:ByteArray)(A:Z9)(c:Nat)(y:List RTm)(ks:List Tm)(hc:y.length<=c)(hk3:ks.length<=3)(hop : -1000<=op/\op<=1000)(hn : -1000<=n/\n<=1000)(hq:LQ 3000 q)(hsm:sm s)(hW:∀ i,i<ks.length->nW sm d (ks.getD i cY))(w:World)(h:Hp)(g:G w h)(hZ:RZ h (I,.slice J F H,.slice D z C) q)(hK:SlO 7 bF bV h A y)(Y:Rms d h y ks)(tb:Tab h):CR 9 #[bK ⟨op,n,I,J,F,H,D,z,C,s,A,y.length,c⟩] w h (fun v h1=>∃ p,v=bO p/\TmH (d+1) h1 p (.mk op n q s ks)):=by
 have a:=(((((sS g).add (K:=fun j=>RZ j (I,qS J F H,qS D z C) q) hZ).aS hK).add (K:=fun j=>Rms d j y ks) Y).aB tb);have hln:=(a.f.2.1).len;refine go Tryz.func9 [(0,bK ⟨op,n,I,J,F,H,D,z,C,s,A,y.length,c⟩)] rfl (ax (lA 1 31 (bF ⟨op,n,I,J,F,H,D,z,C,s,A,y.length,c⟩) a (fun B w2 h3 a=>lA 2 50 a7 a (fun V w5 h6 a=>aG (lL a [.v (pB B),.o (iV op) 1 0 1,.v (qP B 1),.o (iV n) 1 1 1,.v (qP B 5),.o (.string s) 1 5 1,.v (.agg #[iV op,iV n,qF,uV 0,eS,uV 0,eS,.string s,sZ])] (lA 3 50 a7 a (fun M w8 h9 a=>lP 0 0 ([iV op,iV n,qF,uV 0,eS,uV 0,eS,.string s,sZ]) a (fun _ a=>?_))))))));refine lN (CG.join (fun Γ w_=>∃ (L:Rat)(j:Hp),Γ=[(1,pB B),(2,pB V),(3,pB M)]/\SS w h w_ j [⟨M,50,da ⟨op,n,L,s,none,0,0⟩⟩,⟨V,50,[iV 0,iV 0,qF,uV 0,eS,uV 0,eS,eS,sZ]⟩,⟨B,31,bF ⟨op,n,I,J,F,H,D,z,C,s,A,y.length,c⟩⟩] [] [fun j=>Tab j,fun j=>Rms d j y ks,fun j=>SlO 7 bF bV j A y,fun j=>RZ j (I,qS J F H,qS D z C) q]/\L=q) ?_ ?_)
 .
  refine aa a [.v (qP B 2),.v (qP B 4),.o (qS D z C) 2 4 1,.v (nV z)] ?_;cases S:(decide ((0:Int)<(z:Int)))
  .
   have zd:=oF S;refine lB 16 S (ah (CG.skip ?_));intro a_ Q;exact ⟨_,⟨0,h9,rfl,a.to _ _,((G9 a.f.r.2.1 oM).symm)⟩,Q.to _ kR⟩
  have zd:=oT S;refine lB 16 S (am (kQ (lL a [.v (qP B 2),.o (.agg #[.bool I,qS J F H,qS D z C]) 2 2 3] (aq 19 a (Iw (.agg #[.bool I,qS J F H,qS D z C]) q (hq.mono oM) _ _ a.g (Gn a.f.r.2.1 oM) a.f.1) (fun _ zj a=>lL a [.v (qP M 2)] (lP 0 2 (qc q) a (fun _ a=>lD ?_)))))));intro a_ Q;exact ⟨_,⟨q,zj,rfl,a.to _ _,rfl⟩,Q.to _ kR⟩
 rintro _ _ ⟨L,zk,rfl,a,hqq⟩;refine cQ (aa a ac (aZ ?_));replace a:=a.nil 50 9;replace a:=a.add (K:=fun j=>Tms d j ([]) (ks.take 0)) (Tms.nil);refine bH _ (CG.loop (fun μ_ Γ w_=>∃ (k:Nat)(e:Z9)(u:Nat)(x:List PTm)(j:Hp),μ_=y.length-k/\Γ=[(1,pB B),(2,pB V),(3,pB M),(4,nV k)]/\SS w h w_ j [⟨M,50,pG op n L s e ((x).length) u⟩,⟨V,50,[iV 0,iV 0,qF,uV 0,eS,uV 0,eS,eS,sZ]⟩,⟨B,31,bF ⟨op,n,I,J,F,H,D,z,C,s,A,y.length,c⟩⟩] [⟨50,9,e,u,(x).length,(x).flatMap da⟩] [fun j=>Tms d j x (ks.take k),fun j=>Tab j,fun j=>Rms d j y ks,fun j=>SlO 7 bF bV j A y,fun j=>RZ j (I,qS J F H,qS D z C) q]/\k<=y.length) _ ⟨0,none,0,[],zk,rfl,rfl,a.to _ _,My _⟩ ?_);rintro _ _ _ ⟨k,e,u,x,_,bb,rfl,a,hk⟩;have X:=(a.f.1).len;rw[Lu] at X
 refine cQ (aa a [.c,.v (qP B 6),.o (qS A y.length c) 2 6 1,.v (nV y.length)] ?_);cases U:(decide ((k:Int)<(y.length:Int)))
 .
  have ze:=oF U;refine lB 25 U (ah (CG.exit ?_))
  show CG _ _ _ _ _ _ _ _
  refine ax ?_;have hkl:k=ks.length:=by omega
  obtain ⟨_,a,zi⟩:=a.pubr 0 (A:=e) (c:=u) (l:=x) (f:=da) (ty:=50) (sz:=9) cJ (fun _=>rfl);exact lL a [.o (bO ⟨op,n,L,s,e,(x).length,u⟩) 0 0 9] (lP 1 0 (da ⟨op,n,L,s,e,(x).length,u⟩) a (fun _ a=>ae a [(1,0,9)] (bO ⟨op,n,L,s,e,(x).length,u⟩) (⟨⟨op,n,L,s,e,x.length,u⟩,rfl,by subst hqq;exact TmH.mk (by have x_:=(a.f.2.1);rw[hkl,yz] at x_;exact x_) zi a.f.1⟩)))
 have ze:=oT U;refine lB 25 U (am (cK (cQ (kZ (CG.region ⟨((Value.slice e ((x).length) u).ownBlock.toList),none⟩ 10 [] mixed kR a.g ao (a.ro_lt 0 (ty:=50) (sz:=9) (A:=e) (c:=u) (m:=(x).length) (cs:=(x).flatMap da)) ?_)))));refine eV 0 28 (qP M 8) (eO 1 29 [(0,8,1)] (qS e ((x).length) u) a ?_ (hM:=fun p W=>by obtain rfl:=sy.1 W;exact a.ro_ne 0 0 (ty:=50) (sz:=9) (A:=e) (c:=u) (m:=(x).length) (cs:=(x).flatMap da)));refine eV 2 30 (qP B 6) (eO 3 31 [(2,6,1)] (qS A y.length c) a ?_ (hM:=fun p W=>by obtain rfl:=sy.1 W;exact a.ro_ne 2 0 (ty:=50) (sz:=9) (A:=e) (c:=u) (m:=(x).length) (cs:=(x).flatMap da)));refine eV 4 32 (nV k) (eX 5 33 A y.length c 7 (k:Nat) k ((a.f.r.2.1).ok oM) (eH 6 34 (bK (y.getD k bV)) a ((a.f.r.2.1).el k oM) ?_ (hM:=a.ro_jk 0 (ty:=50) (sz:=9) (A:=e) (c:=u) (m:=(x).length) (cs:=(x).flatMap da))));refine eC 7 35 a (fun _ _ a=>ih (y.getD k bV) (ks.getD k cY) _ _ a.g ((a.f.r.1).at_ k oM) (hW k oM) a.f.2.1) ?_;rintro _ _ _ _ _ a ⟨O,rfl,Z⟩;replace a:=(a.add (K:=fun j=>TmH d j O (ks.getD k cY)) Z);refine eR 8 36 50 1 (pC O) a (fun zl _ _ a=>eY 9 37 0 50 9 u e x da O 112 zl (.agg #[iV 0,iV 0,qF,uV 0,eS,uV 0,eS,eS,sZ]) a (fun _ f_=>f_.1) (fun b hb=>Option.mem_toList.2 hb) (fun zf zg _ _ a=>bU a (fun _ zm a=>tV 10 38 (qP M 8) (tP 11 0 8 ([qS zf ((x++[O]).length) zg]) a (fun _ a=>tN (kQ (lL a ac (bp 27 ((k:Nat)+1) (k+1) ?_))))))));refine lL a ac (lD ?_);intro a_ Q;replace a:=(a.tl.tl.tl.add (K:=fun j=>Tms d j (x++[O]) (ks.take (k+1))) (by rw[mI cY oM];exact (a.f.r.1).snoc a.f.2.1));refine ⟨_,_,?_,⟨k+1,zf,zg,x++[O],zm,rfl,rfl,a.to _ _,oM⟩,Q.to _ kR⟩
 omega
theorem oe (sm:ByteArray->Prop):∀ (d:Nat) (r:RTm) (t:Tm) (w:World) (h:Hp),G w h->RmH d h r t->nW sm d t->Tab h->Calls Tryz.prog 9 #[bK r] w (Ret w h (fun v h1=>∃ p,v=bO p/\TmH d h1 p t))
  | 0,_,_,_,_,_,x,_,_=>x.elim
  | d+1,r,t,w,h,g,x,wf,tb=>by
    obtain ⟨op,n,b,y,z,H,l,I,C,q,s,A,c,j,ks,rfl,rfl,f,B,o,a⟩:=x.open;obtain ⟨D,e,J,F,i,u⟩:=wf;exact wG sm d (fun r t w h=>oe sm d r t w h) op n b y z H l I C q s A c j ks B D e J F i u w h g f o a tb
theorem DrunR.lq {d:Nat}{t:Tm}{ns:List ByteArray}{fs:List Rat}{e:Int}{q:Rat}{f:List Rat}(x:DrunR d t ns fs e q f)(j:∀ i,LQ 1 (fs.getD i 0))(h:d<=20):LQ 3000 q/\(∀ i,LQ 1000000 (f.getD i 0))/\f.length<=fs.length:=by
 obtain ⟨c,c1,⟨_,_,rfl,rfl⟩|⟨h0,a⟩⟩:=x
 ·exact ⟨iE kD,fun i=>by rw[dK];exact iE kD,My _⟩
 ·have b:=c1.ok h0
  have wf:=mC b;obtain ⟨_,l,k2⟩:=qp (ix:=bI ns) j wf;have g:=b.1.2;have e1:q=(bA (bI ns) fs d t).2.1:=congrArg (·.2.1) a;have e2:f=(bA (bI ns) fs d t).2.2:=congrArg (·.2.2) a;rw[e1,e2];refine ⟨l.mono oM,fun i=>(k2 i).mono (by have:=Nat.mul_le_mul g h;omega),?_⟩
  by_cases z:(bA (bI ns) fs d t).1=0
  ·rw[im wf z];exact eb _
  ·rw[wY z];exact My _
theorem BK (way:Int)(w:World)(h:Hp)(g:G w h):CR 6 #[iV way] w h (fun v h1=>∃ (C:Z9)(c_:Nat)(ns:List ByteArray),v=.slice C ns.length c_/\ns.length<=c_/\NsD ns/\SlO 1 bD ⟨#[]⟩ h1 C ns):=by
 have a:=sS g;refine go Tryz.func6 [(0,iV way)] rfl (aa a ac (ag (aa a ac (aq 4 a (fb (way) 9 oM oM _ _ a.g) (fun w2 K a=>?_)))));have I:=cO (way) 9 oM;refine aZ (ax ?_);cases c:(((aW (way) 9:Nat):Int) == (0:Int))
 .
  have p:=aj c;refine lB 6 c (lL a ac (ah (ax ?_)));cases e:(((aW (way) 9:Nat):Int) == (1:Int))
  .
   have x:=aj e;refine lB 9 e (lL a ac (ah (ax ?_)));cases j:(((aW (way) 9:Nat):Int) == (2:Int))
   .
    have u:=aj j;refine lB 12 j (lL a ac (ah (ax ?_)));cases i:(((aW (way) 9:Nat):Int) == (3:Int))
    .
     have y:=aj i;refine lB 15 i (lL a ac (ah (cK (ax (lC 17 a (xO _ _ a.g) ?_)))));rintro _ L M a ⟨J,rfl,z⟩;replace a:=a.aS z;exact lL a ac (ae a [] (qS (sB J) 3 3) (⟨_,_,cD,rfl,by decide,.inr (.inr (.inr (.inr (.inl rfl)))),a.f.1⟩))
    have y:=eq_of_beq i;refine lB 15 i (lL a ac (am (ax (lR 16 9 4 ([.string (⟨#[122]⟩),.string (⟨#[121]⟩),.string (⟨#[120]⟩),.string (⟨#[119]⟩)]) a (fun F _ _ a=>?_)))));replace a:=a.aS (SlO.of_flat (sz:=1) (f:=bD) (d:=⟨#[]⟩) (b:=F) (o:=0) (l:=([⟨#[122]⟩,⟨#[121]⟩,⟨#[120]⟩,⟨#[119]⟩]:List ByteArray)) (fun _=>rfl) a.f.1);exact lL a ac (ae a [] (qS (sB F) 4 4) (⟨_,_,([⟨#[122]⟩,⟨#[121]⟩,⟨#[120]⟩,⟨#[119]⟩]:List ByteArray),rfl,by decide,.inr (.inr (.inr (.inl rfl))),a.f.1⟩))
   have u:=eq_of_beq j;refine lB 12 j (lL a ac (am (ax (lR 13 9 4 ([.string (⟨#[109,97,120]⟩),.string (⟨#[120]⟩),.string (⟨#[121]⟩),.string (⟨#[122]⟩)]) a (fun H _ _ a=>?_)))));replace a:=a.aS (SlO.of_flat (sz:=1) (f:=bD) (d:=⟨#[]⟩) (b:=H) (o:=0) (l:=([⟨#[109,97,120]⟩,⟨#[120]⟩,⟨#[121]⟩,⟨#[122]⟩]:List ByteArray)) (fun _=>rfl) a.f.1);exact lL a ac (ae a [] (qS (sB H) 4 4) (⟨_,_,([⟨#[109,97,120]⟩,⟨#[120]⟩,⟨#[121]⟩,⟨#[122]⟩]:List ByteArray),rfl,by decide,.inr (.inr (.inl rfl)),a.f.1⟩))
  have x:=eq_of_beq e;refine lB 9 e (lL a ac (am (ax (lR 10 9 4 ([.string (⟨#[120]⟩),.string (⟨#[121]⟩),.string (⟨#[122]⟩),.string (⟨#[120]⟩)]) a (fun D _ _ a=>?_)))));replace a:=a.aS (SlO.of_flat (sz:=1) (f:=bD) (d:=⟨#[]⟩) (b:=D) (o:=0) (l:=([⟨#[120]⟩,⟨#[121]⟩,⟨#[122]⟩,⟨#[120]⟩]:List ByteArray)) (fun _=>rfl) a.f.1);exact lL a ac (ae a [] (qS (sB D) 4 4) (⟨_,_,([⟨#[120]⟩,⟨#[121]⟩,⟨#[122]⟩,⟨#[120]⟩]:List ByteArray),rfl,by decide,.inr (.inl rfl),a.f.1⟩))
 have p:=eq_of_beq c;refine lB 6 c (lL a ac (am (ax (lR 7 9 2 ([.string (⟨#[120]⟩),.string (⟨#[121]⟩)]) a (fun B _ _ a=>?_)))));replace a:=a.aS (SlO.of_flat (sz:=1) (f:=bD) (d:=⟨#[]⟩) (b:=B) (o:=0) (l:=([⟨#[120]⟩,⟨#[121]⟩]:List ByteArray)) (fun _=>rfl) a.f.1);exact lL a ac (ae a [] (qS (sB B) 2 2) (⟨_,_,([⟨#[120]⟩,⟨#[121]⟩]:List ByteArray),rfl,by decide,.inl rfl,a.f.1⟩))
theorem qf (A:Z9)(c:Nat)(j:List Int)(n:Nat)(way:Int)(hn:n<=100)(x:j.length<=9223372036854775807)(hz:nh j)(w:World)(h:Hp)(g:G w h)(B:Si A j h):CR 7 #[.slice A j.length c,nV n,iV way] w h (fun v h1=>∃ (y:Z9)(c_:Nat)(ts:List RT)(fs:List Rat),v=.slice y ts.length c_/\ts.length<=c_/\Sr y ts h1/\RTs h1 ts fs/\(∀ i,LQ 1 (fs.getD i 0))/\fs.length<=n+1):=by
 have a:=((sS g).aS B);refine go Tryz.func7 [(0,qS A j.length c),(1,nV n),(2,iV way)] rfl (aa a ac (ag (aa a ac (aq 8 a (fb (way) 11 oM oM _ _ a.g) (fun w2 H a=>?_)))));have z:=cO (way) 11 oM;cases b:(((aW (way) 11:Nat):Int) == (10:Int))
 .
  have o:=aj b;refine lB 9 b (ah (cK (aa a aD (lC 14 a (Ib A c j n oM x hz _ _ a.g a.f.1) ?_))));rintro _ F D a ⟨u,p,tr,rfl,l,e,d⟩;replace a:=((a.aS e).aT d);exact lL a ac (ae a [] (qS u tr.length p) (⟨_,_,tr,_,rfl,l,a.f.2.1,a.f.1,oD _ _,by rw[mQ];omega⟩))
 have o:=eq_of_beq b;refine lB 9 b (am (kQ (lL a ac (bp 11 ((n:Nat)+1) (n+1) ?_))));refine lL a ac (aG (lL a aD (lC 14 a (Ib A c j (n+1) oM x hz _ _ a.g a.f.1) ?_)));rintro _ C I a ⟨u,p,tr,rfl,l,e,d⟩;replace a:=((a.aS e).aT d);exact lL a ac (ae a [] (qS u tr.length p) (⟨_,_,tr,_,rfl,l,a.f.2.1,a.f.1,oD _ _,by rw[mQ];omega⟩))
theorem G6 (A:Z9)(b:Nat)(d:List Int)(x:d.length<=9223372036854775807)(hz:nh d)(e:Nat)(j:e<=1000)(w:World)(h:Hp)(g:G w h)(C:Si A d h):CR 5 #[.slice A d.length b,nV e] w h (fun v h1=>∃ (r:RTm)(t:Tm),v=bK r/\RmH (e+1) h1 r t/\GrT (e+1) t):=by
 have a:=((sS g).aS C);refine go Tryz.func5 [(0,qS A d.length b),(1,nV e)] rfl (ax (lA 4 31 (bF ⟨0,0,false,none,0,0,none,0,0,⟨#[]⟩,none,0,0⟩) a (fun p w2 I a=>aG (lL a [.c,.v (.agg #[qS A d.length b,iV 0])] (lA 7 73 ([qS A d.length b,iV 0]) a (fun l H F a=>lL a ac (gh 9 (Fg l e rfl A b d x hz e rfl j 0 (My _) _ _ a.g (a.own 0) (a.jk 0) a.f.1) ?_)))))));rintro _ D J u ⟨r,t,i,rfl,o,y,hR,z⟩;replace a:=(a.stepM 0 u y).to [⟨l,73,[qS A d.length b,nV i]⟩,⟨p,31,bF ⟨0,0,false,none,0,0,none,0,0,⟨#[]⟩,none,0,0⟩⟩] [];replace a:=(a.add (K:=fun B=>RmH (e+1) B r t) hR);exact lP 1 0 (bF r) a (fun _ a=>ae a [(1,0,7)] (bK r) (⟨r,t,rfl,a.f.1,z⟩))
def gi (a b:List Rat)(i:Nat):Nat->Rat
  | 0=>0
  | j+1=>gi a b i j+a.getD j 0*b.getD (i-j) 0
def gj (m:Nat)(q:Rat):List Rat:=(zY m (0:Rat)).set 0 q
def oE (m:Nat)(x y:Rat):List Rat:=if 1<m then (gj m x).set 1 y else gj m x
def kl (m:Nat)(a b:List Rat):List Rat:=(ov m).map fun i=>gi a b i (i+1)
def gG (a:List Rat)(m:Nat):Nat->List Rat
  | 0=>zY m 0
  | i+1=>(gG a m i).set i (if i=0 then ((1:Int):Rat)/a.getD 0 0 else -(gi (gG a m i) a i i*(gG a m i).getD 0 0))
def gR (m:Nat)(a:List Rat):List Rat:=gG a m m
theorem qu (m:Nat)(q:Rat):(gj m q).length=m:=by simp[gj]
theorem l7 (m:Nat)(x y:Rat):(oE m x y).length=m:=by unfold oE;split<;>simp[gj]
theorem BM (m:Nat)(a b:List Rat):(kl m a b).length=m:=by simp[kl]
theorem gf (a:List Rat)(m:Nat):∀ k,(gG a m k).length=m
 | 0=>by simp[gG]
 | k+1=>by unfold gG;rw[Mg];exact gf a m k
theorem pS (m:Nat)(a:List Rat):(gR m a).length=m:=gf a m m
theorem GV {m:Nat}(x y:Rat)(h:1<m):(gj m x).set 1 y=oE m x y:=by unfold oE;rw[if_pos h]
theorem F5 {m:Nat}(x y:Rat)(h:¬1<m):gj m x=oE m x y:=by unfold oE;rw[if_neg h]
section
variable {a b:List Rat}{m i j k:Nat}
theorem xH {f:Nat->Rat}(h:i<m):(d9 f m k).getD i 0=if i<k then f i else 0:=jQ h
theorem j8 (f:Nat->Rat)(m k:Nat):(d9 f m k).length=m:=by simp[d9]
theorem vX {l:List Rat}(h:i<l.length)(e:l.getD i 0=0):l=l.set i 0:=by
 refine j6 (by simp) fun t=>?_
 rw[eo h]
 split
 ·rename_i e2;subst e2;exact e
 ·rfl
theorem Fl (h:i<m):d9 (fun i=>gi a b i (i+1)) m i=(d9 (fun i=>gi a b i (i+1)) m i).set i (gi a b i 0) :=
 vX (by rw[j8];exact h) (by rw[xH h,if_neg (Nat.lt_irrefl i)])
theorem Hf {S:List Rat}(c:S.length=m)(h:i<m):(S.set i (gi a b i j)).set i ((S.set i (gi a b i j)).getD i 0+a.getD j 0*b.getD (i-j) 0)=S.set i (gi a b i (j+1)):=by
 rw[List.set_set,eo oM,if_pos rfl];rfl
theorem Hm {S:List Rat}(a:S.length=m)(h:i<m)(c:Rat):(S.set i c).getD i 0=c:=by rw[eo oM,if_pos rfl]
theorem Ew (h:i<m)(e:j=i+1):(d9 (fun i=>gi a b i (i+1)) m i).set i (gi a b i j)=d9 (fun i=>gi a b i (i+1)) m (i+1):=by
 subst e;exact fW (f:=fun i=>gi a b i (i+1)) h
theorem Do:d9 (fun i=>gi a b i (i+1)) m m=kl m a b:=fV _ _
theorem FI (h:1<=i):(gG a m i).set i (-(gi (gG a m i) a i i*(gG a m i).getD 0 0))=gG a m (i+1):=by
 show _=(gG a m i).set i (if i=0 then _ else _)
 rw[if_neg oM]
theorem uN (hk:k<=m):∀ {n},k<=n->i<k->(gG a m n).getD i 0=(gG a m k).getD i 0
  | n,hn,hi=>by
    obtain ⟨e,rfl⟩:∃ e,n=k+e:=⟨n-k,by omega⟩
    induction e with
    | zero=>rfl
    | succ e ih =>
      rw[<-ih oM]
      show ((gG a m (k+e)).set (k+e) _).getD i 0=_
      by_cases hm:k+e<m
      . rw[eo (by rw[gf];exact hm),if_neg oM]
      . rw[Oe (by rw[gf];omega)]
theorem sD:∀ {k},k<=i->(gG a m k).getD i 0=0
  | 0,_=>gZ m i
  | k+1,h=>by
    show ((gG a m k).set k _).getD i 0=0
    by_cases hm:k<m
    . rw[eo (by rw[gf];exact hm),if_neg oM];exact sD oM
    . rw[Oe (by rw[gf];omega)];exact sD oM
theorem D5 {K:Nat}(b:1<=K)(h:∀ i,LQ K ((gR m a).getD i 0))(hk:k<=m)(i:Nat):LQ K ((gG a m k).getD i 0):=by
 by_cases hi:i<k
 ·rw[<-uN hk hk hi];exact h i
 ·rw[sD oM];exact iE b
end
def oy (m:Nat)(a b:List Rat):List Rat:=(ov m).map fun i=>a.getD i 0+b.getD i 0
def jB (m:Nat)(a:List Rat)(k:Rat):List Rat:=(ov m).map fun i=>a.getD i 0*k
theorem wP (m:Nat)(a b:List Rat):(oy m a b).length=m:=by simp[oy]
theorem rr (m:Nat)(a:List Rat)(k:Rat):(jB m a k).length=m:=by simp[jB]
theorem n0 {a b c:List Rat}{i:Nat}:∀ j,(∀ t,t<j->a.getD t 0=c.getD t 0)->gi a b i j=gi c b i j
  | 0,_=>rfl
  | j+1,h=>by
    show gi a b i j+a.getD j 0*_=gi c b i j+c.getD j 0*_
    rw[n0 j (fun t d=>h t oM),h j (Of j)]
theorem Et {a:List Rat}{m i j:Nat}(b:j<=i)(hi:i<=m):gi (gG a m i) a i j=gi (gR m a) a i j :=
 n0 j fun t c=>(uN hi hi oM).symm
def B5 (p:Nat->Bool)(s:ByteArray):Nat->Nat->Nat
  | 0,a=>a
  | f+1,a=>if a<s.size/\p (aU s a)=true then B5 p s f (a+1) else a
def rn (p:Nat->Bool)(s:ByteArray)(a:Nat):Nat:=B5 p s (s.size-a) a
theorem xb (p:Nat->Bool)(s:ByteArray):∀ f a,a<=s.size->B5 p s f a<=s.size
  | 0,a,h=>h
  | f+1,a,h=>by
    unfold B5;split
    . rename_i c;exact xb p s f (a+1) c.1
    . exact h
theorem Be {p:Nat->Bool}{s:ByteArray}{a:Nat}(h:a<=s.size):rn p s a<=s.size:=xb p s _ a h
theorem AX {p:Nat->Bool}{s:ByteArray}{j:Nat}:∀ f a,s.size-a<=f->a<=j->j<=s.size->(∀ i,a<=i->i<j->p (aU s i)=true)->(j=s.size\/p (aU s j)=false)->B5 p s f a=j
  | 0,a,h1,h2,h3,_,_=>by show a=j;omega
  | f + 1,a,h1,h2,h3,h4,h5=>by
    unfold B5
    by_cases e:a=j
    . subst e
      rw[if_neg];rintro ⟨d,b⟩
      rcases h5 with h5|h5
      . omega
      . rw[h5] at b;cases b
    . rw[if_pos ⟨by omega,h4 a (eb a) oM⟩]
      exact AX f (a+1) oM oM h3 (fun i hi c=>h4 i oM c) h5
theorem pL {p:Nat->Bool}{s:ByteArray}{a j:Nat}(c:a<=j)(d:j<=s.size)(e:∀ i,a<=i->i<j->p (aU s i)=true)(b:j=s.size\/p (aU s j)=false):rn p s a=j:=AX _ a (eb _) c d e b
theorem rC (p:Nat->Bool)(s:ByteArray):∀ f a,s.size-a<=f->B5 p s f a<s.size->p (aU s (B5 p s f a))=false
  | 0,a,h1,b=>by
    have b:a<s.size:=b
    omega
  | f + 1,a,h1,b=>by
    unfold B5 at b ⊢
    split
    . rename_i c;rw[if_pos c] at b;exact rC p s f (a+1) oM b
    . rename_i c;rw[if_neg c] at b
      cases h:p (aU s a) with
      | true=>exact absurd ⟨b,h⟩ c
      | false=>rfl
def Db (c:Nat):Bool:=decide (c=32)
def mh (c:Nat):Bool:=decide ((48<=c/\c<=57)\/c=46)
def ia (c:Nat):Bool:=decide (pq c)
def sk (s:ByteArray)(a:Nat):Nat:=rn Db s a
theorem lM {s:ByteArray}{a:Nat}(h:a<=s.size):sk s a<=s.size:=Be h
theorem IU (s:ByteArray)(a:Nat):sk s (sk s a)=sk s a:=by
 rcases dS (sk s a) s.size with h1|h1
 ·exact pL (eb _) (Nat.le_of_lt h1) (fun i b c=>absurd b oM) (.inr (rC Db s (s.size-a) a (eb _) h1))
 ·show B5 Db s (s.size-sk s a) (sk s a)=sk s a
  rw[show s.size-sk s a=0 by omega];rfl
theorem uF {s:ByteArray}{a:Nat}(h:s.size<=a):aU s a=0:=by
 unfold aU
 rw[LM,List.getElem?_eq_none (by simpa using h)];rfl
theorem xx {s:ByteArray}{a:Nat}(h:aU s a≠0):a<s.size:=by
 rcases dS a s.size with h1|h1
 ·exact h1
 ·exact absurd (uF h1) h
inductive PR where
  | ok (t:Tm) (a:Nat)
  | err (b:Nat)
inductive PKd where
  | sum|prod|sign|pow|atom
  | more (lv:Bool) (t:Tm)
def iF (op:Int)(t u:Tm):Tm:=.mk op 0 0 ⟨#[]⟩ [t,u]
def oN (q:Rat):Tm:=.mk 1 0 q ⟨#[]⟩ []
def pY (s:ByteArray):Tm:=.mk 2 0 0 s []
def sV (x:Option PR)(f:Tm->Nat->Option PR):Option PR:=match x with
  | none=>none
  | some (.ok t a)=>f t a
  | some (.err b)=>some (.err b)
def c1 (lv:Bool):Nat:=if lv then 42 else 43
def c2 (lv:Bool):Nat:=if lv then 47 else 45
def B3 (lv:Bool):Int:=if lv then 5 else 3
def tT (lv:Bool):Int:=if lv then 6 else 4
def part (lv:Bool):PKd:=if lv then .sign else .prod
section
variable (nf:ByteArray->Option Rat)(s:ByteArray)
def gc:Nat->PKd->Nat->Option PR
  | 0,_,_=>none
  | n+1,.sum,a=>sV (gc n .prod a) fun t b=>gc n (.more false t) b
  | n+1,.prod,a=>sV (gc n .sign a) fun t b=>gc n (.more true t) b
  | n+1,.more lv t,a =>
    if aU s (sk s a)=c1 lv then sV (gc n (part lv) (sk s a+1)) fun u b=>gc n (.more lv (iF (B3 lv) t u)) b
    else if aU s (sk s a)=c2 lv then sV (gc n (part lv) (sk s a+1)) fun u b=>gc n (.more lv (iF (tT lv) t u)) b
    else some (.ok t (sk s a))
  | n+1,.sign,a=>if aU s (sk s a)=45 then none else gc n .pow (sk s a)
  | n+1,.pow,a=>sV (gc n .atom a) fun t b=>if aU s (sk s b)=94 then none else some (.ok t (sk s b))
  | n + 1,.atom,a =>
    if mh (aU s (sk s a))=true then match nf (s.extract (sk s a) (rn mh s (sk s a))) with
      | some q=>some (.ok (oN q) (rn mh s (sk s a)))
      | none=>some (.err (sk s a))
    else if iP (aU s (sk s a))\/aU s (sk s a)=95 then
      if ek (s.extract (sk s a) (rn ia s (sk s a)))=true then none
      else if dr (s.extract (sk s a) (rn ia s (sk s a)))=true then some (.ok (pY (s.extract (sk s a) (rn ia s (sk s a)))) (rn ia s (sk s a)))
      else some (.err (sk s a))
    else if aU s (sk s a)=40 then sV (gc n .sum (sk s a+1)) fun t b=>if aU s (sk s b)=41 then some (.ok t (sk s b+1)) else some (.err (sk s b))
    else some (.err (sk s a))
variable {nf s}
theorem j3 {x:Option PR}{f:Tm->Nat->Option PR}{t:Tm}{b:Nat}(h:sV x f=some (.ok t b)):∃ u a,x=some (.ok u a)/\f u a=some (.ok t b):=by
 match x,h with
 | some (.ok u a),h=>exact ⟨u,a,rfl,h⟩
def wm (lv:Bool):PKd:=if lv then .prod else .sum
section
variable {n a b:Nat}{t u:Tm}{lv:Bool}{op:Int}
theorem CH {k:PKd}{r:PR}(h:gc nf s n k a=some r):∃ m,n=m+1:=by
 cases n with
 | zero=>cases h
 | succ m=>exact ⟨m,rfl⟩
theorem DD (h:gc nf s (n+1) (wm lv) a=some (.ok t b)):∃ u c,gc nf s n (part lv) a=some (.ok u c)/\gc nf s n (.more lv u) c=some (.ok t b):=by
 cases lv<;>exact j3 h
theorem vG (h:gc nf s (n+1) (.more lv u) a=some (.ok t b))(c:aU s (sk s a)=c1 lv):∃ v e,gc nf s n (part lv) (sk s a+1)=some (.ok v e)/\gc nf s n (.more lv (iF (B3 lv) u v)) e=some (.ok t b):=by
 unfold gc at h;rw[if_pos c] at h;exact j3 h
theorem vx (h:gc nf s (n+1) (.more lv u) a=some (.ok t b))(d:aU s (sk s a)≠c1 lv)(c:aU s (sk s a)=c2 lv):∃ v e,gc nf s n (part lv) (sk s a+1)=some (.ok v e)/\gc nf s n (.more lv (iF (tT lv) u v)) e=some (.ok t b):=by
 unfold gc at h;rw[if_neg d,if_pos c] at h;exact j3 h
theorem vB (h:gc nf s (n+1) (.more lv u) a=some (.ok t b))(d:aU s (sk s a)≠c1 lv)(c:aU s (sk s a)≠c2 lv):t=u/\b=sk s a:=by
 unfold gc at h;rw[if_neg d,if_neg c] at h;injection h with h;injection h with h1 h2;exact ⟨h1.symm,h2.symm⟩
theorem nQ (h:gc nf s (n+1) .sign a=some (.ok t b)):aU s (sk s a)≠45/\gc nf s n .pow (sk s a)=some (.ok t b):=by
 unfold gc at h
 split at h
 ·cases h
 ·rename_i c;exact ⟨c,h⟩
theorem CP (h:gc nf s (n+1) .pow a=some (.ok t b)):∃ e,gc nf s n .atom a=some (.ok t e)/\aU s (sk s e)≠94/\b=sk s e:=by
 unfold gc at h
 obtain ⟨v,e,h1,d⟩:=j3 h
 split at d
 ·cases d
 ·rename_i c;injection d with d;injection d with d h3;subst d;exact ⟨e,h1,c,h3.symm⟩
section
variable (h:gc nf s (n+1) .atom a=some (.ok t b))
include h
theorem DZ (c:mh (aU s (sk s a))=true):∃ q,nf (s.extract (sk s a) (rn mh s (sk s a)))=some q/\t=oN q/\b=rn mh s (sk s a):=by
 unfold gc at h;rw[if_pos c] at h
 split at h
 ·rename_i q d;injection h with h;injection h with h1 h2;exact ⟨q,d,h1.symm,h2.symm⟩
 ·cases h
variable (c0:mh (aU s (sk s a))=false)
include c0
theorem CN (c:iP (aU s (sk s a))\/aU s (sk s a)=95):ek (s.extract (sk s a) (rn ia s (sk s a)))=false/\dr (s.extract (sk s a) (rn ia s (sk s a)))=true/\t=pY (s.extract (sk s a) (rn ia s (sk s a)))/\b=rn ia s (sk s a):=by
 unfold gc at h;rw[if_neg (by rw[c0];decide),if_pos c] at h
 split at h
 ·cases h
 ·rename_i d
  split at h
  ·rename_i e;injection h with h;injection h with h1 h2;exact ⟨by simpa using d,e,h1.symm,h2.symm⟩
  ·cases h
variable (cL:¬(iP (aU s (sk s a))\/aU s (sk s a)=95))
include cL
theorem B9:aU s (sk s a)=40/\∃ e,gc nf s n .sum (sk s a+1)=some (.ok t e)/\aU s (sk s e)=41/\b=sk s e+1:=by
 unfold gc at h;rw[if_neg (by rw[c0];decide),if_neg cL] at h
 split at h
 ·rename_i c
  obtain ⟨v,e,h1,f⟩:=j3 h
  split at f
  ·rename_i d;injection f with f;injection f with f h3;subst f;exact ⟨c,e,h1,d,h3.symm⟩
  ·cases f
 ·cases h
end
end
end
def PtH (h:Hp)(p:PTm)(t:Tm):Prop:=∃ d,TmH d h p t
theorem PtH.gw {h a:Hp}{p:PTm}{t:Tm}(x:PtH h p t)(u:Gw h a):PtH a p t:=by obtain ⟨d,x⟩:=x;exact ⟨d,x.gw u⟩
theorem PtH.two {h:Hp}{op:Int}{p q:PTm}{t u:Tm}{b:Nat}(x:PtH h p t)(y:PtH h q u)(a:SlO 9 da cJ h (some ⟨b,0,none⟩) [p,q]):PtH h ⟨op,0,0,⟨#[]⟩,some ⟨b,0,none⟩,2,2⟩ (iF op t u):=by
 obtain ⟨d,x⟩:=x;obtain ⟨e,y⟩:=y
 exact ⟨max d e+1,TmH.mk (ps:=[p,q]) (ks:=[t,u]) ⟨rfl,fun i hi=>by
  have:i=0\/i=1:=by have:i<2:=hi;omega
  rcases this with rfl|rfl
  ·exact x.mono (Nat.le_max_left _ _)
  ·exact y.mono (Nat.le_max_right _ _)⟩ (eb _) a⟩
theorem PtH.num {h:Hp}{q:Rat}:PtH h ⟨1,0,q,⟨#[]⟩,none,0,0⟩ (oN q):=⟨1,TmH.mk (ps:=[]) (ks:=[]) Tms.nil (eb _) SlO.nil⟩
theorem PtH.nam {h:Hp}{s:ByteArray}:PtH h ⟨2,0,0,s,none,0,0⟩ (pY s):=⟨1,TmH.mk (ps:=[]) (ks:=[]) Tms.nil (eb _) SlO.nil⟩
section ops
variable {P:Program}{Γ:cl}{o:Oper}
theorem wZ {tx:TypeId}{x i e:Operand}{k k2:IntKind}{s:ByteArray}{n m:Nat}{j j2:Int}(c:o.op=.slice tx x (some i) (some e) none)(b:ev Γ x=.string s)(hi:ev Γ i=.int k j)(d:ev Γ e=.int k2 j2)(h:P.underlying tx=some .string)(f:j=(n:Int))(a:j2=(m:Int))(hn:n<=m)(l:m<=s.size)(w:World) :
  (execOp (ev Γ) o).run P w=.ok (.value (.string (s.extract n m))) w:=by
 unfold execOp;simp only[c]
 subst f;subst a;have h0:(m:Int)<=(s.size:Int):=by omega
 simp[Instr.sliceAt,b,hi,d,Instr.slice,run_underlying h,Instr.sliceBounds,Instr.sliceBound,asIntOf,Result.andThen,h0,hn,l]
end ops
theorem Fj {q:Rat}(h:decide (ab q.num<18446744073709551616/\q.den<18446744073709551616)=true):LQ 1 q:=by
 have h:=oT h
 have k:∀ n,n<18446744073709551616->(wds n).length<=1:=fun n hn=>by
  rcases Nat.eq_zero_or_pos n with rfl|h0
  ·rw[mr];exact My _
  ·rw[kj h0 hn];exact eb _
 exact ⟨k _ h.1,k _ h.2⟩
section
variable {ok:ByteArray->Prop}{d:Nat}
theorem xm {q:Rat}(h:LQ 1 q):WfT1 ok (d+1) (oN q):=⟨rfl,fun h=>absurd rfl h,h,fun h=>absurd (show (1:Int)=2 from h) kD,fun _=>rfl,fun _=>rfl,by show (-12:Int)<=0;decide,by show (0:Int)<=12;decide,fun i hi=>absurd hi (NN i)⟩
theorem r8 {s:ByteArray}(h:ok s):WfT1 ok (d+1) (pY s):=⟨rfl,fun _=>rfl,iE kD,fun _=>h,fun h=>absurd rfl h,fun _=>rfl,by show (-12:Int)<=0;decide,by show (0:Int)<=12;decide,fun i hi=>absurd hi (NN i)⟩
theorem ry {op:Int}{t u:Tm}(x:WfT1 ok d t)(y:WfT1 ok d u)(ha:fu op=2)(a:op≠2):WfT1 ok (d+1) (iF op t u):=⟨ha,fun _=>rfl,iE kD,fun h=>absurd (show op=2 from h) a,fun _=>rfl,fun _=>rfl,by show (-12:Int)<=0;decide,by show (0:Int)<=12;decide,fun i hi=>by
 have:i=0\/i=1:=by have:i<2:=hi;omega
 rcases this with rfl|rfl
 ·exact x
 ·exact y⟩
end
def Ck:Tm:=iF 5 (pY ⟨#[120]⟩) (pY ⟨#[121]⟩)
def uZ:Tm:=iF 6 (oN ((1:Nat):Rat)) (iF 4 (oN ((1:Nat):Rat)) (pY ⟨#[120]⟩))
theorem uE {ok:ByteArray->Prop}(h:ok ⟨#[120]⟩)(a:ok ⟨#[121]⟩):WfT1 ok 2 Ck:=ry (r8 h) (r8 a) kD kD
theorem tm {ok:ByteArray->Prop}(h:ok ⟨#[120]⟩):WfT1 ok 3 uZ:=ry (xm (Fj kR)) (ry (xm (Fj kR)) (r8 h) kD kD) kD kD
theorem Fc:ce 2 Ck<=1000:=oT kR
theorem Fd:ce 3 uZ<=1000:=oT kR
theorem FC {a b:Rat}(h:LQ 1 a)(c:LQ 1 b)(i:Nat):LQ 1 ([a,b].getD i 0):=by
 match i with
 | 0=>exact h
 | 1=>exact c
 | _+2=>exact iE kD
theorem DrunR.of {d:Nat}{t:Tm}{ns:List ByteArray}{fs:List Rat}{e:Int}{q:Rat}{b:List Rat}(h:DrunR d t ns fs e q b)(h0:DckR d t ns (fs.length=ns.length) 0):(e,q,b)=bA (bI ns) fs d t:=by
 obtain ⟨c,h1,⟨a,_⟩|⟨_,a⟩⟩:=h
 ·exact absurd (h1.uniq h0) a
 ·exact a
theorem Dm {d:Nat}{t:Tm}{ns:List ByteArray}{M:Prop}(w:WfT1 (fun s=>dr s=true) d t)(g:ce d t<=1000)(hM:M)(hn:∀ i,i<ns.length->dr (ns.getD i ⟨#[]⟩)=true)(w2:WfT1 (fun s=>s∈ns) d t)(a:ns.Nodup):DckR d t ns M 0 :=
 .inr ⟨⟨w,g⟩,.inr ⟨hM,.inr ⟨hn,.inr ⟨fun s b=>rQ w2 b,.inr ⟨a,rfl⟩⟩⟩⟩⟩
theorem Es {e:Int}{q:Rat}{a:List Rat}(h:DrunR 2 Ck [⟨#[120]⟩,⟨#[121]⟩] [((2:Int):Rat),((3:Int):Rat)] e q a):e=0/\q=6/\a=[3,2]:=by
 have k:=h.of (Dm (uE kD kD) Fc rfl (by intro i hi;match i,hi with|0,_=>decide|1,_=>decide) (uE kD kD) kD);have v:bA (bI [⟨#[120]⟩,⟨#[121]⟩]) [((2:Int):Rat),((3:Int):Rat)] 2 Ck=(0,6,[3,2]):=by kernel_rfl
 rw[v] at k
 injection k with k1 k2
 injection k2 with k2 k3
 exact ⟨k1,k2,k3⟩
theorem HP {l:List Rat}(h:(l.all fun q=>decide (ab q.num<18446744073709551616/\q.den<18446744073709551616))=true)(i:Nat):LQ 39500000 (l.getD i 0):=by
 by_cases hi:i<l.length
 ·rw[LM,NO hi]
  exact (Fj (oi.1 h _ (List.getElem_mem hi))).mono kD
 ·rw[db oM];exact iE kD
theorem KO {a b:List Rat}(h:((ov 4).all fun i=>(ov 5).all fun j=>decide (ab (gi a b i j).num<18446744073709551616/\(gi a b i j).den<18446744073709551616))=true)(i j:Nat)(hi:i<=3)(c:j<=i+1):LQ 39500000 (gi a b i j) :=
 (Fj (oi.1 (oi.1 h i (o0.2 oM)) j (o0.2 oM))).mono kD
def dk1:List Rat:=gj 4 ((1:Nat):Rat)
def dk2:List Rat:=oE 4 ((0:Int):Rat) ((1:Int):Rat)
def dk3:List Rat:=oy 4 dk1 (jB 4 dk2 ((-1:Int):Rat))
theorem KB:kl 4 dk1 (gR 4 dk3)=[1,1,1,1]:=by kernel_rfl
section
variable {M:Ms}{P:Program}{n:Nat}{N R:Po}{X:Nat->Po}{ops:Array Oper}{k0:Nat}{L:Array Bool}{Γ:cl}{w:World}{h:Hp}{w0:World}{h0:Hp}{B:List Bx}{Rs:List Rw}{F:List (Hp->Prop)}
def uo (ops:Array Oper)(k0:Nat)(L:Array Bool)(i j:Nat):Bool :=
  decide (i<ops.size) && decide (j<ops.size) && decide (k0<=i) && decide (k0<=j) && Region.noSelect ops && (Region.ready .any ops L == [i,j])
theorem A.two {a:Act}{i j:Nat}(h:uo ops k0 L i j=true){Q:Exit->Act->World->Prop}{f R2:Value->World->Prop}(h1:OpR P ops (ak ops i) a w f)(x:OpR P ops (ak ops j) a w R2)(l:∀ v w',f v w'->Tl M w w')(e:∀ v w',R2 v w'->Tl M w w')
  (d:∀ v w',f v w'->A M P ops Q k0 (L.setIfInBounds i true) (a.put (ak ops i).dst v) w')(c:∀ v w',R2 v w'->A M P ops Q k0 (L.setIfInBounds j true) (a.put (ak ops j).dst v) w'):A M P ops Q k0 L a w:=by
 unfold uo at h
 simp only[i3,decide_eq_true_eq,beq_iff_eq] at h
 obtain ⟨⟨⟨⟨⟨c1,c2⟩,p⟩,u⟩,_⟩,o⟩:=h;refine A.intro (fun h0=>by rw[o] at h0;cases h0) (fun q b=>?_);rw[o] at b
 rcases g2.1 b with rfl|b
 ·exact OpR.wpOp (bv c1) h1 (fun v w' hr=>⟨Rl.tl p (l v w' hr),d v w' hr⟩)
 ·rw[sy] at b
  subst b;exact OpR.wpOp (bv c2) x (fun v w' hr=>⟨Rl.tl u (e v w' hr),c v w' hr⟩)
def IB (n:Nat)(ops:Array Oper)(Γ:cl)(i t:Nat):Bool:=Region.noSelect ops && decide (i<ops.size) && aY Γ (ak ops i) && ((ak ops i).dst == some t) && decide (t<n) && (bg ops Γ (ak ops i) == some true)
theorem rP {i t:Nat}{v:Value}(b:IB n ops Γ i t=true)(hr:(execOp (ev Γ) (ak ops i)).run P w=.ok (.value v) w){a:Act}(c:Kn n a Γ):OpR P ops (ak ops i) a w (fun u w1=>u=v/\w1=w)/\(ak ops i).dst=some t/\t<n:=by
 unfold IB at b
 simp only[i3,decide_eq_true_eq,beq_iff_eq] at b
 obtain ⟨⟨⟨⟨⟨h,h0⟩,e⟩,f⟩,j⟩,d⟩:=b;exact ⟨⟨c.want d,.inl ⟨v,w,by rw[c.exec (Region.noSelect_spec h i _ · · (bv h0)) e];exact hr,rfl,rfl⟩⟩,f,j⟩
def KJ (ops:Array Oper)(Γ:cl)(i:Nat):Bool:=Region.noSelect ops && decide (i<ops.size) && aY Γ (ak ops i) && ((ak ops i).dst == none) && (bg ops Γ (ak ops i) == some true)
theorem Gz {i:Nat}{w':World}(b:KJ ops Γ i=true)(hr:(execOp (ev Γ) (ak ops i)).run P w=.ok .skip w'){a:Act}(c:Kn n a Γ):OpR P ops (ak ops i) a w (fun u w1=>u=undef/\w1=w')/\(ak ops i).dst=none:=by
 unfold KJ at b
 simp only[i3,decide_eq_true_eq,beq_iff_eq] at b
 obtain ⟨⟨⟨⟨h,h0⟩,e⟩,f⟩,d⟩:=b;exact ⟨⟨c.want d,.inr (.inl ⟨w',by rw[c.exec (Region.noSelect_spec h i _ · · (bv h0)) e];exact hr,rfl,rfl⟩)⟩,f⟩
theorem Lj (i t:Nat)(ps:List (Nat × Nat × Nat))(v:Value)(j o:Nat)(b:List (Nat × Nat × Nat))(p:Value)(s:SS w0 h0 w h B Rs F)(H:AG M P n N R X ops k0 (L.setIfInBounds i true) ((t,v)::Γ) w)(D:AG M P n N R X ops k0 (L.setIfInBounds j true) ((o,p)::Γ) w)
  (c:(uo ops k0 L i j && IB n ops Γ i t && IB n ops Γ j o)=true:=by kernel_rfl)(l:(cC B ps && cC B b)=true:=by kernel_rfl)(C:bS P (execOp (ev Γ) (ak ops i)) (dj B ps)=some (.value v,cc B ps):=by kernel_rfl)(f:bS P (execOp (ev Γ) (ak ops j)) (dj B b)=some (.value p,cc B b):=by kernel_rfl):AG M P n N R X ops k0 L Γ w:=by
 simp only[i3] at c l
 intro a d;obtain ⟨u,x,z⟩:=rP c.1.2 (bR _ _ _ _ C (dh s.st.own ps l.1)) d;obtain ⟨I,y,l2⟩:=rP c.2 (bR _ _ _ _ f (dh s.st.own b l.2)) d;refine A.two c.1.1 u I (fun _ _ e=>e.2▸Tl.refl _ _) (fun _ _ e=>e.2▸Tl.refl _ _) ?_ ?_
 ·rintro _ _ ⟨rfl,rfl⟩;rw[x];exact H _ (d.put z _)
 ·rintro _ _ ⟨rfl,rfl⟩;rw[y];exact D _ (d.put l2 _)
theorem Li (i t:Nat)(ps:List (Nat × Nat × Nat))(v:Value)(q j o:Nat)(cs:List Value)(s:SS w0 h0 w h B Rs F)(Q:AG M P n N R X ops k0 (L.setIfInBounds i true) ((t,v)::Γ) w)(K:∀ w',SS w0 h0 w' h (gl B j o cs) Rs F->AG M P n N R X ops k0 (L.setIfInBounds q true) Γ w')
  (p:(uo ops k0 L i q && IB n ops Γ i t && KJ ops Γ q)=true:=by kernel_rfl)(O:cC B ps=true:=by kernel_rfl)(I:bS P (execOp (ev Γ) (ak ops i)) (dj B ps)=some (.value v,cc B ps):=by kernel_rfl)
  (J:(decide (j<B.length) && decide (o+cs.length<=(av B j).vs.length))=true:=by kernel_rfl)(x:dE P (execOp (ev Γ) (ak ops q))=some (.skip,lf (av B j).b o cs):=by kernel_rfl)(hz:M.z=none:=by rfl):AG M P n N R X ops k0 L Γ w:=by
 simp only[i3] at p
 have c:=J
 simp only[i3,decide_eq_true_eq] at c
 intro a u;obtain ⟨y,C,H⟩:=rP p.1.2 (bR _ _ _ _ I (dh s.st.own ps O)) u;obtain ⟨w',f,d,l⟩:=fd _ _ _ _ _ w x (s.st.own _ (bu c.1)) c.2;obtain ⟨S,D⟩:=Gz p.2 f u;refine A.two p.1.1 y S (fun _ _ e=>e.2▸Tl.refl _ _) (fun _ _ _=>Tl.none hz _ _) ?_ ?_
 ·rintro _ _ ⟨rfl,rfl⟩;rw[C];exact Q _ (u.put H _)
 ·rintro _ _ ⟨rfl,rfl⟩
  rw[D];exact K _ (s.put0 c.1 d (s.st.put s.g0 c.1 d l) (mM c.1)) _ u
end
theorem DrunR.of2 {d:Nat}{t:Tm}{ns:List ByteArray}{fs:List Rat}{e:Int}{q:Rat}{a:List Rat}{M:Prop}(h:DrunR d t ns fs e q a)(k:qA dr d t/\(fs.length=ns.length/\M)/\(∀ i,i<ns.length->dr (ns.getD i ⟨#[]⟩)=true)/\(∀ s,fH d t s->s∈ns)/\ns.Nodup):(e,q,a)=bA (bI ns) fs d t :=
 h.of (Dm k.1.1 k.1.2 k.2.1.1 k.2.2.1 (mC k) k.2.2.2.2)
def DalR (d:Nat)(t:Tm)(ns:List ByteArray)(fs ws:List Rat)(e:Int)(q s:Rat):Prop :=
  ∃ ec,DckR d t ns (fs.length=ns.length/\ws.length=ns.length) ec/\((ec≠0/\e=ec/\q=0/\s=0)\/(ec=0/\e=(bA (bI ns) fs d t).1/\q=(bA (bI ns) fs d t).2.1/\s=bW (bA (bI ns) fs d t).2.2 ws (bA (bI ns) fs d t).2.2.length))
theorem E7 {d:Nat}{t:Tm}{ns:List ByteArray}{fs ws:List Rat}(h0:(bA (bI ns) fs d t).1≠0):(0:Rat)=(bA (bI ns) fs d t).2.1/\(0:Rat)=bW (bA (bI ns) fs d t).2.2 ws (bA (bI ns) fs d t).2.2.length:=by
 rw[wY h0];exact ⟨rfl,rfl⟩
theorem wt {d:Nat}{t:Tm}{ns:List ByteArray}{fs ws:List Rat}{e:Int}{q:Rat}{a:List Rat}(h:(e,q,a)=bA (bI ns) fs d t)(h0:e=0):(0:Int)=(bA (bI ns) fs d t).1/\q=(bA (bI ns) fs d t).2.1/\bW a ws a.length=bW (bA (bI ns) fs d t).2.2 ws (bA (bI ns) fs d t).2.2.length:=by
 rw[<-h];exact ⟨h0.symm,rfl,rfl⟩
theorem DalR.uniq {d:Nat}{t:Tm}{ns:List ByteArray}{fs ws:List Rat}{e f:Int}{q a s b:Rat}(x:DalR d t ns fs ws e q s)(y:DalR d t ns fs ws f a b):e=f/\q=a/\s=b:=by
 obtain ⟨c,c1,c2⟩:=x;obtain ⟨c',h,i⟩:=y;obtain rfl:=c1.uniq h
 rcases c2 with ⟨h0,a1,a2,a3⟩|⟨h0,a1,a2,a3⟩<;>rcases i with ⟨h1,b1,b2,b3⟩|⟨h1,b1,b2,b3⟩
 ·exact ⟨a1.trans b1.symm,a2.trans b2.symm,a3.trans b3.symm⟩
 ·exact absurd h1 h0
 ·exact absurd h0 h1
 ·exact ⟨a1.trans b1.symm,a2.trans b2.symm,a3.trans b3.symm⟩
theorem DalR.run {d:Nat}{t:Tm}{ns:List ByteArray}{fs ws:List Rat}{e i:Int}{q s j:Rat}{b:List Rat}(x:DalR d t ns fs ws e q s)(h0:e=0)(y:DrunR d t ns fs i j b):i=0/\b.length=ws.length/\s=bW b ws b.length:=by
 obtain ⟨c,c1,⟨h1,a,_⟩|⟨h1,a,_,f⟩⟩:=x
 ·exact absurd (a.symm.trans h0) h1
 ·have k:=c1.ok h1
  have g:=y.of2 k;rw[<-g] at a f
  have hz:(bA (bI ns) fs d t).1=0:=by rw[<-g];exact a.symm.trans h0
  have h:=im (mC k) hz;rw[<-g] at h
  exact ⟨a.symm.trans h0,h.trans (k.2.1.1.trans k.2.1.2.symm),f⟩
theorem DalR.lq {d:Nat}{t:Tm}{ns:List ByteArray}{fs ws:List Rat}{e:Int}{q s:Rat}(x:DalR d t ns fs ws e q s)(o:∀ i,LQ 1 (fs.getD i 0))(a:∀ i,LQ 1 (ws.getD i 0))(h:d<=20)(p:fs.length<=10):LQ 3000 q/\LQ 20000000 s:=by
 obtain ⟨c,c1,⟨_,_,rfl,rfl⟩|⟨h1,z,j,f⟩⟩:=x
 ·exact ⟨iE kD,iE kD⟩
 ·have y:DrunR d t ns fs (bA (bI ns) fs d t).1 (bA (bI ns) fs d t).2.1 (bA (bI ns) fs d t).2.2:=by
   have k:=c1.ok h1;exact ⟨0,Dm k.1.1 k.1.2 k.2.1.1 k.2.2.1 (mC k) k.2.2.2.2,.inr ⟨rfl,rfl⟩⟩
  obtain ⟨y1,b,u⟩:=y.lq o h;rw[j,f];obtain ⟨K,hK⟩:∃ K:Nat,K=1000000:=⟨_,rfl⟩;rw[<-hK] at b
  have hn:=Nat.mul_le_mul_right (K+1+1) (ep u p);exact ⟨y1,(LQ.dot (k:=K) (l:=1) (fun i _=>b i) (fun i _=>a i) _ (eb _)).mono oM⟩
theorem HE (d:Nat)(p:PTm)(t:Tm)(X:d<=20)(O:Z9)(B:Nat)(ns:List ByteArray)(H:NsD ns)(fs ws:List Rat)(D:Z9)(I:Nat)(F:Z9)(J:Nat)(hm:fs.length<=1000)(hmw:ws.length<=1000)(hq:∀ i,LQ 1 (fs.getD i 0))(Z:∀ i,LQ 1 (ws.getD i 0))(w:World)(h:Hp)(g:G w h)(hT:TmH d h p t)(hS:SmT1 ge d t)(hN:SlO 1 bD ⟨#[]⟩ h O ns)(hF:Sq D fs h)(hV:Sq F ws h)(tb:Tab h):CR 8 #[bO p,.slice O ns.length B,.slice D fs.length I,.slice F ws.length J] w h (fun v h1=>∃ (e:Int)(q s:Rat),v=.tuple #[qv q,qv s,iV e]/\DalR d t ns fs ws e q s):=by
 have a:=((((((sS g).add (K:=fun h_=>TmH d h_ p t) hT).aS hN).aS hF).aS hV).aB tb);have bk:=H.len;refine go Tryz.func8 [(0,bO p),(1,qS O ns.length B),(2,qS D fs.length I),(3,qS F ws.length J)] rfl (ax (lA 4 50 (da p) a (fun b1 w2 h3 a=>lA 8 44 a6 a (fun b4 w5 h6 a=>lA 9 44 a6 a (fun b7 w8 h9 a=>lL a ac (ag (aa a [.o (bO p) 2 0 9,.c,.c,.c] (lR 17 52 2 ([qS D fs.length I,qS F ws.length J]) a (fun ze _ _ a=>?_)))))))));replace a:=a.aS (SlO.of_flat (sz:=1) (f:=vc) (d:=undef) (b:=ze) (o:=0) (l:=([qS D fs.length I,qS F ws.length J]:List Value)) (fun _=>rfl) a.f.1);refine lC 18 a (ve d p t X O B ns H (sB ze) 2 D fs.length I F ws.length J oM oM _ _ a.g a.f.q.r.1 hS a.f.q.2.1 a.f.1) ?_;rintro _ _ _ a ⟨C,rfl,y⟩;refine lL a ac (aG (lL a ac ?_));cases V:((C:Int) != (0:Int))
 .
  have zc:=aJ V;refine lB 20 V (ah (cK (aa a [.o (bO p) 2 0 9,.c,.c] (lC 28 a (Gy d p t X O B ns H fs D I hm hq _ _ a.g a.f.q.r.1 hS a.f.q.2.1 a.f.q.1 a.f.r.1) ?_))));rintro _ _ _ a ⟨e1,z,U,cg,j,rfl,Y,L⟩;replace a:=a.aS Y;obtain ⟨bf,Q,bb⟩:=L.lq hq X;have x:=y.ok oM;have u:=L.of2 x;have M:e1=(bA (bI ns) fs d t).1:=congrArg (·.1) u;refine lL a [.c,.v (qY z U j.length cg),.v (iV e1)] (lA 12 59 ([qF,uV 0,eS,uV 0,eS,sZ]) a (fun zf _ _ a=>lP 0 0 (qZ z U j.length cg) a (fun _ a=>lL a ac (ag (aa a ac ?_)))));cases W:((e1:Int) != (0:Int))
  .
   have zd:=aJ W;refine lB 32 W (ah (cK ?_));have S:j.length=ws.length:=by have q_:=im (mC x) (show (bA (bI ns) fs d t).1=0 by omega);rw[<-u] at q_;exact q_.trans (x.2.1.1.trans x.2.1.2.symm)
   have bd:j.length<=5:=by have:=x.2.1.2;omega
   refine aa a [.v (qP zf 5),.o (qS U j.length cg) 0 5 1,.c] (aq 40 a (Jt U cg j F J ws 1000000 1 S oM oM (fun i _=>Q i) (fun i _=>Z i) _ _ a.g a.f.1 a.f.q.1 a.f.r.2.1) (fun _ _ a=>lL a [.c,.v (qv (bW j ws j.length)),.v qT] (lP 1 0 (qc (bW j ws j.length)) a (fun _ a=>ag (vk ⟨[],none⟩ 0 mixed ?_)))));replace a:=a.drew;refine zV 0 43 (pB zf) ?_;refine Lj 1 44 [(0,0,5)] (qv z) 2 45 [(1,0,5)] (qv (bW j ws j.length)) a ?_ ?_
   .
    refine Li 2 45 [(1,0,5)] (qv (bW j ws j.length)) 3 2 0 (qc z) a ?_ (fun _ a=>?_)
    .
     exact tP 3 2 0 (qc z) a (fun _ a=>tP 4 1 0 (qc (bW j ws j.length)) a (fun _ a=>tV 5 10 (iV 0) (tN (kX (a.ret [(2,0,5),(1,0,5)] (.tuple #[qv z,qv (bW j ws j.length),iV 0]) (⟨_,_,_,rfl,C,y,.inr ⟨by omega,wt u oM⟩⟩))))))
    exact tO 2 45 [(1,0,5)] (qv (bW j ws j.length)) a (tP 4 1 0 (qc (bW j ws j.length)) a (fun _ a=>tV 5 10 (iV 0) (tN (kX (a.ret [(2,0,5),(1,0,5)] (.tuple #[qv z,qv (bW j ws j.length),iV 0]) (⟨_,_,_,rfl,C,y,.inr ⟨by omega,wt u oM⟩⟩))))))
   exact tO 1 44 [(0,0,5)] (qv z) a (tP 3 2 0 (qc z) a (fun _ a=>tP 4 1 0 (qc (bW j ws j.length)) a (fun _ a=>tV 5 10 (iV 0) (tN (kX (a.ret [(2,0,5),(1,0,5)] (.tuple #[qv z,qv (bW j ws j.length),iV 0]) (⟨_,_,_,rfl,C,y,.inr ⟨by omega,wt u oM⟩⟩)))))))
  have zd:=aI W;exact lB 32 W (am (aa a [.v ca,.v ca,.c] (lP 2 0 a6 a (fun _ a=>lP 1 0 a6 a (fun _ a=>lL a ac (ae a [(2,0,5),(1,0,5)] (.tuple #[.agg #[qF,uV 0,eS,uV 0,eS],.agg #[qF,uV 0,eS,uV 0,eS],iV e1]) (⟨_,0,0,rfl,C,y,.inr ⟨by omega,M,E7 oM⟩⟩)))))))
 have zc:=aI V;exact lB 20 V (am (aa a [.v ca,.v ca,.c] (lP 1 0 a6 a (fun _ a=>lP 0 0 a6 a (fun _ a=>lL a ac (ae a [(1,0,5),(0,0,5)] (.tuple #[.agg #[qF,uV 0,eS,uV 0,eS],.agg #[qF,uV 0,eS,uV 0,eS],iV C]) (⟨_,0,0,rfl,C,y,.inl ⟨by omega,rfl,rfl,rfl⟩⟩)))))))
theorem o5 {h:Hp}{b o x:Nat}{c:Value}{cs:List Value}(d:Seg h b o (c::cs))(a:h[x]?=some be):b≠x:=fun e=>by
 have h1:=d 0 c rfl;subst e
 unfold dP at h1
 rw[a] at h1
 simp[be] at h1
theorem xk {h:Hp}{b o:Nat}{c:Value}{cs:List Value}(a:Seg h b o (c::cs)):b<h.size:=by
 have h1:=a 0 c rfl
 unfold dP at h1
 by_cases e:b<h.size
 ·exact e
 ·rw[Array.getElem?_eq_none oM] at h1
  exact absurd h1 (by simp)
theorem GF (d:Nat)(p:RTm)(t:Tm)(hd:d<=12)(NA:Z9)(B:Nat)(ns:List ByteArray)(Z:NsD ns)(hcN:ns.length<=B)(fs:List Rat)(FA:Z9)(cF:Nat)(L:List RT)(ws:List Rat)(WA:Z9)(cW:Nat)(I:List RT)(hm:fs.length<=1000)(hmw:ws.length<=1000)(hq:∀ i,LQ 1 (fs.getD i 0))(hqw:∀ i,LQ 1 (ws.getD i 0))(w:World)(h:Hp)(g:G w h)(hT:RmH d h p t)(hS:SmT1 ge d t)(hN:SlO 1 bD ⟨#[]⟩ h NA ns)(hF:Sr FA L h)(hTf:RTs h L fs)(hV:Sr WA I h)(hTw:RTs h I ws):CR 11 #[bK p,.slice NA ns.length B,.slice FA L.length cF,.slice WA I.length cW] w h (fun v h1=>∃ (x y:Value)(e:Int)(q s:Rat),v=.tuple #[x,y,iV e]/\RQ h1 x q/\RQ h1 y s/\DalR d t ns fs ws e q s):=by
 have a:=(((((((sS g).add (K:=fun j=>RmH d j p t) hT).aS hN).aS hF).aT hTf).aS hV).aT hTw);have bl:=Z.len;have bk:1<=ns.length/\ns.length<=1000:=⟨by omega,by omega⟩;have bn:=(a.f.r.1).len;have bm:=(a.f.1).len;refine go Tryz.func11 [(0,bK p),(1,qS NA ns.length B),(2,qS FA L.length cF),(3,qS WA I.length cW)] rfl (ax (lA 4 31 (bF p) a (fun b1 w2 h3 a=>lA 8 28 cA a (fun b4 w5 h6 a=>lA 9 28 cA a (fun b7 w8 h9 a=>lL a ac (ag (aa a [.o (bK p) 2 0 7] (lC 15 a (Ct dr ge Js d p t oM _ _ a.g a.f.q.2.1 hS.sm) ?_))))))));rintro _ _ _ a ⟨ec,rfl,Q⟩;cases za:((ec:Int) != (0:Int))
 .
  have zd:=aJ za;refine lB 16 za (ah (cK (cQ ?_)));have M:qA dr d t:=⟨pf hS (Q.1 oM).1,(Q.1 oM).2⟩;refine aa a [.o (bK p) 2 0 7,.c,.c,.v (nV L.length),.c,.v (nV I.length)] (lR 25 3 2 ([nV L.length,nV I.length]) a (fun zg _ _ a=>?_));replace a:=a.aS (SlO.of_flat (sz:=1) (f:=Jh) (d:=0) (b:=zg) (o:=0) (l:=([L.length,I.length]:List Nat)) (fun _=>rfl) a.f.1);refine lC 26 a (BS d p t hd NA B ns Z hcN (sB zg) 2 L.length oM I.length oM M _ _ a.g a.f.q.r.2.1 a.f.q.r.1 a.f.1) ?_;rintro _ _ _ a ⟨en,rfl,J⟩;refine lL a ac (aG (lL a ac ?_));cases zb:((en:Int) != (0:Int))
  .
   have ze:=aJ zb;refine lB 28 zb (ah (cK (aa a [.o (bK p) 2 0 7] ?_)));have u:en=0:=by omega
   have C:=J.ok u;have O:fs.length=ns.length:=by rw[<-(a.f.q.1).len];exact C.2.1.1
   have W:ws.length=ns.length:=by rw[<-(a.f.r.1).len];exact C.2.1.2
   have F:=mC C;obtain ⟨X,V⟩:=FU O F ws;refine lL a dl (lC 37 a (IN (fun s=>s∈ns) (bI ns) fs ws NA B ns FA cF L WA cW I O W bk.2 hq hqw (Hq ns) d p t _ _ oM a.g a.f.q.r.2.1 F M.2 a.f.q.r.1 a.f.q.2.1 a.f.q.1 a.f.r.2.1 a.f.r.1) ?_);rintro _ _ _ a ⟨D,z,tx,rfl,bq,S,U⟩;replace a:=((a.aS S).aT U);refine lL a [.c,.v (qS D tx.length z),.v (iV ((cM (bI ns) fs ws d t).1)),.c,.c] (ag (aa a ac ?_));cases zc:(((cM (bI ns) fs ws d t).1:Int) != (0:Int))
   .
    have zf:=aJ zc;refine lB 41 zc (ah (cK (cQ ?_)));have H:(bA (bI ns) fs d t).1=0:=by omega
    obtain ⟨Y,bb,bd⟩:=V H;have bf:=(a.f.1).len;rw[Y] at bf
    have hsr:=a;refine Ci 6 [] [b4,b7] mixed a ao (eV 0 45 (qS D tx.length z) (eX 1 46 D tx.length z 3 0 0 ((a.f.2.1).ok oM) ?_));obtain ⟨Ax,cx,Dx,dx,ex,hcx,hdx,hAx,hDx⟩:=(a.f.1).at_ 0 oM;replace a:=a.aP hAx hDx;refine JH 2 47 (rA (tx.getD 0 gQ)) a ((a.f.r.2.1).el 0 oM) ex (xk ((a.f.r.2.1).el 0 oM)) ?_ (hM:=fun j=>by rcases g2.1 j with e_|j;exact o5 ((a.f.r.2.1).el 0 oM) (a.jk 1) e_;rcases g2.1 j with e_|j;exact o5 ((a.f.r.2.1).el 0 oM) (a.jk 0) e_;cases j);refine eV 3 48 (qS D tx.length z) (eX 4 49 D tx.length z 3 1 1 ((a.f.r.2.1).ok oM) ?_);obtain ⟨Ay,cy,Dy,dy,ey,hcy,hdy,hAy,hDy⟩:=(a.f.r.1).at_ 1 oM;replace a:=a.aP hAy hDy;refine JH 5 50 (rA (tx.getD 1 gQ)) a ((a.f.q.2.1).el 1 oM) ey (xk ((a.f.q.2.1).el 1 oM)) ?_ (hM:=fun j=>by rcases g2.1 j with e_|j;exact o5 ((a.f.q.2.1).el 1 oM) (a.jk 1) e_;rcases g2.1 j with e_|j;exact o5 ((a.f.q.2.1).el 1 oM) (a.jk 0) e_;cases j);refine bU a (fun _ _ a=>tP 6 1 0 (gE (((cM (bI ns) fs ws d t).2).getD 0 0) Ax cx Dx dx) a (fun _ a=>?_) (hz:=fi (MG)));refine tP 7 0 0 (gE (((cM (bI ns) fs ws d t).2).getD 1 0) Ay cy Dy dy) a (fun _ a=>?_) (hz:=fi (MH _<|MG));exact tV 8 10 (iV 0) (tN (kX (a.ret [(1,0,3),(0,0,3)] (.tuple #[rG (((cM (bI ns) fs ws d t).2).getD 0 0) Ax cx Dx dx,rG (((cM (bI ns) fs ws d t).2).getD 1 0) Ay cy Dy dy,iV 0]) (⟨_,_,_,(bA (bI ns) fs d t).2.1,_,rfl,RQ.eq ⟨_,_,_,_,rfl,hcx,hdx,a.f.r.2.1,a.f.r.1⟩ bb,RQ.eq ⟨_,_,_,_,rfl,hcy,hdy,a.f.2.1,a.f.1⟩ bd,⟨0,by have:=J.cg (M':=fs.length=ns.length/\ws.length=ns.length) (by rw[(a.f.q.q.r.1).len,(a.f.q.q.1).len]);rw[u] at this;exact this,.inr ⟨rfl,H.symm,rfl,by rw[im F H]⟩⟩⟩))))
   have zf:=aI zc;refine lB 41 zc (am (ax (lC 42 a (oH 0 oM oM _ _ a.g) ?_)));rintro _ _ _ a ⟨zi,zj,zk,zl,rfl,zK,zL,zM,zN⟩;replace a:=a.aP zM zN;refine lC 43 a (oH 0 oM oM _ _ a.g) ?_;rintro _ _ _ a ⟨zm,zn,zo,zp,rfl,zP,zQ,zR,zS⟩;replace a:=a.aP zR zS;exact lL a ac (lP 1 0 (gE ((0:Int):Rat) zi zj zk zl) a (fun _ a=>lP 0 0 (gE ((0:Int):Rat) zm zn zo zp) a (fun _ a=>lL a ac (ae a [(1,0,3),(0,0,3)] (.tuple #[rG ((0:Int):Rat) zi zj zk zl,rG ((0:Int):Rat) zm zn zo zp,iV ((cM (bI ns) fs ws d t).1)]) (⟨_,_,_,0,0,rfl,RQ.eq ⟨_,_,_,_,rfl,zK,zL,a.f.r.2.1,a.f.r.1⟩ rfl,RQ.eq ⟨_,_,_,_,rfl,zP,zQ,a.f.2.1,a.f.1⟩ rfl,⟨0,by have:=J.cg (M':=fs.length=ns.length/\ws.length=ns.length) (by rw[(a.f.q.q.r.1).len,(a.f.q.q.1).len]);rw[u] at this;exact this,.inr ⟨rfl,X,E7 oM⟩⟩⟩)))))
  have ze:=aI zb;refine lB 28 zb (am (ax (lC 29 a (oH 0 oM oM _ _ a.g) ?_)));rintro _ _ _ a ⟨zq,zr,zs,zt,rfl,zU,zW,zX,ya⟩;replace a:=a.aP zX ya;refine lC 30 a (oH 0 oM oM _ _ a.g) ?_;rintro _ _ _ a ⟨zu,zv,zw,zx,rfl,yb,yc,yd,ye⟩;replace a:=a.aP yd ye;exact lL a ac (lP 1 0 (gE ((0:Int):Rat) zq zr zs zt) a (fun _ a=>lP 0 0 (gE ((0:Int):Rat) zu zv zw zx) a (fun _ a=>lL a ac (ae a [(1,0,3),(0,0,3)] (.tuple #[rG ((0:Int):Rat) zq zr zs zt,rG ((0:Int):Rat) zu zv zw zx,iV en]) (⟨_,_,_,0,0,rfl,RQ.eq ⟨_,_,_,_,rfl,zU,zW,a.f.r.2.1,a.f.r.1⟩ rfl,RQ.eq ⟨_,_,_,_,rfl,yb,yc,a.f.2.1,a.f.1⟩ rfl,⟨en,J.cg (by rw[(a.f.q.q.1).len,(a.f.q.r.1).len]),.inl ⟨by omega,rfl,rfl,rfl⟩⟩⟩)))))
 have zd:=aI za;refine lB 16 za (am (ax (lC 17 a (oH 0 oM oM _ _ a.g) ?_)));rintro _ _ _ a ⟨zA,zB,zD,zE,rfl,yf,yg,yi,yj⟩;replace a:=a.aP yi yj;refine lC 18 a (oH 0 oM oM _ _ a.g) ?_;rintro _ _ _ a ⟨zG,zH,zI,zJ,rfl,yk,yl,ym,yn⟩;replace a:=a.aP ym yn;exact lP 1 0 (gE ((0:Int):Rat) zA zB zD zE) a (fun _ a=>lP 0 0 (gE ((0:Int):Rat) zG zH zI zJ) a (fun _ a=>lL a ac (ae a [(1,0,3),(0,0,3)] (.tuple #[rG ((0:Int):Rat) zA zB zD zE,rG ((0:Int):Rat) zG zH zI zJ,iV 1]) (⟨_,_,_,0,0,rfl,RQ.eq ⟨_,_,_,_,rfl,yf,yg,a.f.r.2.1,a.f.r.1⟩ rfl,RQ.eq ⟨_,_,_,_,rfl,yk,yl,a.f.2.1,a.f.1⟩ rfl,⟨1,.inl ⟨fun j=>by have:=Q.2 ⟨j.1.wf,j.2⟩;omega,rfl⟩,.inl ⟨by omega,rfl,rfl,rfl⟩⟩⟩))))
section laws
variable {M:Ms}{P:Program}{ops:Array Oper}{Q:Exit->Act->World->Prop}{k0:Nat}
theorem E.eventN {h0:Hp}{AL:List Al}{L:Array Bool}{a:Act}{w:World}{h:Hp}(I:List Nat)(i0:Nat)(J:i0∈I)
    (D:∀ i∈I,i<ops.size/\i<k0)(F:Region.noSelect ops=true)(hun:L.getD i0 true=false)
    (U:∀ j W,ops[j]?=some W->L.getD j true=false->j ∉ I->(∀ x∈AL,x.i≠j)->∃ e∈W.after,Region.binds .any e=true/\L.getD e.on false=false/\∀ x∈AL,x.i≠e.on)
    (K:∀ e∈(ak ops i0).after,Region.binds .any e=true->L.getD e.on false=true)
    (Y:∀ i∈I,∀ x∈AL,x.i≠i/\x.t ∉ (ak ops i).looksAt ops/\(ak ops i).dst≠some x.t)(oks:∀ x∈AL,AlOk P ops k0 x)(hM:∀ b∈M.l,b<h0.size)(g:G w h)(hsz:h0.size<=h.size)
    (H:∀ i∈I,L.getD i true=false->∀ w' o,Up w h w' o->OpR P ops (ak ops i) a w' (fun v y=>∃ p,UpM M.l w' o y p/\E M P ops Q k0 h0 AL (L.setIfInBounds i true) (a.put (ak ops i).dst v) y p)):E M P ops Q k0 h0 AL L a w h:=by
  have key:∀ (m:Nat) (T:List Al),T.length=m->∀ w' o,Up w h w' o->∀ (S:List SA),(S.map (·.1)++T).Perm AL->(∀ s∈S,Blk h0 w' o s)->(S.map (·.2)).Nodup ->
      A M P ops Q k0 (em L S) (addA a S) w':=by
    intro m
    induction m using g4 with
    | _ m ih =>
      intro T hT w' o u S C X hn;have f:∀ i∈I,∀ s∈S,s.1.i≠i/\s.1.t ∉ (ak ops i).looksAt ops/\(ak ops i).dst≠some s.1.t:=fun i hi s d=>Y i hi _ (iN C d)
      refine A.intro (fun h0'=>?_) (fun j hj=>?_)
      . exfalso
        have:i0∈Region.ready .any ops (em L S):=mem_ready.2 ⟨by rw[i6 true (fun s d=>(f i0 J s d).1)];exact hun,_,bv (D i0 J).1,fun e O B=>kp (K e O B)⟩;rw[h0'] at this
        cases this
      . by_cases hji:j∈I
        . have z:=bv (ops:=ops) (D j hji).1
          have c:L.getD j true=false:=by
            obtain ⟨c,_⟩:=mem_ready.1 hj;exact gM c
          refine OpR.wpOp z ((H j hji c w' o u).addA (Region.noSelect_spec F j _ · · z) S (fun s d=>(f j hji s d).2.1)) ?_;rintro v y ⟨p,u2,H3⟩;refine ⟨Rl.mo (D j hji).2 u2.mo,?_⟩;rw[<-mE L S j (fun s d=>(f j hji s d).1),<-mZ a S _ v (fun s d=>(f j hji s d).2.2)];exact H3 y p (Up.refl u2.g) S T C (fun s d=>(X s d).up u2 hM) hn
        . obtain ⟨c,W,hoj,V⟩:=mem_ready.1 hj
          have Z:∃ x∈AL,x.i=j:=by
            refine Classical.byContradiction fun hno=>?_
            obtain ⟨e,O,B,hf,hne⟩:=U j W hoj (gM c) hji (fun x Z O=>hno ⟨x,Z,O⟩);have:=V e O B;rw[i6 false (fun s d=>hne _ (iN C d)),hf] at this
            cases this
          obtain ⟨x,hxA,rfl⟩:=Z;have hxT:=iQ C hxA hj;exact oh oks hM u.g (ep hsz u.gr.size) C X hn hxT (fun w1 h1 S1 T1 u1 hp1 hb1 hn1 hlt=>ih T1.length oM T1 rfl w1 h1 (u.trans u1) S1 hp1 hb1 hn1)
  exact fun w' o u S T C X hn=>key _ T rfl w' o u S C X hn
end laws
section dag
variable {M:Ms}{P:Program}{n:Nat}{N R:Po}{X:Nat->Po}{ops:Array Oper}{k0:Nat}{hr:Hp}{AL:List Al}{L:Array Bool}{Γ:cl}{w:World}{h:Hp}
def SrD (P:Program)(ops:Array Oper)(Γ:cl)(i:Nat)(w:World)(h:Hp)(Φ:Value->World->Hp->Prop):Prop :=
  (∃ v w'' h'',(execOp (ev Γ) (ak ops i)).run P w=.ok (.value v) w''/\Up w h w'' h''/\Φ v w'' h'') \/
  (∃ f args,(execOp (ev Γ) (ak ops i)).run P w=.ok (.enter f args) w/\Calls P f args w (fun e w''=>∃ v h'',e=.returned v/\Up w h w'' h''/\Φ v w'' h''))
theorem SrD.mono {i:Nat}{Φ Φ':Value->World->Hp->Prop}(x:SrD P ops Γ i w h Φ)(k:∀ v w' a,Up w h w' a->Φ v w' a->Φ' v w' a):SrD P ops Γ i w h Φ':=by
 rcases x with ⟨v,w',a,e,u,p⟩|⟨f,args,e,c⟩
 ·exact .inl ⟨v,w',a,e,u,k _ _ _ u p⟩
 ·exact .inr ⟨f,args,e,c.mono fun e w' ⟨v,a,b,u,p⟩=>⟨v,a,b,u,k _ _ _ u p⟩⟩
theorem H4 {Γ:cl}{o:Oper}(h:o.guard.isNone=true):bg ops Γ o=some true:=by
 unfold bg
 rw[Og.1 h]
theorem SrD.opR {i:Nat}{a:Act}{K:Value->World->Hp->Prop}(o:Region.noSelect ops=true)(hi:i<ops.size)(hk:aY Γ (ak ops i)=true)(j:(ak ops i).guard.isNone=true)(d:Kn n a Γ)(x:SrD P ops Γ i w h K) :
  OpR P ops (ak ops i) a w (fun v w'=>∃ b,UpM M.l w h w' b/\K v w' b):=by
 have e1:=d.exec (Region.noSelect_spec o i _ · · (bv hi)) hk;refine ⟨d.want (H4 j),?_⟩;rw[e1]
 rcases x with ⟨v,w',b,e,u,p⟩|⟨f,args,e,c⟩
 ·exact .inl ⟨v,w',e,b,u.m M.l,p⟩
 ·exact .inr (.inr ⟨f,args,e,c.mono fun e w' ⟨v,b,y,u,p⟩=>⟨v,y,b,u.m M.l,p⟩⟩)
structure DS where
  i:Nat
  t:Nat
  K:Value->Hp->Prop
  D:List (Nat × Value)
structure DOk (P:Program) (ops:Array Oper) (Γ:cl) (s:DS):Prop where
  known:aY (s.D++Γ) (ak ops s.i)=true
  run:∀ w h,G w h->SrD P ops (s.D++Γ) s.i w h (fun v _ h''=>s.K v h'')
  stay:∀ v h h',Gw h h'->s.K v h->s.K v h'
theorem DOk.row (i t:Nat)(ty:TypeId)(m:Nat)(cs:List Value)(D:List (Nat × Value))(hk:aY (D++Γ) (ak ops i)=true:=by kernel_rfl)
  (hv:∀ w,(execOp (ev (D++Γ)) (ak ops i)).run P w=.ok (.value (.slice (some ⟨w.heap.size,0,none⟩) m m)) (w.alloc (.cells cs.toArray ty (0,0))):=by intro _;kernel_rfl):DOk P ops Γ ⟨i,t,fun v h=>∃ b,v=.slice (some ⟨b,0,none⟩) m m/\Seg h b 0 cs,D⟩ :=
 ⟨hk,fun w h g=>by
  have u:Up w h (w.alloc (.cells cs.toArray ty (0,0))) _:=Up.allocAny g (.cells cs.toArray ty (0,0)) (.cells cs.toArray ty (0,0)) (.inl rfl);exact .inl ⟨_,_,_,hv w,u,_,rfl,by rw[g.size];exact Seg.new cs ty⟩,fun v h a u ⟨b,e,s⟩=>⟨b,e,s.gw u⟩⟩
theorem DOk.call (i t:Nat){f:FuncId}{args:Array Value}(b:Value)(D:List (Nat × Value))(c:∀ w h,G w h->Calls P f args w (Ret w h fun v _=>v=b))(hk:aY (D++Γ) (ak ops i)=true:=by kernel_rfl)
  (hv:∀ w,(execOp (ev (D++Γ)) (ak ops i)).run P w=.ok (.enter f args) w:=by intro _;kernel_rfl):DOk P ops Γ ⟨i,t,fun v _=>v=b,D⟩ :=
 ⟨hk,fun w h g=>.inr ⟨f,args,hv w,(c w h g).mono fun e w' ⟨v,j,d,u,a⟩=>⟨v,j,d,u,a⟩⟩,fun _ _ _ _ x=>x⟩
def sE (ops:Array Oper)(L:Array Bool)(i:Nat):Bool:=(ak ops i).after.all fun e=>!Region.binds .any e || L.getD e.on false
def KV (n:Nat)(ops:Array Oper)(k0:Nat)(AL:List Al)(L:Array Bool)(I:List (Nat × Nat)):Bool :=
  Region.noSelect ops && (I.all fun x=>decide (x.1<ops.size) && decide (x.1<k0) && ud ops AL x.1 (ak ops x.1) && ((ak ops x.1).dst == some x.2) && decide (x.2<n) && (ak ops x.1).guard.isNone) &&
  (ov ops.size).all fun j=>L.getD j true || I.any (·.1 == j) || AL.any (·.i == j) || (ak ops j).after.any fun e=>Region.binds .any e && (L.getD e.on false == false) && AL.all (·.i != e.on)
abbrev SK:=Nat × Nat × List Nat
def mG (n:Nat)(ops:Array Oper)(k0:Nat)(AL:List Al)(Lf:Array Bool):Nat->Array Bool->List SK->Bool
  | 0,L,D=>D.isEmpty && (L.toList == Lf.toList)
  | m + 1,L,D=>((D.filter fun s=>sE ops L s.1).any fun s=>L.getD s.1 true == false) && KV n ops k0 AL L ((D.filter fun s=>sE ops L s.1).map fun s=>(s.1,s.2.1)) &&
      (D.filter fun s=>sE ops L s.1).all fun s=>(s.2.2.all fun t=>D.all fun s'=>s'.2.1 != t) && (D.all fun s'=>s'.1 == s.1 || s'.2.1 != s.2.1) && mG n ops k0 AL Lf m (L.setIfInBounds s.1 true) (D.filter fun s'=>s'.1 != s.1)
def DS.k (s:DS):SK:=(s.i,s.t,s.D.map (·.1))
theorem se {β:Type}{f:DS->β}:∀ {D:List DS},(D.map f).Nodup->∀ {s s':DS},s∈D->s'∈D->f s=f s'->s=s'
  | x :: D,h,s,s',hs,hs',e=>by
    rw[List.map_cons,List.nodup_cons] at h
    rcases g2.1 hs with e1|hs
    . rcases g2.1 hs' with e2|hs'
      . rw[e1,e2]
      . exact absurd (gx.2 ⟨s',hs',by rw[<-e,e1]⟩) h.1
    . rcases g2.1 hs' with e2|hs'
      . exact absurd (gx.2 ⟨s,hs,by rw[e,e2]⟩) h.1
      . exact se h.2 hs hs' e
def Ent (n:Nat)(a:Act)(x:Nat × Value):Prop:=x.1<n/\a.tmps[x.1]?=some x.2
theorem Fr {t:Nat}{v:Value}{D:List (Nat × Value)}(h:(D++Γ).lookup t=some v):(∃ x∈D,x.1=t/\x.2=v)\/(Γ.lookup t=some v/\∀ x∈D,x.1≠t):=by
  induction D with
  | nil=>exact .inr ⟨h,fun x b=>by cases b⟩
  | cons x D ih =>
    rw[H1,hP] at h
    cases h0:t == x.1 with
    | true=>rw[h0] at h;injection h with h;exact .inl ⟨x,MG,(by simpa using h0:t=x.1).symm,h⟩
    | false =>
      rw[h0] at h
      rcases ih h with ⟨y,a,e⟩|⟨h1,h2⟩
      . exact .inl ⟨y,MH _ a,e⟩
      . refine .inr ⟨h1,fun y a=>?_⟩
        rcases g2.1 a with rfl|a
        . exact fun e=>by subst e;simp at h0
        . exact h2 y a
theorem FM {a:Act}{D:List (Nat × Value)}(nb:n<=1000000)(b:∀ x∈D,Ent n a x):gk (D++Γ)=gk Γ:=by
  induction D with
  | nil=>rfl
  | cons x D ih =>
    rw[<-ih (fun y c=>b y (MH _ c))];have d:=(b x MG).1;have e:((1000000:Nat) == x.1)=false:=by simp;omega
    unfold gk
    rw[H1,hP,e]
theorem xX {a:Act}{D:List (Nat × Value)}(k:Kn n a Γ)(b:∀ x∈D,Ent n a x):Kn n a (D++Γ):=by
 refine ⟨k.df.trans (FM k.nb b).symm,k.sz,k.nb,fun t v c hv=>?_⟩
 rcases Fr hv with ⟨x,hx,rfl,rfl⟩|⟨h1,_⟩
 ·exact (b x hx).2
 ·exact k.has t v c h1
theorem Ent.put {a:Act}{x:Nat × Value}(e:Ent n a x){t:Nat}(v:Value)(h:x.1≠t):Ent n (a.put (some t) v) x:=⟨e.1,by
 have:(a.put (some t) v).tmps=a.tmps.setIfInBounds t v:=by simp[Act.put]
 rw[this,Array.getElem?_setIfInBounds_ne (fun b=>h b.symm)];exact e.2⟩
theorem Ent.new {a:Act}(k:Kn n a Γ){t:Nat}(b:t<n)(v:Value):Ent n (a.put (some t) v) (t,v):=⟨b,(k.put b v).has t v (by have:=k.nb;omega) (by rw[hP];simp)⟩
theorem xo {a:Act}(k:Kn n a Γ){t:Nat}(c:t<n)(v:Value)(hn:Γ.lookup t=none):Kn n (a.put (some t) v) Γ:=by
  have k2:=k.put c v;have e:((1000000:Nat) == t)=false:=by have:=k.nb;simp;omega
  refine ⟨k2.df.trans (by unfold gk;rw[hP,e]),k2.sz,k2.nb,fun s u d b=>k2.has s u d ?_⟩;rw[hP];cases h0:s == t with
  | true => have:s=t:=by simpa using h0
            subst this;rw[hn] at b;cases b
  | false=>exact b
theorem Il (z:List DS)(Γ:cl)(ok:∀ s∈z,DOk P ops Γ s)(hdt:∀ s∈z,∀ x∈s.D,∃ c∈z,c.t=x.1/\∀ v h,c.K v h->v=x.2)(hfr:∀ s∈z,Γ.lookup s.t=none)(hni:(z.map (·.i)).Nodup)(hnt:(z.map (·.t)).Nodup){Lf:Array Bool}(oks:∀ x∈AL,AlOk P ops k0 x)(hM:∀ b∈M.l,b<hr.size) :
    ∀ (m:Nat) (D:List DS) (L:Array Bool) (a:Act) (w:World) (h:Hp),mG n ops k0 AL Lf m L (D.map DS.k)=true->(∀ s∈D,s∈z)->(∀ s∈z,s∈D\/∃ v,Ent n a (s.t,v)/\s.K v h)->G w h->hr.size<=h.size->Kn n a Γ ->
      (∀ w' h' a',Up w h w' h'->(∀ s∈z,∃ v,Ent n a' (s.t,v)/\s.K v h')->Kn n a' Γ->E M P ops (iB N R X) k0 hr AL Lf a' w' h')->E M P ops (iB N R X) k0 hr AL L a w h:=by
  intro m
  induction m with
  | zero =>
    intro D L a w h C hD hI g Q ka K
    unfold mG at C
    rw[i3] at C
    have e0:D=[]:=by
      cases D with
      | nil=>rfl
      | cons x D=>simp at C
    have e:L=Lf:=Array.ext' (by simpa using C.2);subst e0;subst e;exact K w h a (Up.refl g) (fun s F=>(hI s F).resolve_left (by simp)) ka
  | succ m ih =>
    intro D L a w h C hD hI g Q ka K
    unfold mG at C
    simp only[i3,sc,oi] at C
    obtain ⟨⟨⟨Y,U,hk1⟩,J⟩,bb⟩:=C
    unfold KV at J
    simp only[i3,oi,decide_eq_true_eq,beq_iff_eq] at J
    obtain ⟨⟨B,I⟩,O⟩:=J
    have p:∀ i,i∈((D.map DS.k).filter fun s=>sE ops L s.1).map (·.1)->∃ s∈D,s.i=i/\DS.k s∈(D.map DS.k).filter fun s=>sE ops L s.1:=fun i hi=>by
      obtain ⟨x,f,rfl⟩:=gx.1 hi;obtain ⟨hx1,H⟩:=Oh.1 f;obtain ⟨s,F,rfl⟩:=gx.1 hx1;exact ⟨s,F,rfl,f⟩
    refine E.eventN (((D.map DS.k).filter fun s=>sE ops L s.1).map (·.1)) Y.1 (gx.2 ⟨Y,U,rfl⟩) (fun i hi=>?_) B (by simpa using hk1) ?_ ?_ (fun i hi=>?_) oks hM g Q (fun i hi S w' h' u=>?_)
    . obtain ⟨s,F,rfl,f⟩:=p i hi
      have:=I (s.i,s.t) (gx.2 ⟨_,f,rfl⟩);exact ⟨this.1.1.1.1.1,this.1.1.1.1.2⟩
    . intro j oj hj S hji hal
      have hlt:=(Array.getElem?_eq_some_iff.1 hj).1;have e:oj=ak ops j:=by have:=bv (ops:=ops) hlt;rw[hj] at this;injection this
      have:=O j (o0.2 hlt)
      simp only[Bool.or_eq_true,S,Bool.false_eq_true,false_or,sc,Array.any_eq_true,beq_iff_eq,i3] at this
      rcases this with (⟨x,f,hxe⟩|⟨x,f,hxe⟩)|⟨x,f,⟨hb,hL⟩,hno⟩
      . exfalso
        obtain ⟨y,hy,rfl⟩:=gx.1 f;exact hji (gx.2 ⟨y,hy,hxe⟩)
      . exact absurd hxe (hal x f)
      . rw[e]
        refine ⟨_,Array.getElem_mem f,hb,hL,fun y hy=>?_⟩;have:=(oi.1 hno) y hy
        simpa using this
    . intro e he hb
      have:=(Oh.1 U).2
      unfold sE at this
      have:=(Array.all_eq_true_iff_forall_mem.1 this) e he
      simpa [hb] using this
    . obtain ⟨s,F,rfl,f⟩:=p i hi
      have:=I (s.i,s.t) (gx.2 ⟨_,f,rfl⟩);exact jq this.1.1.1.2
    . obtain ⟨s,F,rfl,f⟩:=p i hi
      have hi2:=I (s.i,s.t) (gx.2 ⟨_,f,rfl⟩);obtain ⟨⟨⟨⟨⟨q1,q2⟩,q3⟩,q4⟩,q5⟩,q6⟩:=hi2;obtain ⟨⟨r1,r2⟩,r3⟩:=bb _ f;have o:=hD s F;have V:=ok s o
      have W:∀ x∈s.D,Ent n a x:=fun x H=>by
        obtain ⟨c,d,e1,e2⟩:=hdt s o x H
        rcases hI c d with hm|⟨v,hv,hK⟩
        . exfalso
          have:=r1 x.1 (gx.2 ⟨x,H,rfl⟩);have:=this (DS.k c) (gx.2 ⟨c,hm,rfl⟩);have:c.t≠x.1:=by simpa [DS.k] using this
          exact this e1
        . have:=e2 v _ hK
          rw[e1,this] at hv
          exact hv
      have Z:=xX ka W;rw[show (ak ops s.i).dst=some s.t from q4];refine SrD.opR B q1 V.known q6 Z (SrD.mono (V.run w' h' u.g) fun v w'' h'' u2 hK=>?_);refine ih (D.filter fun c=>c.i != s.i) _ _ w'' h'' ?_ (fun c d=>hD c (Oh.1 d).1) (fun c d=>?_) u2.g (ep Q (u.trans u2).gr.size) (xo ka q5 v (hfr s o)) (fun w3 h3 a3 u3=>K w3 h3 a3 ((u.trans u2).trans u3))
      . have e:(D.map DS.k).filter (fun c=>c.1 != s.i)=(D.filter fun c=>c.i != s.i).map DS.k:=by rw[List.filter_map];rfl
        rw[<-e];exact r3
      . by_cases es:c=s
        . subst es;exact .inr ⟨v,Ent.new ka q5 v,hK⟩
        . rcases hI c d with hm|⟨v',hv',hK'⟩
          . refine .inl (Oh.2 ⟨hm,?_⟩)
            simp only[bne_iff_ne,ne_eq]
            exact fun e=>es (se hni d o e)
          . exact .inr ⟨v',hv'.put v (fun e=>es (se hnt d o e)),(ok c d).stay _ _ _ (u.trans u2).gr.gw hK'⟩
def sl:List DS->List Value->Hp->Prop
  | [],vs,_=>vs=[]
  | s::D,vs,h=>∃ v vs',vs=v::vs'/\s.K v h/\sl D vs' h
def Gs:List DS->List Value->List (Nat × Value)
  | s::D,v::vs=>(s.t,v)::Gs D vs
  | _,_=>[]
theorem qH {a:Act}{h:Hp}:∀ (D:List DS),(∀ s∈D,∃ v,Ent n a (s.t,v)/\s.K v h)->∃ vs,sl D vs h/\∀ x∈Gs D vs,Ent n a x
  | [],_=>⟨[],rfl,fun x b=>by cases b⟩
  | s::D,H=>by
    obtain ⟨vs,h1,c⟩:=qH D (fun s e=>H s (MH _ e));obtain ⟨v,d,f⟩:=H s MG;refine ⟨v::vs,⟨v,vs,rfl,f,h1⟩,fun x b=>?_⟩
    rcases g2.1 b with rfl|b
    . exact d
    . exact c x b
def ID (L:Array Bool)(D:List SK):Array Bool:=D.foldl (fun L x=>L.setIfInBounds x.1 true) L
def DagOk (P:Program)(ops:Array Oper)(Γ:cl):List DS->Prop
  | []=>True
  | s::D=>DOk P ops Γ s/\DagOk P ops Γ D
theorem DagOk.nil {P:Program}{ops:Array Oper}{Γ:cl}:DagOk P ops Γ []:=trivial
theorem DagOk.cons {P:Program}{ops:Array Oper}{Γ:cl}{s:DS}{D:List DS}(h:DOk P ops Γ s)(r:DagOk P ops Γ D):DagOk P ops Γ (s::D):=⟨h,r⟩
theorem B0 {P:Program}{ops:Array Oper}{Γ:cl}:∀ {D:List DS},DagOk P ops Γ D->∀ s∈D,DOk P ops Γ s
  | _::_,h,s,hs=>by
    rcases g2.1 hs with rfl|hs
    . exact h.1
    . exact B0 h.2 s hs
theorem Rg.dag (D:List DS)(ks:List SK)(j:D.map DS.k=ks)(ok:DagOk P ops Γ D)(y:∀ s∈D,∀ x∈s.D,∃ s'∈D,s'.t=x.1/\∀ v h,s'.K v h->v=x.2)
  (H:∀ w' d vs,Up w h w' d->sl D vs d->EG M P n N R X ops k0 hr AL (ID L ks) (Gs D vs++Γ) w' d)
  (z:mG n ops k0 AL (ID L ks) ks.length L ks=true:=by kernel_rfl)(o:(ks.all fun x=>(Γ.lookup x.2.1).isNone)=true:=by kernel_rfl)(e:(ks.map (·.1)).Nodup:=by decide)(c:(ks.map (·.2.1)).Nodup:=by decide):EG M P n N R X ops k0 hr AL L Γ w h:=by
 intro b hM g i a I;subst j
 have f:∀ s∈D,Γ.lookup s.t=none:=fun s l=>by
  have:=oi.1 o (DS.k s) (gx.2 ⟨s,l,rfl⟩);exact Og.1 this
 rw[List.map_map] at e c
 refine Il D Γ (B0 ok) y f e c b hM _ D L a w h (by rw[List.length_map] at z;exact z) (fun _ h=>h) (fun s l=>.inl l) g i I (fun w' d F u C p=>?_);obtain ⟨vs,h1,B⟩:=qH D C;exact H w' d vs u h1 b hM u.g (ep i u.gr.size) F (xX p B)
end dag
section
variable {M:Ms}{P:Program}{n:Nat}{N R:Po}{X:Nat->Po}{ops:Array Oper}{k0:Nat}{hr:Hp}{AL:List Al}{L:Array Bool}{Γ:cl}{w:World}{h:Hp}{w0:World}{h0:Hp}{B:List Bx}{Rs:List Rw}{F:List (Hp->Prop)}{M2:List Nat}{wa:World}{ha:Hp}
theorem SS.pubM (s:SS w0 h0 w h B Rs F)(u:UpM M2 wa ha w h)(j:Nat)(C:ha.size<=(av B j).b)(y:decide (j<B.length)=true:=by kernel_rfl):∃ a,SS w0 h0 w a (B.eraseIdx j) Rs F/\UpM M2 wa ha w a/\Seg a (av B j).b 0 (av B j).vs:=by
 have d:=oT y;obtain ⟨a,l,gw,p,D,c⟩:=s.st.pubX j d;have z:=bu d;refine ⟨a,⟨s.g0,l,fun r hr=>((s.ro r hr).out (gx.2 ⟨_,z,rfl⟩) c).sub _ (fun b i=>?_),s.ap,s.mo,s.f.gw s.mo gw⟩,⟨u.mo,⟨ep u.gr.size gw.size,fun b i=>?_⟩,l.up.g⟩,p⟩
 ·obtain ⟨x,o,e⟩:=gx.1 i
  exact gx.2 ⟨x,List.mem_of_mem_eraseIdx o,e⟩
 ·exact (c b (fun e=>by subst e;omega)).trans (u.gr.blk b i)
theorem J6 (i t:Nat){f:FuncId}{args:Array Value}{Φ:World->Hp->Value->Hp->Prop}(s:SS w0 h0 w h B Rs F)(m:UpM M2 wa ha w h)(c:∀ w1 h1,SS w0 h0 w1 h1 B Rs F->Calls P f args w1 (Ret w1 h1 (Φ w1 h1)))(H:∀ w1 h1 v w' a,UpM M2 wa ha w' a->SS w0 h0 w' a B Rs F->Φ w1 h1 v a->EG M P n N R X ops k0 hr AL (L.setIfInBounds i true) ((t,v)::Γ) w' a)(j:EV n ops k0 AL L Γ i t=true:=by kernel_rfl)(hv:∀ w,(execOp (ev Γ) (ak ops i)).run P w=.ok (.enter f args) w:=by intro _;kernel_rfl):EG M P n N R X ops k0 hr AL L Γ w h :=
 Rg.call i t f args (ji j).1 (ji j).2 hv (fun w1 h1 u=>(c w1 h1 (s.step u)).mono fun e w' ⟨v,a,o,d,b⟩=>⟨v,a,o,d.m M.l,H w1 h1 v w' a (m.trans ((u.m _).trans (d.m _))) ((s.step u).step d) b⟩)
theorem IF {F1:List (Hp->Prop)}{wr:World}{x:Al}(a:List Bx)(l:SS w0 h0 wr hr B Rs F1)(s:SS w0 h0 w h (a++B) Rs F)(m:UpM M2 wa ha w h)(e:ha.size<=hr.size)(t:TypeId)(vs:List Value)(H:∀ w' c b,UpM M2 wa ha w' c->ha.size<=b->SS w0 h0 w' c (⟨b,t,vs⟩::(a++B)) Rs F->AG M P n N R X ops k0 (L.setIfInBounds x.i true) ((x.t,.pointer (some ⟨b,0,none⟩))::Γ) w')(f:(gI ops [x] L && decide (x.t<n))=true:=by kernel_rfl)(d:x.o=.cells vs.toArray t (0,0):=by kernel_rfl)(j:a.all (fun y=>y.t != t)=true:=by kernel_rfl):EG M P n N R X ops k0 hr [x] L Γ w h :=
 Rg.fin1 f (fun w' c b u k=>H w' c b (m.trans (u.m _)) (ep e k.2.2) (SS.blkp a l (s.step u) k t vs d j))
theorem KQ (i j o:Nat)(cs:List Value)(s:SS w0 h0 w h B Rs F)(H:∀ w',Put (av B j).b w w'->SS w0 h0 w' h (gl B j o cs) Rs F->AG M P n N R X ops k0 (L.setIfInBounds i true) Γ w')(c:HS ops k0 L Γ i=true:=by kernel_rfl)
  (a:(decide (j<B.length) && decide (o+cs.length<=(av B j).vs.length))=true:=by kernel_rfl)(f:dE P (execOp (ev Γ) (ak ops i))=some (.skip,lf (av B j).b o cs):=by kernel_rfl)(hz:∀ K bs,M.z=some (K,bs)->K<=(av B j).b\/(av B j).b∈bs:=by intro _ _ e;cases e):AG M P n N R X ops k0 L Γ w :=
 T.put i j o cs s.st s.g0 (kB c).1 (kB c).2 a f (fun w' p d=>H w' p (s.put0 (oT (i3 _ _▸a).1) p d (mM (oT (i3 _ _▸a).1)))) hz
end
def F2 (pb:Nat)(s:ByteArray)(t:Tm)(b:Nat)(bd:Int):Value->World->Hp->Prop:=fun v w' h'=>∃ (tb:Nat)(p:PTm),v=.pointer (some ⟨tb,0,none⟩)/\b<=s.size/\Own w' pb 131 [.string s,.int .i64 (b:Nat),.int .i64 bd]/\Seg h' tb 0 (da p)/\PtH h' p t
def PC (nf:ByteArray->Option Rat)(f:FuncId)(n:Nat)(k:PKd):Prop:=∀ (pb:Nat) (s:ByteArray),s.size<=1000000->∀ (a:Nat),a<=s.size->∀ (bd:Int) (t:Tm) (b:Nat),gc nf s n k a=some (.ok t b)->∀ (w:World) (h:Hp),G w h->Own w pb 131 [.string s,nV a,iV bd]->h[pb]?=some be->Tab h->Calls Tryz.prog f #[pB pb] w (eW pb w h (F2 pb s t b bd))
theorem xI  (b:Nat)(s:ByteArray)(hsz:s.size<=1000000)(a:Nat)(ha:a<=s.size)(H:Int)(w:World)(h:Hp)(g:G w h)(Y:Own w b 131 [.string s,nV a,iV H])(Z:h[b]?=some be)(tb:Tab h):Calls Tryz.prog 68 #[pB b] w (eW b w h fun v w' _=>v=.int .u8 (aU s (sk s a):Nat)/\Own w' b 131 [.string s,nV (sk s a),iV H]):=by
 have e:UpM [b] w h w h:=UpM.refl g;obtain ⟨wz,C,d⟩:=SS.at_ g Y Z;replace d:=(d.aB tb);refine go Tryz.func68 [(0,pB b)] rfl (aa d ac (ag (kZ ?_)));refine bH _ (CG.loop (fun O Γ V=>∃ (k:Nat)(y:Hp),O=s.size-k/\Γ=[(0,pB b),(2,.int .u8 0)]/\SS wz C V y [⟨b,131,[.string s,nV k,iV H]⟩] [] [fun y=>Tab y]/\a<=k/\k<=s.size/\UpM [b] w h V y/\(∀ i,a<=i->i<k->Db (aU s i)=true)) _ ⟨a,h,rfl,rfl,d.to _ _,nR _,ha,e,(fun i h1 J=>absurd h1 oM)⟩ ?_);rintro _ _ w1 ⟨k,J,hm3,rfl,d,B,D,e,l⟩;refine cQ (cQ (cR 22 [] mixed d ao ?_));refine eV 0 3 (pB b) (eV 1 4 (pB b) (eV 2 5 (qP b 1) (eO 3 6 [(0,1,1)] (nV k) d (eV 4 7 (pB b) (eV 5 8 (pB b) (eV 6 9 (pB b) (eO 7 10 [(0,0,1)] (.string s) d (eV 8 11 (nV s.size) ?_))))))));cases f:(decide ((k:Int)<(s.size:Int)))
 .
  have z:=oF f;refine eB 9 12 f (eV 10 13 qF (eG 11 14 (eG 12 15 (eG 13 16 (eG 14 17 (eG 15 18 (eG 16 19 (eG 17 20 (eG 18 21 (eG 19 22 (eG 20 23 (eV 21 24 qF (j7 d (fun w5 h6 X d=>?_))))))))))))));replace e:=e.trans (X.m _);refine tN (dD (CG.exit ?_))
  show CG _ _ _ _ _ _ _ _
  refine cQ (cQ (cR 10 [] mixed d ao ?_));refine eV 0 32 (pB b) (eV 1 33 (pB b) (eV 2 34 (qP b 1) (eO 3 35 [(0,1,1)] (nV k) d (eV 4 36 (pB b) (eV 5 37 (pB b) (eV 6 38 (pB b) (eO 7 39 [(0,0,1)] (.string s) d (eV 8 40 (nV s.size) ?_))))))));have ⟨L,W⟩:=dF (p:=(k:Int)<(s.size:Int)) oM;refine eB 9 41 L (j7 d (fun w9 _ S d=>?_));replace e:=e.trans (S.m _);refine tN (dD (cK (aa d ac (lN (kX ?_)))));have u:sk s a=k:=pL B D l (by first|exact .inl oM|exact .inr (decide_eq_false oM));exact d.retM e [] (.int .u8 0) (by rw[u,uF oM];exact ⟨rfl,d.own 0⟩)
 have z:=oT f;refine eB 9 12 f (eV 10 13 qT (eV 11 14 (pB b) (eV 12 15 (pB b) (eV 13 16 (pB b) (eO 14 17 [(0,0,1)] (.string s) d (eV 15 18 (pB b) (eV 16 19 (pB b) (eV 17 20 (qP b 1) (eO 18 21 [(0,1,1)] (nV k) d (eV 19 22 (.int .u8 (aU s k:Nat)) ?_ (hv:=fun _=>dW (tx:=9) (x:=.tmp 17) (i:=.tmp 21) (k:=.i64) (s:=s) (n:=k) (j:=(k:Int)) kR kR kR kR oM oM _)))))))))));cases F:(((aU s k:Nat):Int) == (32:Int))
 .
  have zb:=aj F;refine eB 20 23 F (eV 21 24 qF (j7 d (fun _ _ I d=>?_)));replace e:=e.trans (I.m _);refine tN (dD (CG.exit ?_))
  show CG _ _ _ _ _ _ _ _
  refine cQ (cQ (cR 10 [] mixed d ao ?_));refine eV 0 32 (pB b) (eV 1 33 (pB b) (eV 2 34 (qP b 1) (eO 3 35 [(0,1,1)] (nV k) d (eV 4 36 (pB b) (eV 5 37 (pB b) (eV 6 38 (pB b) (eO 7 39 [(0,0,1)] (.string s) d (eV 8 40 (nV s.size) ?_))))))));have ⟨zc,M⟩:=dT (p:=(k:Int)<(s.size:Int)) oM;refine eB 9 41 zc (j7 d (fun _ _ Q d=>?_));replace e:=e.trans (Q.m _);refine tN (ct (cQ (cR 9 [] mixed d ao ?_)));refine eV 0 42 (pB b) (eV 1 43 (pB b) (eV 2 44 (pB b) (eO 3 45 [(0,0,1)] (.string s) d (eV 4 46 (pB b) (eV 5 47 (pB b) (eV 6 48 (qP b 1) (eO 7 49 [(0,1,1)] (nV k) d (eV 8 50 (.int .u8 (aU s k:Nat)) ?_ (hv:=fun _=>dW (tx:=9) (x:=.tmp 45) (i:=.tmp 49) (k:=.i64) (s:=s) (n:=k) (j:=(k:Int)) kR kR kR kR oM oM _)))))))));refine j7 d (fun _ _ U d=>?_);replace e:=e.trans (U.m _);refine tV 9 2 (.int .u8 (aU s k:Nat)) (tN (bH [(2,.int .u8 (aU s k:Nat))] ?_));refine kX ?_;have u:sk s a=k:=pL B D l (by first|exact .inl oM|exact .inr (decide_eq_false oM));exact d.retM e [] (.int .u8 (aU s k:Nat)) (by rw[u];exact ⟨rfl,d.own 0⟩)
 have zb:=eq_of_beq F;refine eB 20 23 F (eV 21 24 qT (j7 d (fun _ zd K d=>?_)));replace e:=e.trans (K.m _);refine tN (ct (cK (kZ (kQ (lL d [.c,.v (pB b),.v (qP b 1),.o (nV k) 0 1 1] (bp 29 ((k:Nat)+1) (k+1) ?_))))));refine lL d [.v (pB b),.v (qP b 1)] (nC 0 1 ([nV (k+1)]) d (fun _ pu d=>?_));replace e:=e.put pu (sy.2 rfl) d.g;refine lD ?_;intro a_ ka;refine ⟨_,_,?_,⟨k+1,zd,rfl,rfl,d.to _ _,oM,oM,e,(fun i h1 J=>by rcases NT.1 J with y|rfl;exact l i h1 y;exact decide_eq_true oM)⟩,ka.to _ kR⟩
 omega
theorem uU  (d:Nat)(s:ByteArray)(x:s.size<=1000000)(a:Nat)(ha:a<=s.size)(j:Int)(c:Nat)(K:c≠0)(w:World)(h:Hp)(g:G w h)(C:Own w d 131 [.string s,nV a,iV j])(D:h[d]?=some be)(H:Tab h):Calls Tryz.prog 152 #[pB d,.int .u8 (c:Nat)] w (eW d w h fun v w' _=>(v=.bool true/\aU s (sk s a)=c/\sk s a<s.size/\Own w' d 131 [.string s,nV (sk s a+1),iV j])\/(v=.bool false/\aU s (sk s a)≠c/\Own w' d 131 [.string s,nV (sk s a),iV j])):=by
 have e:UpM [d] w h w h:=UpM.refl g;obtain ⟨wz,z,b⟩:=SS.at_ g C D;replace b:=(b.aB H);refine go Tryz.func152 [(0,pB d),(1,.int .u8 (c:Nat))] rfl (aa b ac (ag (aa b ac ?_)));have u:=lM (s:=s) (a:=a) oM;refine gh 6 (xI d s x a ha j _ _ b.g (b.own 0) (b.jk 0) b.f.1) ?_;rintro _ w2 J y ⟨rfl,l⟩;replace b:=(b.stepM 0 y l).to [⟨d,131,[.string s,nV (sk s a),iV j]⟩] [];replace e:=e.trans y;refine lL b ac ?_;cases i:(((aU s (sk s a):Nat):Int) != (c:Int))
 .
  have p:=aJ i;refine lB 8 i (ah (cK (aa b [.c,.v (pB d),.v (qP d 1),.o (nV (sk s a)) 0 1 1] (bp 13 ((sk s a:Nat)+1) ((sk s a)+1) ?_))));refine lL b [.v (pB d),.v (qP d 1)] (nC 0 1 ([nV ((sk s a)+1)]) b (fun I F b=>?_));replace e:=e.put F (sy.2 rfl) b.g;refine aG (lL b ac (lN (kX ?_)));have B:=xx (s:=s) (a:=sk s a) oM;exact b.retM e [] qT (.inl ⟨rfl,by omega,by omega,b.own 0⟩)
 have p:=aI i;exact lB 8 i (am (aa b ac (lN (kX (b.retM e [] qF (.inr ⟨rfl,by omega,b.own 0⟩))))))
theorem Gt (b:Nat)(s:ByteArray)(e:s.size<=1000000)(a:Nat)(ha:a<=s.size)(d:Int)(c:Nat)(j:c≠0)(f:sk s a=a)(w:World)(h:Hp)(g:G w h)(l:Own w b 131 [.string s,nV a,iV d])(i:h[b]?=some be)(o:Tab h):Calls Tryz.prog 152 #[pB b,.int .u8 (c:Nat)] w (eW b w h fun v w' _=>(v=.bool true/\aU s a=c/\a<s.size/\Own w' b 131 [.string s,nV (a+1),iV d])\/(v=.bool false/\aU s a≠c/\Own w' b 131 [.string s,nV a,iV d])):=by
 have q:=uU b s e a ha d c j w h g l i o;rw[f] at q;exact q
theorem HH (b:Nat)(s:ByteArray)(j:s.size<=1000000)(a:Nat)(ha:a<=s.size)(d:Int)(c:Nat)(x:c≠0)(i:aU s (sk s a)=c)(w:World)(h:Hp)(g:G w h)(l:Own w b 131 [.string s,nV a,iV d])(p:h[b]?=some be)(z:Tab h):Calls Tryz.prog 152 #[pB b,.int .u8 (c:Nat)] w (eW b w h fun v w' _=>v=.bool true/\sk s a<s.size/\Own w' b 131 [.string s,nV (sk s a+1),iV d]) :=
 (uU b s j a ha d c x w h g l p z).mono fun e w' ⟨v,y,o,u,f⟩=>⟨v,y,o,u,by
  rcases f with ⟨h1,h2,h3,h4⟩|⟨h1,h2,h3⟩
  ·exact ⟨h1,h3,h4⟩
  ·exact absurd i h2⟩
theorem Bc (b:Nat)(s:ByteArray)(j:s.size<=1000000)(a:Nat)(ha:a<=s.size)(d:Int)(c:Nat)(x:c≠0)(i:aU s (sk s a)≠c)(w:World)(h:Hp)(g:G w h)(l:Own w b 131 [.string s,nV a,iV d])(p:h[b]?=some be)(z:Tab h):Calls Tryz.prog 152 #[pB b,.int .u8 (c:Nat)] w (eW b w h fun v w' _=>v=.bool false/\Own w' b 131 [.string s,nV (sk s a),iV d]) :=
 (uU b s j a ha d c x w h g l p z).mono fun e w' ⟨v,y,o,u,f⟩=>⟨v,y,o,u,by
  rcases f with ⟨h1,h2,h3,h4⟩|⟨h1,h2,h3⟩
  ·exact absurd h2 i
  ·exact ⟨h1,h3⟩⟩
theorem Ii  (z:FuncId)(p:Nat->Bool)(L:∀ (args:Array Value) (w:World),(callFunc z args).run Tryz.prog w=.ok (.enter z args) w)(O:∀ c,c<256->∀ (w:World) (h:Hp),G w h->Calls Tryz.prog z #[.int .u8 (c:Nat)] w (Ret w h fun v _=>v=.bool (p c)))(d:Nat)(s:ByteArray)(hsz:s.size<=1000000)(a:Nat)(ha:a<=s.size)(I:Int)(w:World)(h:Hp)(g:G w h)(Y:Own w d 131 [.string s,nV a,iV I])(Z:h[d]?=some be)(tb:Tab h):Calls Tryz.prog 209 #[pB d,.func (.func z) #[] #[]] w (eW d w h fun v w' _=>v=.string (s.extract a (rn p s a))/\Own w' d 131 [.string s,nV (rn p s a),iV I]):=by
 have f:UpM [d] w h w h:=UpM.refl g;obtain ⟨wz,F,b⟩:=SS.at_ g Y Z;replace b:=(b.aB tb);refine go Tryz.func209 [(0,pB d),(1,.func (.func z) #[] #[])] rfl (aa b ac (aG (lL b [.c,.v (pB d),.v (qP d 1),.o (nV a) 0 1 1,.c] (ag (kZ ?_)))));refine bH _ (CG.loop (fun M Γ V=>∃ (k:Nat)(B:Hp),M=s.size-k/\Γ=[(0,pB d),(1,.func (.func z) #[] #[]),(4,eS),(5,nV a)]/\SS wz F V B [⟨d,131,[.string s,nV k,iV I]⟩] [] [fun B=>Tab B]/\a<=k/\k<=s.size/\UpM [d] w h V B/\(∀ i,a<=i->i<k->p (aU s i)=true)) _ ⟨a,h,rfl,rfl,b.to _ _,nR _,ha,f,(fun i h1 K=>absurd h1 oM)⟩ ?_);rintro _ _ w1 ⟨k,K,hm3,rfl,b,D,H,f,u⟩;refine cQ (cQ (cR 23 [] mixed b ao ?_));refine eV 0 10 (pB d) (eV 1 11 (pB d) (eV 2 12 (qP d 1) (eO 3 13 [(0,1,1)] (nV k) b (eV 4 14 (pB d) (eV 5 15 (pB d) (eV 6 16 (pB d) (eO 7 17 [(0,0,1)] (.string s) b (eV 8 18 (nV s.size) ?_))))))));cases l:(decide ((k:Int)<(s.size:Int)))
 .
  have C:=oF l;refine eB 9 19 l (eV 10 20 qF (eG 11 21 (eG 12 22 (eG 13 23 (eG 14 24 (eG 15 25 (eG 16 26 (eG 17 27 (eG 18 28 (eG 19 29 (eG 20 30 (eG 21 31 (eV 22 32 qF (j7 b (fun w5 h6 X b=>?_)))))))))))))));replace f:=f.trans (X.m _);refine tN (dD (CG.exit ?_))
  show CG _ _ _ _ _ _ _ _
  refine cQ (cR 10 [] mixed b ao ?_);refine eV 0 40 (pB d) (eV 1 41 (pB d) (eV 2 42 (pB d) (eO 3 43 [(0,0,1)] (.string s) b (eV 4 44 (nV a) (eV 5 45 (pB d) (eV 6 46 (pB d) (eV 7 47 (qP d 1) (eO 8 48 [(0,1,1)] (nV k) b (eV 9 49 (.string (s.extract a k)) ?_ (hv:=fun _=>wZ (tx:=9) (x:=.tmp 43) (i:=.tmp 44) (e:=.tmp 48) (k:=.i64) (k2:=.i64) (s:=s) (n:=a) (m:=k) (j:=(a:Int)) (j2:=(k:Int)) kR kR kR kR kR oM oM oM oM _))))))))));refine j7 b (fun w8 h9 J b=>?_);replace f:=f.trans (J.m _);refine tV 10 4 (.string (s.extract a k)) (tN (kX ?_));have y:rn p s a=k:=pL D H u (by first|exact .inl oM|exact .inr aM);exact b.retM f [] (.string (s.extract a k)) (by rw[y];exact ⟨rfl,b.own 0⟩)
 have C:=oT l;refine eB 9 19 l (eV 10 20 qT (eV 11 21 (.func (.func z) #[] #[]) (eV 12 22 (pB d) (eV 13 23 (pB d) (eV 14 24 (pB d) (eO 15 25 [(0,0,1)] (.string s) b (eV 16 26 (pB d) (eV 17 27 (pB d) (eV 18 28 (qP d 1) (eO 19 29 [(0,1,1)] (nV k) b (eV 20 30 (.int .u8 (aU s k:Nat)) ?_ (hv:=fun _=>dW (tx:=9) (x:=.tmp 25) (i:=.tmp 29) (k:=.i64) (s:=s) (n:=k) (j:=(k:Int)) kR kR kR kR oM oM _))))))))))));refine J6 21 31 b f (fun _ _ b=>O ((aU s k)) (cP _ _) _ _ b.g) ?_ (hv:=fun _=>Eq.trans kR (L _ _));rintro _ _ _ _ _ f b rfl;cases W:(p ((aU s k)))
 .
  refine eV 22 32 qF (j7 b (fun _ _ S b=>?_));replace f:=f.trans (S.m _);refine tN (dD (CG.exit ?_))
  show CG _ _ _ _ _ _ _ _
  refine cQ (cR 10 [] mixed b ao ?_);refine eV 0 40 (pB d) (eV 1 41 (pB d) (eV 2 42 (pB d) (eO 3 43 [(0,0,1)] (.string s) b (eV 4 44 (nV a) (eV 5 45 (pB d) (eV 6 46 (pB d) (eV 7 47 (qP d 1) (eO 8 48 [(0,1,1)] (nV k) b (eV 9 49 (.string (s.extract a k)) ?_ (hv:=fun _=>wZ (tx:=9) (x:=.tmp 43) (i:=.tmp 44) (e:=.tmp 48) (k:=.i64) (k2:=.i64) (s:=s) (n:=a) (m:=k) (j:=(a:Int)) (j2:=(k:Int)) kR kR kR kR kR oM oM oM oM _))))))))));refine j7 b (fun _ _ Q b=>?_);replace f:=f.trans (Q.m _);refine tV 10 4 (.string (s.extract a k)) (tN (kX ?_));have y:rn p s a=k:=pL D H u (by first|exact .inl oM|exact .inr aM);exact b.retM f [] (.string (s.extract a k)) (by rw[y];exact ⟨rfl,b.own 0⟩)
 refine eV 22 32 qT (j7 b (fun _ za U b=>?_));replace f:=f.trans (U.m _);refine tN (ct (cK (kZ (kQ (lL b [.c,.v (pB d),.v (qP d 1),.o (nV k) 0 1 1] (bp 37 ((k:Nat)+1) (k+1) ?_))))));refine lL b [.v (pB d),.v (qP d 1)] (nC 0 1 ([nV (k+1)]) b (fun _ pu b=>?_));replace f:=f.put pu (sy.2 rfl) b.g;refine lD ?_;intro a_ ka;refine ⟨_,_,?_,⟨k+1,za,rfl,rfl,b.to _ _,oM,oM,f,(fun i h1 K=>by rcases NT.1 K with B|rfl;exact u i h1 B;exact aM)⟩,ka.to _ kR⟩
 omega
theorem Jl (op:Int)(i e:PTm)(w:World)(h:Hp)(g:G w h):CR 153 #[iV op,bO i,bO e] w h (fun v h1=>∃ b,v=bO ⟨op,0,0,⟨#[]⟩,sB b,2,2⟩/\SlO 9 da cJ h1 (sB b) [i,e]):=by
 have a:=sS g;refine go Tryz.func153 [(0,iV op),(1,bO i),(2,bO e)] rfl (ax (lA 4 50 (da i) a (fun y w2 z a=>lA 5 50 (da e) a (fun B x p a=>lA 6 50 a7 a (fun u C D a=>aG (lL a [.c,.o (bO i) 2 0 9,.o (bO e) 1 0 9] (lR 10 50 2 ([iV i.op,iV i.n,.bool (af i.q.num),uV (lo (ab i.q.num)),.string (hi (ab i.q.num)),uV (lo (qd i.q)),.string (hi (qd i.q)),.string i.s,qS i.A i.m i.c,iV e.op,iV e.n,.bool (af e.q.num),uV (lo (ab e.q.num)),.string (hi (ab e.q.num)),uV (lo (qd e.q)),.string (hi (qd e.q)),.string e.s,qS e.A e.m e.c]) a (fun j _ _ a=>?_))))))));replace a:=a.aS (SlO.of_flat (sz:=9) (f:=da) (d:=cJ) (b:=j) (o:=0) (l:=([i,e]:List PTm)) (fun _=>rfl) a.f.1);exact lL a [.v (.agg #[iV op,iV 0,qF,uV 0,eS,uV 0,eS,eS,qS (sB j) 2 2])] (lP 0 0 ([iV op,iV 0,qF,uV 0,eS,uV 0,eS,eS,qS (sB j) 2 2]) a (fun _ a=>ae a [(0,0,9)] (.agg #[iV op,iV 0,qF,uV 0,eS,uV 0,eS,eS,qS (sB j) 2 2]) (⟨_,rfl,a.f.1⟩)))
theorem DB (q:Rat)(w:World)(h:Hp)(g:G w h):CR 222 #[qv q] w h (fun v h1=>∃ p,v=bO p/\PtH h1 p (oN q)):=by
 have a:=sS g;exact go Tryz.func222 [(0,qv q)] rfl (ax (lA 1 44 (qc q) a (fun d w2 e a=>lA 2 50 a7 a (fun i c f a=>aG (lL a [.o (qv q) 1 0 5,.v (bO ⟨1,0,q,⟨#[]⟩,none,0,0⟩)] (lP 0 0 (da ⟨1,0,q,⟨#[]⟩,none,0,0⟩) a (fun b a=>ae a [(0,0,9)] (bO ⟨1,0,q,⟨#[]⟩,none,0,0⟩) (⟨⟨1,0,q,⟨#[]⟩,none,0,0⟩,rfl,PtH.num⟩))))))))
theorem Ih (op:Int)(c a:PTm)(t u:Tm)(w:World)(h:Hp)(g:G w h)(x:PtH h c t)(y:PtH h a u):CR 153 #[iV op,bO c,bO a] w h (fun v h1=>∃ p,v=bO p/\PtH h1 p (iF op t u)) :=
 (Jl op c a w h g).mono fun e w' ⟨v,d,e1,up,b,e2,f⟩=>⟨v,d,e1,up,_,e2,(x.gw up.gr.gw).two (y.gw up.gr.gw) f⟩
section
variable {nf:ByteArray->Option Rat}(n:Nat)
theorem Bl  (lv:Bool)(fp:FuncId)(hen:∀ (args:Array Value) (w:World),(callFunc fp args).run Tryz.prog w=.ok (.enter fp args) w)(hp:∀ m,m<=n->PC nf fp m (part lv))(j:Nat)(s:ByteArray)(V:s.size<=1000000)(a:Nat)(ha:a<=s.size)(y:Int)(t:Tm)(b:Nat)(hq:gc nf s (n+1) (wm lv) a=some (.ok t b))(w:World)(h:Hp)(g:G w h)(ho:Own w j 131 [.string s,nV a,iV y])(hj:h[j]?=some be)(tb:Tab h):Calls Tryz.prog 118 #[pB j,.func (.func fp) #[pB j] #[],.int .u8 (c1 lv:Nat),iV (B3 lv),.int .u8 (c2 lv:Nat),iV (tT lv)] w (eW j w h (F2 j s t b y)):=by
 have e:UpM [j] w h w h:=UpM.refl g;obtain ⟨wz,cp,d⟩:=SS.at_ g ho hj;obtain ⟨t1,b1,hq1,hq2⟩:=DD hq;have cj:c1 lv≠0:=by cases lv<;>decide
 have cd:c2 lv≠0:=by cases lv<;>decide
 replace d:=(d.aB tb);refine go Tryz.func118 [(0,pB j),(1,.func (.func fp) #[pB j] #[]),(2,.int .u8 (c1 lv:Nat)),(3,iV (B3 lv)),(4,.int .u8 (c2 lv:Nat)),(5,iV (tT lv))] rfl (aa d ac (aG (lL d ac (gh 18 (hp n (nR _) j s V a ha y t1 b1 hq1 _ _ d.g (d.own 0) (d.jk 0) d.f.1) ?_ (hr:=Eq.trans kR (hen _ _))))));rintro _ w2 h3 u4 ⟨U,I,rfl,cm,b5,b4,b6⟩;replace d:=(d.stepM 0 u4 b5).to [⟨j,131,[.string s,nV b1,iV y]⟩] [];replace e:=e.trans u4;replace d:=((d.a_Seg b4).add (K:=fun i=>PtH i I t1) b6);refine lL d ac (ag (kZ ?_));replace d:=d.add (K:=fun i=>PtH i I t1) (d.f.1);replace d:=d.add (K:=fun i=>Seg i U 0 (da I)) (d.f.r.1);refine bH _ (CG.loop (fun μ_ Γ w_=>∃ (m:Nat)(Y:Nat)(p:PTm)(u:Tm)(k:Nat)(i:Hp),μ_=m/\Γ=[(0,pB j),(1,.func (.func fp) #[pB j] #[]),(2,.int .u8 (c1 lv:Nat)),(3,iV (B3 lv)),(4,.int .u8 (c2 lv:Nat)),(5,iV (tT lv)),(13,pB Y)]/\SS wz cp w_ i [⟨j,131,[.string s,nV k,iV y]⟩] [] [fun i=>Seg i Y 0 (da p),fun i=>PtH i p u,fun i=>PtH i I t1,fun i=>Seg i U 0 (da I),fun i=>Tab i]/\m<=n/\k<=s.size/\UpM [j] w h w_ i/\gc nf s m (.more lv u) k=some (.ok t b)) _ ⟨n,U,I,t1,b1,h3,rfl,rfl,d.to _ _,nR _,cm,e,hq2⟩ ?_);rintro _ _ w5 ⟨m,Y,p,u,k,h6,hm7,rfl,d,hm,hk,e,hq⟩;obtain ⟨m1,rfl⟩:=CH hq;have cw:=lM (s:=s) (a:=k) hk;refine cQ (aa d [.c,.v qT] (am (cK (kZ (aa d ac (ag (aa d aD ?_)))))));have cr:=lM (s:=s) (a:=k) oM;refine gh 23 (uU j s V k oM y (c1 lv) cj _ _ d.g (d.own 0) (d.jk 0) d.f.q.1) ?_;rintro _ w9 _ u11 (⟨rfl,O,cx,M⟩|⟨rfl,O,M⟩)
 .
  replace d:=(d.stepM 0 u11 M).to [⟨j,131,[.string s,nV (sk s k+1),iV y]⟩] [];replace e:=e.trans u11;obtain ⟨H,Z,cf,cb⟩:=vG hq O;refine am (kQ (lL d aD (aG (lL d ac (gh 31 (hp m1 oM j s V (sk s k+1) oM y H Z cf _ _ d.g (d.own 0) (d.jk 0) d.f.q.1) ?_ (hr:=Eq.trans kR (hen _ _)))))));rintro _ _ _ u15 ⟨L,W,rfl,bf,bz,br,bk⟩;replace d:=(d.stepM 0 u15 bz).to [⟨j,131,[.string s,nV Z,iV y]⟩] [];replace e:=e.trans u15;replace d:=((d.a_Seg br).add (K:=fun i=>PtH i W H) bk);refine lL d ac (ag (aa d [.c,.v qF] (ah (cK (cQ ?_)))));have hsr:=d;have J:=e.gr.size;refine cR 9 [⟨8,16,.cells (MU [iV 0,iV 0,qF,uV 0,eS,uV 0,eS,eS,sZ]) 50 (0,0)⟩] mixed d (bw (ee kR (fun _ _=>by kernel_rfl)) ao) (eV 0 34 (iV (B3 lv)) (eV 1 35 (pB Y) (eV 2 36 (pB Y) (eH 3 37 (bO p) d d.f.r.1 (eV 4 38 (pB L) (eV 5 39 (pB L) (eH 6 40 (bO W) d d.f.2.1 (J6 7 41 d e (fun _ _ d=>Ih (B3 lv) p W u H _ _ d.g d.f.r.2.1 d.f.1) ?_))))))));rintro _ _ _ _ _ e d ⟨o,rfl,bm⟩;replace d:=(d.add (K:=fun i=>PtH i o (iF (B3 lv) u H)) bm);refine IF [] hsr d e J 50 [iV 0,iV 0,qF,uV 0,eS,uV 0,eS,eS,sZ] (fun _ _ za e B d=>KQ 9 0 0 (da o) d (fun _ pu d=>?_));replace e:=e.put2 pu B g d.g;refine tN ?_;obtain ⟨zc,d,e,b9⟩:=d.pubM e 0 B;replace d:=d.to [⟨j,131,[.string s,nV Z,iV y]⟩] [];have b2:Seg zc za 0 (da o):=b9;replace d:=d.a_Seg b2;refine kQ (lL d ac (lD ?_));intro a_ ka;replace d:=((d.tl.tl.tl.tl.tl.tl.add (K:=fun i=>PtH i o (iF (B3 lv) u H)) d.f.2.1).add (K:=fun i=>Seg i za 0 (da o)) d.f.1);refine ⟨_,_,?_,⟨m1,za,o,iF (B3 lv) u H,Z,zc,rfl,rfl,d.to _ _,oM,bf,e,cb⟩,ka.to _ kR⟩
  omega
 replace d:=(d.stepM 0 u11 M).to [⟨j,131,[.string s,nV (sk s k),iV y]⟩] [];replace e:=e.trans u11;have hcF:=O;refine ah (aa d aD ?_);have cq:=lM (s:=s) (a:=(sk s k)) oM;refine gh 27 (Gt j s V (sk s k) oM y (c2 lv) cd (IU _ _) _ _ d.g (d.own 0) (d.jk 0) d.f.q.1) ?_;rintro _ _ _ X (⟨rfl,D,cv,C⟩|⟨rfl,D,C⟩)
 .
  replace d:=(d.stepM 0 X C).to [⟨j,131,[.string s,nV ((sk s k)+1),iV y]⟩] [];replace e:=e.trans X;obtain ⟨l,F,bb,bt⟩:=vx hq hcF D;refine am (kQ (lL d aD (aG (lL d ac (gh 31 (hp m1 oM j s V ((sk s k)+1) oM y l F bb _ _ d.g (d.own 0) (d.jk 0) d.f.q.1) ?_ (hr:=Eq.trans kR (hen _ _)))))));rintro _ _ _ u40 ⟨S,Q,rfl,bl,bn,bq,bx⟩;replace d:=(d.stepM 0 u40 bn).to [⟨j,131,[.string s,nV F,iV y]⟩] [];replace e:=e.trans u40;replace d:=((d.a_Seg bq).add (K:=fun i=>PtH i Q l) bx);refine lL d ac (ag (aa d [.c,.v qF] (ah (cK (cQ ?_)))));have hsr:=d;have J:=e.gr.size;refine cR 9 [⟨8,16,.cells (MU [iV 0,iV 0,qF,uV 0,eS,uV 0,eS,eS,sZ]) 50 (0,0)⟩] mixed d (bw (ee kR (fun _ _=>by kernel_rfl)) ao) (eV 0 34 (iV (tT lv)) (eV 1 35 (pB Y) (eV 2 36 (pB Y) (eH 3 37 (bO p) d d.f.r.1 (eV 4 38 (pB S) (eV 5 39 (pB S) (eH 6 40 (bO Q) d d.f.2.1 (J6 7 41 d e (fun _ _ d=>Ih (tT lv) p Q u l _ _ d.g d.f.r.2.1 d.f.1) ?_))))))));rintro _ _ _ _ _ e d ⟨x,rfl,b0⟩;replace d:=(d.add (K:=fun i=>PtH i x (iF (tT lv) u l)) b0);refine IF [] hsr d e J 50 [iV 0,iV 0,qF,uV 0,eS,uV 0,eS,eS,sZ] (fun _ _ zb e z d=>KQ 9 0 0 (da x) d (fun _ pu d=>?_));replace e:=e.put2 pu z g d.g;refine tN ?_;obtain ⟨zd,d,e,b7⟩:=d.pubM e 0 z;replace d:=d.to [⟨j,131,[.string s,nV F,iV y]⟩] [];have b3:Seg zd zb 0 (da x):=b7;replace d:=d.a_Seg b3;refine kQ (lL d ac (lD ?_));intro a_ ka;replace d:=((d.tl.tl.tl.tl.tl.tl.add (K:=fun i=>PtH i x (iF (tT lv) u l)) d.f.2.1).add (K:=fun i=>Seg i zb 0 (da x)) d.f.1);refine ⟨_,_,?_,⟨m1,zb,x,iF (tT lv) u l,F,zd,rfl,rfl,d.to _ _,oM,bl,e,bt⟩,ka.to _ kR⟩
  omega
 replace d:=(d.stepM 0 X C).to [⟨j,131,[.string s,nV (sk s k),iV y]⟩] [];replace e:=e.trans X;have ch:=D;refine ah (aa d aD (lN (kX ?_)));obtain ⟨ht_,hb_⟩:=vB hq hcF ch;exact d.retM e [] (pB Y) (by rw[ht_];rw[hb_];exact ⟨Y,p,rfl,by first|assumption|omega,d.own 0,d.f.1,d.f.2.1⟩)
theorem J1  (I:∀ m,m<=n->PC nf 119 m .prod)(e:Nat)(s:ByteArray)(y:s.size<=1000000)(a:Nat)(ha:a<=s.size)(x:Int)(t:Tm)(b:Nat)(F:gc nf s (n+1) .sum a=some (.ok t b))(w:World)(h:Hp)(g:G w h)(D:Own w e 131 [.string s,nV a,iV x])(H:h[e]?=some be)(L:Tab h):Calls Tryz.prog 67 #[pB e] w (eW e w h (F2 e s t b x)):=by
 have j:UpM [e] w h w h:=UpM.refl g;obtain ⟨wz,C,d⟩:=SS.at_ g D H;replace d:=(d.aB L);refine go Tryz.func67 [(0,pB e)] rfl (aa d ac (aG (lL d [.c,.c,.v (.func (.func 119) #[pB e] #[])] (gh 6 (Bl n false 119 (fun _ _=>by kernel_rfl) I e s y a ha x t b F _ _ d.g (d.own 0) (d.jk 0) d.f.1) ?_))));rintro _ w2 M z ⟨i,p,rfl,B,l,u,o⟩;replace d:=(d.stepM 0 z l).to [⟨e,131,[.string s,nV b,iV x]⟩] [];replace j:=j.trans z;replace d:=((d.a_Seg u).add (K:=fun J=>PtH J p t) o);exact lL d ac (lN (kX (d.retM j [] (pB i) (by exact ⟨i,p,rfl,by first|assumption|omega,d.own 0,d.f.2.1,d.f.1⟩))))
theorem An  (I:∀ m,m<=n->PC nf 154 m .sign)(e:Nat)(s:ByteArray)(y:s.size<=1000000)(a:Nat)(ha:a<=s.size)(x:Int)(t:Tm)(b:Nat)(F:gc nf s (n+1) .prod a=some (.ok t b))(w:World)(h:Hp)(g:G w h)(D:Own w e 131 [.string s,nV a,iV x])(H:h[e]?=some be)(L:Tab h):Calls Tryz.prog 119 #[pB e] w (eW e w h (F2 e s t b x)):=by
 have j:UpM [e] w h w h:=UpM.refl g;obtain ⟨wz,C,d⟩:=SS.at_ g D H;replace d:=(d.aB L);refine go Tryz.func119 [(0,pB e)] rfl (aa d ac (aG (lL d [.c,.c,.v (.func (.func 154) #[pB e] #[])] (gh 6 (Bl n true 154 (fun _ _=>by kernel_rfl) I e s y a ha x t b F _ _ d.g (d.own 0) (d.jk 0) d.f.1) ?_))));rintro _ w2 M z ⟨i,p,rfl,B,l,u,o⟩;replace d:=(d.stepM 0 z l).to [⟨e,131,[.string s,nV b,iV x]⟩] [];replace j:=j.trans z;replace d:=((d.a_Seg u).add (K:=fun J=>PtH J p t) o);exact lL d ac (lN (kX (d.retM j [] (pB i) (by exact ⟨i,p,rfl,by first|assumption|omega,d.own 0,d.f.2.1,d.f.1⟩))))
theorem Ek  (z:PC nf 181 n .pow)(d:Nat)(s:ByteArray)(x:s.size<=1000000)(a:Nat)(ha:a<=s.size)(j:Int)(t:Tm)(b:Nat)(F:gc nf s (n+1) .sign a=some (.ok t b))(w:World)(h:Hp)(g:G w h)(J:Own w d 131 [.string s,nV a,iV j])(L:h[d]?=some be)(M:Tab h):Calls Tryz.prog 154 #[pB d] w (eW d w h (F2 d s t b j)):=by
 have e:UpM [d] w h w h:=UpM.refl g;obtain ⟨wz,I,c⟩:=SS.at_ g J L;replace c:=(c.aB M);refine go Tryz.func154 [(0,pB d)] rfl (aa c ac (ag (aa c ac ?_)));have B:=lM (s:=s) (a:=a) oM;refine gh 6 (Bc d s x a ha j 45 kD (nQ F).1 _ _ c.g (c.own 0) (c.jk 0) c.f.1) ?_;rintro _ w2 U C ⟨rfl,p⟩;replace c:=(c.stepM 0 C p).to [⟨d,131,[.string s,nV (sk s a),iV j]⟩] [];replace e:=e.trans C;refine lL c [.v qT] (am (aa c ac (gh 9 (z d s x (sk s a) oM j t b (nQ F).2 _ _ c.g (c.own 0) (c.jk 0) c.f.1) ?_)));rintro _ Q S D ⟨i,o,rfl,H,l,u,y⟩;replace c:=(c.stepM 0 D l).to [⟨d,131,[.string s,nV b,iV j]⟩] [];replace e:=e.trans D;replace c:=((c.a_Seg u).add (K:=fun O=>PtH O o t) y);exact lL c ac (lN (kX (c.retM e [] (pB i) (by exact ⟨i,o,rfl,by first|assumption|omega,c.own 0,c.f.2.1,c.f.1⟩))))
end
theorem Kf (c:Nat)(i:c<256)(w:World)(h:Hp)(g:G w h):CV 221 #[.int .u8 (c:Nat)] w h (.bool (mh c)):=by
 have a:=sS g;refine go Tryz.func221 [(0,.int .u8 (c:Nat))] rfl (aa a ac (aG (lL a ac (aq 4 a (oP c i _ _ a.g) (fun w1 j a=>?_)))));cases e:(decide (48<=c/\c<=57))
 .
  have f:=oF e;refine lL a aD ?_;cases b:((c:Int) == (46:Int))
  .
   have d:=aj b;exact lB 7 b (lL a [.v qF,.c] (ae a [] qF (congrArg Value.bool (decide_eq_false oM).symm)))
  have d:=eq_of_beq b;exact lB 7 b (lL a [.v qT,.c] (ae a [] qT (congrArg Value.bool (decide_eq_true oM).symm)))
 have f:=oT e;refine lL a ac (lG 6 ?_);exact lG 7 (lL a [.v qT,.c] (ae a [] qT (congrArg Value.bool (decide_eq_true oM).symm)))
def GC (nf:ByteArray->Option Rat):Prop:=∀ x q,nf x=some q->∀ (w:World) (h:Hp),G w h->Tab h->CV 220 #[.string x] w h (.tuple #[qv q,.bool true])
section
variable {nf:ByteArray->Option Rat}(n:Nat)
theorem Hk  (F:PC nf 208 n .atom)(e:Nat)(s:ByteArray)(x:s.size<=1000000)(a:Nat)(ha:a<=s.size)(l:Int)(t:Tm)(b:Nat)(Q:gc nf s (n+1) .pow a=some (.ok t b))(w:World)(h:Hp)(g:G w h)(O:Own w e 131 [.string s,nV a,iV l])(S:h[e]?=some be)(V:Tab h):Calls Tryz.prog 181 #[pB e] w (eW e w h (F2 e s t b l)):=by
 have i:UpM [e] w h w h:=UpM.refl g;obtain ⟨wz,M,d⟩:=SS.at_ g O S;obtain ⟨e1,H,B,C⟩:=CP Q;replace d:=(d.aB V);refine go Tryz.func181 [(0,pB e)] rfl (aa d ac (aG (lL d ac (gh 13 (F e s x a ha l t e1 H _ _ d.g (d.own 0) (d.jk 0) d.f.1) ?_))));rintro _ w2 Y I ⟨j,y,rfl,J,p,z,u⟩;replace d:=(d.stepM 0 I p).to [⟨e,131,[.string s,nV e1,iV l]⟩] [];replace i:=i.trans I;replace d:=((d.a_Seg z).add (K:=fun U=>PtH U y t) u);refine lL d ac (ag (aa d [.c,.v qF,.c,.c] ?_));have D:=lM (s:=s) (a:=e1) oM;refine gh 18 (Bc e s x e1 oM l 94 kD B _ _ d.g (d.own 0) (d.jk 0) d.f.r.1) ?_;rintro _ W X L ⟨rfl,o⟩;replace d:=(d.stepM 0 L o).to [⟨e,131,[.string s,nV (sk s e1),iV l]⟩] [];replace i:=i.trans L;exact lL d [.v qT,.v qT] (am (aa d aD (lN (kX (d.retM i [] (pB j) (by rw[C];exact ⟨j,y,rfl,by first|assumption|omega,d.own 0,d.f.2.1,d.f.1⟩))))))
theorem IR  (hnf:GC nf)(ihs:PC nf 67 n .sum)(j:Nat)(s:ByteArray)(F:s.size<=1000000)(a:Nat)(ha:a<=s.size)(z:Int)(t:Tm)(b:Nat)(hq:gc nf s (n+1) .atom a=some (.ok t b))(w:World)(h:Hp)(g:G w h)(ho:Own w j 131 [.string s,nV a,iV z])(hj:h[j]?=some be)(tb:Tab h):Calls Tryz.prog 208 #[pB j] w (eW j w h (F2 j s t b z)):=by
 have e:UpM [j] w h w h:=UpM.refl g;obtain ⟨wz,O,d⟩:=SS.at_ g ho hj;replace d:=(d.aB tb);refine go Tryz.func208 [(0,pB j)] rfl (aa d ac (aG (lL d ac ?_)));have b0:=lM (s:=s) (a:=a) oM;refine gh 13 (xI j s F a ha z _ _ d.g (d.own 0) (d.jk 0) d.f.1) ?_;rintro _ w2 h3 u4 ⟨rfl,bk⟩;replace d:=(d.stepM 0 u4 bk).to [⟨j,131,[.string s,nV (sk s a),iV z]⟩] [];replace e:=e.trans u4;refine lL d ac (aG (lL d [.c,.v (pB j),.v (qP j 1),.o (nV (sk s a)) 0 1 1,.c] (ag (kZ (CG.join (fun Γ w_=>∃ (zd:Bool)(i:Hp),Γ=[(0,pB j),(2,.pointer none),(3,.int .u8 (aU s (sk s a):Nat)),(4,nV (sk s a)),(18,.bool zd)]/\SS wz O w_ i [⟨j,131,[.string s,nV (sk s a),iV z]⟩] [] [fun i=>Tab i]/\(zd=true->¬¬((48<=aU s (sk s a)/\aU s (sk s a)<=57)\/aU s (sk s a)=46))/\(zd=false->mh (aU s (sk s a))=false)/\UpM [j] w h w_ i) ?_ ?_)))))
 .
  refine kQ (lL d ac (kd 20 (oP (aU s (sk s a)) (cP _ _) _ _ d.g) ?_));rintro _ w5 h6 u7 rfl;replace e:=e.trans (u7.m _);replace d:=d.step u7;cases Y:(decide (48<=aU s (sk s a)/\aU s (sk s a)<=57))
  .
   have Z:=oF Y;refine lL d aD ?_;cases I:(((aU s (sk s a):Nat):Int) == (46:Int))
   .
    have bt:=aj I;refine lB 23 I (lL d [.v qF,.c] (lD ?_));intro a_ D;exact ⟨_,⟨false,h6,rfl,d.to _ _,(fun i=>absurd i kD),(fun _=>decide_eq_false oM),e⟩,D.to _ kR⟩
   have bt:=eq_of_beq I;refine lB 23 I (lL d [.v qT,.c] (lD ?_));intro a_ D;exact ⟨_,⟨true,h6,rfl,d.to _ _,(fun _=>by omega),(fun i=>absurd i kD),e⟩,D.to _ kR⟩
  have Z:=oT Y;refine lL d ac (lG 22 ?_);refine lG 23 (lL d [.v qT,.c] (lD ?_));intro a_ D;exact ⟨_,⟨true,h6,rfl,d.to _ _,(fun _=>by omega),(fun i=>absurd i kD),e⟩,D.to _ kR⟩
 rintro _ _ ⟨zd,_,rfl,d,zm,L,e⟩;cases za:(zd)
 .
  try rw[za] at d
  try rw[za]
  refine dD (CG.join (fun Γ w_=>∃ (ze:Bool)(i:Hp),Γ=[(0,pB j),(2,.pointer none),(3,.int .u8 (aU s (sk s a):Nat)),(4,nV (sk s a)),(38,.bool ze)]/\SS wz O w_ i [⟨j,131,[.string s,nV (sk s a),iV z]⟩] [] [fun i=>Tab i]/\(ze=true->iP (aU s (sk s a))\/aU s (sk s a)=95)/\(ze=false->¬(iP (aU s (sk s a))\/aU s (sk s a)=95))/\UpM [j] w h w_ i) ?_ ?_)
  .
   refine kQ (lL d ac (kd 40 (lE (aU s (sk s a)) (cP _ _) _ _ d.g) ?_));rintro _ _ zf u24 rfl;replace e:=e.trans (u24.m _);replace d:=d.step u24;cases zg:(decide (iP (aU s (sk s a))))
   .
    have zk:=oF zg;refine lL d aD ?_;cases zb:(((aU s (sk s a):Nat):Int) == (95:Int))
    .
     have zl:=aj zb;refine lB 43 zb (lL d [.v qF,.c] (lD ?_));intro a_ D;exact ⟨_,⟨false,zf,rfl,d.to _ _,(fun i=>absurd i kD),(fun _ i=>by rcases i with i|i;exact absurd i aM;omega),e⟩,D.to _ kR⟩
    have zl:=eq_of_beq zb;refine lB 43 zb (lL d [.v qT,.c] (lD ?_));intro a_ D;exact ⟨_,⟨true,zf,rfl,d.to _ _,(fun _=>by first|exact .inl aM|exact .inr oM),(fun i=>absurd i kD),e⟩,D.to _ kR⟩
   have zk:=oT zg;refine lL d ac (lG 42 ?_);refine lG 43 (lL d [.v qT,.c] (lD ?_));intro a_ D;exact ⟨_,⟨true,zf,rfl,d.to _ _,(fun _=>by first|exact .inl aM|exact .inr oM),(fun i=>absurd i kD),e⟩,D.to _ kR⟩
  rintro _ _ ⟨ze,_,rfl,d,bn,bq,e⟩;cases zc:(ze)
  .
   try rw[zc] at d
   try rw[zc]
   refine dD (aa d ac ?_);obtain ⟨_,e1,hq1,hd1,y⟩:=B9 hq (L aM) (bq aM);have b2:=xx (s:=s) (a:=sk s a) oM;have zn:(((aU s (sk s a):Nat):Int) == (91:Int))=false:=eU oM;refine lB 68 zn (lL d ac (ah (aa d ac ?_)));have zo:(((aU s (sk s a):Nat):Int) == (40:Int))=true:=sO oM;refine lB 73 zo (lL d ac (am (aa d [.c,.v (pB j),.v (qP j 1),.o (nV (sk s a)) 0 1 1] (bp 78 ((sk s a:Nat)+1) ((sk s a)+1) ?_))));refine lL d [.v (pB j),.v (qP j 1)] (nC 0 1 ([nV ((sk s a)+1)]) d (fun _ pu d=>?_));replace e:=e.put pu (sy.2 rfl) d.g;refine aG (lL d ac (gh 82 (ihs j s F ((sk s a)+1) oM z t e1 hq1 _ _ d.g (d.own 0) (d.jk 0) d.f.1) ?_));rintro _ _ _ u45 ⟨C,J,rfl,bz,U,V,Q⟩;replace d:=(d.stepM 0 u45 U).to [⟨j,131,[.string s,nV e1,iV z]⟩] [];replace e:=e.trans u45;replace d:=((d.a_Seg V).add (K:=fun i=>PtH i J t) Q);refine lL d ac (ag (aa d [.c,.v qT,.c,.c] (gh 87 (HH j s F e1 oM z 41 kD hd1 _ _ d.g (d.own 0) (d.jk 0) d.f.r.1) ?_)));rintro _ _ _ u49 ⟨rfl,b1,S⟩;replace d:=(d.stepM 0 u49 S).to [⟨j,131,[.string s,nV (sk s e1+1),iV z]⟩] [];replace e:=e.trans u49;exact lL d [.v qF,.v qF] (ah (cK (aa d aD (lN (kX (d.retM e [] (pB C) (by rw[y];exact ⟨C,J,rfl,by first|assumption|omega,d.own 0,d.f.2.1,d.f.1⟩)))))))
  try rw[zc] at d
  try rw[zc]
  refine ct (aa d ac ?_);have hcW:=bn aM;obtain ⟨bb,hnm,X,y⟩:=CN hq (L aM) hcW;have M:=Be (p:=ia) (s:=s) (a:=sk s a) oM;refine gh 46 (Ii 95 ia (fun _ _=>by kernel_rfl) (fun c hc w h g=>pR c hc w h g) j s F (sk s a) oM z _ _ d.g (d.own 0) (d.jk 0) d.f.1) ?_;rintro _ _ _ u52 ⟨rfl,H⟩;replace d:=(d.stepM 0 u52 H).to [⟨j,131,[.string s,nV (rn ia s (sk s a)),iV z]⟩] [];replace e:=e.trans u52;refine lL d ac (ag (ax (kd 48 (tR _ _ d.g) ?_)));rintro _ _ _ u55 ⟨bm,rfl,hcm⟩;replace e:=e.trans (u55.m _);replace d:=d.step u55;replace d:=(d.add (K:=fun i=>MapS i bm jD) hcm);refine lL d ac (I7 50 95 9 3 (s.extract (sk s a) (rn ia s (sk s a))) true (iV 0) (false) d d.f.1 ?_ (hf:=(by rcases uv (s.extract (sk s a) (rn ia s (sk s a))) with ⟨i_,e1_,e2_⟩|⟨e1_,e2_,e3_⟩;exact absurd (e2_.symm.trans bb) kD;exact .inr ⟨e1_,rfl,fun _=>by kernel_rfl⟩)));refine lL d [.c,.v (iV 0),.v qF,.c,.c] (aG (lL d ac (ah (cK (cQ (aa d ac (kd 58 ((by have q_:=GP (s.extract (sk s a) (rn ia s (sk s a))) (by rw[ByteArray.size_extract];omega) _ _ d.g;rw[hnm] at q_;exact q_)) ?_)))))));rintro _ _ _ u58 rfl;replace e:=e.trans (u58.m _);replace d:=d.step u58;refine lL d [.v qF] (ah (cK (aa d [.c,.v (.agg #[iV 2,iV 0,qF,uV 0,eS,uV 0,eS,.string (s.extract (sk s a) (rn ia s (sk s a))),sZ])] (JO 65 50 ([iV 2,iV 0,qF,uV 0,eS,uV 0,eS,.string (s.extract (sk s a) (rn ia s (sk s a))),sZ]) d (fun zi _ _ u62 u d=>?_)))));replace u:=ep e.gr.size u;replace e:=e.trans (u62.m _);refine lL d ac (lN (kX ?_));obtain ⟨zp,d,e,bl⟩:=d.pubM e 0 u;replace d:=d.to [⟨j,131,[.string s,nV (rn ia s (sk s a)),iV z]⟩] [];have bf:Seg zp zi 0 (da ⟨2,0,0,(s.extract (sk s a) (rn ia s (sk s a))),none,0,0⟩):=bl;replace d:=d.a_Seg bf;exact d.retM e [] (pB zi) (by rw[X];rw[y];exact ⟨zi,⟨2,0,0,(s.extract (sk s a) (rn ia s (sk s a))),none,0,0⟩,rfl,by first|assumption|omega,d.own 0,d.f.1,PtH.nam⟩)
 try rw[za] at d
 try rw[za]
 refine ct (aa d ac ?_);obtain ⟨q,hnq,X,y⟩:=DZ hq (decide_eq_true (Decidable.byContradiction fun i=>zm aM i));have M:=Be (p:=mh) (s:=s) (a:=sk s a) oM;refine gh 27 (Ii 221 mh (fun _ _=>by kernel_rfl) (fun c hc w h g=>Kf c hc w h g) j s F (sk s a) oM z _ _ d.g (d.own 0) (d.jk 0) d.f.1) ?_;rintro _ _ _ u69 ⟨rfl,H⟩;rw[<-y] at H M
 replace d:=(d.stepM 0 u69 H).to [⟨j,131,[.string s,nV b,iV z]⟩] [];replace e:=e.trans u69;refine kd 28 (hnf _ _ hnq _ _ d.g d.f.1) ?_;rintro _ _ _ u72 rfl;replace e:=e.trans (u72.m _);replace d:=d.step u72;refine lL d [.c,.v (qv q),.v qT] (JO 5 44 a6 d (fun zq _ _ u76 x d=>?_));replace x:=ep e.gr.size x;replace e:=e.trans (u76.m _);refine nC 0 0 (qc q) d (fun _ pu d=>?_);replace e:=e.put2 pu x g d.g;refine lL d ac (ag (aa d [.c,.v qF] (ah (cK (aa d [.o (qv q) 0 0 5] (kd 37 (DB q _ _ d.g) ?_))))));rintro _ _ _ u81 ⟨B,rfl,W⟩;replace e:=e.trans (u81.m _);replace d:=d.step u81;replace d:=(d.add (K:=fun i=>PtH i B (oN q)) W);refine JO 7 50 a7 d (fun zj _ _ u85 l d=>?_);replace l:=ep e.gr.size l;replace e:=e.trans (u85.m _);refine nC 0 0 (da B) d (fun _ pu d=>?_);replace e:=e.put2 pu l g d.g;refine aG (lL d ac (lN (kX ?_)));obtain ⟨zr,d,e,bx⟩:=d.pubM e 0 l;replace d:=d.to [⟨zq,44,qc q⟩,⟨j,131,[.string s,nV b,iV z]⟩] [];have br:Seg zr zj 0 (da B):=bx;replace d:=d.a_Seg br;exact d.retM e [] (pB zj) (by rw[X];exact ⟨zj,B,rfl,by first|assumption|omega,d.own 1,d.f.1,d.f.2.1⟩)
end
section
variable {nf:ByteArray->Option Rat}(hnf:GC nf)
include hnf
def Jy (nf:ByteArray->Option Rat)(n:Nat):Prop:=PC nf 67 n .sum/\PC nf 119 n .prod/\PC nf 154 n .sign/\PC nf 181 n .pow/\PC nf 208 n .atom
theorem Ko (n:Nat):Jy nf n:=by
  induction n using g4 with
  | ind n ih =>
    cases n with
    | zero=>exact ⟨fun _ _ _ _ _ _ _ _ h=>(by cases h),fun _ _ _ _ _ _ _ _ h=>(by cases h),fun _ _ _ _ _ _ _ _ h=>(by cases h),fun _ _ _ _ _ _ _ _ h=>(by cases h),fun _ _ _ _ _ _ _ _ h=>(by cases h)⟩
    | succ n =>
      have i:=ih n (Of n);refine ⟨?_,?_,?_,?_,?_⟩
      . exact fun f s h1 a d c t b j w h g e l o=>J1 n (fun m p=>(ih m oM).2.1) f s h1 a d c t b j w h g e l o
      . exact fun f s h1 a d c t b j w h g e l o=>An n (fun m p=>(ih m oM).2.2.1) f s h1 a d c t b j w h g e l o
      . exact fun f s h1 a d c t b j w h g e l o=>Ek n i.2.2.2.1 f s h1 a d c t b j w h g e l o
      . exact fun f s h1 a d c t b j w h g e l o=>Hk n i.2.2.2.2 f s h1 a d c t b j w h g e l o
      . exact fun f s h1 a d c t b j w h g e l o=>IR n hnf i.1 f s h1 a d c t b j w h g e l o
end
theorem AJ {c:UInt8}:∀ (l:List UInt8),(∀ b∈l,b≠c)->Lib.indexByte l c = -1
  | [],_=>rfl
  | b::l,h=>by
    have h1:(b == c)=false:=by simpa using h b MG
    unfold Lib.indexByte
    rw[h1,AJ l (fun b a=>h b (MH _ a))];rfl
theorem CW {s:ByteArray}{b:UInt8}(h:b∈s.data.toList):∃ i,i<s.size/\aU s i=b.toNat:=by
 obtain ⟨i,hi,e⟩:=ua.1 h;refine ⟨i,by simpa using hi,?_⟩
 unfold aU
 rw[LM,NO hi,e];rfl
theorem Dr (x:ByteArray)(c:UInt8)(hn:∀ i,i<x.size->aU x i≠c.toNat)(w:World)(h:Hp)(g:G w h):CV 240 #[.string x,.string ⟨#[c]⟩] w h (iV (-1)):=by
 have q:=Ret.of_same g (Tryz.stringslite_Index_one x c w)
 rw[AJ _ (fun b a e=>by
  obtain ⟨i,hi,h1⟩:=CW a;exact hn i hi (by rw[h1,e]))] at q
 exact q
theorem Hr {x:ByteArray}{c:UInt8}(h:aU x 0≠c.toNat):Lib.hasPrefix x.data.toList [c]=false:=by
  unfold Lib.hasPrefix
  unfold aU at h
  cases e:x.data.toList with
  | nil=>rfl
  | cons b l =>
    rw[e] at h
    have:b≠c:=fun e2=>h (by rw[e2];rfl)
    simp[List.isPrefixOf,Ne.symm this]
theorem qk (x:ByteArray)(c:UInt8)(hn:aU x 0≠c.toNat)(w:World)(h:Hp)(g:G w h):CV 234 #[.string x,.string ⟨#[c]⟩] w h (.tuple #[.string x,.bool false]):=by
 have q:=Ret.of_same g (Tryz.strings_CutPrefix x ⟨#[c]⟩ w);have e:Lib.hasPrefix x.data.toList [c]=false:=Hr hn;have e2:(⟨(Lib.trimPrefix x.data.toList [c]).toArray⟩:ByteArray)=x:=by unfold Lib.trimPrefix;rw[e];simp
 have a:CV 234 #[.string x,.string ⟨#[c]⟩] w h (.tuple #[.string ⟨(Lib.trimPrefix x.data.toList [c]).toArray⟩,.bool (Lib.hasPrefix x.data.toList [c])]):=q;rw[e,e2] at a;exact a
theorem JI (m a:Nat)(ha:a<18446744073709551616)(w:World)(h:Hp)(g:G w h):CR 225 #[.slice none ((([]:List Nat)).length) 0,mV m,mV a] w h (fun v h1=>∃ (A:Z9)(c:Nat)(l:List Nat),v=.slice A l.length c/\l.length<=c/\SlO 1 ar 0 h1 A l/\l=if a=0 then [] else [a]):=by
 have b:=(sS g).nil 38 1;have p:([]:List Nat).length=0:=rfl;refine go Tryz.func225 [(0,qS none ((([]:List Nat)).length) 0),(1,mV m),(2,mV a)] rfl (aa b ac (aG (lL b aD (ag (aa b [.c,.v (iV 0),.c] (aZ (cU ?_)))))));refine cN (aa b [.v qF] (ag (dD (CG.exit ?_))))
 show CG _ _ _ _ _ _ _ _
 refine cQ (aa b ac ?_);cases d:((a:Int) != (0:Int))
 .
  have i:=aJ d;exact lB 43 d (ah (cK (aa b aD (ae b [] (qS none ((([]:List Nat)).length) 0) (⟨none,0,[],rfl,nR _,SlO.nil,by rw[if_pos oM]⟩)))))
 have i:=aI d;refine lB 43 d (am (kQ (lL b aD (lR 46 38 1 ([mV a]) b (fun u w3 y b=>lY 47 0 38 1 0 none ([]:List Nat) ar a 8 u (uV 0) b b.f.1 (fun j o z B b=>lL b ac (aG (lL b aD (lN (kX ?_))))))))));obtain ⟨_,b,x⟩:=b.pubr 0 (A:=j) (c:=o) (l:=([]:List Nat)++[a]) (f:=ar) (ty:=38) (sz:=1) 0 (fun _=>rfl);have e:=(b.f.1);exact b.ret [] (qS j ((([]:List Nat)++[a]).length) o) (⟨_,_,_,rfl,x,e,by rw[if_neg oM];rfl⟩)
theorem Cl  (w:World)(h:Hp)(g:G w h):CV 210 #[.string (⟨#[49]⟩)] w h (.tuple #[nv 1,.bool true]):=by
 have a:=sS g;refine go Tryz.func210 [(0,.string (⟨#[49]⟩))] rfl (ax (lA 2 40 ([uV 0,eS]) a (fun e w2 u a=>lL a ac (ag (aa a [.c,.v (iV 1),.v qF,.c,.c,.v (iV 1),.v qF,.v qF,.c,.c,.v (iV 1),.v qF,.c] (lG 21 ?_))))));refine lG 22 (lG 23 (lL a [.v qF,.v qF] (ah (cK (aa a ac (aG (lL a aD (ag (aa a [.c,.v (iV 1),.c] (aZ (cU ?_)))))))))));refine cN (aa a [.v qT] (ag (ct (cK (cQ (kZ (aa a aD (ag (aa a [.c,.c,.v (.int .u8 49),.v qF,.c,.c,.c,.v (.int .u8 49),.v qF,.v qF] (ah (cK (aa a [.c,.v (uV 0),.c,.c,.v (.int .u8 49),.v (.int .u8 1),.v (uV 1),.v (uV 1),.c,.v (uV 10),.c,.c] (aG (lL a [.c,.v qF,.c,.c,.c,.v (iV 1),.v (iV 0),.v qT,.v qT] (am (aa a dl (lC 65 a (JI 10 1 kD _ _ a.g) ?_)))))))))))))))));rintro _ p o a ⟨b,c2,l2,rfl,i,d,j⟩;obtain rfl:l2=[1]:=j;replace a:=a.aS d;refine lL a ac (lN (kQ (lL a aD (lN (kQ (lL a [.v (iV 1),.c] (lD (CL.to [(0,.string (⟨#[49]⟩)),(2,pB e),(3,qF),(4,qS b 1 c2),(5,uV 0),(6,uV 1),(28,iV 1),(29,iV 1),(30,qT),(31,iV 0),(7,iV 0),(32,.string (⟨#[49]⟩)),(33,iV 0),(34,.int .u8 49),(35,qF),(36,qF),(37,.string (⟨#[49]⟩)),(38,iV 0),(39,.int .u8 49),(40,qF),(41,qF),(43,uV 0),(44,uV 0),(45,.string (⟨#[49]⟩)),(46,iV 0),(47,.int .u8 49),(48,.int .u8 1),(49,uV 1),(50,uV 1),(51,uV 1),(52,uV 10),(53,uV 10),(54,qF),(55,qF),(56,iV 0),(57,.string (⟨#[49]⟩)),(58,iV 1),(59,iV 0),(60,qT),(61,qT),(62,sZ),(63,uV 10),(64,uV 1),(65,qS b 1 c2),(66,iV 1)] ?_))))))));replace a:=a.to [⟨e,40,[uV 0,eS]⟩] [];refine cN (aa a [.v qF] (ag (dD (CG.exit ?_))))
 show CG _ _ _ _ _ _ _ _
 exact bH [(2,pB e),(3,qF),(4,qS b 1 c2)] (aa a ac (aq 68 a (Fa b c2 [1] (Dg.one kD) kD i _ _ a.g a.f.1) (fun x y a=>lP 0 0 (nc (aA [1])) a (fun l a=>lL a ac (ae a [(0,0,2)] (.tuple #[nv (aA [1]),qT]) rfl)))))
theorem Jk (x:ByteArray)(c:UInt8)(hn:∀ i,i<x.size->aU x i≠c.toNat)(w:World)(h:Hp)(g:G w h):CV 233 #[.string x,.string (⟨#[c]⟩)] w h (.tuple #[.string x,eS,.bool false]):=by
 have a:=sS g;exact go Tryz.func233 [(0,.string x),(1,.string (⟨#[c]⟩))] rfl (aa a dl (ag (aa a aD (aq 10 a (Dr x c hn _ _ a.g) (fun w1 b a=>lL a ac (aG (lL a [.c,.v qF] (ah (cK (aa a oz (ae a [] (.tuple #[.string x,eS,qF]) rfl)))))))))))
theorem E0 (x:ByteArray)(c:UInt8)(hn:∀ i,i<x.size->aU x i≠c.toNat)(w:World)(h:Hp)(g:G w h):CV 227 #[.string x,.string (⟨#[c]⟩)] w h (.tuple #[.string x,eS,.bool false]):=by
 have a:=sS g;exact go Tryz.func227 [(0,.string x),(1,.string (⟨#[c]⟩))] rfl (aa a dl (aG (lL a aD (aq 9 a (Jk x c hn _ _ a.g) (fun w1 b a=>lL a [.v (.string x),.v (eS),.v qF,.c,.c,.c] (ae a [] (.tuple #[.string x,eS,qF]) rfl))))))
theorem Dt  (w:World)(h:Hp)(g:G w h):CV 230 #[.string (⟨#[49]⟩)] w h (.tuple #[iv ((1:Nat):Int),.bool true]):=by
 have a:=sS g;refine go Tryz.func230 [(0,.string (⟨#[49]⟩))] rfl (ax (lA 2 42 ([qF,uV 0,eS]) a (fun e w2 f a=>lL a ac (aG (lL a ac (aq 10 a (qk ⟨#[49]⟩ 45 (by show aU ⟨#[49]⟩ 0≠45;decide) _ _ a.g) (fun i b a=>lL a [.c,.v (.string (⟨#[49]⟩)),.v qF,.c,.c] (aG (lL a ac (aq 15 a (Cl _ _ a.g) (fun j l a=>lL a [.c,.v (nv 1),.v qT] (lA 6 40 ([uV 0,eS]) a (fun b8 d _ a=>lP 0 0 (nc 1) a (fun _ a=>lL a ac (ag (aa a [.c,.v qF,.c,.c,.c] (lG 23 ?_)))))))))))))))));exact lG 24 (lG 25 (lL a [.v qF,.v qF] (ah (cK (aa a [.c,.o (nv 1) 0 0 2] (aq 31 a (eP 1 _ _ a.g) (fun _ _ a=>lP 1 0 (ic ((1:Nat):Int)) a (fun _ a=>lL a ac (ae a [(1,0,3)] (.tuple #[iv ((1:Nat):Int),qT]) rfl)))))))))
theorem Ej  (w:World)(h:Hp)(g:G w h):CV 220 #[.string (⟨#[49]⟩)] w h (.tuple #[qv ((1:Nat):Rat),.bool true]):=by
 have a:=sS g;exact go Tryz.func220 [(0,.string (⟨#[49]⟩))] rfl (ax (lA 2 44 a6 a (fun l w2 u a=>lL a ac (ag (aa a ac (aq 14 a (E0 ⟨#[49]⟩ 47 (by intro i hi;obtain rfl:i=0:=(by have:i<1:=hi;omega);show aU ⟨#[49]⟩ 0≠47;decide) _ _ a.g) (fun x j a=>lL a [.c,.v (.string (⟨#[49]⟩)),.v (eS),.v qF,.c,.c,.c] (aG (lL a ac (ah (cK (cQ (aa a ac (aq 26 a (E0 ⟨#[49]⟩ 46 (by intro i hi;obtain rfl:i=0:=(by have:i<1:=hi;omega);show aU ⟨#[49]⟩ 0≠46;decide) _ _ a.g) (fun y z a=>lL a [.c,.v (.string (⟨#[49]⟩)),.v (eS),.v qF,.c,.c,.c] (aG (lL a ac (ah (cK (aa a ac (aq 38 a (Dt _ _ a.g) (fun f p a=>lL a [.c,.v (iv ((1:Nat):Int)),.v qT] (lA 10 42 ([qF,uV 0,eS]) a (fun e _ _ a=>lP 0 0 (ic ((1:Nat):Int)) a (fun _ a=>lL a ac (aG (lL a [.o (iv ((1:Nat):Int)) 0 0 3,.v (.agg #[.bool (af ((1:Nat):Int)),uV (lo (ab ((1:Nat):Int))),.string (hi (ab ((1:Nat):Int))),uV 0,eS]),.c] (lP 1 0 ([.bool (af ((1:Nat):Int)),uV (lo (ab ((1:Nat):Int))),.string (hi (ab ((1:Nat):Int))),uV 0,eS]) a (fun _ a=>lL a ac (ae a [(1,0,5)] (.tuple #[.agg #[.bool (af ((1:Nat):Int)),uV (lo (ab ((1:Nat):Int))),.string (hi (ab ((1:Nat):Int))),uV 0,eS],qT]) (congrArg (fun b=>Value.tuple #[b,qT]) (jt (d:=0) (Rat.num_natCast 1) (me (Rat.den_natCast 1))))))))))))))))))))))))))))))))))
def Iu (x:ByteArray):Option Rat:=if x=⟨#[49]⟩ then some ((1:Nat):Rat) else none
theorem FS:GC Iu:=fun x q h w a g _=>by
 unfold Iu at h
 split at h
 ·rename_i e;subst e;injection h with h;subst h;exact Ej w a g
 ·cases h
theorem JW:∀ s,ge s->∀ (w:World) (h:Hp),G w h->Calls Tryz.prog 52 #[.string s] w (Ret w h (fun v _=>∃ b,v=.bool b/\b=dr s)):=fun s c w h g=>(GP s (by unfold ge at c;omega) w h g).mono fun e w' ⟨v,a,e1,u,e2⟩=>⟨v,a,e1,u,_,e2,rfl⟩
theorem TmH.cut {ok:ByteArray->Prop}{h:Hp}:∀ {e d:Nat} {p:PTm} {t:Tm},TmH e h p t->WfT ok d t->TmH d h p t
 | _,0,_,_,_,x=>x.elim
 | 0,_,_,_,x,_=>x.elim
 | e+1,d+1,p,t,⟨h1,h2,h3,h4,h5,h6,ps,h7,h8,h9⟩,⟨_,_,_,_,_,_,_,_,k⟩=>⟨h1,h2,h3,h4,h5,h6,ps,h7,h8,fun i hi=>(h9 i hi).cut (k i hi)⟩
theorem PtH.cut {ok:ByteArray->Prop}{h:Hp}{d:Nat}{p:PTm}{t:Tm}(x:PtH h p t)(y:WfT ok d t):TmH d h p t:=by obtain ⟨e,x⟩:=x;exact x.cut y
theorem wD (s:ByteArray)(O:s.size<=65536)(n:Nat)(t:Tm)(b:Nat)(L:gc Iu s n .sum 0=some (.ok t b))(D:sk s b=s.size)(d:Nat)(H:d<=24)(i:WfT (fun s=>dr s=true) d t)(Y:ce d t<=1000)(w:World)(h:Hp)(g:G w h)(S:Tab h):CR 29 #[.string s] w h (fun v h1=>∃ p,v=.tuple #[bO p,.agg #[iV 0,iV 0,iV 0]]/\TmH d h1 p t):=by
 have a:=((sS g).aB S);refine go Tryz.func29 [(0,.string s)] rfl (ax (lA 2 50 a7 a (fun B w2 W a=>lA 3 84 ([iV 0,iV 0,iV 0]) a (fun C V U a=>ag (aa a [.c,.v (nV s.size)] ?_)))));have y:(decide ((65536:Int)<(s.size:Int)))=false:=decide_eq_false oM;refine lB 9 y (ah (cK (aa a [.c,.v (.agg #[.string s,iV 0,iV 0])] (lA 14 131 ([.string s,iV 0,iV 0]) a (fun b8 X _ a=>lL a ac (aG (lL a ac (gh 16 ((Ko FS n).1 b8 s oM 0 (My _) 0 t b L _ _ a.g (a.own 0) (a.jk 0) a.f.1) ?_))))))));rintro _ _ _ j ⟨z,p,rfl,u,M,J,I⟩;replace a:=(a.stepM 0 j M).to [⟨b8,131,[.string s,nV b,iV 0]⟩,⟨C,84,[iV 0,iV 0,iV 0]⟩,⟨B,50,[iV 0,iV 0,qF,uV 0,eS,uV 0,eS,eS,sZ]⟩] [];replace a:=((a.a_Seg J).add (K:=fun l=>PtH l p t) I);refine lL a ac (ag (aa a [.c,.v qT] (am (aa a ac (gh 20 (xI b8 s oM b u 0 _ _ a.g (a.own 0) (a.jk 0) a.f.r.1) ?_)))));rintro _ _ _ x ⟨rfl,e⟩;rw[D] at e
 rw[D];replace a:=(a.stepM 0 x e).to [⟨b8,131,[.string s,nV s.size,iV 0]⟩,⟨C,84,[iV 0,iV 0,iV 0]⟩,⟨B,50,[iV 0,iV 0,qF,uV 0,eS,uV 0,eS,eS,sZ]⟩] [];refine aG (lL a [.c,.v (pB b8),.v (qP b8 1),.o (nV s.size) 0 1 1,.c,.v (nV s.size)] ?_);have Q:(decide ((s.size:Int)<(s.size:Int)))=false:=decide_eq_false oM;refine lB 27 Q (ah (cK (cQ (aa a [.c,.v qF] (ah (cK (cQ (aa a [.c,.v (pB z)] (lH 44 (bO p) a a.f.2.1 ?_)))))))));refine aq 45 a ((by have F:=I5 dr ge JW (fun s l=>pe l) Ei d p t H _ _ a.g ((a.f.1).cut i) i;rw[if_neg oM] at F;exact F)) (fun _ _ a=>lL a ac (aG (lL a [.c,.v qF] (ah (cK (aa a [.c,.v (pB z)] (lH 53 (bO p) a a.f.2.1 ?_)))))));exact lL a [.v (.agg #[iV 0,iV 0,iV 0])] (lP 2 0 (da p) a (fun _ a=>lP 1 0 ([iV 0,iV 0,iV 0]) a (fun _ a=>ae a [(2,0,9),(1,0,3)] (.tuple #[bO p,.agg #[iV 0,iV 0,iV 0]]) (⟨p,rfl,(a.f.1).cut i⟩))))
theorem ru (y:Z9)(B x:Nat)(z:Z9)(e j:Nat)(n:Nat)(hn:n<=12)(q:Rat)(hk:Hp)(w:World)(h:Hp)(g:G w h)(hz:hk.size<=h.size):CR 305 #[.agg #[.slice y B x,.slice z e j,nV n],qv q] w h (fun v h1=>∃ I,v=.slice (sB I) (n+1) (n+1)/\Nw hk.size h1 I 44 ((gj (n+1) q).flatMap qc)):=by
 have a:=sS g;have F:(zY (n+1) (0:Rat)).length=n+1:=NL;refine go Tryz.func305 [(0,.agg #[qS y B x,qS z e j,nV n]),(1,qv q)] rfl (ax (lA 2 183 ([qS y B x,qS z e j,nV n]) a (fun D w2 O a=>lA 3 44 (qc q) a (fun H M L a=>lL a ac (aG (lL a [.v (qP D 2),.o (nV n) 1 2 1] (bp 8 ((n:Nat)+1) (n+1) ?_)))))));refine lK 9 44 (n+1) 5 56 ca qc 0 a (fun C Q S a=>?_);have K:(zY (n+1) (0:Rat)).length=(n+1):=by simp
 refine lL a ac (aG (lL a [.c,.o (qv q) 1 0 5] (lX 12 (sB C) (n+1) (n+1) 5 0 0 rfl ?_)));refine lW 0 (zY (n+1) (0:Rat)) qc 5 0 q a oM (fun _ a=>?_);have J:((zY (n+1) (0:Rat)).set 0 q).length=(n+1):=by rw[Mg];exact K
 replace a:=a.to [⟨C,44,((zY (n+1) (0:Rat)).set 0 q).flatMap qc⟩,⟨H,44,qc q⟩,⟨D,183,[qS y B x,qS z e j,nV n]⟩] [];refine aG (lL a aD (lN (kX ?_)));obtain ⟨_,a,i,p,u⟩:=a.pub 0;replace a:=(a.to [⟨H,44,qc q⟩,⟨D,183,[qS y B x,qS z e j,nV n]⟩] []).aS (SlO.of_flat (sz:=5) (f:=qc) (d:=0) (b:=C) (o:=0) (l:=(zY (n+1) (0:Rat)).set 0 q) (fun _=>rfl) i);exact a.ret [] (qS (sB C) (n+1) (n+1)) (⟨_,rfl,ep hz p,by decide,u⟩)
theorem v8 (j:Z9)(x i:Nat)(p:Z9)(a c:Nat)(n:Nat)(hn:n<=12)(q:Rat)(w:World)(h:Hp)(g:G w h):Calls Tryz.prog 305 #[.agg #[.slice j x i,.slice p a c,nV n],qv q] w (Ret w h (fun v h1=>∃ y,v=.slice (sB y) (gj (n+1) q).length (n+1)/\Sq (sB y) (gj (n+1) q) h1)) :=
 (ru j x i p a c n hn q h w h g (nR _)).mono fun e w' ⟨v,z,e1,u,b,e2,B⟩=>⟨v,z,e1,u,b,by rw[qu];exact e2,SlO.of_flat (sz:=5) (f:=qc) (d:=0) (b:=b) (o:=0) (l:=gj (n+1) q) (fun _=>rfl) B.seg0⟩
theorem IW (z:Z9)(D y:Nat)(B:Z9)(u F:Nat)(n:Nat)(hn:n<=12)(e:List Rat)(x:Z9)(H:Nat)(hla:e.length=n+1)(O:∀ i,LQ 39500000 (e.getD i 0))(j:List Rat)(C:Z9)(M:Nat)(hlb:j.length=n+1)(I:∀ i,LQ 39500000 (j.getD i 0))(w:World)(h:Hp)(g:G w h)(U:Sq x e h)(V:Sq C j h)(tb:Tab h):CR 300 #[.agg #[.slice z D y,.slice B u F,nV n],.slice x e.length H,.slice C j.length M] w h (fun v h1=>∃ bk,v=.slice (sB bk) (oy (n+1) e j).length (n+1)/\Sq (sB bk) (oy (n+1) e j) h1):=by
 have a:=((((sS g).aS U).aS V).aB tb);refine go Tryz.func300 [(0,.agg #[qS z D y,qS B u F,nV n]),(1,qS x e.length H),(2,qS C j.length M)] rfl (ax (lA 3 183 ([qS z D y,qS B u F,nV n]) a (fun J w2 h3 a=>lL a ac (aG (lL a [.v (qP J 2),.o (nV n) 0 2 1] (bp 11 ((n:Nat)+1) (n+1) ?_))))));refine lK 12 44 (n+1) 5 56 ca qc 0 a (fun p w5 h6 a=>?_);have hl7:(zY (n+1) 0).length=(n+1):=by simp
 refine lL a ac (ag (aa a [.c,.v (nV (n+1)),.c] (aZ ?_)));refine bH _ (CG.loop (fun W Γ w_=>∃ (k:Nat)(L:List Rat)(Y:Hp),W=n+1-k/\Γ=[(1,qS x e.length H),(2,qS C j.length M),(6,sZ),(7,qS (sB p) (n+1) (n+1)),(14,nV (n+1)),(15,nV k)]/\SS w h w_ Y [⟨p,44,(L).flatMap qc⟩,⟨J,183,[qS z D y,qS B u F,nV n]⟩] [] [fun Y=>Tab Y,Sq C j,Sq x e]/\k<=n+1/\L.length=n+1/\L=d9 (fun i=>e.getD i 0+j.getD i 0) (n+1) k) _ ⟨0,(zY (n+1) (0:Rat)),h6,rfl,rfl,a.to _ _,My _,NL,(jd _ _)⟩ ?_);rintro _ _ w8 ⟨k,L,h9,bl,rfl,a,hk,X,Z⟩;refine ax ?_;cases Q:(decide ((k:Int)<(((n+1):Nat):Int)))
 .
  have zb:=oF Q;refine lB 16 Q (ag (dD (CG.exit ?_)))
  show CG _ _ _ _ _ _ _ _
  refine aa a aD (lN (kX ?_));have S:k=n+1:=by omega
  rw[S,fV] at Z
  subst Z;replace a:=a.to [⟨p,44,(((ov (n+1)).map fun i=>e.getD i 0+j.getD i 0)).flatMap qc⟩,⟨J,183,[qS z D y,qS B u F,nV n]⟩] [];obtain ⟨_,a,K,bd,bb⟩:=a.pub 0;replace a:=(a.to [⟨J,183,[qS z D y,qS B u F,nV n]⟩] []).aS (SlO.of_flat (sz:=5) (f:=qc) (d:=0) (b:=p) (o:=0) (l:=((ov (n+1)).map fun i=>e.getD i 0+j.getD i 0)) (fun _=>rfl) K);exact a.ret [] (qS (sB p) (n+1) (n+1)) (⟨_,by rw[wP],a.f.1⟩)
 have zb:=oT Q;refine lB 16 Q (ag (ct (cK (cQ (kZ (aa a aD (lN (cR 11 [] mixed a ao ?_))))))));refine eV 0 18 (qS (sB p) (n+1) (n+1)) (eV 1 19 (nV k) (eV 2 20 (qS x e.length H) (eV 3 21 (nV k) (eX 4 22 x e.length H 5 (k:Nat) k ((a.f.r.1).ok oM) (eH 5 23 (qv (e.getD k 0)) a ((a.f.r.1).el k oM) (eV 6 24 (qS C j.length M) (eV 7 25 (nV k) (eX 8 26 C j.length M 5 (k:Nat) k ((a.f.2.1).ok oM) (eH 9 27 (qv (j.getD k 0)) a ((a.f.2.1).el k oM) ?_)))))))));have bf:=LQ.add (O k) (I k);refine au 10 28 a (fun _ _ a=>sq (e.getD k 0) (j.getD k 0) (LQ.mono (O k) oM) (LQ.mono (I k) oM) _ _ a.g a.f.1) (fun _ _ a=>bU a (fun _ zd a=>tX 11 29 (sB p) (n+1) (n+1) 5 (k:Nat) k rfl (tW 12 0 L qc 5 k ((e.getD k 0)+(j.getD k 0)) a oM (fun _ a=>?_))));have zc:((L).set k ((e.getD k 0)+(j.getD k 0))).length=(n+1):=by rw[Mg];exact X
 replace a:=a.to [⟨p,44,((L).set k ((e.getD k 0)+(j.getD k 0))).flatMap qc⟩,⟨J,183,[qS z D y,qS B u F,nV n]⟩] [];refine tN (kQ (bp 30 ((k:Nat)+1) (k+1) ?_));refine lL a ac (lD ?_);intro a_ ka;refine ⟨_,_,?_,⟨k+1,(L).set k ((e.getD k 0)+(j.getD k 0)),zd,rfl,rfl,a.to _ _,oM,zc,(by rw[Z];exact fW oM)⟩,ka.to _ kR⟩
 omega
theorem C2 (B:Z9)(D z:Nat)(C:Z9)(u y:Nat)(n:Nat)(hn:n<=12)(e:List Rat)(x:Z9)(F:Nat)(hla:e.length=n+1)(M:∀ i,LQ 39500000 (e.getD i 0))(j:Rat)(K:LQ 1 j)(w:World)(h:Hp)(g:G w h)(S:Sq x e h)(tb:Tab h):CR 306 #[.agg #[.slice B D z,.slice C u y,nV n],.slice x e.length F,qv j] w h (fun v h1=>∃ Z,v=.slice (sB Z) (jB (n+1) e j).length (n+1)/\Sq (sB Z) (jB (n+1) e j) h1):=by
 have a:=(((sS g).aS S).aB tb);refine go Tryz.func306 [(0,.agg #[qS B D z,qS C u y,nV n]),(1,qS x e.length F),(2,qv j)] rfl (ax (lA 3 183 ([qS B D z,qS C u y,nV n]) a (fun H w2 h3 a=>lA 5 44 (qc j) a (fun J w5 h6 a=>lL a ac (aG (lL a [.v (qP H 2),.o (nV n) 1 2 1] (bp 11 ((n:Nat)+1) (n+1) ?_)))))));refine lK 12 44 (n+1) 5 56 ca qc 0 a (fun p w8 h9 a=>?_);have bb:(zY (n+1) 0).length=(n+1):=by simp
 refine lL a ac (ag (aa a [.c,.v (nV (n+1)),.c] (aZ ?_)));refine bH _ (CG.loop (fun U Γ w_=>∃ (k:Nat)(L:List Rat)(W:Hp),U=n+1-k/\Γ=[(1,qS x e.length F),(5,pB J),(6,sZ),(7,qS (sB p) (n+1) (n+1)),(14,nV (n+1)),(15,nV k)]/\SS w h w_ W [⟨p,44,(L).flatMap qc⟩,⟨J,44,qc j⟩,⟨H,183,[qS B D z,qS C u y,nV n]⟩] [] [fun W=>Tab W,Sq x e]/\k<=n+1/\L.length=n+1/\L=d9 (fun i=>e.getD i 0*j) (n+1) k) _ ⟨0,(zY (n+1) (0:Rat)),h9,rfl,rfl,a.to _ _,My _,NL,(jd _ _)⟩ ?_);rintro _ _ _ ⟨k,L,_,bd,rfl,a,hk,V,X⟩;refine ax ?_;cases O:(decide ((k:Int)<(((n+1):Nat):Int)))
 .
  have zb:=oF O;refine lB 16 O (ag (dD (CG.exit ?_)))
  show CG _ _ _ _ _ _ _ _
  refine aa a aD (lN (kX ?_));have Q:k=n+1:=by omega
  rw[Q,fV] at X
  subst X;replace a:=a.to [⟨p,44,(((ov (n+1)).map fun i=>e.getD i 0*j)).flatMap qc⟩,⟨J,44,qc j⟩,⟨H,183,[qS B D z,qS C u y,nV n]⟩] [];obtain ⟨_,a,I,bf,bl⟩:=a.pub 0;replace a:=(a.to [⟨J,44,qc j⟩,⟨H,183,[qS B D z,qS C u y,nV n]⟩] []).aS (SlO.of_flat (sz:=5) (f:=qc) (d:=0) (b:=p) (o:=0) (l:=((ov (n+1)).map fun i=>e.getD i 0*j)) (fun _=>rfl) I);exact a.ret [] (qS (sB p) (n+1) (n+1)) (⟨_,by rw[rr],a.f.1⟩)
 have zb:=oT O;refine lB 16 O (ag (ct (cK (cQ (kZ (aa a aD (lN (cR 8 [] mixed a ao ?_))))))));refine eV 0 18 (qS (sB p) (n+1) (n+1)) (eV 1 19 (nV k) (eV 2 20 (qS x e.length F) (eV 3 21 (nV k) (eX 4 22 x e.length F 5 (k:Nat) k ((a.f.2.1).ok oM) (eH 5 23 (qv (e.getD k 0)) a ((a.f.2.1).el k oM) (eO 6 24 [(1,0,5)] (qv j) a ?_))))));have Y:=LQ.mul (M k) K;refine au 7 25 a (fun _ _ a=>kP (e.getD k 0) j (LQ.mono (M k) oM) (LQ.mono K oM) _ _ a.g a.f.1) (fun _ _ a=>bU a (fun _ zd a=>tX 8 26 (sB p) (n+1) (n+1) 5 (k:Nat) k rfl (tW 9 0 L qc 5 k ((e.getD k 0)*j) a oM (fun _ a=>?_))));have zc:((L).set k ((e.getD k 0)*j)).length=(n+1):=by rw[Mg];exact V
 replace a:=a.to [⟨p,44,((L).set k ((e.getD k 0)*j)).flatMap qc⟩,⟨J,44,qc j⟩,⟨H,183,[qS B D z,qS C u y,nV n]⟩] [];refine tN (kQ (bp 27 ((k:Nat)+1) (k+1) ?_));refine lL a ac (lD ?_);intro a_ ka;refine ⟨_,_,?_,⟨k+1,(L).set k ((e.getD k 0)*j),zd,rfl,rfl,a.to _ _,oM,zc,(by rw[X];exact fW oM)⟩,ka.to _ kR⟩
 omega
theorem JE (F:Z9)(I D:Nat)(H:Z9)(B J:Nat)(n:Nat)(hn:n<=12)(e:List Rat)(y:Z9)(Q:Nat)(hla:e.length=n+1)(Z:∀ i,LQ 39500000 (e.getD i 0))(p:List Rat)(z:Z9)(U:Nat)(hlb:p.length=n+1)(V:∀ i,LQ 39500000 (p.getD i 0))(hcv:∀ i j,i<=n->j<=i+1->LQ 39500000 (gi e p i j))(w:World)(h:Hp)(g:G w h)(hSa:Sq y e h)(hSb:Sq z p h)(tb:Tab h):CR 304 #[.agg #[.slice F I D,.slice H B J,nV n],.slice y e.length Q,.slice z p.length U] w h (fun v h1=>∃ bk,v=.slice (sB bk) (kl (n+1) e p).length (n+1)/\Sq (sB bk) (kl (n+1) e p) h1):=by
 have a:=((((sS g).aS hSa).aS hSb).aB tb);refine go Tryz.func304 [(0,.agg #[qS F I D,qS H B J,nV n]),(1,qS y e.length Q),(2,qS z p.length U)] rfl (ax (lA 3 183 ([qS F I D,qS H B J,nV n]) a (fun S w2 h3 a=>lL a ac (aG (lL a [.v (qP S 2),.o (nV n) 0 2 1] (bp 12 ((n:Nat)+1) (n+1) ?_))))));refine lK 13 44 (n+1) 5 56 ca qc 0 a (fun x w5 h6 a=>?_);have hl7:(zY (n+1) 0).length=(n+1):=by simp
 refine lL a ac (ag (aa a [.c,.v (nV (n+1)),.c] (aZ ?_)));refine bH _ (CG.loop (fun K Γ w_=>∃ (i:Nat)(L:List Rat)(M:Hp),K=n+1-i/\Γ=[(1,qS y e.length Q),(2,qS z p.length U),(6,sZ),(7,qS (sB x) (n+1) (n+1)),(15,nV (n+1)),(16,nV i)]/\SS w h w_ M [⟨x,44,(L).flatMap qc⟩,⟨S,183,[qS F I D,qS H B J,nV n]⟩] [] [fun M=>Tab M,Sq z p,Sq y e]/\i<=n+1/\L.length=n+1/\L=d9 (fun Y=>gi e p Y (Y+1)) (n+1) i) _ ⟨0,(zY (n+1) (0:Rat)),h6,rfl,rfl,a.to _ _,My _,NL,(jd _ _)⟩ ?_);rintro _ _ w8 ⟨i,L,h9,bm,rfl,a,hi,hL1,hL⟩;refine ax ?_;cases za:(decide ((i:Int)<(((n+1):Nat):Int)))
 .
  have zd:=oF za;refine lB 17 za (ag (dD (CG.exit ?_)))
  show CG _ _ _ _ _ _ _ _
  refine aa a aD (lN (kX ?_));have hkm:i=n+1:=by omega
  rw[hkm,Do] at hL
  subst hL;replace a:=a.to [⟨x,44,((kl (n+1) e p)).flatMap qc⟩,⟨S,183,[qS F I D,qS H B J,nV n]⟩] [];obtain ⟨_,a,W,bf,bb⟩:=a.pub 0;replace a:=(a.to [⟨S,183,[qS F I D,qS H B J,nV n]⟩] []).aS (SlO.of_flat (sz:=5) (f:=qc) (d:=0) (b:=x) (o:=0) (l:=(kl (n+1) e p)) (fun _=>rfl) W);exact a.ret [] (qS (sB x) (n+1) (n+1)) (⟨_,by rw[BM],a.f.1⟩)
 have zd:=oT za;refine lB 17 za (ag (ct (cK (cQ (kZ (aa a aD (aG (lL a ac (bp 20 ((i:Nat)+1) (i+1) ?_)))))))));refine lL a ac (aZ ?_);refine bH _ (CG.loop (fun K Γ w_=>∃ (j:Nat)(u:List Rat)(M:Hp),K=i+1-j/\Γ=[(1,qS y e.length Q),(2,qS z p.length U),(6,sZ),(7,qS (sB x) (n+1) (n+1)),(15,nV (n+1)),(16,nV i),(8,nV i),(20,nV (i+1)),(21,nV j)]/\SS w h w_ M [⟨x,44,(u).flatMap qc⟩,⟨S,183,[qS F I D,qS H B J,nV n]⟩] [] [fun M=>Tab M,Sq z p,Sq y e]/\j<=i+1/\u.length=n+1/\u=(d9 (fun Y=>gi e p Y (Y+1)) (n+1) i).set i (gi e p i j)) _ ⟨0,L,h9,rfl,rfl,a.to _ _,My _,hL1,(by rw[hL];exact Fl oM)⟩ ?_);rintro _ _ _ ⟨j,u,zg,bd,rfl,a,hj,X,O⟩;have C:LQ 39500000 (u.getD i 0):=by rw[O,Hm (j8 _ _ _) oM];exact hcv i j oM hj
 refine ax ?_;cases zb:(decide ((j:Int)<((i+1:Nat):Int)))
 .
  have ze:=oF zb;refine lB 22 zb (ag (dD (CG.exit ?_)))
  show CG _ _ _ _ _ _ _ _
  refine kQ (bp 44 ((i:Nat)+1) (i+1) ?_);refine lL a ac (lD ?_);intro a_ ka;refine ⟨_,_,?_,⟨i+1,u,zg,rfl,rfl,a.to _ _,oM,X,(by rw[O];exact Ew oM oM)⟩,ka.to _ kR⟩
  omega
 have ze:=oT zb;refine lB 22 zb (ag (ct (cK (cQ (kZ (aa a aD (lN (cR 18 [] mixed a ao ?_))))))));refine eV 0 24 (qS (sB x) (n+1) (n+1)) (eV 1 25 (nV i) (eV 2 26 (qS (sB x) (n+1) (n+1)) (eV 3 27 (nV i) (eX 4 28 (sB x) (n+1) (n+1) 5 (i:Nat) i rfl (eQ 5 29 0 u qc 5 0 i (qv ((u).getD i 0)) a oM (eV 6 30 (qS y e.length Q) (eV 7 31 (nV j) (eX 8 32 y e.length Q 5 (j:Nat) j ((a.f.r.1).ok oM) (eH 9 33 (qv (e.getD j 0)) a ((a.f.r.1).el j oM) (eV 10 34 (qS z p.length U) (eV 11 35 (nV i) (eV 12 36 (nV j) (eI 13 37 ((i:Nat)-(j:Nat)) (eX 14 38 z p.length U 5 ((i:Nat)-(j:Nat)) (i-j) ((a.f.2.1).ok oM) (eH 15 39 (qv (p.getD (i-j) 0)) a ((a.f.2.1).el (i-j) oM) ?_)))))))))))))));have zc:=LQ.mul (Z j) (V (i-j));refine au 16 40 a (fun _ _ a=>kP (e.getD j 0) (p.getD (i-j) 0) (LQ.mono (Z j) oM) (LQ.mono (V (i-j)) oM) _ _ a.g a.f.1) (fun _ _ a=>?_);have bl:=LQ.add C zc;refine au 17 41 a (fun _ _ a=>sq ((u).getD i 0) ((e.getD j 0)*(p.getD (i-j) 0)) (LQ.mono C oM) (LQ.mono zc oM) _ _ a.g a.f.1) (fun _ _ a=>bU a (fun _ zi a=>tX 18 42 (sB x) (n+1) (n+1) 5 (i:Nat) i rfl (tW 19 0 u qc 5 i (((u).getD i 0)+((e.getD j 0)*(p.getD (i-j) 0))) a oM (fun _ a=>?_))));have zf:((u).set i (((u).getD i 0)+((e.getD j 0)*(p.getD (i-j) 0)))).length=(n+1):=by rw[Mg];exact X
 replace a:=a.to [⟨x,44,((u).set i (((u).getD i 0)+((e.getD j 0)*(p.getD (i-j) 0)))).flatMap qc⟩,⟨S,183,[qS F I D,qS H B J,nV n]⟩] [];refine tN (kQ (bp 43 ((j:Nat)+1) (j+1) ?_));refine lL a ac (lD ?_);intro a_ ka;refine ⟨_,_,?_,⟨j+1,(u).set i (((u).getD i 0)+((e.getD j 0)*(p.getD (i-j) 0))),zi,rfl,rfl,a.to _ _,oM,zf,(by rw[O];exact Hf (j8 _ _ _) oM)⟩,ka.to _ kR⟩
 omega
theorem Bv (F:Z9)(J D:Nat)(H:Z9)(C K:Nat)(n:Nat)(hn:n<=12)(e:List Rat)(y:Z9)(M:Nat)(hla:e.length=n+1)(I:∀ i,LQ 39500000 (e.getD i 0))(hz:e.getD 0 0≠0)(hvi:∀ i,LQ 39500000 ((gR (n+1) e).getD i 0))(hcv:∀ i j,i<=n->j<=i->LQ 39500000 (gi (gR (n+1) e) e i j))(w:World)(h:Hp)(g:G w h)(hSa:Sq y e h)(tb:Tab h):CR 303 #[.agg #[.slice F J D,.slice H C K,nV n],.slice y e.length M] w h (fun v h1=>∃ bk,v=.slice (sB bk) (gR (n+1) e).length (n+1)/\Sq (sB bk) (gR (n+1) e) h1):=by
 have a:=(((sS g).aS hSa).aB tb);have bd:(zY (n+1) (0:Rat)).length=n+1:=NL;refine go Tryz.func303 [(0,.agg #[qS F J D,qS H C K,nV n]),(1,qS y e.length M)] rfl (ax (lA 2 183 ([qS F J D,qS H C K,nV n]) a (fun B w2 h3 a=>lL a ac (aG (lL a [.v (qP B 2),.o (nV n) 0 2 1] (bp 11 ((n:Nat)+1) (n+1) ?_))))));refine lK 12 44 (n+1) 5 56 ca qc 0 a (fun p w5 h6 a=>?_);have hl7:(zY (n+1) (0:Rat)).length=(n+1):=by simp
 refine lL a ac (ag (cR 9 [] mixed a ao ?_));refine eV 0 14 (qS (sB p) (n+1) (n+1)) (eV 2 16 (qS y e.length M) (eX 3 17 y e.length M 5 0 0 ((a.f.2.1).ok oM) (eH 4 18 (qv (e.getD 0 0)) a ((a.f.2.1).el 0 oM) (au 1 15 a (fun _ _ a=>BC (1) kD kD _ _ a.g) (fun w8 h9 a=>?_)))));have bb:=LQ.div (LQ.lit (z:=1) kD) (I 0);refine au 5 19 a (fun _ _ a=>Ey ((1:Int):Rat) (e.getD 0 0) (LQ.mono (LQ.lit (z:=1) kD) oM) (LQ.mono (I 0) oM) (uJ hz) _ _ a.g a.f.1) (fun _ _ a=>eV 6 13 (.tuple #[qv (((1:Int):Rat)/(e.getD 0 0)),qT]) (eV 7 20 (qv (((1:Int):Rat)/(e.getD 0 0))) (eV 8 21 qT (bU a (fun _ zj a=>tX 9 22 (sB p) (n+1) (n+1) 5 0 0 rfl (tW 10 0 (zY (n+1) (0:Rat)) qc 5 0 (((1:Int):Rat)/(e.getD 0 0)) a oM (fun _ a=>?_)))))));have bq:((zY (n+1) (0:Rat)).set 0 (((1:Int):Rat)/(e.getD 0 0))).length=(n+1):=by rw[Mg];exact hl7
 replace a:=a.to [⟨p,44,((zY (n+1) (0:Rat)).set 0 (((1:Int):Rat)/(e.getD 0 0))).flatMap qc⟩,⟨B,183,[qS F J D,qS H C K,nV n]⟩] [];refine tN (cQ (aa a ac (aZ ?_)));refine bH _ (CG.loop (fun O Γ Z=>∃ (i:Nat)(L:List Rat)(Q:Hp),O=n+1-i/\Γ=[(1,qS y e.length M),(2,pB B),(4,sZ),(5,qS (sB p) (n+1) (n+1)),(6,nV i)]/\SS w h Z Q [⟨p,44,(L).flatMap qc⟩,⟨B,183,[qS F J D,qS H C K,nV n]⟩] [] [fun Q=>Tab Q,Sq y e]/\(1<=i/\i<=n+1)/\L.length=n+1/\L=(gG e (n+1) i)) _ ⟨1,(gG e (n+1) 1),zj,rfl,rfl,a.to _ _,⟨nR _,by omega⟩,(gf _ _ _),rfl⟩ ?_);rintro _ _ _ ⟨i,L,_,bl,rfl,a,hi,hL1,S⟩;have x:∀ k,LQ 39500000 (L.getD k 0):=fun k=>by rw[S];exact D5 kD hvi hi.2 k
 refine cQ (aa a [.c,.v (qP B 2),.o (nV n) 1 2 1] ?_);cases W:(decide ((i:Int)<=(n:Int)))
 .
  have zf:=oF W;refine lB 26 W (ah (CG.exit ?_))
  show CG _ _ _ _ _ _ _ _
  refine aa a aD (lN (kX ?_));have Y:i=n+1:=by omega
  rw[Y] at S
  replace S:L=gR (n+1) e:=S;subst S;replace a:=a.to [⟨p,44,((gR (n+1) e)).flatMap qc⟩,⟨B,183,[qS F J D,qS H C K,nV n]⟩] [];obtain ⟨_,a,U,bn,bm⟩:=a.pub 0;replace a:=(a.to [⟨B,183,[qS F J D,qS H C K,nV n]⟩] []).aS (SlO.of_flat (sz:=5) (f:=qc) (d:=0) (b:=p) (o:=0) (l:=(gR (n+1) e)) (fun _=>rfl) U);exact a.ret [] (qS (sB p) (n+1) (n+1)) (⟨_,by rw[pS],a.f.1⟩)
 have zf:=oT W;refine lB 26 W (am (cK (cQ (kZ (aa a [.v ca] (lA 7 44 a6 a (fun zc _ zk a=>lP 0 0 a6 a (fun _ a=>ag (aa a aD (aZ ?_))))))))));refine bH _ (CG.loop (fun O Γ Z=>∃ (j:Nat)(Q:Hp),O=i-j/\Γ=[(1,qS y e.length M),(2,pB B),(4,sZ),(5,qS (sB p) (n+1) (n+1)),(6,nV i),(7,pB zc),(30,nV i),(31,nV j)]/\SS w h Z Q [⟨zc,44,qc (gi L e i j)⟩,⟨p,44,(L).flatMap qc⟩,⟨B,183,[qS F J D,qS H C K,nV n]⟩] [] [fun Q=>Tab Q,Sq y e]/\j<=i) _ ⟨0,zk,rfl,rfl,a.to _ _,My _⟩ ?_);rintro _ _ _ ⟨j,_,bf,rfl,a,hj⟩;have u:LQ 39500000 (gi L e i j):=by rw[S,Et hj hi.2];exact hcv i j oM hj
 refine ax ?_;cases X:(decide ((j:Int)<(i:Int)))
 .
  have zg:=oF X;refine lB 32 X (ag (dD (CG.exit ?_)))
  show CG _ _ _ _ _ _ _ _
  refine cR 8 [] mixed a ao (eV 0 48 (qS (sB p) (n+1) (n+1)) (eV 1 49 (nV i) ?_));have V:j=i:=by omega
  refine eO 2 50 [(0,0,5)] (qv (gi L e i j)) a (eV 3 51 (qS (sB p) (n+1) (n+1)) (eX 4 52 (sB p) (n+1) (n+1) 5 0 0 rfl (eQ 5 53 1 L qc 5 0 0 (qv ((L).getD 0 0)) a oM ?_)));have zd:=LQ.mul u (x 0);refine au 6 54 a (fun _ _ a=>kP (gi L e i j) ((L).getD 0 0) (LQ.mono u oM) (LQ.mono (x 0) oM) _ _ a.g a.f.1) (fun _ _ a=>?_);have br:LQ (39500000+39500000) (-((gi L e i j)*((L).getD 0 0))):=LQ.neg zd;refine au 7 55 a (fun _ _ a=>Iv ((gi L e i j)*((L).getD 0 0)) (LQ.mono zd oM) _ _ a.g) (fun _ _ a=>bU a (fun _ zl a=>tX 8 56 (sB p) (n+1) (n+1) 5 (i:Nat) i rfl (tW 9 1 L qc 5 i (-((gi L e i j)*((L).getD 0 0))) a oM (fun _ a=>?_))));have zi:((L).set i (-((gi L e i j)*((L).getD 0 0)))).length=(n+1):=by rw[Mg];exact hL1
  replace a:=a.to [⟨zc,44,qc (gi L e i j)⟩,⟨p,44,((L).set i (-((gi L e i j)*((L).getD 0 0)))).flatMap qc⟩,⟨B,183,[qS F J D,qS H C K,nV n]⟩] [];refine tN (kQ (lL a ac (bp 28 ((i:Nat)+1) (i+1) ?_)));refine lL a ac (lD ?_);intro a_ ka;replace a:=a.drop 1 0;refine ⟨_,_,?_,⟨i+1,(L).set i (-((gi L e i j)*((L).getD 0 0))),zl,rfl,rfl,a.to _ _,oM,zi,(by rw[V,S];exact FI hi.1)⟩,ka.to _ kR⟩
  omega
 have zg:=oT X;refine lB 32 X (ag (ct (cK (cQ (kZ (aa a aD (lN (cR 13 [] mixed a ao ?_))))))));refine eO 0 34 [(0,0,5)] (qv (gi L e i j)) a (eV 1 35 (qS (sB p) (n+1) (n+1)) (eV 2 36 (nV j) (eX 3 37 (sB p) (n+1) (n+1) 5 (j:Nat) j rfl (eQ 4 38 1 L qc 5 0 j (qv ((L).getD j 0)) a oM (eV 5 39 (qS y e.length M) (eV 6 40 (nV i) (eV 7 41 (nV j) (eI 8 42 ((i:Nat)-(j:Nat)) (eX 9 43 y e.length M 5 ((i:Nat)-(j:Nat)) (i-j) ((a.f.2.1).ok oM) (eH 10 44 (qv (e.getD (i-j) 0)) a ((a.f.2.1).el (i-j) oM) ?_))))))))));have ze:=LQ.mul (x j) (I (i-j));refine au 11 45 a (fun _ _ a=>kP ((L).getD j 0) (e.getD (i-j) 0) (LQ.mono (x j) oM) (LQ.mono (I (i-j)) oM) _ _ a.g a.f.1) (fun _ _ a=>?_);have bt:=LQ.add u ze;refine au 12 46 a (fun _ _ a=>sq (gi L e i j) (((L).getD j 0)*(e.getD (i-j) 0)) (LQ.mono u oM) (LQ.mono ze oM) _ _ a.g a.f.1) (fun _ _ a=>bU a (fun _ zm a=>tP 13 0 0 (qc ((gi L e i j)+(((L).getD j 0)*(e.getD (i-j) 0)))) a (fun _ a=>tN (kQ (bp 47 ((j:Nat)+1) (j+1) ?_)))));refine lL a ac (lD ?_);intro a_ ka;refine ⟨_,_,?_,⟨j+1,zm,rfl,rfl,a.to _ _,oM⟩,ka.to _ kR⟩
 omega
theorem JX (l:Z9)(p j:Nat)(o:Z9)(d u:Nat)(n:Nat)(hn:n<=12)(b:List Rat)(c:Z9)(i:Nat)(x:b.length=n+1)(w:World)(h:Hp)(g:G w h)(e:Sq c b h):CV 301 #[.agg #[.slice l p j,.slice o d u,nV n],.slice c b.length i] w h (qv (b.getD 0 0)):=by
 have a:=((sS g).aS e);refine go Tryz.func301 [(0,.agg #[qS l p j,qS o d u,nV n]),(1,qS c b.length i)] rfl (ax (lA 2 183 ([qS l p j,qS o d u,nV n]) a (fun C w2 D a=>lA 4 44 a6 a (fun F B z a=>aG (lL a ac (lX 6 c b.length i 5 0 0 ((a.f.1).ok oM) ?_))))));exact lH 7 (qv (b.getD 0 0)) a ((a.f.1).el 0 oM) (lP 0 0 (qc (b.getD 0 0)) a (fun y a=>ae a [(0,0,5)] (qv (b.getD 0 0)) rfl))
theorem D4 (p:Z9)(j y:Nat)(u:Z9)(e x:Nat)(n:Nat)(hn:n<=12)(fs ws:List Rat)(hlf:fs.length=j)(hlw:ws.length=e)(i:Nat)(Y:i<j)(X:i<e)(w:World)(h:Hp)(g:G w h)(S:Sq p fs h)(Q:Sq u ws h):CR 302 #[.agg #[.slice p j y,.slice u e x,nV n],nV i] w h (fun v h1=>∃ W,v=.slice (sB W) (oE (n+1) (fs.getD i 0) (ws.getD i 0)).length (n+1)/\Sq (sB W) (oE (n+1) (fs.getD i 0) (ws.getD i 0)) h1):=by
 have a:=(((sS g).aS S).aS Q);have I:=qu (n+1) (fs.getD i 0);refine go Tryz.func302 [(0,.agg #[qS p j y,qS u e x,nV n]),(1,nV i)] rfl (ax (lA 2 183 ([qS p j y,qS u e x,nV n]) a (fun C w2 h3 a=>lL a ac (ag (cR 7 [] mixed a ao ?_)))));refine eO 0 6 [(0,0,3)] (.agg #[qS p j y,qS u e x,nV n]) a (eV 1 7 (pB C) (eO 2 8 [(0,0,1)] (qS p j y) a (eV 3 9 (nV i) (eX 4 10 p j y 5 (i:Nat) i ((a.f.2.1).ok oM) (eH 5 11 (qv (fs.getD i 0)) a ((a.f.2.1).el i oM) (eC 6 12 a (fun _ _ a=>ru p j y u e x n hn (fs.getD i 0) h _ _ a.g a.st.sz) ?_))))));rintro _ _ _ w4 h5 a ⟨z,rfl,J⟩;replace a:=(a.add (K:=fun Z=>Nw h.size Z z 44 ((gj (n+1) (fs.getD i 0)).flatMap qc)) J);refine bU a (fun w6 h7 a=>tV 7 5 (qS (sB z) (n+1) (n+1)) (tN (cQ ?_)));obtain ⟨h8,a⟩:=a.takeL (a.f.1).1 (a.f.1).2.2;replace a:=a.aS (S.gw a.st.up.gr.gw);replace a:=a.aS (Q.gw a.st.up.gr.gw);replace a:=a.to [⟨z,44,((gj (n+1) (fs.getD i 0))).flatMap qc⟩,⟨C,183,[qS p j y,qS u e x,nV n]⟩] [];refine aa a [.v (qP C 2),.o (nV n) 1 2 1] ?_;cases B:(decide ((0:Int)<(n:Int)))
 .
  have F:=oF B;refine lB 15 B (ah (cK (aa a aD (lN (kX ?_)))));obtain ⟨_,a,D,L,O⟩:=a.pub 0;replace a:=(a.to [⟨C,183,[qS p j y,qS u e x,nV n]⟩] []).aS (SlO.of_flat (sz:=5) (f:=qc) (d:=0) (b:=z) (o:=0) (l:=(gj (n+1) (fs.getD i 0))) (fun _=>rfl) D);exact a.ret [] (qS (sB z) (n+1) (n+1)) (⟨_,by rw[l7],(by rw[<-F5 _ _ oM];exact a.f.1)⟩)
 have F:=oT B;refine lB 15 B (am (kQ (lL a [.c,.v (qP C 1),.o (qS u e x) 1 1 1,.c] (lX 20 u e x 5 (i:Nat) i ((a.f.1).ok oM) ?_))));refine lH 21 (qv (ws.getD i 0)) a ((a.f.1).el i oM) (lX 22 (sB z) (n+1) (n+1) 5 1 1 rfl (lW 0 (gj (n+1) (fs.getD i 0)) qc 5 1 (ws.getD i 0) a oM (fun _ a=>?_)));have U:(((gj (n+1) (fs.getD i 0))).set 1 (ws.getD i 0)).length=n+1:=by rw[Mg];exact I
 replace a:=a.to [⟨z,44,(((gj (n+1) (fs.getD i 0))).set 1 (ws.getD i 0)).flatMap qc⟩,⟨C,183,[qS p j y,qS u e x,nV n]⟩] [];refine aG (lL a aD (lN (kX ?_)));obtain ⟨_,a,H,M,V⟩:=a.pub 0;replace a:=(a.to [⟨C,183,[qS p j y,qS u e x,nV n]⟩] []).aS (SlO.of_flat (sz:=5) (f:=qc) (d:=0) (b:=z) (o:=0) (l:=((gj (n+1) (fs.getD i 0))).set 1 (ws.getD i 0)) (fun _=>rfl) H);exact a.ret [] (qS (sB z) (n+1) (n+1)) (⟨_,by rw[l7],(by rw[<-GV _ _ oM];exact a.f.1)⟩)
theorem Cs (j:Z9)(o e:Nat)(l:Z9)(c d:Nat)(n:Nat)(hn:n<=12)(y:Nat)(b:List Rat)(p:Z9)(u:Nat)(z:b.length=n+1)(C:∀ i,LQ 39500000 (b.getD i 0))(w:World)(h:Hp)(g:G w h)(x:Sq p b h)(I:Tab h):CR 183 #[.agg #[.iface 183 (.agg #[.slice j o e,.slice l c d,nV n]),.map (some y),.bool true],.slice p b.length u] w h (fun v h1=>∃ D,v=.slice (sB D) (jB (n+1) b ((-1:Int):Rat)).length (n+1)/\Sq (sB D) (jB (n+1) b ((-1:Int):Rat)) h1):=by
 have a:=(((sS g).aS x).aB I);refine go Tryz.func183 [(0,.agg #[.iface 183 (.agg #[qS j o e,qS l c d,nV n]),.map (some y),qT]),(1,qS p b.length u)] rfl (ax (lA 2 187 ([.iface 183 (.agg #[qS j o e,qS l c d,nV n]),.map (some y),qT]) a (fun H w2 O a=>lL a ac (ag (cR 7 [] mixed a ao ?_)))));refine eV 0 5 (pB H) (eO 1 6 [(0,0,1)] (.iface 183 (.agg #[qS j o e,qS l c d,nV n])) a (eV 2 7 (qS p b.length u) (eV 4 9 (.iface 183 (.agg #[qS j o e,qS l c d,nV n])) (eV 5 10 (.iface 183 (.agg #[qS j o e,qS l c d,nV n])) (au 3 8 a (fun _ _ a=>BC (-1) kD kD _ _ a.g) (fun J M a=>eC 6 11 a (fun _ _ a=>C2 j o e l c d n hn b p u z C ((-1:Int):Rat) (LQ.int kD kD) _ _ a.g a.f.2.1 a.f.1) ?_))))));rintro _ _ _ K L a ⟨F,rfl,B⟩;replace a:=a.aS B;exact bU a (fun Q S a=>tV 7 4 (qS (sB F) ((jB (n+1) b ((-1:Int):Rat)).length) (n+1)) (tN (kX (a.ret [] (qS (sB F) ((jB (n+1) b ((-1:Int):Rat)).length) (n+1)) (⟨_,rfl,a.f.1⟩)))))
theorem FX (p:Z9)(x l:Nat)(u:Z9)(e j:Nat)(n:Nat)(hn:n<=12)(B:Nat)(z:Int)(q:Rat)(s:ByteArray)(A:Z9)(M c:Nat)(d:List Rat)(y:Z9)(D:Nat)(S:d.length=n+1)(Q:∀ i,LQ 39500000 (d.getD i 0))(b:List Rat)(C:Z9)(F:Nat)(O:b.length=n+1)(K:∀ i,LQ 39500000 (b.getD i 0))(H:∀ i,LQ 39500000 ((jB (n+1) b ((-1:Int):Rat)).getD i 0))(w:World)(h:Hp)(g:G w h)(I:Sq y d h)(J:Sq C b h)(Z:Tab h):CR 156 #[.agg #[.iface 183 (.agg #[.slice p x l,.slice u e j,nV n]),.map (some B),.bool true],bO ⟨4,z,q,s,A,M,c⟩,.slice y d.length D,.slice C b.length F] w h (fun v h1=>∃ (W:Z9)(c_:Nat),v=.tuple #[.slice W (oy (n+1) d (jB (n+1) b ((-1:Int):Rat))).length c_,iV 0]/\Sq W (oy (n+1) d (jB (n+1) b ((-1:Int):Rat))) h1):=by
 have a:=((((sS g).aS I).aS J).aB Z);refine go Tryz.func156 [(0,.agg #[.iface 183 (.agg #[qS p x l,qS u e j,nV n]),.map (some B),qT]),(1,bO ⟨4,z,q,s,A,M,c⟩),(2,qS y d.length D),(3,qS C b.length F)] rfl (ax (lA 4 187 ([.iface 183 (.agg #[qS p x l,qS u e j,nV n]),.map (some B),qT]) a (fun X w2 h3 a=>lA 5 50 (da ⟨4,z,q,s,A,M,c⟩) a (fun Y w5 h6 a=>lL a aD (ag (aa a [.v (pB Y),.o (iV 4) 0 0 1] (aZ (aa a [.v qF,.c] (ah (aa a [.v qT,.c] (am (cQ (cR 9 [] mixed a ao ?_)))))))))))));refine eV 0 22 (pB X) (eO 1 23 [(1,0,1)] (.iface 183 (.agg #[qS p x l,qS u e j,nV n])) a (eV 2 24 (qS y d.length D) (eO 3 25 [(1,0,3)] (.agg #[.iface 183 (.agg #[qS p x l,qS u e j,nV n]),.map (some B),qT]) a (eV 4 26 (qS C b.length F) (eV 6 28 (.iface 183 (.agg #[qS p x l,qS u e j,nV n])) (eV 7 29 (.iface 183 (.agg #[qS p x l,qS u e j,nV n])) (eC 5 27 a (fun _ _ a=>Cs p x l u e j n hn B b C F O K _ _ a.g a.f.2.1 a.f.1) ?_)))))));rintro _ _ _ w7 h8 a ⟨bz,rfl,L⟩;replace a:=a.aS L;refine eC 8 30 a (fun _ _ a=>IW p x l u e j n hn d y D S Q (jB (n+1) b ((-1:Int):Rat)) (sB bz) (n+1) (rr _ _ _) H _ _ a.g a.f.r.2.1 a.f.1 a.f.2.1) ?_;rintro _ _ _ w9 _ a ⟨V,rfl,U⟩;replace a:=a.aS U;exact bU a (fun _ _ a=>tV 9 8 (qS (sB V) ((oy (n+1) d (jB (n+1) b ((-1:Int):Rat))).length) (n+1)) (tV 10 9 (iV 0) (tN (kX (a.ret [] (.tuple #[qS (sB V) ((oy (n+1) d (jB (n+1) b ((-1:Int):Rat))).length) (n+1),iV 0]) (⟨_,_,rfl,a.f.1⟩))))))
theorem FL (p:Z9)(x l:Nat)(u:Z9)(e y:Nat)(n:Nat)(hn:n<=12)(Q:Nat)(z:Int)(q:Rat)(s:ByteArray)(A:Z9)(W c:Nat)(d:List Rat)(C:Z9)(K:Nat)(U:d.length=n+1)(Y:∀ i,LQ 39500000 (d.getD i 0))(b:List Rat)(B:Z9)(H:Nat)(I:b.length=n+1)(D:∀ i,LQ 39500000 (b.getD i 0))(hz:b.getD 0 0≠0)(F:∀ i,LQ 39500000 ((gR (n+1) b).getD i 0))(X:∀ i j,i<=n->j<=i->LQ 39500000 (gi (gR (n+1) b) b i j))(J:∀ i j,i<=n->j<=i+1->LQ 39500000 (gi d (gR (n+1) b) i j))(w:World)(h:Hp)(g:G w h)(M:Sq C d h)(O:Sq B b h)(tb:Tab h):CR 156 #[.agg #[.iface 183 (.agg #[.slice p x l,.slice u e y,nV n]),.map (some Q),.bool true],bO ⟨6,z,q,s,A,W,c⟩,.slice C d.length K,.slice B b.length H] w h (fun v h1=>∃ (A_:Z9)(c_:Nat),v=.tuple #[.slice A_ (kl (n+1) d (gR (n+1) b)).length c_,iV 0]/\Sq A_ (kl (n+1) d (gR (n+1) b)) h1):=by
 have a:=((((sS g).aS M).aS O).aB tb);refine go Tryz.func156 [(0,.agg #[.iface 183 (.agg #[qS p x l,qS u e y,nV n]),.map (some Q),qT]),(1,bO ⟨6,z,q,s,A,W,c⟩),(2,qS C d.length K),(3,qS B b.length H)] rfl (ax (lA 4 187 ([.iface 183 (.agg #[qS p x l,qS u e y,nV n]),.map (some Q),qT]) a (fun S w2 h3 a=>lA 5 50 (da ⟨6,z,q,s,A,W,c⟩) a (fun b4 w5 h6 a=>lL a aD (ag (aa a [.v (pB b4),.o (iV 6) 0 0 1] (aZ (aa a [.v qF,.c] (ah (aa a [.v qF,.c] (ah (aa a [.v qF,.c] (ah (aa a [.v qT,.c] (am (cQ (aa a [.v (pB S),.o (.iface 183 (.agg #[qS p x l,qS u e y,nV n])) 1 0 1,.c] (aq 43 a (JX p x l u e y n hn b B H I _ _ a.g a.f.2.1) (fun w7 h8 a=>aq 44 a (jl (b.getD 0 0) ((D 0).mono kD) _ _ a.g) (fun w9 _ a=>?_))))))))))))))))))));have bb:(b.getD 0 0).num.sign≠0:=fun e_=>hz (Ce e_)
 cases L:(((b.getD 0 0).num.sign:Int) == (0:Int))
 .
  have zb:=aj L;refine lB 45 L (ah (cK (cQ (cR 10 [] mixed a ao ?_))));refine eV 0 47 (pB S) (eO 1 48 [(1,0,1)] (.iface 183 (.agg #[qS p x l,qS u e y,nV n])) a (eV 2 49 (qS C d.length K) (eV 3 50 (pB S) (eO 4 51 [(1,0,1)] (.iface 183 (.agg #[qS p x l,qS u e y,nV n])) a (eV 5 52 (qS B b.length H) (eV 7 54 (.iface 183 (.agg #[qS p x l,qS u e y,nV n])) (eV 8 55 (.iface 183 (.agg #[qS p x l,qS u e y,nV n])) (eC 6 53 a (fun _ _ a=>Bv p x l u e y n hn b B H I D hz F X _ _ a.g a.f.2.1 a.f.1) ?_))))))));rintro _ _ _ _ _ a ⟨bz,rfl,V⟩;replace a:=a.aS V;refine eC 9 56 a (fun _ _ a=>JE p x l u e y n hn d C K U Y (gR (n+1) b) (sB bz) (n+1) (pS _ _) F J _ _ a.g a.f.r.2.1 a.f.1 a.f.2.1) ?_;rintro _ _ _ _ _ a ⟨bx,rfl,Z⟩;replace a:=a.aS Z;exact bU a (fun _ _ a=>tV 10 8 (qS (sB bx) ((kl (n+1) d (gR (n+1) b)).length) (n+1)) (tV 11 9 (iV 0) (tN (kX (a.ret [] (.tuple #[qS (sB bx) ((kl (n+1) d (gR (n+1) b)).length) (n+1),iV 0]) (⟨_,_,rfl,a.f.1⟩))))))
 have zb:=eq_of_beq L;refine lB 45 L (am (aa a dl (lN (kX ?_))))
 exfalso;omega
theorem DK (b:Z9)(i:Nat)(d:Z9)(j:Nat)(e:Nat)(z:Int)(q:Rat)(s:ByteArray)(A:Z9)(c:Nat)(w:World)(h:Hp)(g:G w h)(B:Sq b ([((0:Int):Rat)]:List Rat) h)(x:Sq d ([((1:Int):Rat)]:List Rat) h)(hM:MapS h e (jz [⟨#[120]⟩])):CR 120 #[.agg #[.iface 183 (.agg #[.slice b 1 i,.slice d 1 j,iV 3]),.map (some e),.bool true],bO ⟨1,z,q,s,A,0,c⟩] w h (fun v h1=>∃ (u:Z9)(c_:Nat),v=.tuple #[.slice u (gj 4 q).length c_,iV 0]/\Sq u (gj 4 q) h1):=by
 have a:=((((sS g).aS B).aS x).add (K:=fun D=>MapS D e (jz [⟨#[120]⟩])) hM);refine go Tryz.func120 [(0,.agg #[.iface 183 (.agg #[qS b 1 i,qS d 1 j,iV 3]),.map (some e),qT]),(1,bO ⟨1,z,q,s,A,0,c⟩)] rfl (ax (lA 2 187 ([.iface 183 (.agg #[qS b 1 i,qS d 1 j,iV 3]),.map (some e),qT]) a (fun y w2 J a=>lA 3 50 (da ⟨1,z,q,s,A,0,c⟩) a (fun p I H a=>lL a aD (aG (lL a ac (ag (aa a [.v (pB p),.o (iV 1) 0 0 1] (aZ (aa a [.v qT,.c] (am (aa a [.v (pB y),.o (.iface 183 (.agg #[qS b 1 i,qS d 1 j,iV 3])) 1 0 1,.v (qP p 2),.o (qv q) 0 2 5] (lC 19 a (v8 b 1 i d 1 j 3 kD q _ _ a.g) ?_)))))))))))));rintro _ F L a ⟨C,rfl,l⟩;replace a:=a.aS l;exact lL a aD (ae a [] (.tuple #[qS (sB C) ((gj 4 q).length) 4,iV 0]) (⟨_,_,rfl,a.f.1⟩))
theorem C0 (d:Z9)(i:Nat)(e:Z9)(j:Nat)(b:Nat)(z:Int)(q:Rat)(A:Z9)(c:Nat)(w:World)(h:Hp)(g:G w h)(C:Sq d ([((0:Int):Rat)]:List Rat) h)(B:Sq e ([((1:Int):Rat)]:List Rat) h)(hM:MapS h b (jz [⟨#[120]⟩])):CR 120 #[.agg #[.iface 183 (.agg #[.slice d 1 i,.slice e 1 j,iV 3]),.map (some b),.bool true],bO ⟨2,z,q,⟨#[120]⟩,A,0,c⟩] w h (fun v h1=>∃ (y:Z9)(c_:Nat),v=.tuple #[.slice y dk2.length c_,iV 0]/\Sq y dk2 h1):=by
 have a:=((((sS g).aS C).aS B).add (K:=fun F=>MapS F b (jz [⟨#[120]⟩])) hM);have l:Instr.findNow .string (.string ⟨#[120]⟩) (jz [⟨#[120]⟩]) 0=some (some (0,iV 0)):=by kernel_rfl
 refine go Tryz.func120 [(0,.agg #[.iface 183 (.agg #[qS d 1 i,qS e 1 j,iV 3]),.map (some b),qT]),(1,bO ⟨2,z,q,⟨#[120]⟩,A,0,c⟩)] rfl (ax (lA 2 187 ([.iface 183 (.agg #[qS d 1 i,qS e 1 j,iV 3]),.map (some b),qT]) a (fun u w2 L a=>lA 3 50 (da ⟨2,z,q,⟨#[120]⟩,A,0,c⟩) a (fun x J I a=>lL a aD (aG (lL a ac (ag (aa a [.v (pB x),.o (iV 2) 0 0 1] (aZ (aa a [.v qF,.c] (ah (aa a [.v qT,.c] (am (aa a [.v (pB u),.o (.iface 183 (.agg #[qS d 1 i,qS e 1 j,iV 3])) 1 0 1,.v (qP u 1),.o (.map (some b)) 1 1 1,.v (qP x 7),.o (.string (⟨#[120]⟩)) 0 7 1] (I7 28 95 9 3 (⟨#[120]⟩) false (iV 0) (true) a a.f.1 ?_ (hf:=(.inl ⟨0,l,rfl⟩)))))))))))))))));refine lC 29 a (D4 d 1 i e 1 j 3 kD ([((0:Int):Rat)]:List Rat) ([((1:Int):Rat)]:List Rat) rfl rfl 0 kD kD _ _ a.g a.f.r.1 a.f.2.1) ?_;rintro _ H M a ⟨D,rfl,p⟩;replace a:=a.aS p;exact lL a aD (ae a [] (.tuple #[qS (sB D) dk2.length 4,iV 0]) (⟨_,_,rfl,a.f.1⟩))
end Go.Proofs.YthfkmhgnndmblaaGreatDoor
