/- Laws and contracts of this claim, part 7. No condition of ours. -/
import Derived.Test.YtahgaogfpimkpaaGreatDoorPu5
set_option maxRecDepth 100000
set_option maxHeartbeats 4000000
namespace Go.Proofs.YtahgaogfpimkpaaGreatDoor
open Go.RowKit
open Go.RowKit Go.Shelf
theorem BA (n:Int)(hn0 : -9223372036854775808≤n)(hn1:n<9223372036854775808)(w:World)(h:Hp)(g:G w h):CR 30 #[iV n] w h (fun v h1=>∃ r,v=F4 r∧RmH 1 h1 r (.mk 1 0 ((n:Int):Rat) ⟨#[]⟩ [])):=by
 have hs:=sS g;refine go Tryz.func30 [(0,iV n)] rfl (aD (lA 2 74 ([iV 0,iV 0,qF,sZ,sZ,eS,sZ]) hs (fun b1 w2 h3 hs=>ay (lL hs [.m 3 0] (lC 4 hs (HO n hn0 hn1 _ _ hs.g) ?_)))));rintro _ _ _ hs ⟨A4,c5,A8,c9,rfl,hc6,za,hA7,zb⟩;replace hs:=hs.aP hA7 zb;refine lC 5 hs (E7 ((n:Int):Rat) A4 c5 A8 c9 hc6 za _ _ hs.g hs.f.2.1 hs.f.1) ?_;rintro _ _ _ hs ⟨r,rfl,hr⟩;replace hs:=(hs.add (K:=fun h_=>RmH 1 h_ r (.mk 1 0 ((n:Int):Rat) ⟨#[]⟩ [])) hr);exact lP 0 0 ([iV r.op,iV r.n,.bool r.neg,qS r.zA r.zn r.zc,qS r.dA r.dn r.dc,.string r.s,qS r.A r.m r.c]) hs (fun _ hs=>ae hs [(0,0,7)] (.agg #[iV r.op,iV r.n,.bool r.neg,qS r.zA r.zn r.zc,qS r.dA r.dn r.dc,.string r.s,qS r.A r.m r.c]) (⟨r,rfl,hs.f.1⟩))
theorem IJ  (w:World)(h:Hp)(g:G w h):CV 73 #[eS] w h (.bool false):=by
 have hs:=sS g;refine go Tryz.func73 [(0,eS)] rfl (ab hs [.v 2 qF] (af (ab hs [.m 6 0,.v 7 (iV 0),.v 8 qT,.m 9 8] (lG 10 ?_))));refine lG 11 (lG 12 (lL hs [.v 13 qT,.m 14 13] (lG 15 ?_)));exact lG 16 (lG 17 (lG 18 (lL hs [.v 19 qT] (ar (ab hs [.v 2 qF] (ae hs [] qF rfl))))))
theorem oR (A:Option Addr)(c:Nat)(w:World)(h:Hp)(g:G w h)(hA:SlO 1 iq ⟨#[]⟩ h A ([⟨#[97]⟩,⟨#[98]⟩]:List ByteArray)):CR 32 #[.slice A 2 c] w h (fun v h1=>∃ b,v=.map (some b)∧MapS h1 b [⟨.string (⟨#[97]⟩),iV 0,0⟩,⟨.string (⟨#[98]⟩),iV 1,1⟩]):=by
 have hs:=((sS g).aS hA);have hnl:([⟨#[97]⟩,⟨#[98]⟩]:List ByteArray).length=2:=rfl;refine go Tryz.func32 [(0,qS A 2 c)] rfl (ab hs [.v 2 (.map none)] (ay (I9 6 hs (fun b1 w2 h3 hs hmp4=>lL hs [.m 3 6] (af (ab hs [.m 7 0,.v 8 (iV 2),.v 9 (iV 0)] (bd (cU ?_))))))));refine cN (ab hs [.v 10 qT] (af (cI (cK (cQ (kZ (ab hs [.m 11 9] (lX 12 A 2 c 1 0 0 ((hs.f.1).ok oM) ?_))))))));refine lH 13 (.string (⟨#[97]⟩)) hs ((hs.f.1).el 0 oM) (lL hs [.m 4 11,.m 5 13] (lN (kQ (lL hs [.m 14 3,.m 15 5,.m 16 4] (Fp 82 9 3 (⟨#[97]⟩) (iV 0) hs hmp4 (fun w5 hs hmp6=>lN (kQ (lL hs [.v 17 (iV 1),.m 9 17] (lD (CL.to [(2,.map none),(3,.map (some b1)),(7,qS A 2 c),(8,iV 2),(9,iV 1),(10,qT),(11,iV 0),(12,.pointer (some ⟨(aB A),aO A+0*1,none⟩)),(13,.string (⟨#[97]⟩)),(4,iV 0),(5,.string (⟨#[97]⟩)),(14,.map (some b1)),(15,.string (⟨#[97]⟩)),(16,iV 0),(17,iV 1)] ?_))))))))));replace hs:=hs.to [] [];refine cN (ab hs [.v 10 qT] (af (cI (cK (cQ (kZ (ab hs [.m 11 9] (lX 12 A 2 c 1 1 1 ((hs.f.1).ok oM) ?_))))))));refine lH 13 (.string (⟨#[98]⟩)) hs ((hs.f.1).el 1 oM) (lL hs [.m 4 11,.m 5 13] (lN (kQ (lL hs [.m 14 3,.m 15 5,.m 16 4] (Fp 82 9 3 (⟨#[98]⟩) (iV 1) hs hmp6 (fun w7 hs hmp8=>lN (kQ (lL hs [.v 17 (iV 2),.m 9 17] (lD (CL.to [(2,.map none),(3,.map (some b1)),(7,qS A 2 c),(8,iV 2),(9,iV 2),(10,qT),(11,iV 1),(12,.pointer (some ⟨(aB A),aO A+1*1,none⟩)),(13,.string (⟨#[98]⟩)),(4,iV 1),(5,.string (⟨#[98]⟩)),(14,.map (some b1)),(15,.string (⟨#[98]⟩)),(16,iV 1),(17,iV 2)] ?_))))))))));replace hs:=hs.to [] [];refine cN (ab hs [.v 10 qF] (af (dK (CG.exit ?_))))
 show CG _ _ _ _ _ _ _ _
 refine ab hs [.m 18 3] ?_;obtain ⟨h9,hs,sg10⟩:=hs.pubMap hmp8;replace hs:=hs.to [] [];replace hs:=hs.add (K:=fun h_=>MapS h_ b1 [⟨.string (⟨#[97]⟩),iV 0,0⟩,⟨.string (⟨#[98]⟩),iV 1,1⟩]) sg10;exact lL hs [.m 2 18] (ae hs [] (.map (some b1)) (⟨_,rfl,hs.f.1⟩))
theorem wQ (A:Option Addr)(c:Nat)(w:World)(h:Hp)(g:G w h)(hA:SlO 1 iq ⟨#[]⟩ h A ([⟨#[97]⟩,⟨#[98]⟩]:List ByteArray)):CV 31 #[.slice A 2 c] w h (iV 0):=by
 have hs:=((sS g).aS hA);have hnl:([⟨#[97]⟩,⟨#[98]⟩]:List ByteArray).length=2:=rfl;refine go Tryz.func31 [(0,qS A 2 c)] rfl (ab hs [.v 2 (iV 0)] (af (ab hs [.m 5 0,.v 6 (iV 2),.v 7 (iV 0)] (bd (cU ?_)))));refine cN (ab hs [.v 8 qT] (af (cI (cK (cQ (kZ (aD (lX 9 A 2 c 1 0 0 ((hs.f.1).ok oM) ?_))))))));refine lH 10 (.string (⟨#[97]⟩)) hs ((hs.f.1).el 0 oM) (lL hs [.m 4 10] (ay (lL hs [.m 11 4] (ah 12 hs (Dn _ _ hs.g) (fun w1 h2 hs=>lL hs [.v 13 qF] (am (cK (kQ (lL hs [.v 14 (iV 1),.m 7 14] (lD (CL.to [(0,qS A 2 c),(2,iV 0),(5,qS A 2 c),(6,iV 2),(7,iV 1),(8,qT),(9,.pointer (some ⟨(aB A),aO A+0*1,none⟩)),(10,.string (⟨#[97]⟩)),(4,.string (⟨#[97]⟩)),(11,.string (⟨#[97]⟩)),(12,qT),(13,qF),(14,iV 1)] ?_)))))))))));replace hs:=hs.to [] [];refine cN (ab hs [.v 8 qT] (af (cI (cK (cQ (kZ (aD (lX 9 A 2 c 1 1 1 ((hs.f.1).ok oM) ?_))))))));refine lH 10 (.string (⟨#[98]⟩)) hs ((hs.f.1).el 1 oM) (lL hs [.m 4 10] (ay (lL hs [.m 11 4] (ah 12 hs (Da _ _ hs.g) (fun w3 h4 hs=>lL hs [.v 13 qF] (am (cK (kQ (lL hs [.v 14 (iV 2),.m 7 14] (lD (CL.to [(0,qS A 2 c),(2,iV 0),(5,qS A 2 c),(6,iV 2),(7,iV 2),(8,qT),(9,.pointer (some ⟨(aB A),aO A+1*1,none⟩)),(10,.string (⟨#[98]⟩)),(4,.string (⟨#[98]⟩)),(11,.string (⟨#[98]⟩)),(12,qT),(13,qF),(14,iV 2)] ?_)))))))))));replace hs:=hs.to [] [];refine cN (ab hs [.v 8 qF] (af (dK (CG.exit ?_))))
 show CG _ _ _ _ _ _ _ _
 refine cQ (ab hs [.m 15 0] (lC 16 hs (oR A c _ _ hs.g hs.f.1) ?_));rintro _ w5 h6 hs ⟨bm,rfl,hpm⟩;replace hs:=(hs.add (K:=fun h_=>MapS h_ bm [⟨.string (⟨#[97]⟩),iV 0,0⟩,⟨.string (⟨#[98]⟩),iV 1,1⟩]) hpm);exact Jh 17 82 0 9 3 hs hs.f.1 (lL hs [.m 18 0,.v 19 (iV 2),.v 20 qF] (am (cK (ab hs [.v 2 (iV 0)] (ae hs [] (iV 0) rfl)))))
theorem IM:∀ s,Hl s→∀ (w:World) (h:Hp),G w h→Calls Tryz.prog 73 #[.string s] w (Ret w h (fun v _=>∃ b,v=.bool b∧b=mI s)):=by
 rintro s (rfl|rfl|rfl) w h g
 ·exact (IJ w h g).mono fun e w' ⟨v,h',e1,u,e2⟩=>⟨v,h',e1,u,false,e2,by decide⟩
 ·exact (Dn w h g).mono fun e w' ⟨v,h',e1,u,e2⟩=>⟨v,h',e1,u,true,e2,by decide⟩
 ·exact (Da w h g).mono fun e w' ⟨v,h',e1,u,e2⟩=>⟨v,h',e1,u,true,e2,by decide⟩
theorem Js:∀ s,mI s=true→(∃ i,Instr.findNow .string (.string s) [⟨.string (⟨#[97]⟩),.int .i64 0,0⟩,⟨.string (⟨#[98]⟩),.int .i64 1,1⟩] 0=some (some (i,.int .i64 (vR s)))∧mI s=true)∨(Instr.findNow .string (.string s) [⟨.string (⟨#[97]⟩),.int .i64 0,0⟩,⟨.string (⟨#[98]⟩),.int .i64 1,1⟩] 0=some none∧mI s=false∧vR s=0):=by
 intro s hs
 rcases oT hs with rfl|rfl
 ·exact .inl ⟨0,by kernel_rfl,by decide⟩
 ·exact .inl ⟨1,by kernel_rfl,by decide⟩
theorem E8 (A:Option Addr)(c:Nat)(ts:List RT)(qs:List Rat)(hl:ts.length=2)(hq:∀ i,LQ 1 (qs.getD i 0))(w:World)(h:Hp)(g:G w h)(hA:Sr A ts h)(hT:RTs h ts qs)(tb:Tab h):CR 7 #[.slice A ts.length c] w h (fun v h1=>∃ p,v=oq p∧TmH 5 h1 p (mD (qs.getD 0 0) (qs.getD 1 0))):=by
 have hs:=((((sS g).aS hA).aT hT).aB tb);have hlq:=(hs.f.2.1).len;refine go Tryz.func7 [(0,qS A ts.length c)] rfl (aD (lA 2 42 ([iV 0,iV 0,qF,uV 0,eS,uV 0,eS,eS,sZ]) hs (fun b1 w2 h3 hs=>ay (lL hs [.v 3 (sZ)] (af (ab hs [.v 4 (iV 0)] ?_))))));replace hs:=hs.nil 74 7;refine bd (cU ?_);refine cN (cQ (ab hs [.m 5 4,.v 6 qT] (ar (cK (cQ (kZ (CG.region ⟨((Value.slice none ((([]:List RTm)).length) 0).ownBlock.toList),none⟩ 14 [] mixed kR hs.g aq (hs.ro_lt 0 (ty:=74) (sz:=7) (A:=none) (c:=0) (m:=(([]:List RTm)).length) (cs:=(([]:List RTm)).flatMap kA)) ?_)))))));refine eV 0 9 (qS none ((([]:List RTm)).length) 0) (eV 1 10 (.agg #[.string (⟨#[97]⟩),.string (⟨#[98]⟩)]) (eV 2 11 (iV 0) (eV 3 12 (.string (⟨#[97]⟩)) (eV 4 13 (.agg #[iV 2,iV 0,qF,sZ,sZ,.string (⟨#[97]⟩),sZ]) (eV 5 14 (qS A ts.length c) (eV 6 15 (iV 0) (eX 7 16 A ts.length c 3 0 0 ((hs.f.r.1).ok oM) ?_)))))));obtain ⟨Aex0,cex0,Dex0,dex0,eex0,hcex0,hdex0,hAex0,hDex0⟩:=(hs.f.2.1).at_ 0 oM;replace hs:=hs.aP hAex0 hDex0;refine EX 8 17 (rA (ts.getD 0 uG)) hs ((hs.f.q.1).el 0 oM) eex0 ?_ (hM:=hs.ro_jk 0 (ty:=74) (sz:=7) (A:=none) (c:=0) (m:=(([]:List RTm)).length) (cs:=(([]:List RTm)).flatMap kA));refine eC 9 18 hs (fun _ _ hs=>E7 (qs.getD 0 0) Aex0 cex0 Dex0 dex0 hcex0 hdex0 _ _ hs.g hs.f.2.1 hs.f.1) ?_;rintro _ _ _ w4 h5 hs ⟨ro0,rfl,hro0⟩;replace hs:=(hs.add (K:=fun h_=>RmH 1 h_ ro0 (.mk 1 0 (qs.getD 0 0) ⟨#[]⟩ [])) hro0);refine eC 10 19 hs (fun _ _ hs=>rN 4 (⟨2,0,false,none,0,0,none,0,0,⟨#[97]⟩,none,0,0⟩:RTm) ro0 (.mk 2 0 0 ⟨#[97]⟩ []) (.mk 1 0 (qs.getD 0 0) ⟨#[]⟩ []) 1 1 _ _ hs.g r8 hs.f.1) ?_;rintro _ _ _ w6 h7 hs ⟨rt0,rfl,hrt0⟩;replace hs:=(hs.add (K:=fun h_=>RmH 2 h_ rt0 (.mk 4 0 0 ⟨#[]⟩ [(.mk 2 0 0 ⟨#[97]⟩ []),(.mk 1 0 (qs.getD 0 0) ⟨#[]⟩ [])])) hrt0);refine eC 11 20 hs (fun _ _ hs=>Dc rt0 2 (.mk 4 0 0 ⟨#[]⟩ [.mk 2 0 0 ⟨#[97]⟩ [],.mk 1 0 (qs.getD 0 0) ⟨#[]⟩ []]) 2 _ _ hs.g hs.f.1) ?_;rintro _ _ _ w8 h9 hs ⟨rp0,rfl,hrp0⟩;replace hs:=(hs.add (K:=fun h_=>RmH 3 h_ rp0 (t7 ⟨#[97]⟩ (qs.getD 0 0))) hrp0);have hrl0:(([]:List RTm)).length=0:=rfl;have hrn0:(([]:List RTm)++[rp0]).length=1:=rfl;refine eR 12 21 74 1 ([iV rp0.op,iV rp0.n,.bool rp0.neg,qS rp0.zA rp0.zn rp0.zc,qS rp0.dA rp0.dn rp0.dc,.string rp0.s,qS rp0.A rp0.m rp0.c]) hs (fun zi _ _ hs=>eY 13 22 0 74 7 0 none ([]:List RTm) kA rp0 112 zi (.agg #[iV 0,iV 0,qF,sZ,sZ,eS,sZ]) hs (fun _ f_=>f_.1) (fun b hb=>Option.mem_toList.2 hb) (fun zb zd _ _ hs=>bF hs (fun _ _ hs=>tV 14 3 (qS zb ((([]:List RTm)++[rp0]).length) zd) (tN (kQ (lL hs [.m 7 4,.v 8 (iV 1),.m 4 8] (lD (CL.to [(0,qS A ts.length c),(2,pB b1),(3,qS zb ((([]:List RTm)++[rp0]).length) zd),(4,iV 1),(5,iV 0),(6,qT),(9,qS none ((([]:List RTm)).length) 0),(10,.agg #[.string (⟨#[97]⟩),.string (⟨#[98]⟩)]),(11,iV 0),(12,.string (⟨#[97]⟩)),(13,.agg #[iV 2,iV 0,qF,sZ,sZ,.string (⟨#[97]⟩),sZ]),(14,qS A ts.length c),(15,iV 0),(16,.pointer (some ⟨(aB A),aO A+0*3,none⟩)),(17,rG (qs.getD 0 0) Aex0 cex0 Dex0 dex0),(18,.agg #[iV ro0.op,iV ro0.n,.bool ro0.neg,qS ro0.zA ro0.zn ro0.zc,qS ro0.dA ro0.dn ro0.dc,.string ro0.s,qS ro0.A ro0.m ro0.c]),(19,.agg #[iV rt0.op,iV rt0.n,.bool rt0.neg,qS rt0.zA rt0.zn rt0.zc,qS rt0.dA rt0.dn rt0.dc,.string rt0.s,qS rt0.A rt0.m rt0.c]),(20,.agg #[iV rp0.op,iV rp0.n,.bool rp0.neg,qS rp0.zA rp0.zn rp0.zc,qS rp0.dA rp0.dn rp0.dc,.string rp0.s,qS rp0.A rp0.m rp0.c]),(21,qS (sB zi) 1 1),(22,qS zb ((([]:List RTm)++[rp0]).length) zd),(7,iV 0),(8,iV 1)] ?_))))))));replace hs:=hs.to [⟨b1,42,[iV 0,iV 0,qF,uV 0,eS,uV 0,eS,eS,sZ]⟩] [⟨74,7,zb,zd,(([]:List RTm)++[rp0]).length,(([]:List RTm)++[rp0]).flatMap kA⟩];refine cN (cQ (ab hs [.m 5 4,.v 6 qT] (ar (cK (cQ (kZ (CG.region ⟨((Value.slice zb ((([]:List RTm)++[rp0]).length) zd).ownBlock.toList),none⟩ 14 [] mixed kR hs.g aq (hs.ro_lt 0 (ty:=74) (sz:=7) (A:=zb) (c:=zd) (m:=(([]:List RTm)++[rp0]).length) (cs:=(([]:List RTm)++[rp0]).flatMap kA)) ?_)))))));refine eV 0 9 (qS zb ((([]:List RTm)++[rp0]).length) zd) (eV 1 10 (.agg #[.string (⟨#[97]⟩),.string (⟨#[98]⟩)]) (eV 2 11 (iV 1) (eV 3 12 (.string (⟨#[98]⟩)) (eV 4 13 (.agg #[iV 2,iV 0,qF,sZ,sZ,.string (⟨#[98]⟩),sZ]) (eV 5 14 (qS A ts.length c) (eV 6 15 (iV 1) (eX 7 16 A ts.length c 3 1 1 ((hs.f.q.q.1).ok oM) ?_)))))));obtain ⟨Aex1,cex1,Dex1,dex1,eex1,hcex1,hdex1,hAex1,hDex1⟩:=(hs.f.q.r.2.1).at_ 1 oM;replace hs:=hs.aP hAex1 hDex1;refine EX 8 17 (rA (ts.getD 1 uG)) hs ((hs.f.q.q.r.1).el 1 oM) eex1 ?_ (hM:=hs.ro_jk 0 (ty:=74) (sz:=7) (A:=zb) (c:=zd) (m:=(([]:List RTm)++[rp0]).length) (cs:=(([]:List RTm)++[rp0]).flatMap kA));refine eC 9 18 hs (fun _ _ hs=>E7 (qs.getD 1 0) Aex1 cex1 Dex1 dex1 hcex1 hdex1 _ _ hs.g hs.f.2.1 hs.f.1) ?_;rintro _ _ _ _ _ hs ⟨ro1,rfl,hro1⟩;replace hs:=(hs.add (K:=fun h_=>RmH 1 h_ ro1 (.mk 1 0 (qs.getD 1 0) ⟨#[]⟩ [])) hro1);refine eC 10 19 hs (fun _ _ hs=>rN 4 (⟨2,0,false,none,0,0,none,0,0,⟨#[98]⟩,none,0,0⟩:RTm) ro1 (.mk 2 0 0 ⟨#[98]⟩ []) (.mk 1 0 (qs.getD 1 0) ⟨#[]⟩ []) 1 1 _ _ hs.g r8 hs.f.1) ?_;rintro _ _ _ _ _ hs ⟨rt1,rfl,hrt1⟩;replace hs:=(hs.add (K:=fun h_=>RmH 2 h_ rt1 (.mk 4 0 0 ⟨#[]⟩ [(.mk 2 0 0 ⟨#[98]⟩ []),(.mk 1 0 (qs.getD 1 0) ⟨#[]⟩ [])])) hrt1);refine eC 11 20 hs (fun _ _ hs=>Dc rt1 2 (.mk 4 0 0 ⟨#[]⟩ [.mk 2 0 0 ⟨#[98]⟩ [],.mk 1 0 (qs.getD 1 0) ⟨#[]⟩ []]) 2 _ _ hs.g hs.f.1) ?_;rintro _ _ _ _ _ hs ⟨rp1,rfl,hrp1⟩;replace hs:=(hs.add (K:=fun h_=>RmH 3 h_ rp1 (t7 ⟨#[98]⟩ (qs.getD 1 0))) hrp1);have hrl1:(([]:List RTm)++[rp0]).length=1:=rfl;have hrn1:(([]:List RTm)++[rp0]++[rp1]).length=2:=rfl;refine eR 12 21 74 1 ([iV rp1.op,iV rp1.n,.bool rp1.neg,qS rp1.zA rp1.zn rp1.zc,qS rp1.dA rp1.dn rp1.dc,.string rp1.s,qS rp1.A rp1.m rp1.c]) hs (fun zj _ _ hs=>eY 13 22 0 74 7 zd zb (([]:List RTm)++[rp0]) kA rp1 112 zj (.agg #[iV 0,iV 0,qF,sZ,sZ,eS,sZ]) hs (fun _ f_=>f_.1) (fun b hb=>Option.mem_toList.2 hb) (fun zf za _ _ hs=>bF hs (fun _ _ hs=>tV 14 3 (qS zf ((([]:List RTm)++[rp0]++[rp1]).length) za) (tN (kQ (lL hs [.m 7 4,.v 8 (iV 2),.m 4 8] (lD (CL.to [(0,qS A ts.length c),(2,pB b1),(3,qS zf ((([]:List RTm)++[rp0]++[rp1]).length) za),(4,iV 2),(5,iV 1),(6,qT),(9,qS zb ((([]:List RTm)++[rp0]).length) zd),(10,.agg #[.string (⟨#[97]⟩),.string (⟨#[98]⟩)]),(11,iV 1),(12,.string (⟨#[98]⟩)),(13,.agg #[iV 2,iV 0,qF,sZ,sZ,.string (⟨#[98]⟩),sZ]),(14,qS A ts.length c),(15,iV 1),(16,.pointer (some ⟨(aB A),aO A+1*3,none⟩)),(17,rG (qs.getD 1 0) Aex1 cex1 Dex1 dex1),(18,.agg #[iV ro1.op,iV ro1.n,.bool ro1.neg,qS ro1.zA ro1.zn ro1.zc,qS ro1.dA ro1.dn ro1.dc,.string ro1.s,qS ro1.A ro1.m ro1.c]),(19,.agg #[iV rt1.op,iV rt1.n,.bool rt1.neg,qS rt1.zA rt1.zn rt1.zc,qS rt1.dA rt1.dn rt1.dc,.string rt1.s,qS rt1.A rt1.m rt1.c]),(20,.agg #[iV rp1.op,iV rp1.n,.bool rp1.neg,qS rp1.zA rp1.zn rp1.zc,qS rp1.dA rp1.dn rp1.dc,.string rp1.s,qS rp1.A rp1.m rp1.c]),(21,qS (sB zj) 1 1),(22,qS zf ((([]:List RTm)++[rp0]++[rp1]).length) za),(7,iV 1),(8,iV 2)] ?_))))))));replace hs:=hs.to [⟨b1,42,[iV 0,iV 0,qF,uV 0,eS,uV 0,eS,eS,sZ]⟩] [⟨74,7,zf,za,(([]:List RTm)++[rp0]++[rp1]).length,(([]:List RTm)++[rp0]++[rp1]).flatMap kA⟩];refine cN (cQ (ab hs [.m 5 4,.v 6 qF] (am (CG.exit ?_))))
 show CG _ _ _ _ _ _ _ _
 refine cQ (cR 10 [] mixed hs aq ?_);refine eV 0 23 (qS zf ((([]:List RTm)++[rp0]++[rp1]).length) za) ?_;obtain ⟨ze,zg⟩:=hs.rowA 0 (A:=zf) (c:=za) (m:=(([]:List RTm)++[rp0]++[rp1]).length) (ty:=74) (sz:=7) (cs:=(([]:List RTm)++[rp0]++[rp1]).flatMap kA) oM;subst zg;refine eX 1 24 (sB ze) ((([]:List RTm)++[rp0]++[rp1]).length) za 7 0 0 rfl (HZ (ty:=74) (sz:=7) (c:=za) (m:=(([]:List RTm)++[rp0]++[rp1]).length) (b:=ze) (cs:=(([]:List RTm)++[rp0]++[rp1]).flatMap kA) 2 25 0 (.agg #[iV rp0.op,iV rp0.n,.bool rp0.neg,qS rp0.zA rp0.zn rp0.zc,qS rp0.dA rp0.dn rp0.dc,.string rp0.s,qS rp0.A rp0.m rp0.c]) (kA ((([]:List RTm)++[rp0]++[rp1]).getD 0 e9)) hs (gm (f:=kA) (sz:=7) (fun _=>rfl) e9 (([]:List RTm)++[rp0]++[rp1]) 0 oM) (eV 3 26 (qS (sB ze) ((([]:List RTm)++[rp0]++[rp1]).length) za) (eX 4 27 (sB ze) ((([]:List RTm)++[rp0]++[rp1]).length) za 7 1 1 rfl (HZ (ty:=74) (sz:=7) (c:=za) (m:=(([]:List RTm)++[rp0]++[rp1]).length) (b:=ze) (cs:=(([]:List RTm)++[rp0]++[rp1]).flatMap kA) 5 28 0 (.agg #[iV rp1.op,iV rp1.n,.bool rp1.neg,qS rp1.zA rp1.zn rp1.zc,qS rp1.dA rp1.dn rp1.dc,.string rp1.s,qS rp1.A rp1.m rp1.c]) (kA ((([]:List RTm)++[rp0]++[rp1]).getD 1 e9)) hs (gm (f:=kA) (sz:=7) (fun _=>rfl) e9 (([]:List RTm)++[rp0]++[rp1]) 1 oM) (eC 6 29 hs (fun _ _ hs=>rN 3 rp0 rp1 (t7 ⟨#[97]⟩ (qs.getD 0 0)) (t7 ⟨#[98]⟩ (qs.getD 1 0)) 3 3 _ _ hs.g hs.f.q.r.2.1 hs.f.2.1) ?_)))));rintro _ _ _ _ _ hs ⟨rs,rfl,hrs⟩;replace hs:=(hs.add (K:=fun h_=>RmH 4 h_ rs (.mk 3 0 0 ⟨#[]⟩ [(t7 ⟨#[97]⟩ (qs.getD 0 0)),(t7 ⟨#[98]⟩ (qs.getD 1 0))])) hrs);refine eC 7 30 hs (fun _ _ hs=>BA 2 kD kD _ _ hs.g) ?_;rintro _ _ _ _ _ hs ⟨rw,rfl,hrw⟩;replace hs:=(hs.add (K:=fun h_=>RmH 1 h_ rw (.mk 1 0 ((2:Int):Rat) ⟨#[]⟩ [])) hrw);refine eC 8 31 hs (fun _ _ hs=>rN 6 rs rw (.mk 3 0 0 ⟨#[]⟩ [(t7 ⟨#[97]⟩ (qs.getD 0 0)),(t7 ⟨#[98]⟩ (qs.getD 1 0))]) (.mk 1 0 ((2:Int):Rat) ⟨#[]⟩ []) 4 1 _ _ hs.g hs.f.2.1 hs.f.1) ?_;rintro _ _ _ _ _ hs ⟨rd,rfl,hrd⟩;replace hs:=(hs.add (K:=fun h_=>RmH 5 h_ rd (.mk 6 0 0 ⟨#[]⟩ [(.mk 3 0 0 ⟨#[]⟩ [(t7 ⟨#[97]⟩ (qs.getD 0 0)),(t7 ⟨#[98]⟩ (qs.getD 1 0))]),(.mk 1 0 ((2:Int):Rat) ⟨#[]⟩ [])])) hrd);refine eC 9 32 hs (fun _ _ hs=>rM Hl 5 rd (mD (qs.getD 0 0) (qs.getD 1 0)) _ _ hs.g hs.f.1 (vd (hq 0) (hq 1)) hs.f.q.q.q.r.2.1) ?_;rintro _ _ _ _ _ hs ⟨p,rfl,hp⟩;replace hs:=(hs.add (K:=fun h_=>TmH 5 h_ p (mD (qs.getD 0 0) (qs.getD 1 0))) hp);exact bF hs (fun _ _ hs=>tP 10 0 0 (pC p) hs (fun _ hs=>tN (kX (hs.ret [(0,0,9)] (pX p) (⟨p,rfl,hs.f.1⟩)))))
open Go.RowKit Go.WideMaps
structure MapI (P:Program) (kt:TypeId) (Q:Value→Prop) (w1:World) (h1:Hp) (b:Nat):Prop where
  jk:h1[b]?=some bI
  ex:∃ es clk,w1.heap[b]?=some (.map es clk)∧∀ e∈es.toList,(∃ l,keyOf P kt e.key=some l)∧Q e.val
section laws
variable {P:Program} {n:Nat} {N R:Po} {X:Nat→Po} {ops:Array Oper} {k:Nat} {Γ:cO} {w:World} {h:Hp} {w0 w1:World} {h0 h1:Hp} {B:List Bx} {Rs:List Rw} {F:List (Hp→Prop)}
theorem SS.base (s:SS w1 h1 w h B Rs F){b:Nat}{o:Obj}(hj:h1[b]?=some bI)(hb:b<w1.heap.size) :
  SS { w1 with heap:=w1.heap.setIfInBounds b o } h1 { w with heap:=w.heap.setIfInBounds b o } h B Rs F∧G { w1 with heap:=w1.heap.setIfInBounds b o } h1:=by
 have hlt:b<h1.size:=aN hj;have hj2:h[b]?=some bI:=(s.st.up.gr.blk b hlt).trans hj;have hbw:b<w.heap.size:=by rw[s.g.size];exact aN hj2
 have set:∀ (w:World) c,c≠b→({ w with heap:=w.heap.setIfInBounds b o }:World).heap[c]?=w.heap[c]?:=fun w c hc=>by show (w.heap.setIfInBounds b o)[c]?=_;rw[Array.getElem?_setIfInBounds_ne (Ne.symm hc)]
 have selfs:∀ (w:World),b<w.heap.size→({ w with heap:=w.heap.setIfInBounds b o }:World).heap[b]?=some o:=fun w hw=>by show (w.heap.setIfInBounds b o)[b]?=_;rw[Array.getElem?_setIfInBounds_self_of_lt hw]
 have gg:∀ (w:World) (h:Hp),G w h→h[b]?=some bI→G { w with heap:=w.heap.setIfInBounds b o } h:=fun w h g j=>⟨by show (w.heap.setIfInBounds b o).size=_;rw[Array.size_setIfInBounds];exact g.size,fun c=>by
  by_cases e:c=b
  ·subst e;exact .inr j
  ·rw[set w c e];exact g.blk c⟩
 have g0':=gg w1 h1 s.g0 hj;refine ⟨⟨g0',⟨⟨?_,s.st.up.gr,gg w h s.g hj2⟩,fun x hx=>?_,s.st.jk,s.st.lo,s.st.nd⟩,fun r hr=>?_,s.ap,s.mo,s.f⟩,g0'⟩
 ·have e:=s.st.up.ext
  refine ⟨e.os,e.tape,e.output,?_,fun c hc=>?_⟩
  ·show (w1.heap.setIfInBounds b o).size≤(w.heap.setIfInBounds b o).size
   rw[Array.size_setIfInBounds,Array.size_setIfInBounds];exact e.size
  ·by_cases q:c=b
   ·subst q;rw[selfs w hbw,selfs w1 hb]
   ·rw[set w c q,set w1 c q];exact e.block c (by have:c<(w1.heap.setIfInBounds b o).size:=hc;rw[Array.size_setIfInBounds] at this;exact this)
 ·have:x.b≠b:=fun e=>by have:=s.st.lo x hx;omega
  exact (set w x.b this).trans (s.st.own x hx)
 ·have q:=s.ro r hr
  refine ⟨eF q.own (fun c hc=>set w c (fun e=>?_)),q.jk,q.ap⟩;subst e
  rcases q.own with ⟨_,e2|⟨g,cap,cur,hv,hb',_⟩⟩
  ·rw[e2.1] at hc;simp[Value.ownBlock] at hc
  ·rw[hv] at hc
   simp[Value.ownBlock] at hc
   omega
end laws
structure Dif (M:List Nat) (w w0:World):Prop where
  mo:Mo M w w0
  sz:w0.heap.size=w.heap.size
section frn
variable {w0 w w' wi:World} {h0 h h':Hp} {B:List Bx} {R:List Rw} {F:List (Hp→Prop)} {M:List Nat}
end frn
section get
variable {P:Program} {n:Nat} {N R:Po} {X:Nat→Po} {ops:Array Oper} {k:Nat} {Γ:cO} {w:World} {h:Hp} {w0:World} {h0:Hp} {B:List Bx} {Rs:List Rw} {F:List (Hp→Prop)}
end get
section gete
variable {M:Ms} {P:Program} {n:Nat} {N R:Po} {X:Nat→Po} {ops:Array Oper} {k0:Nat} {hr:Hp} {AL:List Al} {L:Array Bool} {Γ:cO} {w:World} {h:Hp} {w0:World} {h0:Hp} {B:List Bx} {Rs:List Rw} {F:List (Hp→Prop)}
end gete
section ops
variable {P:Program} {Γ:cO} {o:Oper}
end ops
section laws
variable {M:Ms} {P:Program} {n:Nat} {N R:Po} {X:Nat→Po} {ops:Array Oper} {k k0:Nat} {hr:Hp} {AL:List Al} {L:Array Bool} {Γ:cO} {w:World} {h:Hp} {w0 wi:World} {h0:Hp} {B:List Bx} {Rs:List Rw} {F:List (Hp→Prop)} {Ml:List Nat}
end laws
section zone
variable {w0 w w':World} {h0 h h':Hp} {B:List Bx} {R:List Rw} {F:List (Hp→Prop)}
end zone
section ret
variable {P:Program} {n:Nat} {Γ:cO} {w:World} {h:Hp} {w0 wz:World} {h0 hz:Hp} {B:List Bx} {Rs:List Rw} {F:List (Hp→Prop)}
end ret
section call
variable {M:Ms} {P:Program} {n:Nat} {N R:Po} {X:Nat→Po} {ops:Array Oper} {k0:Nat} {hr:Hp} {AL:List Al} {L:Array Bool} {Γ:cO} {w:World} {h:Hp} {w0:World} {h0:Hp} {B:List Bx} {Rs:List Rw} {F:List (Hp→Prop)}
end call
def wI (Φ:Value→World→Hp→Prop):Ending→World→Prop:=fun e w'=>∃ v h',e=.returned v∧Φ v w' h'
section perm
variable {w0:World} {h0:Hp} {w:World} {h:Hp} {B B':List Bx} {R R':List Rw} {F:List (Hp→Prop)}
theorem SS.permBR (s:SS w0 h0 w h B R F)(pB:B.Perm B')(pR:R.Perm R'):SS w0 h0 w h B' R' F :=
 ⟨s.g0,⟨s.st.up,fun x hx=>s.st.own x (pB.mem_iff.2 hx),fun x hx=>s.st.jk x (pB.mem_iff.2 hx),fun x hx=>s.st.lo x (pB.mem_iff.2 hx),((pB.map (·.b)).nodup_iff).1 s.st.nd⟩,
  fun r hr=>⟨(s.ro r (pR.mem_iff.2 hr)).own,(s.ro r (pR.mem_iff.2 hr)).jk,fun b hb hm=>(s.ro r (pR.mem_iff.2 hr)).ap b hb ((pB.map (·.b)).mem_iff.2 hm)⟩,(pR.pairwise_iff (fun h=>h.symm)).1 s.ap,s.mo,s.f⟩
end perm
section ret
variable {P:Program} {n:Nat} {Γ:cO} {w:World} {h:Hp} {w0:World} {h0:Hp} {B:List Bx} {Rs:List Rw} {F:List (Hp→Prop)}
theorem SS.retS {fn:Func}{Φ:Value→World→Hp→Prop}(s:SS w0 h0 w h B Rs F)(ps:List (Nat × Nat × Nat))(v:Value)(hΦ:Φ v w h)(hk:(mF fn Γ && du B ps)=true:=by kernel_rfl)(he:bX P (nW fn Γ) (dU B ps)=some (v,cP B ps):=by kernel_rfl):∀ a,Kn n a Γ→mJ P fn (wI Φ) a w:=by
 intro a ka;rw[Bool.and_eq_true] at hk
 refine ⟨ka.df.trans (nQ hk.1),v,?_,v,h,rfl,hΦ⟩;rw[iw ka hk.1];exact cf _ _ _ _ he (eJ s.st.own ps hk.2)
end ret
section call
variable {P:Program} {n:Nat} {N R:Po} {X:Nat→Po} {ops:Array Oper} {k:Nat} {Γ:cO} {w:World}
theorem I6 (t:Nat){f:FuncId}{args:Array Value}{Φ:Value→World→Hp→Prop}(c:Calls P f args w (wI Φ))(H:∀ v w' h',Φ v w' h'→LG P n N R X ops (k+1) ((t,v)::Γ) w')(hc:cL ops Γ k t n=true:=by kernel_rfl)(hr:(execOp (ev Γ) (av ops k)).run P w=.ok (.enter f args) w:=by kernel_rfl):LG P n N R X ops k Γ w :=
 LG.call t f args (bT hc).1 (bT hc).2 hr (c.mono fun e w' ⟨v,h',he,hΦ⟩=>⟨v,he,H v w' h' hΦ⟩)
end call
def fZ (ss:List ByteArray):List MapEntry:=ss.zipIdx.map fun p=>⟨.string p.1,.bool true,p.2⟩
theorem vF (ss:List ByteArray)(s:ByteArray):fZ (ss++[s])=fZ ss++[⟨.string s,.bool true,ss.length⟩]:=by
 unfold fZ;rw[List.zipIdx_append,List.map_append];simp
theorem p8 {ss:List ByteArray}{j:Nat}{e:MapEntry}(h:(fZ ss)[j]?=some e):∃ s,ss[j]?=some s∧e=⟨.string s,.bool true,j⟩:=by
 unfold fZ at h
 rw[List.getElem?_map,List.getElem?_zipIdx] at h
 cases hs:ss[j]? with
 | none=>rw[hs] at h;simp at h
 | some s=>rw[hs] at h;simp at h;exact ⟨s,rfl,h.symm⟩
theorem oB {ss:List ByteArray}{e:MapEntry}(h:e∈fZ ss):∃ j s,ss[j]?=some s∧e=⟨.string s,.bool true,j⟩:=by
 obtain ⟨j,hj⟩:=List.mem_iff_getElem?.1 h;obtain ⟨s,h1,h2⟩:=p8 hj;exact ⟨j,s,h1,h2⟩
theorem Ca {ss:List ByteArray}{s:ByteArray}(h:s∈ss):∃ e∈fZ ss,e.key=.string s:=by
 obtain ⟨j,hj⟩:=List.mem_iff_getElem?.1 h;refine ⟨⟨.string s,.bool true,j⟩,?_,rfl⟩
 unfold fZ
 refine List.mem_map.2 ⟨(s,j),?_,rfl⟩;rw[List.mem_iff_getElem?];exact ⟨j,by rw[List.getElem?_zipIdx,hj];simp⟩
theorem uS (ss:List ByteArray)(s:ByteArray):(Instr.findNow .string (.string s) (fZ ss) 0=some none∧s ∉ ss)∨∃ j,Instr.findNow .string (.string s) (fZ ss) 0=some (some (j,.bool true))∧ss[j]?=some s:=by
 rcases MapKept.findNow_spec (d:=.string) (k:=.string s) (by simp[MapKept.IsKey]) (fZ ss) 0 (fun x hx=>by obtain ⟨_,_,_,rfl⟩:=oB hx;simp[MapKept.IsKey]) with ⟨h1,h2⟩|⟨j,e,h1,h2,h3⟩
 ·refine .inl ⟨h1,fun hm=>?_⟩
  obtain ⟨e,he,hk⟩:=Ca hm;exact h2 e he hk
 ·obtain ⟨s',hs,rfl⟩:=p8 h2
  injection h3 with h3
  subst h3;exact .inr ⟨j,by rw[h1,Nat.zero_add],hs⟩
structure MapK (w:World) (h:Hp) (b:Nat) (ss:List ByteArray):Prop where
  jk:h[b]?=some bI
  ob:w.heap[b]?=some (.map (fZ ss).toArray ss.length)
  nd:ss.Nodup
section laws
variable {P:Program} {n:Nat} {N R:Po} {X:Nat→Po} {ops:Array Oper} {k:Nat} {Γ:cO} {w:World} {h:Hp} {w1:World} {h1:Hp} {B:List Bx} {Rs:List Rw} {F:List (Hp→Prop)}
theorem SS.atK (s:SS w1 h1 w h B Rs F){b:Nat}{ss:List ByteArray}(m:MapK w1 h1 b ss):w.heap[b]?=some (.map (fZ ss).toArray ss.length) :=
 (s.st.up.ext.block b (by rw[s.g0.size];exact aN m.jk)).trans m.ob
theorem nX {b:Nat}{o:Obj}(g1:G { w1 with heap:=w1.heap.setIfInBounds b o } h1):UpM [b] w1 h1 { w1 with heap:=w1.heap.setIfInBounds b o } h1 :=
 ⟨⟨rfl,rfl,rfl,by show _≤(w1.heap.setIfInBounds b o).size;rw[Array.size_setIfInBounds];exact Nat.le_refl _,fun c _ hn=>by
  show (w1.heap.setIfInBounds b o)[c]?=_
  rw[Array.getElem?_setIfInBounds_ne (fun e=>hn (List.mem_singleton.2 e.symm))]⟩,Gr.refl _,g1⟩
theorem In {mty kt et:TypeId}{b:Nat}{ss:List ByteArray}(ky:ByteArray)(s:SS w1 h1 w h B Rs F)(m:MapK w1 h1 b ss)
    (H:∀ w1' w' ss2,SS w1' h1 w' h B Rs F→MapK w1' h1 b ss2→(∀ x,x∈ss2↔x∈ss∨x=ky)→ss2.length≤ss.length+1→UpM [b] w1 h1 w1' h1→LG P n N R X ops (k+1) Γ w')
    (hc:cS ops Γ k=true:=by kernel_rfl)(hx:execOp (ev Γ) (av ops k)=(do Instr.mapUpdate mty (.map (some b)) (.string ky) (.bool true);pure .skip):=by kernel_rfl)(hu:P.underlying mty=some (.map kt et):=by kernel_rfl)(hk:P.underlying kt=some .string:=by kernel_rfl):LG P n N R X ops k Γ w:=by
  have hw:=s.atK m;have hlt:b<w1.heap.size:=(Array.getElem?_eq_some_iff.1 m.ob).1
  rcases uS ss ky with ⟨hf,hn⟩|⟨j,hf,hj⟩
  · have hr:=rz w (val:=.bool true) hu hk hw hf
    obtain ⟨s2,g2⟩:=s.base (o:=.map ((fZ ss).toArray.push ⟨.string ky,.bool true,ss.length⟩) (ss.length+1)) m.jk hlt;refine LG.store _ (jI hc).1 (jI hc).2 ?_ (H _ _ (ss++[ky]) s2 ⟨m.jk,?_,?_⟩ (fun x=>by simp) (by simp) (nX g2))
    · rw[hx];simp[hr,Result.andThen]
    · show (w1.heap.setIfInBounds b _)[b]?=_
      rw[Array.getElem?_setIfInBounds_self_of_lt hlt,vF];simp
    · exact List.nodup_append.2 ⟨m.nd,by simp,fun a ha c hc e=>hn (by rw[List.mem_singleton] at hc;rw[←hc,←e];exact ha)⟩
  · have hjl:j<ss.length:=(List.getElem?_eq_some_iff.1 hj).1
    have hkj:(fZ ss)[j]?=some ⟨.string ky,.bool true,j⟩:=by
      unfold fZ;rw[List.getElem?_map,List.getElem?_zipIdx,hj];simp
    have hr:=vM w (val:=.bool true) hu hk hw hf (by simp[hkj])
    have he:((fZ ss).toArray.modify j fun e=>{ e with key:=.string ky,val:=.bool true })=(fZ ss).toArray:=by
      apply Array.ext_getElem?
      intro i;rw[Array.getElem?_modify]
      by_cases e:j=i
      · subst e
        rw[if_pos rfl]
        simp[hkj]
      · rw[if_neg e]
    rw[he] at hr
    obtain ⟨s2,g2⟩:=s.base (o:=.map (fZ ss).toArray ss.length) m.jk hlt;refine LG.store _ (jI hc).1 (jI hc).2 ?_ (H _ _ ss s2 ⟨m.jk,?_,m.nd⟩ (fun x=>⟨.inl,fun h=>h.elim id fun e=>by rw[e];exact List.mem_iff_getElem?.2 ⟨j,hj⟩⟩) (Nat.le_succ _) (nX g2))
    · rw[hx];simp[hr,Result.andThen]
    · show (w1.heap.setIfInBounds b _)[b]?=_
      rw[Array.getElem?_setIfInBounds_self_of_lt hlt]
theorem SS.baseK (s:SS w1 h1 w h B Rs F){b:Nat}{ss ss2:List ByteArray}(m:MapK w1 h1 b ss){w':World}{h':Hp}(u:UpM [b] w h w' h')(ho:w'.heap[b]?=some (.map (fZ ss2).toArray ss2.length))(nd:ss2.Nodup):∃ w1',SS w1' h1 w' h' B Rs F∧MapK w1' h1 b ss2∧UpM [b] w1 h1 w1' h1:=by
 have hlt:b<w1.heap.size:=(Array.getElem?_eq_some_iff.1 m.ob).1;have hb1:=aN m.jk;obtain ⟨s2,g2⟩:=s.base (o:=.map (fZ ss2).toArray ss2.length) m.jk hlt;have hsz:({ w1 with heap:=w1.heap.setIfInBounds b (.map (fZ ss2).toArray ss2.length) }:World).heap.size=w1.heap.size:=by simp
 have blk:∀ c,c<w.heap.size→c≠b→w'.heap[c]?=w.heap[c]?:=fun c hc hn=>u.mo.blk c hc (fun hm=>hn (List.mem_singleton.1 hm))
 have e:=s.st.up.ext;have hnb:∀ x∈B,x.b≠b:=fun x hx e=>by have:=s.st.lo x hx;omega
 refine ⟨_,⟨g2,⟨⟨⟨u.mo.os.trans e.os,u.mo.tape.trans e.tape,u.mo.output.trans e.output,by rw[hsz];exact Nat.le_trans e.size u.mo.size,fun c hc=>?_⟩,s.st.up.gr.trans u.gr,u.g⟩,fun x hx=>?_,fun x hx=>?_,s.st.lo,s.st.nd⟩,fun r hr=>⟨eF (s.ro r hr).own (fun c hc=>?_),fun c hc=>(u.gr.blk c ((s.ro r hr).lt hc)).trans ((s.ro r hr).jk c hc),(s.ro r hr).ap⟩,s.ap,s.mo,s.f.gw s.mo u.gr.gw⟩,⟨m.jk,by show (w1.heap.setIfInBounds b _)[b]?=_;rw[Array.getElem?_setIfInBounds_self_of_lt hlt],nd⟩,nX g2⟩
 ·rw[hsz] at hc
  by_cases q:c=b
  ·subst q
   rw[ho]
   show _=(w1.heap.setIfInBounds c _)[c]?
   rw[Array.getElem?_setIfInBounds_self_of_lt hlt]
  ·rw[blk c (Nat.lt_of_lt_of_le hc e.size) q]
   show _=(w1.heap.setIfInBounds b _)[c]?
   rw[Array.getElem?_setIfInBounds_ne (Ne.symm q)];exact e.block c hc
 ·have hO:=s.st.own x hx
  exact (blk x.b hO.lt (hnb x hx)).trans hO
 ·rw[u.gr.blk _ (aN (s.st.jk x hx))];exact s.st.jk x hx
 ·refine blk c (i7 (s.ro r hr).own hc) (fun e=>?_)
  subst e;have q:=(s.ro r hr).own
  rcases q with ⟨_,e2|⟨g,cap,cur,hv,hb',_⟩⟩
  ·rw[e2.1] at hc;simp[Value.ownBlock] at hc
  ·rw[hv] at hc;simp[Value.ownBlock] at hc;omega
theorem SS.frontR {w0:World}{h0:Hp}{R:List Rw}(s:SS w0 h0 w h B R F)(p' q':List Rw)(y:Rw)(e2:R=p'++y::q':=by kernel_rfl):SS w0 h0 w h B (y::(p'++q')) F:=by
 subst e2;exact s.permBR (.refl _) List.perm_middle
theorem SS.backR {w0:World}{h0:Hp}(p' q':List Rw)(y:Rw)(s:SS w0 h0 w h B (y::(p'++q')) F):SS w0 h0 w h B (p'++y::q') F:=s.permBR (.refl _) List.perm_middle.symm
end laws
theorem nY {ok:ByteArray→Prop}{pl:ByteArray→Int}:∀ {d:Nat} {t:Tm},WfT ok d t→∀ l:List Stp,(bu pl d l t).length=l.length+bH d t
  | d + 1,t,w,l=>by
    have hk:∀ k,k≤t.ks.length→(fX (bu pl d) t.ks l k).1.length=l.length+de (fun i=>bH d (t.ks.getD i be)) k:=by
      intro k
      induction k with
      | zero=>intro _;rfl
      | succ k ih =>
        intro hk
        show (bu pl d (fX (bu pl d) t.ks l k).1 (t.ks.getD k be)).length=l.length+(de _ k+bH d (t.ks.getD k be))
        rw[nY (w.2.2.2.2.2.2.2.2 k oM),ih oM];omega
    show ((fX (bu pl d) t.ks l t.ks.length).1++[_]).length=l.length+(1+de _ t.ks.length)
    rw[List.length_append,hk _ (Nat.le_refl _),List.length_singleton];omega
section
variable {pl:ByteArray→Int} {d k:Nat} {l tl:List Stp} {ks:List Tm} {za zb:Int}
theorem AJ (htl:tl=(fX (bu pl d) ks l k).1)(h:k=0):(((bu pl d tl (ks.getD k be)).length:Nat):Int)-1=(fX (bu pl d) ks l (k+1)).2.1:=by
 subst htl;show _=if k=0 then _ else _;rw[if_pos h]
theorem CA (hb:zb=(fX (bu pl d) ks l k).2.2)(h:k=0):zb=(fX (bu pl d) ks l (k+1)).2.2:=by
 subst hb;show _=if k=0 then _ else _;rw[if_pos h]
theorem BS (ha:za=(fX (bu pl d) ks l k).2.1)(h:k≠0):za=(fX (bu pl d) ks l (k+1)).2.1:=by
 subst ha;show _=if k=0 then _ else _;rw[if_neg h]
theorem BG (htl:tl=(fX (bu pl d) ks l k).1)(h:k≠0):(((bu pl d tl (ks.getD k be)).length:Nat):Int)-1=(fX (bu pl d) ks l (k+1)).2.2:=by
 subst htl;show _=if k=0 then _ else _;rw[if_neg h]
end
theorem CT  (ok:ByteArray→Prop)(d:Nat)(ih:∀ (p:PTm) (t:Tm) (w:World) (h:Hp),G w h→TmH d h p t→WfT ok d t→d≤20→Calls Tryz.prog 35 #[oq p] w (Ret w h (fun v _=>v=nV (bH d t))))(op n:Int)(q:Rat)(s:ByteArray)(A:Option Addr)(c:Nat)(ps:List PTm)(ks:List Tm)(hc:ps.length≤c)(hlp:ps.length≤2)(hari:dD op=(ks.length:Nat))(hq0:op≠1→q=0)(hq:LQ 1 q)(hok:op=2→ok s)(hs0:op≠2→s=⟨#[]⟩)(hn0:op≠8→n=0)(hn1 : -12≤n)(hn2:n≤12)(hW:∀ i,i<ks.length→WfT ok d (ks.getD i be))(hd:d+1≤20)(w:World)(h:Hp)(g:G w h)(hK:SlO 9 hJ bG h A ps)(hKs:Tms d h ps ks):CV 35 #[pW op n q s A ps.length c] w h (nV (bH (d+1) (.mk op n q s ks))):=by
 have hs:=(((sS g).aS hK).add (K:=fun h_=>Tms d h_ ps ks) hKs);have hln:=(hs.f.1).len;have hd2:2^d≤1048576:=Nat.le_trans (Nat.pow_le_pow_right oM (show d≤20 by omega)) kD;have hcb:∀ i,i<ks.length→bH d (ks.getD i be)≤1048576:=fun i hi=>by have:=mc (hW i hi);omega
 have hsb:∀ k,k≤ks.length→(de (fun i=>bH d (ks.getD i be)) k)≤2*1048576:=fun k hk=>Nat.le_trans (kp (b:=1048576) k (fun i hi=>hcb i oM)) (Nat.mul_le_mul_right _ oM)
 refine go Tryz.func35 [(0,pW op n q s A ps.length c)] rfl (aD (lA 1 42 (pG op n q s A ps.length c) hs (fun b1 w2 h3 hs=>lL hs [.v 2 (iV 0)] (ay (lL hs [.v 3 (iV 1)] (af (ab hs [.v 6 (qP b1 8),.o 7 (qS A ps.length c) 0 8 1,.v 8 (nV ps.length),.v 9 (iV 0)] (bd ?_))))))));refine bD _ (CG.loop (fun μ_ Γ w_=>∃ (k:Nat) (h_:Hp),μ_=ps.length-k∧Γ=[(2,iV 0),(7,qS A ps.length c),(8,nV ps.length),(9,nV k),(3,iV ((1+(de (fun i=>bH d (ks.getD i be)) k):Nat):Int))]∧SS w h w_ h_ [⟨b1,42,pG op n q s A ps.length c⟩] [] [fun h_=>Tms d h_ ps ks,fun h_=>SlO 9 hJ bG h_ A ps]∧k≤ps.length) _ ⟨0,h3,rfl,rfl,hs.to _ _,Nat.zero_le _⟩ ?_);rintro _ _ w4 ⟨k,h5,hm6,rfl,hs,hk⟩;have hsbk:=hsb k oM;have hs1:(de (fun i=>bH d (ks.getD i be)) (k+1))=(de (fun i=>bH d (ks.getD i be)) k)+bH d (ks.getD k be):=rfl;refine aD ?_;cases hb7:(decide ((k:Int)<(ps.length:Int)))
 ·
  have phb7:=oF hb7;refine lB 10 hb7 (af (dK (CG.exit ?_)))
  show CG _ _ _ _ _ _ _ _
  exact ab hs [.m 18 3,.m 2 18] (ae hs [] (iV ((1+(de (fun i=>bH d (ks.getD i be)) k):Nat):Int)) (congrArg (fun n:Nat=>Value.int .i64 (n:Int)) (by rw[show k=ks.length by omega];rfl)))
 have phb7:=oT hb7;refine lB 10 hb7 (af (cI (cK (cQ (kZ (aD (lX 11 A ps.length c 9 (k:Nat) k ((hs.f.2.1).ok oM) ?_)))))));refine lH 12 (pX (ps.getD k bG)) hs ((hs.f.2.1).el k oM) (lA 5 42 ([iV 0,iV 0,qF,uV 0,eS,uV 0,eS,eS,sZ]) hs (fun b8 w9 _ hs=>lP 0 0 (pC (ps.getD k bG)) hs (fun _ hs=>lN (kQ (lL hs [.m 13 3,.o 14 (pX (ps.getD k bG)) 0 0 9] (ah 15 hs (ih (ps.getD k bG) (ks.getD k be) _ _ hs.g ((hs.f.1).at_ k oM) (hW k oM) oM) (fun _ za hs=>?_)))))));have hcbk:=hcb k oM;refine lV 16 (iV ((1+(de (fun i=>bH d (ks.getD i be)) (k+1)):Nat):Int)) ?_ (hr:=rS ((((1+(de (fun i=>bH d (ks.getD i be)) k):Nat):Int)+(bH d (ks.getD k be):Nat))) kR ((fV oM oM).trans oM));refine lL hs [.m 3 16] (lN (kQ (bw 17 ((k:Nat)+1) (k+1) ?_)));refine lL hs [.m 9 17] (lD ?_);intro a_ ka;replace hs:=hs.drop 1 0;refine ⟨_,_,?_,⟨k+1,za,rfl,rfl,hs.to _ _,oM⟩,ka.to _ kR⟩
 omega
theorem vU (ok:ByteArray→Prop):∀ (d:Nat) (p:PTm) (t:Tm) (w:World) (h:Hp),G w h→TmH d h p t→WfT ok d t→d≤20→Calls Tryz.prog 35 #[oq p] w (Ret w h (fun v _=>v=nV (bH d t)))
  | 0,_,_,_,_,_,x,_,_=>x.elim
  | d + 1,p,t,w,h,g,x,wf,hd=>by
    obtain ⟨op,n,q,s,A,c,ps,ks,rfl,rfl,hc,hK,hKs⟩:=x.open;obtain ⟨w1,w2,w3,w4,w5,w6,w7,w8,w9⟩:=wf
    have hl2:ps.length≤2:=by
      have e1:dD op=ks.length:=w1;have:=aG op;have:=hKs.len
      omega
    exact CT ok d (fun p t w h=>vU ok d p t w h) op n q s A c ps ks hc hl2 w1 w2 w3 w4 w5 w6 w7 w8 w9 hd w h g hK hKs
theorem uR  (ok:ByteArray→Prop)(d:Nat)(ih:∀ (p:PTm) (t:Tm) (b:Nat) (ss:List ByteArray) (w:World) (h:Hp),G w h→TmH d h p t→WfT ok d t→MapK w h b ss→Calls Tryz.prog 77 #[oq p,.map (some b)] w (jG b w h (fun v w1 _=>v=.tuple #[]∧∃ ss2:List ByteArray,w1.heap[b]?=some (.map (fZ ss2).toArray ss2.length)∧ss2.Nodup∧(∀ x,x∈ss2↔x∈ss∨jQ d t x)∧ss2.length≤ss.length+bH d t)))(op n:Int)(q:Rat)(s:ByteArray)(A:Option Addr)(c:Nat)(ps:List PTm)(ks:List Tm)(hc:ps.length≤c)(hlp:ps.length≤2)(hari:dD op=(ks.length:Nat))(hq0:op≠1→q=0)(hq:LQ 1 q)(hok:op=2→ok s)(hs0:op≠2→s=⟨#[]⟩)(hn0:op≠8→n=0)(hn1 : -12≤n)(hn2:n≤12)(hW:∀ i,i<ks.length→WfT ok d (ks.getD i be))(b:Nat)(ss:List ByteArray)(w:World)(h:Hp)(g:G w h)(hK:SlO 9 hJ bG h A ps)(hKs:Tms d h ps ks)(hmk:MapK w h b ss):Calls Tryz.prog 77 #[pW op n q s A ps.length c,.map (some b)] w (jG b w h (fun v w1 _=>v=.tuple #[]∧∃ ss2:List ByteArray,w1.heap[b]?=some (.map (fZ ss2).toArray ss2.length)∧ss2.Nodup∧(∀ x,x∈ss2↔x∈ss∨jQ (d+1) (.mk op n q s ks) x)∧ss2.length≤ss.length+bH (d+1) (.mk op n q s ks))):=by
 have hmu:UpM [b] w h w h:=UpM.refl g;have hs:SS w h w h [] [] []:=sS g;replace hs:=((hs.aS hK).add (K:=fun h_=>Tms d h_ ps ks) hKs);have hln:=(hs.f.1).len;refine go Tryz.func77 [(0,pW op n q s A ps.length c),(1,.map (some b))] rfl (aD (lA 2 42 (pG op n q s A ps.length c) hs (fun b1 w2 h3 hs=>?_)));refine lN (CG.join (fun Γ w_=>∃ (w1_:World) (s1:List ByteArray) (h_:Hp),Γ=[(1,.map (some b)),(2,pB b1)]∧SS w1_ h w_ h_ [⟨b1,42,pG op n q s A ps.length c⟩] [] [fun h_=>Tms d h_ ps ks,fun h_=>SlO 9 hJ bG h_ A ps]∧MapK w1_ h b s1∧UpM [b] w h w1_ h∧(∀ x,x∈s1↔x∈ss∨(op=2∧x=s))∧s1.length≤ss.length+1) ?_ ?_)
 ·
  refine ab hs [.v 6 (pB b1),.o 7 (iV op) 0 0 1] ?_;cases hb4:((op:Int) == (2:Int))
  ·
   have phb4:=aj hb4;refine lB 8 hb4 (am (CG.skip ?_));intro a_ ka;exact ⟨_,⟨w,ss,h3,rfl,hs.to _ _,hmk,hmu,(fun x=>⟨fun h_=>.inl h_,fun h_=>h_.elim id (fun e_=>absurd e_.1 oM)⟩),oM⟩,ka.to _ kR⟩
  have phb4:=eq_of_beq hb4;refine lB 8 hb4 (ar (kQ (lL hs [.m 9 1,.v 10 (qP b1 7),.o 11 (.string s) 0 7 1] (In (mty:=137) (kt:=9) (et:=4) (s) hs hmk (fun w9 _ ss11 hs hmk hsq hsl2 u_=>?_)))));replace hmu:=hmu.trans u_
  clear u_
  refine lD ?_;intro a_ ka;exact ⟨_,⟨w9,ss11,h3,rfl,hs.to _ _,hmk,hmu,(fun x=>(hsq x).trans ⟨fun h_=>h_.imp id fun e_=>⟨by omega,e_⟩,fun h_=>h_.imp id fun e_=>e_.2⟩),oM⟩,ka.to _ kR⟩
 rintro _ _ ⟨w1_,s1,zc,rfl,hs,hmk,hmu,hs1,hl1⟩;refine ab hs [.v 12 (qP b1 8),.o 13 (qS A ps.length c) 0 8 1,.v 14 (nV ps.length),.v 15 (iV 0)] (bd ?_);refine bD _ (CG.loop (fun μ_ Γ w_=>∃ (w1_:World) (k:Nat) (sk:List ByteArray) (h_:Hp),μ_=ps.length-k∧Γ=[(1,.map (some b)),(13,qS A ps.length c),(14,nV ps.length),(15,nV k)]∧SS w1_ h w_ h_ [⟨b1,42,pG op n q s A ps.length c⟩] [] [fun h_=>Tms d h_ ps ks,fun h_=>SlO 9 hJ bG h_ A ps]∧MapK w1_ h b sk∧UpM [b] w h w1_ h∧k≤ps.length∧(∀ x,x∈sk↔x∈s1∨HasK d ks k x)∧sk.length≤s1.length+(de (fun i=>bH d (ks.getD i be)) k)) _ ⟨w1_,0,s1,zc,rfl,rfl,hs.to _ _,hmk,hmu,Nat.zero_le _,(fun x=>⟨.inl,fun h_=>h_.elim id (fun h_=>absurd h_ HasK.zero)⟩),nR _⟩ ?_);rintro _ _ _ ⟨w1_,k,sk,_,hm20,rfl,hs,hmk,hmu,hk,hsk,hskl⟩;have hs1_:(de (fun i=>bH d (ks.getD i be)) (k+1))=(de (fun i=>bH d (ks.getD i be)) k)+bH d (ks.getD k be):=rfl;refine aD ?_;cases za:(decide ((k:Int)<(ps.length:Int)))
 ·
  have zb:=oF za;refine lB 16 za (af (dK (CG.exit ?_)));have hkn:k=ks.length:=by omega
  have hcn:bH (d+1) (.mk op n q s ks)=1+(de (fun i=>bH d (ks.getD i be)) ks.length):=rfl;exact hs.retM (hmu.trans (hs.st.up.m _)) [] (.tuple #[]) ⟨rfl,sk,hs.atK hmk,hmk.nd,fun x=>by rw[hsk x,hs1 x,hkn,or_assoc];exact Iff.rfl,by rw[hcn,←hkn];omega⟩
 have zb:=oT za;refine lB 16 za (af (cI (cK (cQ (kZ (aD (lX 17 A ps.length c 9 (k:Nat) k ((hs.f.2.1).ok oM) ?_)))))));refine lH 18 (pX (ps.getD k bG)) hs ((hs.f.2.1).el k oM) (lA 5 42 ([iV 0,iV 0,qF,uV 0,eS,uV 0,eS,eS,sZ]) hs (fun b22 _ _ hs=>lP 0 0 (pC (ps.getD k bG)) hs (fun _ hs=>lN (kQ (lL hs [.o 19 (pX (ps.getD k bG)) 0 0 9,.m 20 1] (uN 21 (ih (ps.getD k bG) (ks.getD k be) b sk _ _ hs.g ((hs.f.1).at_ k oM) (hW k oM) ⟨(hs.st.up.gr.blk _ (aN hmk.jk)).trans hmk.jk,hs.atK hmk,hmk.nd⟩) ?_))))));rintro _ _ zd u28 ⟨rfl,ss29,ho_,hd_,hsq,hsl2⟩;obtain ⟨ze,hs,hmk,u_⟩:=hs.baseK hmk u28 ho_ hd_;replace hmu:=hmu.trans u_
 clear u_ ho_ hd_
 refine lN (kQ (bw 22 ((k:Nat)+1) (k+1) ?_));refine lL hs [.m 15 22] (lD ?_);intro a_ ka;replace hs:=hs.drop 1 0;refine ⟨_,_,?_,⟨ze,k+1,ss29,zd,rfl,rfl,hs.to _ _,hmk,hmu,oM,(fun x=>(hsq x).trans (by rw[hsk x,or_assoc,←HasK.succ])),oM⟩,ka.to _ kR⟩
 omega
theorem rJ (ok:ByteArray→Prop):∀ (d:Nat) (p:PTm) (t:Tm) (b:Nat) (ss:List ByteArray) (w:World) (h:Hp),G w h→TmH d h p t→WfT ok d t→MapK w h b ss→Calls Tryz.prog 77 #[oq p,.map (some b)] w (jG b w h (fun v w1 _=>v=.tuple #[]∧∃ ss2:List ByteArray,w1.heap[b]?=some (.map (fZ ss2).toArray ss2.length)∧ss2.Nodup∧(∀ x,x∈ss2↔x∈ss∨jQ d t x)∧ss2.length≤ss.length+bH d t))
  | 0,_,_,_,_,_,_,_,x,_,_=>x.elim
  | d+1,p,t,b,ss,w,h,g,x,wf,hmk=>by
    obtain ⟨op,n,q,s,A,c,ps,ks,rfl,rfl,hc,hK,hKs⟩:=x.open;have hl2:=wf.two;obtain ⟨w1,w2,w3,w4,w5,w6,w7,w8,w9⟩:=wf;exact uR ok d (fun p t b ss w h=>rJ ok d p t b ss w h) op n q s A c ps ks hc (by have:=hKs.len;exact this▸hl2) w1 w2 w3 w4 w5 w6 w7 w8 w9 b ss w h g hK hKs hmk
theorem wW {w0:World}{h0:Hp}{B2:List Bx}{R2:List Rw}{F2:List (Hp→Prop)}(ok:ByteArray→Prop)(pl:ByteArray→Int)(b:Nat)(es:List MapEntry)(hpl:∀ s,ok s→0≤pl s∧pl s≤1000)(hlk:∀ s,ok s→∃ i,Instr.findNow .string (.string s) es 0=some (some (i,iV (pl s))))(d:Nat)(ih:∀ (p:PTm) (t:Tm) (A:Option Addr) (c:Nat) (l:List Stp) {w0:World} {h0:Hp} {B2:List Bx} {R2:List Rw} {F2:List (Hp→Prop)} (w:World) (h:Hp),G w h→TmH d h p t→MapS h b es→SS w0 h0 w h B2 (⟨144,9,A,c,(l).length,(l).flatMap fW⟩::R2) F2→WfT ok d t→l.length+bH d t≤1000000→Calls Tryz.prog 36 #[.slice A l.length c,oq p,.map (some b)] w (wI fun v w1 h1=>∃ A1 c1,v=.slice A1 (bu pl d l t).length c1∧SS w0 h0 w1 h1 B2 (⟨144,9,A1,c1,(bu pl d l t).length,(bu pl d l t).flatMap fW⟩::R2) F2))(op n:Int)(q:Rat)(s:ByteArray)(A:Option Addr)(c:Nat)(ps:List PTm)(ks:List Tm)(hc:ps.length≤c)(hlp:ps.length≤2)(hari:dD op=(ks.length:Nat))(hq0:op≠1→q=0)(hq:LQ 1 q)(hok:op=2→ok s)(hs0:op≠2→s=⟨#[]⟩)(hn0:op≠8→n=0)(hn1 : -12≤n)(hn2:n≤12)(hW:∀ i,i<ks.length→WfT ok d (ks.getD i be))(A0:Option Addr)(c0:Nat)(l:List Stp)(hll0:l.length+bH (d+1) (.mk op n q s ks)≤1000000)(w:World)(h:Hp)(g:G w h)(hK:SlO 9 hJ bG h A ps)(hKs:Tms d h ps ks)(hM:MapS h b es)(hs:SS w0 h0 w h B2 (⟨144,9,A0,c0,(l).length,(l).flatMap fW⟩::R2) F2):Calls Tryz.prog 36 #[.slice A0 ((l).length) c0,pW op n q s A ps.length c,.map (some b)] w (wI fun v w1 h1=>∃ A1 c1,v=.slice A1 (bu pl (d+1) l (.mk op n q s ks)).length c1∧SS w0 h0 w1 h1 B2 (⟨144,9,A1,c1,(bu pl (d+1) l (.mk op n q s ks)).length,(bu pl (d+1) l (.mk op n q s ks)).flatMap fW⟩::R2) F2):=by
 replace hs:=hs.to ([]++B2) ([⟨144,9,A0,c0,(l).length,(l).flatMap fW⟩]++R2);replace hs:=(((hs.aS hK).add (K:=fun h_=>Tms d h_ ps ks) hKs).add (K:=fun h_=>MapS h_ b es) hM);have hln:=(hs.f.2.1).len;have hcn:bH (d+1) (.mk op n q s ks)=1+(de (fun i=>bH d (ks.getD i be)) ks.length):=rfl;refine go Tryz.func36 [(0,qS A0 ((l).length) c0),(1,pW op n q s A ps.length c),(2,.map (some b))] rfl (aD (lA 4 42 (pG op n q s A ps.length c) hs (fun b1 w2 h3 hs=>lL hs [.v 6 (sZ)] (ay (lL hs [.v 10 (pB b1),.o 11 (iV op) 0 0 1,.v 12 (qP b1 1),.o 13 (iV n) 0 1 1,.v 14 (qP b1 2),.o 15 (qv q) 0 2 5,.v 16 (sW op 0 0 n q)] (lA 7 144 ([iV 0,iV 0,iV 0,iV 0,qF,uV 0,eS,uV 0,eS]) hs (fun b4 w5 h6 hs=>lP 0 0 (sG op 0 0 n q) hs (fun w7 hs=>?_))))))));refine lN (CG.join (fun Γ w_=>∃ (nn:Int) (h_:Hp),Γ=[(0,qS A0 ((l).length) c0),(2,.map (some b)),(4,pB b1),(6,sZ),(7,pB b4)]∧SS w0 h0 w_ h_ ([⟨b4,144,sG op 0 0 nn q⟩,⟨b1,42,pG op n q s A ps.length c⟩]++B2) ([⟨144,9,A0,c0,(l).length,(l).flatMap fW⟩]++R2) ([fun h_=>MapS h_ b es,fun h_=>Tms d h_ ps ks,fun h_=>SlO 9 hJ bG h_ A ps]++F2)∧nn=(if op=2 then pl s else n)) ?_ ?_)
 ·
  refine ab hs [.v 17 (pB b1),.o 18 (iV op) 1 0 1] ?_;cases hb8:((op:Int) == (2:Int))
  ·
   have phb8:=aj hb8;refine lB 19 hb8 (am (CG.skip ?_));intro a_ ka;exact ⟨_,⟨n,h6,rfl,hs.to _ _,((if_neg oM).symm)⟩,ka.to _ kR⟩
  have phb8:=eq_of_beq hb8;refine lB 19 hb8 (ar (kQ (lL hs [.m 20 2,.v 21 (qP b1 7),.o 22 (.string s) 1 7 1] (Ic 23 82 9 3 (s) false (iV (pl s)) (true) hs hs.f.1 ?_ (hf:=(.inl (by obtain ⟨i_,e_⟩:=hlk s (hok oM);exact ⟨i_,e_,rfl⟩)))))));refine lL hs [.v 24 (qP b4 3)] (lP 0 3 ([iV (pl s)]) hs (fun _ hs=>lD ?_));intro a_ ka;exact ⟨_,⟨(pl s),h6,rfl,hs.to _ _,((if_pos oM).symm)⟩,ka.to _ kR⟩
 rintro _ _ ⟨nn,zm,rfl,hs,hnn⟩;refine cQ (ab hs [.v 25 (qP b1 8),.o 26 (qS A ps.length c) 1 8 1,.v 27 (nV ps.length),.v 28 (iV 0)] (bd ?_));refine bD _ (CG.loop (fun μ_ Γ w_=>∃ (k:Nat) (srA:Option Addr) (src:Nat) (tl:List Stp) (za:Int) (zb:Int) (h_:Hp),μ_=ps.length-k∧Γ=[(2,.map (some b)),(6,sZ),(7,pB b4),(26,qS A ps.length c),(27,nV ps.length),(28,nV k),(0,qS srA ((tl).length) src)]∧SS w0 h0 w_ h_ ([⟨b4,144,sG op za zb nn q⟩,⟨b1,42,pG op n q s A ps.length c⟩]++B2) ([⟨144,9,srA,src,(tl).length,(tl).flatMap fW⟩]++R2) ([fun h_=>MapS h_ b es,fun h_=>Tms d h_ ps ks,fun h_=>SlO 9 hJ bG h_ A ps]++F2)∧k≤ps.length∧tl=(fX (bu pl d) ks l k).1∧za=(fX (bu pl d) ks l k).2.1∧zb=(fX (bu pl d) ks l k).2.2∧tl.length≤l.length+(de (fun i=>bH d (ks.getD i be)) k)) _ ⟨0,A0,c0,l,0,0,zm,rfl,rfl,hs.to _ _,Nat.zero_le _,rfl,rfl,rfl,(nR _)⟩ ?_);rintro _ _ _ ⟨k,srA,src,tl,za,zb,_,hm16,rfl,hs,hk,htl,ha1,hb1,hll⟩;have hs1_:(de (fun i=>bH d (ks.getD i be)) (k+1))=(de (fun i=>bH d (ks.getD i be)) k)+bH d (ks.getD k be):=rfl;refine aD ?_;cases zc:(decide ((k:Int)<(ps.length:Int)))
 ·
  have zg:=oF zc;refine lB 29 zc (af (dK (CG.exit ?_)))
  show CG _ _ _ _ _ _ _ _
  refine aD ?_;have hsm2_:=gC (fun i=>bH d (ks.getD i be)) (show k≤ks.length by omega);refine lL hs [.m 48 0,.o 49 (sW op za zb nn q) 0 0 9] (lR 50 144 1 (sG op za zb nn q) hs (fun zn _ _ hs=>lY 51 0 144 9 src srA tl fW (⟨op,za,zb,nn,q⟩:Stp) 88 zn (.agg #[iV 0,iV 0,iV 0,iV 0,qF,uV 0,eS,uV 0,eS]) hs hs.f.1 (fun zj zk _ _ hs=>lL hs [.m 6 51] (lN (kX ?_)))));have hkn:k=ks.length:=by omega
  rw[hkn] at htl ha1 hb1
  have hrT:bu pl (d+1) l (.mk op n q s ks)=tl++[⟨op,za,zb,nn,q⟩]:=by rw[htl,ha1,hb1,hnn];rfl
  refine hs.retS [] (qS zj ((tl++[(⟨op,za,zb,nn,q⟩:Stp)]).length) zk) ?_;rw[hrT];exact ⟨zj,zk,rfl,(hs.tl.tl.tl.tl.drop 2 0).to _ _⟩
 have zg:=oT zc;refine lB 29 zc (af (cI (cK (cQ (kZ (ab hs [.m 30 28] (lX 31 A ps.length c 9 (k:Nat) k ((hs.f.r.1).ok oM) ?_)))))));refine lH 32 (pX (ps.getD k bG)) hs ((hs.f.r.1).el k oM) (lA 9 42 ([iV 0,iV 0,qF,uV 0,eS,uV 0,eS,eS,sZ]) hs (fun zo _ _ hs=>lL hs [.m 8 30] (lP 0 0 (pC (ps.getD k bG)) hs (fun _ hs=>ay (lL hs [.m 33 0,.o 34 (pX (ps.getD k bG)) 0 0 9,.m 35 2] ?_)))));have hsm_:=gC (fun i=>bH d (ks.getD i be)) (show k+1≤ks.length by omega);refine I6 36 (ih (ps.getD k bG) (ks.getD k be) srA src tl _ _ hs.g ((hs.f.2.1).at_ k oM) hs.f.1 (hs.frontR [] ([]++R2) ⟨144,9,srA,src,(tl).length,(tl).flatMap fW⟩) (hW k oM) oM) ?_;rintro _ _ zl ⟨ze,zf,rfl,hs⟩;replace hs:=(SS.backR [] ([]++R2) ⟨144,9,ze,zf,(bu pl d tl (ks.getD k be)).length,(bu pl d tl (ks.getD k be)).flatMap fW⟩ hs).to ([⟨zo,42,pC (ps.getD k bG)⟩,⟨b4,144,sG op za zb nn q⟩,⟨b1,42,pG op n q s A ps.length c⟩]++B2) ([⟨144,9,ze,zf,(bu pl d tl (ks.getD k be)).length,(bu pl d tl (ks.getD k be)).flatMap fW⟩]++R2);have hrl:=(nY (pl:=pl) (hW k oM) tl);refine lL hs [.m 0 36] (ay (lL hs [.m 37 8] ?_));cases zd:((k:Int) == (0:Int))
 ·
  have zi:=aj zd;refine lB 38 zd (am (kQ (lL hs [.m 43 0,.v 44 (nV ((bu pl d tl (ks.getD k be)).length))] (lI 45 (((bu pl d tl (ks.getD k be)).length:Nat)-1) ?_))));refine lL hs [.v 46 (qP b4 2)] (lP 1 2 ([iV (((bu pl d tl (ks.getD k be)).length:Nat)-1)]) hs (fun _ hs=>lN (kQ (bw 47 ((k:Nat)+1) (k+1) ?_))));refine lL hs [.m 28 47] (lD ?_);intro a_ ka;replace hs:=hs.drop 1 0;refine ⟨_,_,?_,⟨k+1,ze,zf,bu pl d tl (ks.getD k be),za,((bu pl d tl (ks.getD k be)).length:Nat)-1,zl,rfl,rfl,hs.to _ _,oM,(by rw[htl];rfl),(BS ha1 oM),(BG htl oM),oM⟩,ka.to _ kR⟩
  omega
 have zi:=eq_of_beq zd;refine lB 38 zd (ar (kQ (lL hs [.m 39 0,.v 40 (nV ((bu pl d tl (ks.getD k be)).length))] (lI 41 (((bu pl d tl (ks.getD k be)).length:Nat)-1) ?_))));refine lL hs [.v 42 (qP b4 1)] (lP 1 1 ([iV (((bu pl d tl (ks.getD k be)).length:Nat)-1)]) hs (fun _ hs=>lN (kQ (bw 47 ((k:Nat)+1) (k+1) ?_))));refine lL hs [.m 28 47] (lD ?_);intro a_ ka;replace hs:=hs.drop 1 0;refine ⟨_,_,?_,⟨k+1,ze,zf,bu pl d tl (ks.getD k be),((bu pl d tl (ks.getD k be)).length:Nat)-1,zb,zl,rfl,rfl,hs.to _ _,oM,(by rw[htl];rfl),(AJ htl oM),(CA hb1 oM),oM⟩,ka.to _ kR⟩
 omega
theorem rQ (ok:ByteArray→Prop)(pl:ByteArray→Int)(b:Nat)(es:List MapEntry)(hpl:∀ s,ok s→0≤pl s∧pl s≤1000)(hlk:∀ s,ok s→∃ i,Instr.findNow .string (.string s) es 0=some (some (i,iV (pl s)))):∀ (d:Nat) (p:PTm) (t:Tm) (A:Option Addr) (c:Nat) (l:List Stp) {w0:World} {h0:Hp} {B2:List Bx} {R2:List Rw} {F2:List (Hp→Prop)} (w:World) (h:Hp),G w h→TmH d h p t→MapS h b es→SS w0 h0 w h B2 (⟨144,9,A,c,(l).length,(l).flatMap fW⟩::R2) F2→WfT ok d t→l.length+bH d t≤1000000→Calls Tryz.prog 36 #[.slice A l.length c,oq p,.map (some b)] w (wI fun v w1 h1=>∃ A1 c1,v=.slice A1 (bu pl d l t).length c1∧SS w0 h0 w1 h1 B2 (⟨144,9,A1,c1,(bu pl d l t).length,(bu pl d l t).flatMap fW⟩::R2) F2)
  | 0,_,_,_,_,_,_,_,_,_,_,_,_,_,x,_,_,_,_=>x.elim
  | d+1,p,t,A0,c0,l,w0,h0,B2,R2,F2,w,h,g,x,hM,hs,wf,hl=>by
    obtain ⟨op,n,q,s,A,c,ps,ks,rfl,rfl,hc,hK,hKs⟩:=x.open;have hl2:=wf.two;obtain ⟨w1,w2,w3,w4,w5,w6,w7,w8,w9⟩:=wf;exact wW ok pl b es hpl hlk d (fun p t A c l=>@fun w0 h0 B2 R2 F2 w h=>rQ ok pl b es hpl hlk d p t A c l w h) op n q s A c ps ks hc (by have:=hKs.len;exact this▸hl2) w1 w2 w3 w4 w5 w6 w7 w8 w9 A0 c0 l hl w h g hK hKs hM hs
section srt
open Go.RowKit Go.Maps Go.Sort Go.Shelf Go.WideShapes
def Tryz.keysZ_ren:Go.Shelf.Ren:=⟨fun|7=>79|10=>132|n=>n,fun|23=>137|26=>9|3=>4|28=>141|0=>0|27=>140|33=>133|4=>4|n=>n,fun|n=>n⟩
theorem Tryz.keysZ:Go.Proofs.SlLaysZ.n7 Tryz.prog Tryz.keysZ_ren:={
 mixed:=by kernel_rfl
 f7:=⟨Tryz.f79.name,by decide,Tryz.func79.trans (congrArg some kR)⟩
 f10:=⟨Tryz.f132.name,by decide,Tryz.func132.trans (congrArg some kR)⟩
 t0:=Tryz.underlying0
 a0:=Tryz.isAgg0
 z0:=Tryz.sizeOf0
 v0:=Tryz.zeroValue0
 t4:=Tryz.underlying4
 a4:=Tryz.isAgg4
 z4:=Tryz.sizeOf4
 v4:=Tryz.zeroValue4
 t23:=Tryz.underlying137
 a23:=Tryz.isAgg137
 z23:=Tryz.sizeOf137
 v23:=Tryz.zeroValue137
 t26:=Tryz.underlying9
 a26:=Tryz.isAgg9
 z26:=Tryz.sizeOf9
 v26:=Tryz.zeroValue9
 t27:=Tryz.underlying140
 a27:=Tryz.isAgg140
 z27:=Tryz.sizeOf140
 v27:=Tryz.zeroValue140
 t28:=Tryz.underlying141
 a28:=Tryz.isAgg141
 z28:=Tryz.sizeOf141
 v28:=Tryz.zeroValue141
 t33:=Tryz.underlying133
 a33:=Tryz.isAgg133
 z33:=Tryz.sizeOf133
 v33:=Tryz.zeroValue133 }
def Tryz.sortedZ_ren:Go.Shelf.Ren:=⟨fun|6=>78|8=>130|9=>131|11=>159|13=>161|12=>160|23=>189|24=>151|14=>180|15=>181|16=>182|17=>183|18=>184|19=>185|20=>186|21=>187|22=>188|25=>211|26=>212|27=>213|28=>214|29=>215|30=>216|31=>228|n=>n,fun|26=>9|28=>141|24=>50|0=>0|3=>3|37=>170|48=>169|50=>33|4=>4|40=>242|39=>241|45=>86|5=>5|9=>9|51=>264|55=>267|57=>275|58=>276|33=>133|n=>n,fun|n=>n⟩
theorem Tryz.sortedZ:Go.Proofs.SlLaysZ.n6 Tryz.prog Tryz.sortedZ_ren:={
 mixed:=by kernel_rfl
 f6:=⟨Tryz.f78.name,by decide,Tryz.func78.trans (congrArg some kR)⟩
 f8:=⟨Tryz.f130.name,by decide,Tryz.func130.trans (congrArg some kR)⟩
 f11:=⟨Tryz.f159.name,by decide,Tryz.func159.trans (congrArg some kR)⟩
 t0:=Tryz.underlying0
 a0:=Tryz.isAgg0
 z0:=Tryz.sizeOf0
 v0:=Tryz.zeroValue0
 t24:=Tryz.underlying50
 a24:=Tryz.isAgg50
 z24:=Tryz.sizeOf50
 v24:=Tryz.zeroValue50
 t26:=Tryz.underlying9
 a26:=Tryz.isAgg9
 z26:=Tryz.sizeOf9
 v26:=Tryz.zeroValue9
 t28:=Tryz.underlying141
 a28:=Tryz.isAgg141
 z28:=Tryz.sizeOf141
 v28:=Tryz.zeroValue141
 i26:=by kernel_rfl }
def Tryz.sortZ_ren:Go.Shelf.Ren:=⟨fun|6=>131|8=>161|9=>160|19=>189|20=>151|21=>180|22=>181|23=>182|24=>183|25=>184|26=>185|27=>186|28=>187|29=>188|36=>211|31=>212|32=>213|37=>214|38=>215|39=>216|41=>228|n=>n,fun|27=>50|29=>9|3=>3|32=>170|26=>50|0=>0|44=>169|46=>33|4=>4|36=>242|35=>241|41=>86|5=>5|9=>9|53=>264|57=>267|63=>275|64=>276|n=>n,fun|n=>n⟩
theorem Tryz.sortZ:Go.Proofs.SlLaysM.n6 Tryz.prog Tryz.sortZ_ren:={
 mixed:=by kernel_rfl
 f6:=⟨Tryz.f131.name,by decide,Tryz.func131.trans (congrArg some kR)⟩
 f8:=Tryz.func161.trans (congrArg some kR)
 f9:=⟨Tryz.f160.name,by decide,Tryz.func160.trans (congrArg some kR)⟩
 f19:=Tryz.func189.trans (congrArg some kR)
 f20:=Tryz.func151.trans (congrArg some kR)
 f21:=⟨Tryz.f180.name,by decide,Tryz.func180.trans (congrArg some kR)⟩
 f22:=⟨Tryz.f181.name,by decide,Tryz.func181.trans (congrArg some kR)⟩
 f23:=⟨Tryz.f182.name,by decide,Tryz.func182.trans (congrArg some kR)⟩
 f24:=⟨Tryz.f183.name,by decide,Tryz.func183.trans (congrArg some kR)⟩
 f25:=⟨Tryz.f184.name,by decide,Tryz.func184.trans (congrArg some kR)⟩
 f26:=⟨Tryz.f185.name,by decide,Tryz.func185.trans (congrArg some kR)⟩
 f27:=⟨Tryz.f186.name,by decide,Tryz.func186.trans (congrArg some kR)⟩
 f28:=⟨Tryz.f187.name,by decide,Tryz.func187.trans (congrArg some kR)⟩
 f29:=⟨Tryz.f188.name,by decide,Tryz.func188.trans (congrArg some kR)⟩
 f31:=Tryz.func212.trans (congrArg some kR)
 f32:=Tryz.func213.trans (congrArg some kR)
 f36:=⟨Tryz.f211.name,by decide,Tryz.func211.trans (congrArg some kR)⟩
 f37:=⟨Tryz.f214.name,by decide,Tryz.func214.trans (congrArg some kR)⟩
 f38:=⟨Tryz.f215.name,by decide,Tryz.func215.trans (congrArg some kR)⟩
 f39:=⟨Tryz.f216.name,by decide,Tryz.func216.trans (congrArg some kR)⟩
 f41:=⟨Tryz.f228.name,by decide,Tryz.func228.trans (congrArg some kR)⟩
 t0:=Tryz.underlying0
 a0:=Tryz.isAgg0
 z0:=Tryz.sizeOf0
 v0:=Tryz.zeroValue0
 t3:=Tryz.underlying3
 a3:=Tryz.isAgg3
 z3:=Tryz.sizeOf3
 v3:=Tryz.zeroValue3
 t4:=Tryz.underlying4
 a4:=Tryz.isAgg4
 z4:=Tryz.sizeOf4
 v4:=Tryz.zeroValue4
 t5:=Tryz.underlying5
 a5:=Tryz.isAgg5
 z5:=Tryz.sizeOf5
 v5:=Tryz.zeroValue5
 t9:=Tryz.underlying9
 a9:=Tryz.isAgg9
 z9:=Tryz.sizeOf9
 v9:=Tryz.zeroValue9
 t26:=Tryz.underlying50
 a26:=Tryz.isAgg50
 z26:=Tryz.sizeOf50
 v26:=Tryz.zeroValue50
 t27:=Tryz.underlying50
 a27:=Tryz.isAgg50
 z27:=Tryz.sizeOf50
 v27:=Tryz.zeroValue50
 t29:=Tryz.underlying9
 a29:=Tryz.isAgg9
 z29:=Tryz.sizeOf9
 v29:=Tryz.zeroValue9
 t32:=Tryz.underlying170
 a32:=Tryz.isAgg170
 z32:=Tryz.sizeOf170
 v32:=Tryz.zeroValue170
 t35:=Tryz.underlying241
 a35:=Tryz.isAgg241
 z35:=Tryz.sizeOf241
 v35:=Tryz.zeroValue241
 t36:=Tryz.underlying242
 a36:=Tryz.isAgg242
 z36:=Tryz.sizeOf242
 v36:=Tryz.zeroValue242
 t41:=Tryz.underlying86
 a41:=Tryz.isAgg86
 z41:=Tryz.sizeOf86
 v41:=Tryz.zeroValue86
 t44:=Tryz.underlying169
 a44:=Tryz.isAgg169
 z44:=Tryz.sizeOf169
 v44:=Tryz.zeroValue169
 t46:=Tryz.underlying33
 a46:=Tryz.isAgg33
 z46:=Tryz.sizeOf33
 v46:=Tryz.zeroValue33
 t53:=Tryz.underlying264
 a53:=Tryz.isAgg264
 z53:=Tryz.sizeOf264
 v53:=Tryz.zeroValue264
 t57:=Tryz.underlying267
 a57:=Tryz.isAgg267
 z57:=Tryz.sizeOf267
 v57:=Tryz.zeroValue267
 t63:=Tryz.underlying275
 a63:=Tryz.isAgg275
 z63:=Tryz.sizeOf275
 v63:=Tryz.zeroValue275
 t64:=Tryz.underlying276
 a64:=Tryz.isAgg276
 z64:=Tryz.sizeOf276
 v64:=Tryz.zeroValue276 }
theorem tw (m:Nat):AnyZ.SortsIn Tryz.prog Tryz.sortedZ_ren Fence.wide m :=
 ⟨fun blk off cap ss W hH hblk hsz=>callsIn_wide.2 (AnyM.slices_Sort_string Tryz.sortZ blk off cap ss W hH hblk hsz),fun p cap W=>callsIn_wide.2 (AnyM.slices_Sort_string_none Tryz.sortZ p cap W)⟩
theorem xT (mb:Option Nat)(W:World):CallsIn Fence.wide 5 Tryz.prog 79 #[.map mb] W fun e w'=>e=.returned (.func (.func 132) #[] #[.pointer (some ⟨W.heap.size,0,none⟩)])∧w'=W.alloc (.cells #[.map mb] 137) :=
 AnyZ.keys_in Tryz.keysZ Fence.wide 5 trivial rfl mb W
theorem q6 {H:Type}(b nn:Nat)(D0:DataW H)(R:Value→Option (DataW H × List MemPlace))(w:World)(hown:w.ownsMap Tryz.prog 9 R b nn D0)(hmax:Maps.size D0≤maxLen)(hbytes:Maps.size D0*16≤140737488355328) :
  CallsIn Fence.wide 5 Tryz.prog 78 #[.func (.func 132) #[] #[.pointer (some ⟨w.heap.size,0,none⟩)]] (w.alloc (.cells #[.map (some b)] 137)) fun e w'=>∃ (v:Value) (ss:List (List UInt8)),e=.returned v∧ss.Perm (strKeys D0) ∧
   w'.ownsRow (w.alloc (.cells #[.map (some b)] 137)).heap.size 9 1 v ss.length ((ss.mergeSort (fun x y=>decide (x≤y))).map encStr)∧(v=.slice none 0 0↔ss=[])∧Below (w.alloc (.cells #[.map (some b)] 137)).heap.size (w.alloc (.cells #[.map (some b)] 137)) w':=by
 have hbl:=hown.lt
 have hseq:SeqGives Fence.wide 2 Tryz.prog 132 #[.pointer (some ⟨w.heap.size,0,none⟩)] encStr (fun ss=>ss.Perm (strKeys D0)) (Maps.size D0) (w.alloc (.cells #[.map (some b)] 137)) :=
  AnyZ.keys_gives (ρ:=Tryz.keysZ_ren) { Tryz.keysZ with } Fence.wide _ trivial rfl oM w.heap.size b nn D0 _ (by simp) (by simp) (by
   obtain ⟨es,clock,hb,Ft,hs,hD⟩:=hown;exact ⟨es,clock,(Below.heap_alloc _ _ b hbl).trans hb,Ft,hs,hD⟩)
 exact AnyZ.sorted_in Tryz.sortedZ Fence.wide 5 trivial trivial trivial trivial rfl oM (tw _) (enters_of Tryz.func131 kR rfl) 132 #[.pointer (some ⟨w.heap.size,0,none⟩)] trivial (enters_of Tryz.func132 kR rfl) _ _ hmax hbytes _ hseq
section
variable {P:Program} {k:TypeId} (hk:P.underlying k=some .string)
def RU (_:Value):Option (DataW Unit × List MemPlace):=some (.nil,[])
theorem xq (hk:P.underlying k=some .string){ss:List ByteArray}(hs:∀ s∈ss,s.size≤maxLen){e:MapEntry}(he:e∈fZ ss):∃ s∈ss,WideElems.rd P k RU e=some (.string s.data.toList,.nil)∧e.key=.string s:=by
 obtain ⟨j,s,hj,rfl⟩:=oB he;have hm:s∈ss:=List.mem_iff_getElem?.2 ⟨j,hj⟩;refine ⟨s,hm,?_,rfl⟩
 have h1:keyOf P k (.string s)=some (.string s.data.toList):=by
  have:=hs s hm
  simp[keyOf,hk,mapKey,this]
 unfold WideElems.rd
 rw[h1];rfl
theorem pD {ss:List ByteArray}(hn:ss.Nodup):MapKept.Stamped (fZ ss).toArray ss.length:=by
 refine ⟨fun x hx=>?_,?_,?_⟩
 ·obtain ⟨j,s,hj,rfl⟩:=oB (by simpa using hx)
  exact (List.getElem?_eq_some_iff.1 hj).1
 ·have e:(fZ ss).map (·.born)=List.range ss.length:=by
   apply List.ext_getElem
   ·simp[fZ]
   ·intro i h1 h2;simp[fZ]
  show ((fZ ss).map (·.born)).Nodup
  rw[e];exact List.nodup_range
 ·have e:(fZ ss).map (·.key)=ss.map Value.string:=by
   apply List.ext_getElem
   ·simp[fZ]
   ·intro i h1 h2;simp[fZ]
  show ((fZ ss).map (·.key)).Nodup
  rw[e];exact List.Pairwise.map _ (fun a b h e=>h (Value.string.inj e)) hn
theorem AB (hk:P.underlying k=some .string){w:World}{b:Nat}{ss:List ByteArray}(hb:w.heap[b]?=some (.map (fZ ss).toArray ss.length))(hn:ss.Nodup)(hs:∀ s∈ss,s.size≤maxLen)(hl:ss.length≤1048576) :
  ∃ D:DataW Unit,w.ownsMap P k RU b ss.length D∧(strKeys D).Perm (ss.map fun s=>s.data.toList)∧Maps.size D≤1048576:=by
 have hlen:(fZ ss).length=ss.length:=by simp[fZ]
 refine ⟨.map (((fZ ss).map (WideElems.rg P k RU)).foldr DataW.insert []),⟨(fZ ss).toArray,ss.length,hb,⟨?_,pD hn,fun x hx=>?_⟩,?_,rfl⟩,?_,?_⟩
 ·show (fZ ss).toArray.size≤maxLen
  rw[List.size_toArray,hlen];unfold maxLen;omega
 ·obtain ⟨s,_,h,_⟩:=xq (P:=P) hk hs (by simpa using hx)
  exact ⟨_,h⟩
 ·rw[List.size_toArray,hlen];exact Nat.le_refl _
 ·show ((((fZ ss).map (WideElems.rg P k RU)).foldr DataW.insert []).map fun p=>strOf p.1).Perm _
  refine ((sorted_perm _).map _).trans (List.Perm.of_eq ?_);rw[List.map_map]
  apply List.ext_getElem
  ·simp[hlen]
  ·intro i h1 h2
   have hi:i<(fZ ss).length:=by simpa using h1
   obtain ⟨s,hs2,hr,hkey⟩:=xq (P:=P) hk hs (List.getElem_mem hi);obtain ⟨s',h3,h4⟩:=p8 (List.getElem?_eq_getElem hi);rw[List.getElem_map,List.getElem_map];rw[h4] at hkey
   injection hkey with hkey
   subst hkey
   show strOf (((WideElems.rd P k RU (fZ ss)[i]).getD (.bool false,.nil)).1)=_
   rw[hr]
   show s'.data.toList=_
   rw[List.getElem?_eq_getElem oM] at h3
   rw[Option.some.inj h3]
 ·show Maps.size (.map _)≤_
  rw[Maps.size_eq,(sorted_perm _).length_eq,List.length_map,hlen];exact hl
end
theorem tJ {w w':World}{h:Hp}(g:G w h)(x:Ext w w'):∃ h',Up w h w' h'∧∀ b,h.size≤b→h'[b]?=w'.heap[b]?:=by
 have hs:=x.size;have e0:=g.size
 have key:∀ b,h.size≤b→(h++w'.heap.extract h.size w'.heap.size)[b]?=w'.heap[b]?:=fun b hb=>by
  rw[Array.getElem?_append_right hb,Array.getElem?_extract]
  by_cases hl:b<w'.heap.size
  ·rw[if_pos oM];congr 1;omega
  ·rw[if_neg oM,Array.getElem?_eq_none oM]
 refine ⟨h++w'.heap.extract h.size w'.heap.size,⟨x,⟨by simp,fun b hb=>Array.getElem?_append_left hb⟩,⟨by simp;omega,fun b=>?_⟩⟩,key⟩
 rcases Nat.lt_or_ge b h.size with hb|hb
 ·rw[Array.getElem?_append_left hb]
  have e:=Below.block x b oM
  rcases g.blk b with h1|h1
  ·exact .inl (h1.trans e.symm)
  ·exact .inr h1
 ·exact .inl (key b hb)
theorem EK (ok:ByteArray→Prop)(hok:∀ s,ok s→s.size≤1000)(d:Nat)(hd:d≤20)(p:PTm)(t:Tm)(w:World)(h:Hp)(g:G w h)(hT:TmH d h p t)(hW:WfT ok d t):CR 34 #[oq p] w h (fun v h1=>∃ (A:Option Addr) (c:Nat) (ss:List ByteArray),v=.slice A ss.length c∧ss.length≤c∧ss.length≤1048576∧SlO 1 iq ⟨#[]⟩ h1 A ss∧∀ x,x∈ss↔jQ d t x):=by
 refine (callsIn_wide (n:=6)).1 (callsIn_of_wp Tryz.func34 rfl trivial ?_ rfl)
 simp only[Tryz.ntmps34,List.size_toArray,List.length_cons,List.length_nil,Nat.reduceAdd,Nat.reduceSub,Array.replicate_succ,Array.replicate_zero,List.push_toArray,List.append_toArray,List.nil_append,List.cons_append]
 unfold oq
 have hfK:Fence.wide.fn 77:=trivial;have hf2:Fence.wide.fn 79:=trivial;have hf3:Fence.wide.fn 78:=trivial
 have hg2:∀ o:Obj,G ((w.alloc o).alloc (.map #[] 0)) ((h.push bI).push bI)∧MapK ((w.alloc o).alloc (.map #[] 0)) ((h.push bI).push bI) (w.heap.size+1) []∧TmH d ((h.push bI).push bI) p t:=fun o=>by
  have u1:Up w h (w.alloc o) (h.push bI):=Up.allocAny g o bI (.inr rfl);have u2:Up (w.alloc o) (h.push bI) ((w.alloc o).alloc (.map #[] 0)) ((h.push bI).push bI):=Up.allocAny u1.g _ _ (.inr rfl);refine ⟨u2.g,⟨?_,?_,List.nodup_nil⟩,(hT.gw u1.gr.gw).gw u2.gr.gw⟩
  ·rw[show w.heap.size+1=(h.push bI).size by rw[Array.size_push,g.size]];exact Array.getElem?_push_size
  ·rw[heap_alloc,show w.heap.size+1=(w.alloc o).heap.size by simp];exact Array.getElem?_push_size
 have hsz:∀ s,jQ d t s→s.size≤maxLen:=fun s hs=>by have:=hok s (oE hW hs);unfold maxLen;omega
 have hcn:=mc hW;have hp2:2^d≤1048576:=Nat.le_trans (Nat.pow_le_pow_right oM hd) kD;have hmm:=@run_makeMap Tryz.prog
 gi_wp2
 gi_at_call 77
 generalize hW2:(w.alloc _).alloc (.map #[] 0)=W2
 have q:=hg2 (.cells #[iV p.op,iV p.n,.bool (ai p.q.num),uV (lo (aa p.q.num)),.string (hi (aa p.q.num)),uV (lo (qd p.q)),.string (hi (qd p.q)),.string p.s,.slice p.A p.m p.c] 42);rw[hW2] at q
 clear hg2
 have cg:=(callsIn_wide (n:=5)).2 (rJ ok d p t (w.heap.size+1) [] W2 _ q.1 q.2.2 hW q.2.1)
 unfold oq at cg
 refine cg.mono ?_
 clear cg
 rintro e w' ⟨v,h3,rfl,um,rfl,ss,ho,hn,hss,hl⟩;have hss2:∀ x,x∈ss↔jQ d t x:=fun x=>by rw[hss x];simp
 have hl2:ss.length≤1048576:=by have:=(show ss.length≤0+bH d t from hl);omega
 have hszw:w.heap.size+2=W2.heap.size:=by rw[←hW2];simp
 have hb2:Go.RowKit.Below w.heap.size w W2:=by rw[←hW2];exact ((Below.refl _ w).alloc (nR _) _).alloc (by simp) _
 have hb1:Go.RowKit.Below w.heap.size w w':=⟨um.mo.os.trans hb2.os,um.mo.tape.trans hb2.tape,um.mo.output.trans hb2.output,Nat.le_trans hb2.size um.mo.size,fun c hc=>(um.mo.blk c oM (fun hm=>by rw[List.mem_singleton] at hm;omega)).trans (hb2.block c hc)⟩
 clear hss hW2
 obtain ⟨D,hD1,hD2,hD3⟩:=AB (P:=Tryz.prog) (k:=9) Tryz.underlying9 ho hn (fun s h_=>hsz s ((hss2 s).1 h_)) hl2
 gi_wp2
 gi_at_call 79
 refine (xT _ _).mono ?_;rintro e w'' ⟨rfl,rfl⟩
 gi_wp2
 gi_at_call 78
 refine (q6 (w.heap.size+1) ss.length D RU w' hD1 (by unfold maxLen;omega) oM).mono ?_;rintro e w3 ⟨v,zs,rfl,hz1,hz2,-,hz3⟩;have hbw:=hb1.size;have hb3:Ext w w3:=(hb1.alloc hbw _).trans (hz3.mono (by simp;omega));obtain ⟨h',u,key⟩:=tJ g hb3
 have hzl:∀ x:ByteArray,x∈((zs.mergeSort fun x y=>decide (x≤y)).map fun z=>(⟨z.toArray⟩:ByteArray))↔jQ d t x:=fun x=>by
  rw[←hss2 x,List.mem_map]
  constructor
  ·rintro ⟨z,hz,rfl⟩
   have h1:=(hz1.trans hD2).mem_iff.1 ((List.mergeSort_perm zs _).mem_iff.1 hz);obtain ⟨s,hs,e⟩:=List.mem_map.1 h1;have:s=⟨z.toArray⟩:=by cases s;rename_i a;simp at e;subst e;rfl
   rw[←this];exact hs
  ·intro hx
   refine ⟨x.data.toList,(List.mergeSort_perm zs _).mem_iff.2 ((hz1.trans hD2).mem_iff.2 (List.mem_map.2 ⟨x,hx,rfl⟩)),?_⟩;cases x;simp
 have hzn:((zs.mergeSort fun x y=>decide (x≤y)).map fun z=>(⟨z.toArray⟩:ByteArray)).length=zs.length:=by rw[List.length_map,(List.mergeSort_perm zs _).length_eq]
 have hzs:zs.length≤1048576:=by rw[(hz1.trans hD2).length_eq,List.length_map];exact hl2
 gi_wp2
 go_ret
 generalize hzz:((zs.mergeSort fun x y=>decide (x≤y)).map fun z=>(⟨z.toArray⟩:ByteArray))=zz at hzl hzn
 refine ⟨v,h',rfl,u,?_⟩
 rcases hz2 with ⟨-,⟨rfl,hz⟩|⟨gb,cap,cur,rfl,hbase,hgb,r1,-,-,r4⟩⟩
 ·have:zz=[]:=List.eq_nil_of_length_eq_zero oM
  subst this;refine ⟨none,0,[],rfl,nR _,by simp,SlO.nil,fun x=>hzl x⟩
 ·refine ⟨sB gb,cap,zz,by rw[hzn],by omega,by omega,SlO.of_flat (sz:=1) (f:=iq) (d:=⟨#[]⟩) (b:=gb) (o:=0) (fun _=>rfl) fun i v hv=>?_,hzl⟩
  have hf:zz.flatMap iq=(zs.mergeSort fun x y=>decide (x≤y)).map encStr:=by
   rw[←hzz]
   generalize (zs.mergeSort fun x y=>decide (x≤y))=q
   induction q with
   | nil=>rfl
   | cons a l ih=>rw[List.map_cons,List.map_cons,List.flatMap_cons,ih];rfl
  rw[hf,←r4,Nat.mul_one] at hv
  have hv2:cur.toList[i]?=some v:=by
   rw[List.getElem?_take] at hv
   split at hv
   ·exact hv
   ·cases hv
  have hgs:h.size≤gb:=by have:=g.size;simp at hbase;omega
  unfold d8
  rw[key gb hgs,hgb,Nat.zero_add]
  show cur[i]?=some v
  rw[←Array.getElem?_toList];exact hv2
end srt
section
variable {nm:Int→ByteArray} {l:List Stp} {inp:Int} {h:Hp} {k:Nat} {dp:Nat→Nat}
variable (hdp:DpS dp l) (hF:∀ k,k<l.length→Formed inp k (l.getD k ac)) (hq0:∀ k,k<l.length→(l.getD k ac).op≠1→(l.getD k ac).q=0)
include hdp hF hq0
end
section
variable {dp:Nat→Nat} {inp:Int} {l:List Stp} {os:List Int} {out:Int} {nn:Nat} {e0:Int} {nm:Int→ByteArray}
end
theorem He  (isb:ByteArray→Bool)(sm:ByteArray→Prop)(wJ:∀ s,sm s→∀ (w:World) (h:Hp),G w h→Calls Tryz.prog 73 #[.string s] w (Ret w h (fun v _=>∃ b,v=.bool b∧b=isb s)))(d:Nat)(p:PTm)(t:Tm)(hd:d≤24)(w:World)(h:Hp)(g:G w h)(hT:TmH d h p t)(hS:rO sm d t):CR 33 #[pX p] w h (fun v _=>∃ e:Int,v=iV e∧((WfT (fun s=>isb s=true) d t∧e=(if 1000<je d t then 18 else 0))∨(¬WfT (fun s=>isb s=true) d t∧e=2))):=by
 have hs:=((sS g).add (K:=fun h_=>TmH d h_ p t) hT);refine go Tryz.func33 [(0,pX p)] rfl (aD (lA 1 42 (pC p) hs (fun b1 w2 h3 hs=>lL hs [.v 2 (iV 0)] (af (ab hs [.o 3 (pX p) 0 0 9] (ah 4 hs (rn sm d p t 24 _ _ hs.g hs.f.1 hS oM oM) (fun w4 h5 hs=>am (cK (cQ (ab hs [.o 5 (pX p) 0 0 9] (lC 6 hs (pM isb sm wJ d p t _ _ hs.g hs.f.1 hS) ?_)))))))))));rintro _ w6 h7 hs ⟨bf,rfl,hbf⟩;cases hb8:(bf)
 ·
  exact lL hs [.v 7 qT] (ar (ab hs [.v 2 (iV 2)] (ae hs [] (iV 2) (⟨_,rfl,.inr ⟨fun h_=>Bool.noConfusion ((hbf.2 h_).symm.trans aM),rfl⟩⟩))))
 refine lL hs [.v 7 qF] (am (cK (cQ (ab hs [.o 8 (pX p) 0 0 9] (ah 9 hs (pQ (fun s=>isb s=true) d p t _ _ hs.g hs.f.1 (hbf.1 aM)) (fun w9 _ hs=>?_))))));cases za:(decide ((1000:Int)<(((min (je d t) 1001:Nat):Int):Int)))
 ·
  have zb:=oF za;exact lB 10 za (am (cK (ab hs [.v 2 (iV 0)] (ae hs [] (iV 0) (⟨_,rfl,.inl ⟨hbf.1 aM,by split<;>omega⟩⟩)))))
 have zb:=oT za;exact lB 10 za (ar (ab hs [.v 2 (iV 18)] (ae hs [] (iV 18) (⟨_,rfl,.inl ⟨hbf.1 aM,by split<;>omega⟩⟩))))
def kj (isb:ByteArray→Bool)(d:Nat)(t:Tm):Prop:=WfT (fun s=>isb s=true) d t∧je d t≤1000
def n8 (dec:ByteArray→Bool)(d:Nat)(t:Tm):Prop:=∀ s,jQ d t s→dec s=true
structure OfR (isb dec:ByteArray→Bool) (pl:ByteArray→Int) (d n:Nat) (e0:Int) (ts:List Tm) (e inp:Int) (l:List Stp) (os:List Int):Prop where
  how:(e0≠0∧e=e0)∨(e0=0∧∃ k,k<ts.length∧(∀ i,i<k→kj isb d (ts.getD i be)∧n8 dec d (ts.getD i be))∧((¬kj isb d (ts.getD k be)∧e=1)∨(kj isb d (ts.getD k be)∧¬n8 dec d (ts.getD k be)∧e=11)))∨(e0=0∧(∀ i,i<ts.length→kj isb d (ts.getD i be)∧n8 dec d (ts.getD i be))∧e=bv (n:Nat) (gH pl d ts ts.length) (ju pl d ts ts.length))
  bad:e≠0→inp=0∧l=[]∧os=[]
  ok:e=0→inp=(n:Nat)∧l=gH pl d ts ts.length∧os=ju pl d ts ts.length
section
variable {isb dec:ByteArray→Bool} {pl:ByteArray→Int} {d n:Nat} {e0:Int} {ts:List Tm} {e inp:Int} {l:List Stp} {os:List Int}
theorem OfR.call (h:e0≠0)(h1:inp=0)(h2:l=[])(h3:os=[]):OfR isb dec pl d n e0 ts e0 inp l os:=⟨.inl ⟨h,rfl⟩,fun _=>⟨h1,h2,h3⟩,fun x=>absurd x h⟩
theorem OfR.no {k:Nat}(h:e0=0)(hk:k<ts.length)(ho:∀ i,i<k→kj isb d (ts.getD i be)∧n8 dec d (ts.getD i be))(hb:(¬kj isb d (ts.getD k be)∧e=1)∨(kj isb d (ts.getD k be)∧¬n8 dec d (ts.getD k be)∧e=11))(h1:inp=0)(h2:l=[])(h3:os=[]):OfR isb dec pl d n e0 ts e inp l os :=
 ⟨.inr (.inl ⟨h,k,hk,ho,hb⟩),fun _=>⟨h1,h2,h3⟩,fun x=>by rcases hb with ⟨_,y⟩|⟨_,_,y⟩<;>omega⟩
theorem OfR.chk {N:Nat}(h:e0=0)(hN:N=ts.length)(ho:∀ i,i<N→kj isb d (ts.getD i be)∧n8 dec d (ts.getD i be))(he:e=bv (n:Nat) (gH pl d ts ts.length) (ju pl d ts ts.length))(hz:e≠0)(h1:inp=0)(h2:l=[])(h3:os=[]):OfR isb dec pl d n e0 ts e inp l os :=
 ⟨.inr (.inr ⟨h,fun i hi=>ho i oM,he⟩),fun _=>⟨h1,h2,h3⟩,fun x=>absurd x hz⟩
theorem OfR.fine {N:Nat}(h:e0=0)(hN:N=ts.length)(ho:∀ i,i<N→kj isb d (ts.getD i be)∧n8 dec d (ts.getD i be))(he:bv (n:Nat) (gH pl d ts ts.length) (ju pl d ts ts.length)=0)(h1:inp=(n:Nat))(h2:l=gH pl d ts ts.length)(h3:os=ju pl d ts ts.length):OfR isb dec pl d n e0 ts 0 inp l os :=
 ⟨.inr (.inr ⟨h,fun i hi=>ho i oM,he.symm⟩),fun x=>absurd rfl x,fun _=>⟨h1,h2,h3⟩⟩
end
theorem Iu {b:Bool}(h:(!b)=false):b=true:=by cases b<;>first|rfl|cases h
theorem II {b:Bool}(h:(!b)=true):b=false:=by cases b<;>first|rfl|cases h
theorem xh {l:List ByteArray}{k:Nat}(h:k<l.length):l.getD k ⟨#[]⟩∈l:=by
 rw[List.getD_eq_getElem?_getD,List.getElem?_eq_getElem h];exact List.getElem_mem h
theorem CO {l:List ByteArray}{s:ByteArray}(h:s∈l):∃ i,i<l.length∧l.getD i ⟨#[]⟩=s:=by
 obtain ⟨i,hi,e⟩:=List.mem_iff_getElem.1 h;exact ⟨i,hi,by rw[List.getD_eq_getElem?_getD,List.getElem?_eq_getElem hi];exact e⟩
theorem HS {isb:ByteArray→Bool}{d:Nat}{t:Tm}{e:Int}(h:(WfT (fun s=>isb s=true) d t∧e=(if 1000<je d t then 18 else 0))∨(¬WfT (fun s=>isb s=true) d t∧e=2))(z:e=0):WfT (fun s=>isb s=true) d t∧je d t≤1000:=by
 rcases h with ⟨h1,h2⟩|⟨h1,h2⟩
 ·refine ⟨h1,?_⟩
  split at h2<;>omega
 ·omega
theorem Gu {isb:ByteArray→Bool}{d:Nat}{t:Tm}{e:Int}(h:(WfT (fun s=>isb s=true) d t∧e=(if 1000<je d t then 18 else 0))∨(¬WfT (fun s=>isb s=true) d t∧e=2))(z:kj isb d t):e=0:=by
 rcases h with ⟨h1,h2⟩|⟨h1,h2⟩
 ·rw[h2,if_neg (by have:=z.2;omega)]
 ·exact absurd z.1 h1
theorem FL {s:ByteArray}{es:List MapEntry}{v:Value}{b:Bool}{z:Prop}(h:(∃ i,Instr.findNow .string (.string s) es 0=some (some (i,v))∧b=true)∨(Instr.findNow .string (.string s) es 0=some none∧b=false∧z))(hb:b=true):∃ i,Instr.findNow .string (.string s) es 0=some (some (i,v)):=by
 rcases h with ⟨i,h,_⟩|⟨_,h,_⟩
 ·exact ⟨i,h⟩
 ·rw[hb] at h;cases h
theorem ou {ok:ByteArray→Prop}{d:Nat}(hd:d≤12){ts:List Tm}{k:Nat}(hk:k≤10)(hw:∀ i,i<k→WfT ok d (ts.getD i be)):de (fun i=>bH d (ts.getD i be)) k≤40960:=by
 have h2:2^d≤4096:=Nat.le_trans (Nat.pow_le_pow_right oM hd) kD;have:=kp (f:=fun i=>bH d (ts.getD i be)) (b:=4096) k (fun i hi=>by have:=mc (hw i hi);show bH d _≤_;omega)
 omega
theorem Jl  (A:Option Addr)(c:Nat)(ps:List PTm)(ts:List Tm)(Nm:Option Addr)(cN:Nat)(ns:List ByteArray)(d:Nat)(hd:d≤12)(hlt:ps.length≤10)(hln:ns.length≤10)(isb:ByteArray→Bool)(sm:ByteArray→Prop)(wJ:∀ s,sm s→∀ (w:World) (h:Hp),G w h→Calls Tryz.prog 73 #[.string s] w (Ret w h (fun v _=>∃ b,v=.bool b∧b=isb s)))(hsm:∀ s,isb s=true→s.size≤1000)(hS:∀ i,i<ts.length→rO sm d (ts.getD i be))(pl:ByteArray→Int)(dec:ByteArray→Bool)(es:List MapEntry)(hpl:∀ s,isb s=true→0≤pl s∧pl s≤1000)(hlk:∀ s,isb s=true→(∃ i,Instr.findNow .string (.string s) es 0=some (some (i,iV (pl s)))∧dec s=true)∨(Instr.findNow .string (.string s) es 0=some none∧dec s=false∧pl s=0))(nm:Int→ByteArray)(hnm:∀ s,isb s=true→dec s=true→Bg nm pl (ns.length:Nat) s)(e0:Int)(hCall:∀ (w:World) (h:Hp),G w h→SlO 1 iq ⟨#[]⟩ h Nm ns→Calls Tryz.prog 31 #[.slice Nm ns.length cN] w (Ret w h (fun v _=>v=iV e0)))(hPl:e0=0→∀ (w:World) (h:Hp),G w h→SlO 1 iq ⟨#[]⟩ h Nm ns→Calls Tryz.prog 32 #[.slice Nm ns.length cN] w (Ret w h (fun v h1=>∃ b,v=.map (some b)∧MapS h1 b es)))(w:World)(h:Hp)(g:G w h)(hA:SlO 9 hJ bG h A ps)(hT:Tms d h ps ts)(hN:SlO 1 iq ⟨#[]⟩ h Nm ns):CR 8 #[.slice A ps.length c,.slice Nm ns.length cN] w h (fun v h1=>∃ (e inp:Int) (A:Option Addr) (c:Nat) (l:List Stp) (O:Option Addr) (c2:Nat) (os:List Int),v=.tuple #[.agg #[iV inp,.slice A l.length c,.slice O os.length c2],iV e]∧SlO 9 fW ac h1 A l∧Si O os h1∧OfR isb dec pl d ns.length e0 ts e inp l os):=by
 have hs:=((((sS g).aS hA).add (K:=fun h_=>Tms d h_ ps ts) hT).aS hN);have hlpt:=(hs.f.2.1).len;have hd2:2^d≤4096:=Nat.le_trans (Nat.pow_le_pow_right oM hd) kD;refine go Tryz.func8 [(0,qS A ps.length c),(1,qS Nm ns.length cN)] rfl (aD (lA 4 46 ([iV 0,sZ,sZ]) hs (fun b1 w2 h3 hs=>lL hs [.v 5 (iV 0)] (af (ab hs [.m 19 0,.v 20 (nV ps.length)] ?_)))));cases hb4:(decide ((300:Int)<(ps.length:Int)))
 ·
  have phb4:=oF hb4;refine lB 21 hb4 (lL hs [.m 22 21,.m 23 1,.v 24 (nV ns.length)] ?_);cases hb5:(decide ((300:Int)<(ns.length:Int)))
  ·
   have phb5:=oF hb5;refine lB 25 hb5 (lL hs [.v 26 qF] (am (cK (cQ (ab hs [.m 28 1] (ah 29 hs (hCall _ _ hs.g hs.f.1) (fun w6 h7 hs=>lL hs [.m 6 29] (ay (lL hs [.m 30 6] ?_)))))))));cases hb8:((e0:Int) != (0:Int))
   ·
    have phb8:=aJ hb8;refine lB 31 hb8 (am (cK (ab hs [.m 34 1] (lC 35 hs (hPl oM _ _ hs.g hs.f.1) ?_))));rintro _ w9 zu hs ⟨bm,rfl,hM⟩;replace hs:=(hs.add (K:=fun h_=>MapS h_ bm es) hM);refine lL hs [.m 7 35] (ay (lL hs [.v 8 (iV 0)] (af (ab hs [.m 36 0,.v 37 (nV ps.length),.v 38 (iV 0)] (bd ?_)))));refine bD _ (CG.loop (fun μ_ Γ w_=>∃ (k:Nat) (h_:Hp),μ_=ps.length-k∧Γ=[(0,qS A ps.length c),(1,qS Nm ns.length cN),(4,pB b1),(7,.map (some bm)),(36,qS A ps.length c),(37,nV ps.length),(38,nV k),(8,nV (de (fun i=>bH d (ts.getD i be)) k))]∧SS w h w_ h_ [⟨b1,46,[iV 0,sZ,sZ]⟩] [] [fun h_=>MapS h_ bm es,fun h_=>SlO 1 iq ⟨#[]⟩ h_ Nm ns,fun h_=>Tms d h_ ps ts,fun h_=>SlO 9 hJ bG h_ A ps]∧k≤ps.length∧(∀ i,i<k→kj isb d (ts.getD i be)∧n8 dec d (ts.getD i be))) _ ⟨0,zu,rfl,rfl,hs.to _ _,Nat.zero_le _,(fun i hi=>absurd hi (Nat.not_lt_zero i))⟩ ?_);rintro _ _ _ ⟨k,_,hm13,rfl,hs,hk,hok1⟩;have hsb:=ou (d:=d) (hd:=hd) (ts:=ts) (k:=k) oM (fun i hi=>(hok1 i hi).1.1);have hs1_:(de (fun i=>bH d (ts.getD i be)) (k+1))=(de (fun i=>bH d (ts.getD i be)) k)+bH d (ts.getD k be):=rfl;refine aD ?_;cases zb:(decide ((k:Int)<(ps.length:Int)))
    ·
     have zl:=oF zb;refine lB 39 zb (af (dK (CG.exit ?_)))
     show CG _ _ _ _ _ _ _ _
     refine cQ (ab hs [.m 68 8] ?_);cases zc:(decide ((65536:Int)<(((de (fun i=>bH d (ts.getD i be)) k):Nat):Int)))
     ·
      have zm:=oF zc;refine lB 69 zc (am (cK (ab hs [.m 71 1,.v 72 (nV ns.length),.v 73 (.agg #[nV ns.length,sZ,sZ])] (lA 15 46 ([iV 0,sZ,sZ]) hs (fun za _ zv hs=>lP 0 0 ([nV ns.length,sZ,sZ]) hs (fun _ hs=>af (ab hs [.m 74 0,.v 75 (nV ps.length),.v 76 (iV 0)] (bd ?_))))))));replace hs:=hs.nil 3 1;replace hs:=hs.nil 144 9;refine bD [(4,pB b1),(7,.map (some bm)),(15,pB za),(74,qS A ps.length c),(75,nV ps.length),(76,iV 0)] ?_;refine CG.loop (fun μ_ Γ w_=>∃ (k:Nat) (srA:Option Addr) (src:Nat) (tl:List Stp) (soA:Option Addr) (soc:Nat) (ol:List Int) (h_:Hp),μ_=ps.length-k∧Γ=[(4,pB b1),(7,.map (some bm)),(15,pB za),(74,qS A ps.length c),(75,nV ps.length),(76,nV k)]∧SS w h w_ h_ [⟨za,46,[nV ns.length,qS srA ((tl).length) src,qS soA ((ol).length) soc]⟩,⟨b1,46,[iV 0,sZ,sZ]⟩] [⟨144,9,srA,src,(tl).length,(tl).flatMap fW⟩,⟨3,1,soA,soc,(ol).length,(ol).flatMap ff⟩] [fun h_=>MapS h_ bm es,fun h_=>SlO 1 iq ⟨#[]⟩ h_ Nm ns,fun h_=>Tms d h_ ps ts,fun h_=>SlO 9 hJ bG h_ A ps]∧k≤ps.length∧tl=(gH pl d ts k)∧ol=(ju pl d ts k)∧tl.length=(de (fun i=>bH d (ts.getD i be)) k)) _ ⟨0,none,0,[],none,0,[],zv,rfl,rfl,hs.to _ _,Nat.zero_le _,rfl,rfl,rfl⟩ ?_;rintro _ _ _ ⟨k,srA,src,tl,soA,soc,ol,_,hm22,rfl,hs,hk,htl,hol,hll⟩;have hs1_:(de (fun i=>bH d (ts.getD i be)) (k+1))=(de (fun i=>bH d (ts.getD i be)) k)+bH d (ts.getD k be):=rfl;have hsm_:=gC (fun i=>bH d (ts.getD i be)) (show k≤ps.length by omega);have hsb3:=ou (d:=d) (hd:=hd) (ts:=ts) (k:=ps.length) oM (fun i hi=>(hok1 i oM).1.1);have holl:ol.length=k:=by rw[hol];exact lc k
      refine aD ?_;cases zd:(decide ((k:Int)<(ps.length:Int)))
      ·
       have zn:=oF zd;refine lB 77 zd (af (dK (CG.exit ?_)))
       show CG _ _ _ _ _ _ _ _
       refine cQ (aD ?_);have hkn:k=ts.length:=by omega
       have hsbE:=ou (d:=d) (hd:=hd) (ts:=ts) (k:=ts.length) oM (fun i hi=>(hok1 i oM).1.1);rw[hkn] at htl hol hll
       have hall:=xF (ok:=fun s=>isb s=true∧dec s=true) (nm:=nm) (pl:=pl) (inp:=(ns.length:Nat)) (fun s h_=>hnm s h_.1 h_.2) (show d≤20 by omega) ts.length (nR _) (fun i hi=>(hok1 i oM).1.1.names (fun s h_=>(hok1 i oM).2 s h_));rw[←htl] at hall
       obtain ⟨_,hs,hc25⟩:=hs.pubr 0 (A:=srA) (c:=src) (l:=tl) (f:=fW) (ty:=144) (sz:=9) ac (fun _=>rfl);obtain ⟨_,hs,hc28⟩:=hs.pubr 0 (A:=soA) (c:=soc) (l:=ol) (f:=ff) (ty:=3) (sz:=1) 0 (fun _=>rfl);refine lL hs [.o 96 (.agg #[nV ns.length,qS srA ((tl).length) src,qS soA ((ol).length) soc]) 0 0 3] (ah 97 hs (l6 (ns.length:Nat) srA src tl soA soc ol oM oM (fun i _=>hall.lq i) _ _ hs.g hs.f.2.1 hs.f.1) (fun _ _ hs=>lL hs [.m 18 97] (ay (lL hs [.m 98 18] ?_))));cases ze:((bv (ns.length:Nat) tl ol:Int) != (0:Int))
       ·
        have zo:=aJ ze;exact lB 99 ze (am (cK (ab hs [.o 102 (.agg #[nV ns.length,qS srA ((tl).length) src,qS soA ((ol).length) soc]) 0 0 3] (lP 1 0 ([nV ns.length,qS srA ((tl).length) src,qS soA ((ol).length) soc]) hs (fun _ hs=>lL hs [.v 5 (iV 0)] (ae hs [(1,0,3)] (.tuple #[.agg #[nV ns.length,qS srA ((tl).length) src,qS soA ((ol).length) soc],iV 0]) (⟨0,(ns.length:Nat),srA,src,tl,soA,soc,ol,rfl,hs.f.2.1,hs.f.1,OfR.fine oM oM hok1 (by rw[←htl,←hol];omega) rfl (by rw[htl]) (by rw[hol])⟩)))))))
       have zo:=aU ze;exact lB 99 ze (ar (ab hs [.v 100 (.agg #[iV 0,sZ,sZ]),.m 101 18] (lP 1 0 ([iV 0,sZ,sZ]) hs (fun _ hs=>lL hs [.m 5 101] (ae hs [(1,0,3)] (.tuple #[.agg #[iV 0,sZ,sZ],iV (bv (ns.length:Nat) tl ol)]) (⟨_,0,none,0,[],none,0,[],rfl,SlO.nil,SlO.nil,OfR.chk oM oM hok1 (by rw[←htl,←hol]) oM rfl rfl rfl⟩))))))
      have zn:=oT zd;refine lB 77 zd (af (cI (cK (cQ (kZ (aD (lX 78 A ps.length c 9 (k:Nat) k ((hs.f.r.2.1).ok oM) ?_)))))));refine lH 79 (pX (ps.getD k bG)) hs ((hs.f.r.2.1).el k oM) (lA 17 42 ([iV 0,iV 0,qF,uV 0,eS,uV 0,eS,eS,sZ]) hs (fun zw _ _ hs=>lP 0 0 (pC (ps.getD k bG)) hs (fun _ hs=>ay (lL hs [.v 80 (qP za 1),.o 81 (qS srA ((tl).length) src) 1 1 1,.o 82 (pX (ps.getD k bG)) 0 0 9,.m 83 7] ?_))));have hsm2_:=gC (fun i=>bH d (ts.getD i be)) (show k+1≤ps.length by omega);refine I6 84 (rQ (fun s=>isb s=true∧dec s=true) pl bm es (fun s h_=>hpl s h_.1) (fun s h_=>FL (hlk s h_.1) h_.2) d (ps.getD k bG) (ts.getD k be) srA src tl _ _ hs.g ((hs.f.r.1).at_ k oM) hs.f.1 (hs.frontR [] [⟨3,1,soA,soc,(ol).length,(ol).flatMap ff⟩] ⟨144,9,srA,src,(tl).length,(tl).flatMap fW⟩) ((hok1 k oM).1.1.names (fun s h_=>(hok1 k oM).2 s h_)) oM) ?_;rintro _ _ _ ⟨zi,zj,rfl,hs⟩;replace hs:=(SS.backR [] [⟨3,1,soA,soc,(ol).length,(ol).flatMap ff⟩] ⟨144,9,zi,zj,(bu pl d tl (ts.getD k be)).length,(bu pl d tl (ts.getD k be)).flatMap fW⟩ hs).to [⟨zw,42,pC (ps.getD k bG)⟩,⟨za,46,[nV ns.length,qS srA ((tl).length) src,qS soA ((ol).length) soc]⟩,⟨b1,46,[iV 0,sZ,sZ]⟩] [⟨144,9,zi,zj,(bu pl d tl (ts.getD k be)).length,(bu pl d tl (ts.getD k be)).flatMap fW⟩,⟨3,1,soA,soc,(ol).length,(ol).flatMap ff⟩];have hrl:=nY (pl:=pl) (hok1 k oM).1.1 tl;refine lL hs [.v 85 (qP za 1)] (lP 1 1 ([qS zi ((bu pl d tl (ts.getD k be)).length) zj]) hs (fun _ hs=>lN (kQ (lL hs [.v 86 (qP za 2),.o 87 (qS soA ((ol).length) soc) 1 2 1,.v 88 (qP za 1),.o 89 (qS zi ((bu pl d tl (ts.getD k be)).length) zj) 1 1 1,.v 90 (nV ((bu pl d tl (ts.getD k be)).length))] (lI 91 (((bu pl d tl (ts.getD k be)).length:Nat)-1) ?_)))));refine lR 92 3 1 ([iV (((bu pl d tl (ts.getD k be)).length:Nat)-1)]) hs (fun zx _ _ hs=>lY 93 1 3 1 soc soA ol ff (((bu pl d tl (ts.getD k be)).length:Nat)-1:Int) 8 zx (iV 0) hs hs.f.1 (fun zr zs _ zA hs=>lL hs [.v 94 (qP za 2)] (lP 1 2 ([qS zr ((ol++[(((bu pl d tl (ts.getD k be)).length:Nat)-1:Int)]).length) zs]) hs (fun _ hs=>lN (kQ (bw 95 ((k:Nat)+1) (k+1) ?_))))));refine lL hs [.m 76 95] (lD ?_);intro a_ ka;replace hs:=hs.tl;replace hs:=hs.drop 1 0;refine ⟨_,_,?_,⟨k+1,zi,zj,bu pl d tl (ts.getD k be),zr,zs,ol++[(((bu pl d tl (ts.getD k be)).length:Nat)-1:Int)],zA,rfl,rfl,hs.to _ _,oM,(by rw[htl];rfl),(by rw[hol,htl];rfl),oM⟩,ka.to _ kR⟩
      omega
     have zm:=oT zc;refine lB 69 zc (ar (ab hs [.v 70 (.agg #[iV 0,sZ,sZ])] (lP 0 0 ([iV 0,sZ,sZ]) hs (fun _ hs=>lL hs [.v 5 (iV 5)] (lN (kX ?_))))))
     exfalso;omega
    have zl:=oT zb;refine lB 39 zb (af (cI (cK (cQ (kZ (aD (lX 40 A ps.length c 9 (k:Nat) k ((hs.f.r.2.1).ok oM) ?_)))))));refine lH 41 (pX (ps.getD k bG)) hs ((hs.f.r.2.1).el k oM) (lA 10 42 ([iV 0,iV 0,qF,uV 0,eS,uV 0,eS,eS,sZ]) hs (fun zt _ _ hs=>lP 0 0 (pC (ps.getD k bG)) hs (fun _ hs=>af (ab hs [.o 42 (pX (ps.getD k bG)) 0 0 9] (lC 43 hs (He isb sm wJ d (ps.getD k bG) (ts.getD k be) oM _ _ hs.g ((hs.f.r.1).at_ k oM) (hS k oM)) ?_)))));rintro _ _ _ hs ⟨ek,rfl,hek⟩;cases zf:((ek:Int) != (0:Int))
    ·
     have zp:=aJ zf;refine lB 44 zf (am (cK (cQ (aD ?_))));have hwk:WfT (fun s=>isb s=true) d (ts.getD k be)∧je d (ts.getD k be)≤1000:=HS hek oM;have hwg:=hwk.2;replace hwk:=hwk.1;refine lL hs [.o 46 (pX (ps.getD k bG)) 0 0 9] (lC 47 hs (EK (fun s=>isb s=true) hsm d oM (ps.getD k bG) (ts.getD k be) _ _ hs.g ((hs.f.r.1).at_ k oM) hwk) ?_);rintro _ _ zB hs ⟨nA,nc,nss,rfl,hnc,hnl,hnS,hnm_⟩;replace hs:=hs.aS hnS;have hnok:∀ s,s∈nss→isb s=true:=fun s hs_=>oE hwk ((hnm_ s).1 hs_)
     refine lL hs [.v 48 (nV nss.length),.v 49 (iV 0)] (bd ?_);refine bD _ (CG.loop (fun μ_ Γ w_=>∃ (j:Nat) (h_:Hp),μ_=nss.length-j∧Γ=[(0,qS A ps.length c),(1,qS Nm ns.length cN),(4,pB b1),(7,.map (some bm)),(36,qS A ps.length c),(37,nV ps.length),(38,nV k),(8,nV (de (fun i=>bH d (ts.getD i be)) k)),(10,pB zt),(47,qS nA nss.length nc),(48,nV nss.length),(49,nV j)]∧SS w h w_ h_ [⟨zt,42,pC (ps.getD k bG)⟩,⟨b1,46,[iV 0,sZ,sZ]⟩] [] [fun h_=>SlO 1 iq ⟨#[]⟩ h_ nA nss,fun h_=>MapS h_ bm es,fun h_=>SlO 1 iq ⟨#[]⟩ h_ Nm ns,fun h_=>Tms d h_ ps ts,fun h_=>SlO 9 hJ bG h_ A ps]∧j≤nss.length∧(∀ i,i<j→dec (nss.getD i ⟨#[]⟩)=true)) _ ⟨0,zB,rfl,rfl,hs.to _ _,Nat.zero_le _,(fun i hi=>absurd hi (Nat.not_lt_zero i))⟩ ?_);rintro _ _ _ ⟨j,zD,hm71,rfl,hs,hj,hdec⟩;refine aD ?_;cases zg:(decide ((j:Int)<(nss.length:Int)))
     ·
      have zq:=oF zg;refine lB 50 zg (af (dK (CG.exit ?_)))
      show CG _ _ _ _ _ _ _ _
      refine kQ (lL hs [.m 63 8,.o 64 (pX (ps.getD k bG)) 0 0 9] (ah 65 hs (vU (fun s=>isb s=true) d (ps.getD k bG) (ts.getD k be) _ _ hs.g ((hs.f.r.2.1).at_ k oM) hwk oM) (fun _ zE hs=>?_)));have hcb:=mc hwk;refine bw 66 (((de (fun i=>bH d (ts.getD i be)) k):Nat)+(bH d (ts.getD k be):Nat)) (((de (fun i=>bH d (ts.getD i be)) k):Nat)+(bH d (ts.getD k be))) (lL hs [.m 8 66] (lN (kQ (bw 67 ((k:Nat)+1) (k+1) ?_))));refine lL hs [.m 38 67] (lD ?_);intro a_ ka;replace hs:=hs.tl;replace hs:=hs.drop 1 0;refine ⟨_,_,?_,⟨k+1,zE,rfl,rfl,hs.to _ _,oM,(fun i hi=>by rcases Nat.lt_succ_iff_lt_or_eq.1 hi with h_|rfl;exact hok1 i h_;exact ⟨⟨hwk,hwg⟩,fun s hs_=>by obtain ⟨j_,hj_,e_⟩:=CO ((hnm_ s).2 hs_);rw[←e_];exact hdec j_ oM⟩)⟩,ka.to _ kR⟩
      omega
     have zq:=oT zg;refine lB 50 zg (af (cI (cK (cQ (kZ (aD (lX 51 nA nss.length nc 1 (j:Nat) j ((hs.f.1).ok oM) ?_)))))));refine lH 52 (.string (nss.getD j ⟨#[]⟩)) hs ((hs.f.1).el j oM) (lL hs [.m 12 52] (ay (lL hs [.m 54 7,.m 55 12] (Ic 56 82 9 3 (nss.getD j ⟨#[]⟩) true (iV (pl (nss.getD j ⟨#[]⟩))) ((dec (nss.getD j ⟨#[]⟩))) hs hs.f.2.1 ?_ (hf:=(by rcases hlk (nss.getD j ⟨#[]⟩) (hnok (nss.getD j ⟨#[]⟩) (xh oM)) with ⟨i_,e1_,e2_⟩|⟨e1_,e2_,e3_⟩;exact .inl ⟨i_,e1_,e2_⟩;exact .inr ⟨e1_,e2_,fun _=>by rw[e3_];kernel_rfl⟩))))));refine lL hs [.m 53 56,.v 57 (iV (pl (nss.getD j ⟨#[]⟩))),.v 58 (.bool (dec (nss.getD j ⟨#[]⟩))),.m 13 57,.m 14 58] (ay (lL hs [.m 59 14] ?_));cases zk:(!(dec (nss.getD j ⟨#[]⟩)))
     ·
      refine lB 60 zk (am (cK (kQ (bw 62 ((j:Nat)+1) (j+1) ?_))));refine lL hs [.m 49 62] (lD ?_);intro a_ ka;refine ⟨_,_,?_,⟨j+1,zD,rfl,rfl,hs.to _ _,oM,(fun i hi=>by rcases Nat.lt_succ_iff_lt_or_eq.1 hi with h_|rfl;exact hdec i h_;exact Iu aM)⟩,ka.to _ kR⟩
      omega
     exact lB 60 zk (ar (ab hs [.v 61 (.agg #[iV 0,sZ,sZ])] (lP 1 0 ([iV 0,sZ,sZ]) hs (fun _ hs=>lL hs [.v 5 (iV 11)] (ae hs [(1,0,3)] (.tuple #[.agg #[iV 0,sZ,sZ],iV 11]) (⟨_,0,none,0,[],none,0,[],rfl,SlO.nil,SlO.nil,OfR.no oM (k:=k) oM hok1 (.inr ⟨⟨hwk,hwg⟩,fun h_=>Bool.noConfusion ((h_ _ ((hnm_ _).1 (xh (by omega:j<nss.length)))).symm.trans (II aM)),rfl⟩) rfl rfl rfl⟩))))))
    have zp:=aU zf;exact lB 44 zf (ar (ab hs [.v 45 (.agg #[iV 0,sZ,sZ])] (lP 1 0 ([iV 0,sZ,sZ]) hs (fun _ hs=>lL hs [.v 5 (iV 1)] (ae hs [(1,0,3)] (.tuple #[.agg #[iV 0,sZ,sZ],iV 1]) (⟨_,0,none,0,[],none,0,[],rfl,SlO.nil,SlO.nil,OfR.no oM (k:=k) oM hok1 (.inl ⟨fun h_=>by have:=Gu hek h_;omega,rfl⟩) rfl rfl rfl⟩))))))
   have phb8:=aU hb8;exact lB 31 hb8 (ar (ab hs [.v 32 (.agg #[iV 0,sZ,sZ]),.m 33 6] (lP 0 0 ([iV 0,sZ,sZ]) hs (fun _ hs=>lL hs [.m 5 33] (ae hs [(0,0,3)] (.tuple #[.agg #[iV 0,sZ,sZ],iV e0]) (⟨_,0,none,0,[],none,0,[],rfl,SlO.nil,SlO.nil,OfR.call oM rfl rfl rfl⟩))))))
  have phb5:=oT hb5;refine lB 25 hb5 (lL hs [.v 26 qT] (ar (ab hs [.v 27 (.agg #[iV 0,sZ,sZ])] (lP 0 0 ([iV 0,sZ,sZ]) hs (fun _ hs=>lL hs [.v 5 (iV 5)] (lN (kX ?_)))))))
  exfalso;omega
 have phb4:=oT hb4;refine lB 21 hb4 (lL hs [.m 22 21] (lG 23 ?_));refine lG 24 (lG 25 (lL hs [.v 26 qT] (ar (ab hs [.v 27 (.agg #[iV 0,sZ,sZ])] (lP 0 0 ([iV 0,sZ,sZ]) hs (fun _ hs=>lL hs [.v 5 (iV 5)] (lN (kX ?_))))))))
 exfalso;omega
theorem rp (c0 c1:Rat):gH vR 5 [mD c0 c1] 1=ej c0 c1:=by kernel_rfl
theorem AN (c0 c1:Rat):je 5 (mD c0 c1)≤1000:=oT kR
theorem IX (A:Option Addr)(c:Nat)(p:PTm)(Nm:Option Addr)(cN:Nat)(c0 c1:Rat)(h0:LQ 1 c0)(h1:LQ 1 c1)(w:World)(h:Hp)(g:G w h)(hA:SlO 9 hJ bG h A [p])(hp:TmH 5 h p (mD c0 c1))(hN:SlO 1 iq ⟨#[]⟩ h Nm ([⟨#[97]⟩,⟨#[98]⟩]:List ByteArray)):CR 8 #[.slice A 1 c,.slice Nm 2 cN] w h (fun v h1=>∃ A1 c1_ O1 d1,v=.tuple #[.agg #[iV 2,.slice A1 (ej c0 c1).length c1_,.slice O1 ([10]:List Int).length d1],iV 0]∧SlO 9 fW ac h1 A1 (ej c0 c1)∧Si O1 ([10]:List Int) h1):=by
 have wf:=wG h0 h1;have one:∀ i:Nat,i<1→i=0:=fun i hi=>by omega
 have hT1:Tms 5 h [p] [mD c0 c1]:=⟨rfl,fun i hi=>by obtain rfl:=one i hi;exact hp⟩;have hpl:∀ s,mI s=true→0≤vR s∧vR s≤1000:=fun s _=>by unfold vR;split<;>decide
 have hnm:∀ s,mI s=true→mI s=true→Bg (fun z=>if z=0 then ⟨#[97]⟩ else ⟨#[98]⟩) vR ((([⟨#[97]⟩,⟨#[98]⟩]:List ByteArray).length:Nat):Int) s:=fun s hs _=>by
  rcases oT hs with rfl|rfl
  ·exact ⟨rfl,by decide,by decide⟩
  ·exact ⟨rfl,by decide,by decide⟩
 refine (Jl A c [p] [mD c0 c1] Nm cN ([⟨#[97]⟩,⟨#[98]⟩]:List ByteArray) 5 kD (by show 1≤10;decide) kD mI Hl IM (fun s hs=>by rcases oT hs with rfl|rfl<;>decide) (fun i hi=>by obtain rfl:=one i hi;exact vd h0 h1) vR mI [⟨.string (⟨#[97]⟩),iV 0,0⟩,⟨.string (⟨#[98]⟩),iV 1,1⟩] hpl Js _ hnm 0 (fun w h g hN=>wQ Nm cN w h g hN) (fun _ w h g hN=>oR Nm cN w h g hN) w h g hA hT1 hN).mono ?_;rintro e w' ⟨v,h',e1,u,E,inp,A1,c2,l,O1,d1,os,rfl,hA1,hO1,R⟩
 have hall:∀ i:Nat,i<[mD c0 c1].length→kj mI 5 ([mD c0 c1].getD i be)∧n8 mI 5 ([mD c0 c1].getD i be):=fun i hi=>by
  obtain rfl:=one i hi;exact ⟨⟨wf,AN c0 c1⟩,fun s hs=>oE wf hs⟩
 have hl:gH vR 5 [mD c0 c1] [mD c0 c1].length=ej c0 c1:=rp c0 c1
 have ho:ju vR 5 [mD c0 c1] [mD c0 c1].length=[10]:=by
  show ([]:List Int)++[(((gH vR 5 [mD c0 c1] 1).length:Nat):Int)-1]=[10]
  rw[rp];rfl
 have hE:E=0:=by
  rcases R.how with ⟨a,_⟩|⟨_,k,hk,_,b⟩|⟨_,_,b⟩
  ·exact absurd rfl a
  ·rcases b with ⟨b,_⟩|⟨_,b,_⟩
   ·exact absurd (hall k hk).1 b
   ·exact absurd (hall k hk).2 b
  ·rw[b,hl,ho];exact kL c0 c1
 subst hE;obtain ⟨r1,r2,r3⟩:=R.ok rfl;rw[hl] at r2
 rw[ho] at r3
 subst r1 r2 r3;exact ⟨_,h',e1,u,A1,c2,O1,d1,rfl,hA1,hO1⟩
theorem nU (A0:Option Addr)(c0:Nat)(zv:List Int)(A1:Option Addr)(c1:Nat)(zw:List Int)(rate steps:Int)(hl0:zv.length≤9223372036854775807)(hz0:vO zv)(hl1:zw.length≤9223372036854775807)(hz1:vO zw)(w:World)(h:Hp)(g:G w h)(hA0:Si A0 zv h)(hA1:Si A1 zw h)(tb:Tab h):CV 3 #[.slice A0 zv.length c0,.slice A1 zw.length c1,iV rate,iV steps] w h (.bool true):=by
 have hs:=((((sS g).aS hA0).aS hA1).aB tb);refine go Tryz.func3 [(0,qS A0 zv.length c0),(1,qS A1 zw.length c1),(2,iV rate),(3,iV steps)] rfl (ab hs [.v 8 qF] (ay (lL hs [.m 24 2] ?_)));obtain ⟨m,hm⟩:∃ n_,n_=fU rate 7:=⟨_,rfl⟩;have hm7:m<7:=by rw[hm];exact gU rate 7 oM
 refine ah 25 hs ((by have q_:=sR rate 7 oM oM _ _ hs.g;rw[←hm] at q_;exact q_)) (fun w1 h2 hs=>bw 26 ((m:Nat)+1) (m+1) ?_);obtain ⟨ra,hra0⟩:∃ q_,q_=mkR ((m+1:Nat):Int) 8:=⟨_,rfl⟩;have hra:ra=mkR ((m:Int)+1) 8:=hra0;have hR1:=(om hm7 hra).1;refine lC 27 hs ((by have q_:=mt (m+1:Nat) 8 oM oM oM oM oM _ _ hs.g;rw[←hra0] at q_;exact q_)) ?_;rintro _ _ _ hs ⟨A3,c4,A7,c8,rfl,hc5,hc9,hA6,ZB⟩;replace hs:=hs.aP hA6 ZB;refine lA 9 28 ([qF,sZ,sZ]) hs (fun zn _ _ hs=>lP 0 0 (jn ra A3 c4 A7 c8) hs (fun _ hs=>ay (lL hs [.m 28 3] ?_)));obtain ⟨n,hn⟩:∃ n_,n_=fU steps 6:=⟨_,rfl⟩;have hn6:n<6:=by rw[hn];exact gU steps 6 oM
 refine ah 29 hs ((by have q_:=sR steps 6 oM oM _ _ hs.g;rw[←hn] at q_;exact q_)) (fun _ _ hs=>lL hs [.m 10 29] (ay (lL hs [.m 30 0] (lC 31 hs (HR A0 c0 zv 2 oM hl0 hz0 _ _ hs.g hs.f.q.1) ?_))));rintro _ _ _ hs ⟨Ap,cp,tp,rfl,hcp,hAp,hTp⟩;replace hs:=((hs.aS hAp).aT hTp);have hltp:=(hs.f.1).len;have hlrp:=ms zv 2;refine lL hs [.m 32 1] (lC 33 hs (HR A1 c1 zw 2 oM hl1 hz1 _ _ hs.g hs.f.q.2.1) ?_);rintro _ _ _ hs ⟨Ac,cc,tc,rfl,hcc,hAc,hTc⟩;replace hs:=((hs.aS hAc).aT hTc);have hltc:=(hs.f.1).len;have hlrc:=ms zw 2;refine lL hs [.m 11 31,.m 12 33] (ay (lL hs [.m 34 12] (lC 35 hs (E8 Ac cc tc (aF zw 2) oM (fun i=>dG zw 2 i) _ _ hs.g hs.f.2.1 hs.f.1 hs.f.q.r.1) ?_)));rintro _ _ _ hs ⟨p,rfl,hp⟩;replace hs:=(hs.add (K:=fun h_=>TmH 5 h_ p (mD ((aF zw 2).getD 0 0) ((aF zw 2).getD 1 0))) hp);refine lR 36 42 1 (pC p) hs (fun zg _ _ hs=>?_);replace hs:=hs.aS (SlO.of_flat (sz:=9) (f:=hJ) (d:=bG) (b:=zg) (o:=0) (l:=([p]:List PTm)) (fun _=>rfl) hs.f.1);refine lL hs [.m 13 36] (ay (lL hs [.m 38 13] (lR 39 9 2 ([.string (⟨#[97]⟩),.string (⟨#[98]⟩)]) hs (fun zi _ _ hs=>?_))));replace hs:=hs.aS (SlO.of_flat (sz:=1) (f:=iq) (d:=⟨#[]⟩) (b:=zi) (o:=0) (l:=([⟨#[97]⟩,⟨#[98]⟩]:List ByteArray)) (fun _=>rfl) hs.f.1);refine lC 40 hs (IX (sB zg) 1 p (sB zi) 2 ((aF zw 2).getD 0 0) ((aF zw 2).getD 1 0) (dG zw 2 0) (dG zw 2 1) _ _ hs.g hs.f.r.1 hs.f.q.1 hs.f.1) ?_;rintro _ _ _ hs ⟨At,ct,Ot,dt,rfl,hAt,hOt⟩;replace hs:=hs.aP hAt hOt;refine lL hs [.m 37 40,.v 41 (.agg #[iV 2,qS At ((ej ((aF zw 2).getD 0 0) ((aF zw 2).getD 1 0)).length) ct,qS Ot (([10]:List Int).length) dt]),.v 42 (iV 0)] (lA 14 46 ([iV 0,sZ,sZ]) hs (fun zK _ _ hs=>lP 0 0 ([iV 2,qS At ((ej ((aF zw 2).getD 0 0) ((aF zw 2).getD 1 0)).length) ct,qS Ot (([10]:List Int).length) dt]) hs (fun _ hs=>lL hs [.m 15 42] (af ?_))));have hsr:=hs;refine cR 12 [⟨11,16,.cells (List.toArray [sZ,sZ]) 53 (0,0)⟩] mixed hs (bC (eW kR (fun _ _=>by kernel_rfl)) aq) (eO 0 44 [(0,0,3)] (.agg #[iV 2,qS At ((ej ((aF zw 2).getD 0 0) ((aF zw 2).getD 1 0)).length) ct,qS Ot (([10]:List Int).length) dt]) hs (eV 1 45 (qS Ap tp.length cp) (eO 3 47 [(1,0,3)] (rG ra A3 c4 A7 c8) hs (eV 5 49 (nV n) (eC 2 46 hs (fun _ _ hs=>FF Ap cp tp (aF zv 2) oM (fun i _=>(dG _ _ i).mono oM) _ _ hs.g hs.f.q.q.r.1 hs.f.q.q.2.1 hs.f.q.q.q.2.1) ?_)))));rintro _ _ _ _ _ hs ⟨Ai,ci,rfl,hci,hAi⟩;replace hs:=hs.aS hAi;refine ak 4 48 hs (fun _ _ hs=>IZ ra A3 c4 A7 c8 hc5 hc9 (LQ.mono hR1 oM) _ _ hs.g hs.f.q.q.q.2.1 hs.f.q.q.q.1 hs.f.q.q.q.r.1) (fun _ _ hs=>eV 6 50 (.agg #[.bool (ai ra.num),uV (lo (aa ra.num)),.string (hi (aa ra.num)),uV (lo (qd ra)),.string (hi (qd ra)),qF,uV 0,eS,uV 0,eS,nV n,iV 0,iV 200,uV 0]) ?_);obtain ⟨hR1,hR0,hr0,hr1,hRf⟩:=om hm7 hra;have hok_:=GU (zv:=zv) (zw:=zw) hm7 hra (show n≤5 by omega);have q_:=dG;have hds:=EU (ra:=ra) (c0:=((aF zw 2).getD 0 0)) (c1:=((aF zw 2).getD 1 0)) (p:=(aF zv 2)) (x0:=((aF zv 2).getD 0 0)) (x1:=((aF zv 2).getD 1 0)) rfl;obtain ⟨Yl,hYl⟩:∃ q_,q_=((p5 ra ((aF zw 2).getD 0 0) ((aF zw 2).getD 1 0) ((aF zv 2).getD 0 0) ((aF zv 2).getD 1 0)) n).at_:=⟨_,rfl⟩;obtain ⟨Ls,hLs⟩:∃ q_,q_=((p5 ra ((aF zw 2).getD 0 0) ((aF zw 2).getD 1 0) ((aF zv 2).getD 0 0) ((aF zv 2).getD 1 0)) n).ls:=⟨_,rfl⟩;have hgo:GoOk (aF zv 2) (aF zw 2) Yl Ls ra n:=by rw[hYl,hLs];exact hok_
 have hYn:=hgo.yl;have hLn:=hgo.ll;refine eC 7 51 hs (fun _ _ hs=>(by have q_:=G7 2 At ct (ej ((aF zw 2).getD 0 0) ((aF zw 2).getD 1 0)) Ot dt [10] (aF zv 2) Ai ci ra 0 n 200 0 0 (fun _=>[0]) (by rw[hlrp];rfl) oM oM oM kD kD (show 11≤100 by decide) kD (Gg (q_ zw 2 0) (q_ zw 2 1)) hR1 (nh kD) C9 F0 5 (fun _=>EE) (fun j_ hj_=>E2 j_ hj_) (fun _=>vj) (p5 ra ((aF zw 2).getD 0 0) ((aF zw 2).getD 1 0) ((aF zv 2).getD 0 0) ((aF zv 2).getD 1 0)) hds (fun k_ hk_=>El hR0 (q_ zw 2 0) (q_ zw 2 1) (q_ zv 2 0) (q_ zv 2 1) oM) (fun k_ hk_=>G6 hR0 (q_ zw 2 0) (q_ zw 2 1) (q_ zv 2 0) (q_ zv 2 1) oM) (fun k_ hk_ j_=>G4 hR0 (q_ zw 2 0) (q_ zw 2 1) (q_ zv 2 0) (q_ zv 2 1) oM j_) (fun k_ hk_ j_=>GY hR0 (q_ zw 2 0) (q_ zw 2 1) (q_ zv 2 0) (q_ zv 2 1) oM j_) (fun k_ hk_ w_ h_ g_=>Fy ra 0 n 200 0 (hR1.mono kD) (nh kD) (hRf n oM) k_ hk_ w_ h_ g_) (fun k_ j_ hj_=>by obtain rfl:j_=0:=Nat.lt_one_iff.1 hj_;decide) (fun k_=>by decide) (hRf n oM) (kL _ _) kD _ _ hs.g hs.f.r.1 hs.f.2.1 hs.f.1 (hs.f.q.q.q.r.1);rw[(DSt.ok (s:=(p5 ra ((aF zw 2).getD 0 0) ((aF zw 2).getD 1 0) ((aF zv 2).getD 0 0) ((aF zv 2).getD 1 0)) n) rfl).1,(DSt.ok (s:=(p5 ra ((aF zw 2).getD 0 0) ((aF zw 2).getD 1 0) ((aF zv 2).getD 0 0) ((aF zv 2).getD 1 0)) n) rfl).2,←hYl,←hLs] at q_;exact q_)) ?_;rintro _ _ _ _ _ hs ⟨U,Uc,V,Vc,rfl,hUc,hVc,hU,hV⟩;replace hs:=hs.aP hU hV;refine eV 8 43 (.tuple #[.agg #[qS U Yl.length Uc,qS V Ls.length Vc],iV 0]) (eV 9 52 (.agg #[qS U Yl.length Uc,qS V Ls.length Vc]) (eV 10 53 (iV 0) (jg [] hsr hs 53 [sZ,sZ] (fun _ _ zb hs=>tP 12 0 0 ([qS U Yl.length Uc,qS V Ls.length Vc]) hs (fun _ hs=>tV 13 17 (iV 0) (tN (bD [(8,qF),(9,pB zn),(10,nV n),(11,qS Ap tp.length cp),(12,qS Ac tc.length cc),(15,iV 0),(16,pB zb),(17,iV 0)] ?_)))))));refine cQ (ab hs [.m 54 15,.v 55 qF,.m 56 55,.m 57 17,.v 58 qF,.v 59 qF,.m 60 59,.v 61 (pB zb),.o 62 (qS U Yl.length Uc) 0 0 1,.v 63 (nV Yl.length)] ?_);cases zp:((Yl.length:Int) != (2:Int))
 ·
  have yg:=aJ zp;refine lB 64 zp (lL hs [.v 65 qF,.m 66 65,.v 67 (qP zb 1),.o 68 (qS V Ls.length Vc) 0 1 1,.v 69 (nV Ls.length),.m 70 10] (bw 71 ((n:Nat)+1) (n+1) ?_));cases zq:((Ls.length:Int) != ((n+1:Nat):Int))
  ·
   have yi:=aJ zq;refine lB 72 zq (lL hs [.v 73 qF] (am (cK (aD (lC 74 hs (HO 0 oM oM _ _ hs.g) ?_)))));rintro _ _ _ hs ⟨zF,Zx,zG,ZA,rfl,ZC,ZD,ZE,ZF⟩;replace hs:=hs.aP ZE ZF;refine lA 18 28 ([qF,sZ,sZ]) hs (fun zo _ YM hs=>lP 0 0 (jn ((0:Int):Rat) zF Zx zG ZA) hs (fun _ hs=>af (ab hs [.v 19 (iV 0)] (bd ?_))));replace hs:=hs.aS hs.f.1;replace hs:=hs.aS hs.f.r.1;refine bD _ (CG.loop (fun μ_ Γ w_=>∃ (k:Nat) (fq:Rat) (AF:Option Addr) (cF:Nat) (DF:Option Addr) (dF:Nat) (h_:Hp),μ_=2-k∧Γ=[(9,pB zn),(10,nV n),(11,qS Ap tp.length cp),(12,qS Ac tc.length cc),(16,pB zb),(18,pB zo),(19,nV k)]∧SS w h w_ h_ [⟨zo,28,jn fq AF cF DF dF⟩,⟨zb,53,[qS U Yl.length Uc,qS V Ls.length Vc]⟩,⟨zK,46,[iV 2,qS At ((ej ((aF zw 2).getD 0 0) ((aF zw 2).getD 1 0)).length) ct,qS Ot (([10]:List Int).length) dt]⟩,⟨zn,28,jn ra A3 c4 A7 c8⟩] [] [S3 AF (lim (aa fq.num)),S3 DF (lim fq.den),S3 zG (lim ((0:Int):Rat).den),S3 zF (lim (aa ((0:Int):Rat).num)),Sq V Ls,Sq U Yl,Sq Ai (aF zv 2),Si Ot ([10]:List Int),fun h_=>SlO 9 fW ac h_ At (ej ((aF zw 2).getD 0 0) ((aF zw 2).getD 1 0)),fun h_=>SlO 1 iq ⟨#[]⟩ h_ (sB zi) ([⟨#[97]⟩,⟨#[98]⟩]:List ByteArray),fun h_=>Seg h_ zi 0 ([.string (⟨#[97]⟩),.string (⟨#[98]⟩)]),fun h_=>SlO 9 hJ bG h_ (sB zg) ([p]:List PTm),fun h_=>Seg h_ zg 0 (pC p),fun h_=>TmH 5 h_ p (mD ((aF zw 2).getD 0 0) ((aF zw 2).getD 1 0)),Rt tc (aF zw 2),Sr Ac tc,Rt tp (aF zv 2),Sr Ap tp,S3 A7 (lim ra.den),S3 A3 (lim (aa ra.num)),fun h_=>Tab h_,Si A1 zw,Si A0 zv]∧k≤2∧fq=FH Yl (aF zw 2) k∧LQ (1+200*k) fq∧(lim (aa fq.num)).length≤cF∧(lim fq.den).length≤dF) _ ⟨0,((0:Int):Rat),zF,Zx,zG,ZA,YM,rfl,rfl,hs.to _ _,Nat.zero_le _,rfl,(LQ.lit (z:=0) kD),ZC,ZD⟩ ?_);rintro _ _ _ ⟨k,fq,AF,cF,DF,dF,YN,hm69,rfl,hs,hk,hfq,hfb,hcF,hdF⟩;refine cQ (ab hs [.m 75 19] ?_);cases zr:(decide ((k:Int)<(2:Int)))
   ·
    have yj:=oF zr;refine lB 76 zr (am (CG.exit ?_))
    show CG _ _ _ _ _ _ _ _
    refine cQ (ab hs [.v 23 (iV 1)] (bd ?_));refine bD _ (CG.loop (fun μ_ Γ w_=>∃ (i:Nat) (h_:Hp),μ_=Ls.length-i∧Γ=[(10,nV n),(16,pB zb),(18,pB zo),(23,iV ((i:Nat)+1))]∧SS w h w_ h_ [⟨zo,28,jn fq AF cF DF dF⟩,⟨zb,53,[qS U Yl.length Uc,qS V Ls.length Vc]⟩,⟨zK,46,[iV 2,qS At ((ej ((aF zw 2).getD 0 0) ((aF zw 2).getD 1 0)).length) ct,qS Ot (([10]:List Int).length) dt]⟩,⟨zn,28,jn ra A3 c4 A7 c8⟩] [] [S3 AF (lim (aa fq.num)),S3 DF (lim fq.den),S3 zG (lim ((0:Int):Rat).den),S3 zF (lim (aa ((0:Int):Rat).num)),Sq V Ls,Sq U Yl,Sq Ai (aF zv 2),Si Ot ([10]:List Int),fun h_=>SlO 9 fW ac h_ At (ej ((aF zw 2).getD 0 0) ((aF zw 2).getD 1 0)),fun h_=>SlO 1 iq ⟨#[]⟩ h_ (sB zi) ([⟨#[97]⟩,⟨#[98]⟩]:List ByteArray),fun h_=>Seg h_ zi 0 ([.string (⟨#[97]⟩),.string (⟨#[98]⟩)]),fun h_=>SlO 9 hJ bG h_ (sB zg) ([p]:List PTm),fun h_=>Seg h_ zg 0 (pC p),fun h_=>TmH 5 h_ p (mD ((aF zw 2).getD 0 0) ((aF zw 2).getD 1 0)),Rt tc (aF zw 2),Sr Ac tc,Rt tp (aF zv 2),Sr Ap tp,S3 A7 (lim ra.den),S3 A3 (lim (aa ra.num)),fun h_=>Tab h_,Si A1 zw,Si A0 zv]∧i<Ls.length) _ ⟨0,YN,rfl,rfl,hs.to _ _,by omega⟩ ?_);rintro _ _ _ ⟨i,_,hm73,rfl,hs,hi⟩;refine cQ (ab hs [.m 123 23,.v 124 (qP zb 1),.o 125 (qS V Ls.length Vc) 1 1 1,.v 126 (nV Ls.length)] ?_);cases zs:(decide ((((i:Nat)+1):Int)<(Ls.length:Int)))
    ·
     have yk:=oF zs;refine lB 127 zs (am (CG.exit ?_))
     show CG _ _ _ _ _ _ _ _
     refine cQ (cR 12 [] mixed hs aq ?_);refine ak 0 154 hs (fun _ _ hs=>uU _ _ hs.g hs.f.q.q.q.q.q.1) (fun _ _ hs=>eV 1 155 qT (eV 2 156 (qP zb 1) (eO 3 157 [(1,1,1)] (qS V Ls.length Vc) hs (eV 4 158 (nV n) (eX 5 159 V Ls.length Vc 5 (n:Nat) n ((hs.f.q.1).ok oM) (eH 6 160 (qv (Ls.getD n 0)) hs ((hs.f.q.1).el n oM) (eO 7 161 [(0,0,3)] (rG fq AF cF DF dF) hs (eC 8 162 hs (fun _ _ hs=>HO 2 oM oM _ _ hs.g) ?_))))))));rintro _ _ _ _ _ hs ⟨YO,YP,YQ,YR,rfl,ZG,ZH,ZI,ZJ⟩;replace hs:=hs.aP ZI ZJ;have ZK:=LQ.div hfb (LQ.lit (z:=2) kD);refine eC 9 163 hs (fun _ _ hs=>IT fq AF cF DF dF hcF hdF (nl hfb) (nD hfb) ((2:Int):Rat) YO YP YQ YR ZG ZH (nl (LQ.lit (z:=2) kD)) (nD (LQ.lit (z:=2) kD)) kD _ _ hs.g hs.f.r.1 hs.f.r.2.1 hs.f.2.1 hs.f.1) ?_;rintro _ _ _ _ _ hs ⟨YS,YT,YU,YV,rfl,ZL,ZM,ZN,ZO⟩;replace hs:=hs.aP ZN ZO;have hsame:jr (Ls.getD n 0) (fq/((2:Int):Rat))=true:=decide_eq_true (hgo.last fq (by rw[hfq,show k=2 by omega]));exact ak 10 164 hs (fun _ _ hs=>(by have q_:=Dd (Ls.getD n 0) (fq/((2:Int):Rat)) (LQ.mono (hgo.lq n) oM) (LQ.mono ZK oM) YS YT YU YV ZL ZM _ _ hs.g hs.f.2.1 (hs.f.1);rw[hsame] at q_;exact q_)) (fun _ _ hs=>eV 11 165 qT (bF hs (fun _ _ hs=>tV 12 8 qT (tN (kX (hs.ret [] qT rfl))))))
    have yk:=oT zs;refine lB 127 zs (ar (cK (cQ (kZ (cQ (cR 24 [] mixed hs aq ?_))))));have hdn:=hgo.down i oM;refine eV 0 130 (qP zb 1) (eO 1 131 [(1,1,1)] (qS V Ls.length Vc) hs (eV 2 132 (iV ((i:Nat)+1)) (eX 3 133 V Ls.length Vc 5 ((i:Nat)+1) (i+1) ((hs.f.q.1).ok oM) (eH 4 134 (qv (Ls.getD (i+1) 0)) hs ((hs.f.q.1).el (i+1) oM) (eV 5 135 (qP zb 1) (eO 6 136 [(1,1,1)] (qS V Ls.length Vc) hs (eV 7 137 (iV ((i:Nat)+1)) (eI 8 138 (((i:Nat)+1)-1) (eX 9 139 V Ls.length Vc 5 (((i:Nat)+1)-1) i ((hs.f.q.1).ok oM) (eH 10 140 (qv (Ls.getD i 0)) hs ((hs.f.q.1).el i oM) (ak 11 141 hs (fun _ _ hs=>lM (Ls.getD (i+1) 0) (Ls.getD i 0) (LQ.mono (hgo.lq (i+1)) oM) (LQ.mono (hgo.lq i) oM) _ _ hs.g) (fun _ _ hs=>?_))))))))))));cases zj:(decide ((0:Int)<(cW (Ls.getD (i+1) 0) (Ls.getD i 0):Int)))
    ·
     have zL:=oF zj;refine eB 12 142 zj (eV 13 143 qF (eG 14 144 (eG 15 145 (eG 16 146 (eG 17 147 (eG 18 148 (eG 19 149 (eG 20 150 (eG 21 151 (eG 22 152 (eV 23 153 qF (bF hs (fun _ ZP hs=>tN (dK (cK (kQ (lL hs [.m 128 23] (lI 129 (((i:Nat)+1)+1) ?_))))))))))))))))));refine lL hs [.m 23 129] (lD ?_);intro a_ ka;refine ⟨_,_,?_,⟨i+1,ZP,rfl,rfl,hs.to _ _,oM⟩,ka.to _ kR⟩
     omega
    have zL:=oT zj;refine eB 12 142 zj (eV 13 143 qT (eV 14 144 (qP zb 1) (eO 15 145 [(1,1,1)] (qS V Ls.length Vc) hs (eV 16 146 (iV ((i:Nat)+1)) (eX 17 147 V Ls.length Vc 5 ((i:Nat)+1) (i+1) ((hs.f.q.1).ok oM) (eH 18 148 (qv (Ls.getD (i+1) 0)) hs ((hs.f.q.1).el (i+1) oM) (eC 19 149 hs (fun _ _ hs=>mt 1 1000000 oM oM oM oM oM _ _ hs.g) ?_)))))));rintro _ _ _ _ _ hs ⟨ZQ,ZR,ZS,ZT,rfl,ym,yn,yo,yp⟩;replace hs:=hs.aP yo yp;refine ak 20 150 hs (fun _ _ hs=>IZ (mkR 1 1000000) ZQ ZR ZS ZT ym yn (LQ.mono (LQ.mkR (n:=1) (d:=1000000) kD kD kD kD kD) oM) _ _ hs.g hs.f.2.1 hs.f.1 hs.f.q.q.q.q.q.r.1) (fun _ _ hs=>ak 21 151 hs (fun _ _ hs=>lM (Ls.getD (i+1) 0) (mkR 1 1000000) (LQ.mono (hgo.lq (i+1)) oM) (LQ.mono (LQ.mkR (n:=1) (d:=1000000) kD kD kD kD kD) oM) _ _ hs.g) (fun _ _ hs=>?_));cases zk:(decide ((0:Int)<(cW (Ls.getD (i+1) 0) (mkR 1 1000000):Int)))
    ·
     have zM:=oF zk;refine eB 22 152 zk (eV 23 153 qF (bF hs (fun _ ZU hs=>tN (dK (cK (kQ (lL hs [.m 128 23] (lI 129 (((i:Nat)+1)+1) ?_))))))));refine lL hs [.m 23 129] (lD ?_);intro a_ ka;replace hs:=hs.tl.tl;refine ⟨_,_,?_,⟨i+1,ZU,rfl,rfl,hs.to _ _,oM⟩,ka.to _ kR⟩
     omega
    have zM:=oT zk;refine eB 22 152 zk (eV 23 153 qT (bF hs (fun _ _ hs=>tN (cI (ab hs [.v 8 qF] (lN (kX ?_)))))))
    exfalso;omega
   have yj:=oT zr;refine lB 76 zr (ar (cK (cQ (kZ (cQ ?_)))));have hsr:=hs;refine cR 11 [⟨10,20,.cells (List.toArray [qF,sZ,sZ]) 28 (0,0)⟩] mixed hs (bC (eW kR (fun _ _=>by kernel_rfl)) aq) (eV 0 79 (qS Ap tp.length cp) (eV 1 80 (nV k) (eX 2 81 Ap tp.length cp 3 (k:Nat) k ((hs.f.q.q.q.q.2.1).ok oM) ?_)));obtain ⟨Ax,cx,Dx,dx,ex,hcx,hdx,hAx,hDx⟩:=(hs.f.q.q.q.q.1).at_ k oM;replace hs:=hs.aP hAx hDx;refine EX 3 82 (rA (tp.getD k uG)) hs ((hs.f.q.q.q.q.r.2.1).el k oM) ex (eV 4 83 (qS Ac tc.length cc) (eV 5 84 (nV k) (eX 6 85 Ac tc.length cc 3 (k:Nat) k ((hs.f.q.q.q.q.2.1).ok oM) ?_)));obtain ⟨Ay,cy,Dy,dy,ey,hcy,hdy,hAy,hDy⟩:=(hs.f.q.q.q.q.1).at_ k oM;replace hs:=hs.aP hAy hDy;refine EX 7 86 (rA (tc.getD k uG)) hs ((hs.f.q.q.q.q.r.2.1).el k oM) ey ?_;have zt:=LQ.sub (dG zv 2 k) (dG zw 2 k);refine eC 8 87 hs (fun _ _ hs=>B4 ((aF zv 2).getD k 0) Ax cx Dx dx hcx hdx (nl (dG zv 2 k)) (nD (dG zv 2 k)) ((aF zw 2).getD k 0) Ay cy Dy dy hcy hdy (nl (dG zw 2 k)) (nD (dG zw 2 k)) _ _ hs.g hs.f.r.2.1 hs.f.r.1 hs.f.2.1 hs.f.1) ?_;rintro _ _ _ _ _ hs ⟨zN,ZV,zP,ZW,rfl,yr,ys,yt,yu⟩;replace hs:=hs.aP yt yu;have yv:LQ (1+1+1) (bp (((aF zv 2).getD k 0)-((aF zw 2).getD k 0))):=LQ.abs zt;refine eC 9 88 hs (fun _ _ hs=>Ef (((aF zv 2).getD k 0)-((aF zw 2).getD k 0)) zN ZV zP ZW yr ys (nl zt) (nD zt) _ _ hs.g hs.f.2.1 hs.f.1) ?_;rintro _ _ _ _ _ hs ⟨zH,zQ,zI,zR,rfl,yw,yx,yA,yB⟩;replace hs:=hs.aP yA yB;refine jg [] hsr hs 28 [qF,sZ,sZ] (fun _ ZX zS hs=>tP 11 0 0 (jn (bp (((aF zv 2).getD k 0)-((aF zw 2).getD k 0))) zH zQ zI zR) hs (fun _ hs=>tN (cQ (ab hs [.v 21 (iV 0)] (bd ?_)))));replace hs:=hs.aS hs.f.1;replace hs:=hs.aS hs.f.r.1;refine bD _ (CG.loop (fun μ_ Γ w_=>∃ (j:Nat) (sq:Rat) (AS:Option Addr) (cS:Nat) (DS:Option Addr) (dS:Nat) (h_:Hp),μ_=n-j∧Γ=[(9,pB zn),(10,nV n),(11,qS Ap tp.length cp),(12,qS Ac tc.length cc),(16,pB zb),(18,pB zo),(19,nV k),(20,pB zS),(21,nV j)]∧SS w h w_ h_ [⟨zS,28,jn sq AS cS DS dS⟩,⟨zo,28,jn fq AF cF DF dF⟩,⟨zb,53,[qS U Yl.length Uc,qS V Ls.length Vc]⟩,⟨zK,46,[iV 2,qS At ((ej ((aF zw 2).getD 0 0) ((aF zw 2).getD 1 0)).length) ct,qS Ot (([10]:List Int).length) dt]⟩,⟨zn,28,jn ra A3 c4 A7 c8⟩] [] [S3 AS (lim (aa sq.num)),S3 DS (lim sq.den),S3 zI (lim (bp (((aF zv 2).getD k 0)-((aF zw 2).getD k 0))).den),S3 zH (lim (aa (bp (((aF zv 2).getD k 0)-((aF zw 2).getD k 0))).num)),S3 zP (lim (((aF zv 2).getD k 0)-((aF zw 2).getD k 0)).den),S3 zN (lim (aa (((aF zv 2).getD k 0)-((aF zw 2).getD k 0)).num)),S3 Dy (lim ((aF zw 2).getD k 0).den),S3 Ay (lim (aa ((aF zw 2).getD k 0).num)),S3 Dx (lim ((aF zv 2).getD k 0).den),S3 Ax (lim (aa ((aF zv 2).getD k 0).num)),S3 AF (lim (aa fq.num)),S3 DF (lim fq.den),S3 zG (lim ((0:Int):Rat).den),S3 zF (lim (aa ((0:Int):Rat).num)),Sq V Ls,Sq U Yl,Sq Ai (aF zv 2),Si Ot ([10]:List Int),fun h_=>SlO 9 fW ac h_ At (ej ((aF zw 2).getD 0 0) ((aF zw 2).getD 1 0)),fun h_=>SlO 1 iq ⟨#[]⟩ h_ (sB zi) ([⟨#[97]⟩,⟨#[98]⟩]:List ByteArray),fun h_=>Seg h_ zi 0 ([.string (⟨#[97]⟩),.string (⟨#[98]⟩)]),fun h_=>SlO 9 hJ bG h_ (sB zg) ([p]:List PTm),fun h_=>Seg h_ zg 0 (pC p),fun h_=>TmH 5 h_ p (mD ((aF zw 2).getD 0 0) ((aF zw 2).getD 1 0)),Rt tc (aF zw 2),Sr Ac tc,Rt tp (aF zv 2),Sr Ap tp,S3 A7 (lim ra.den),S3 A3 (lim (aa ra.num)),fun h_=>Tab h_,Si A1 zw,Si A0 zv]∧j≤n∧sq=bp ((aF zv 2).getD k 0-(aF zw 2).getD k 0)*iE (((1:Int):Rat)-ra) j∧LQ (3+3*j) sq∧(lim (aa sq.num)).length≤cS∧(lim sq.den).length≤dS) _ ⟨0,(bp (((aF zv 2).getD k 0)-((aF zw 2).getD k 0))),zH,zQ,zI,zR,ZX,rfl,rfl,hs.to _ _,Nat.zero_le _,(Rat.mul_one _).symm,(LQ.mono yv oM),yw,yx⟩ ?_);rintro _ _ _ ⟨j,sq,AS,cS,DS,dS,_,hm156,rfl,hs,hj,hsq,hsb,hcS,hdS⟩;refine cQ (ab hs [.m 89 21,.m 90 10] ?_);cases zl:(decide ((j:Int)<(n:Int)))
   ·
    have zT:=oF zl;refine lB 91 zl (am (CG.exit ?_))
    show CG _ _ _ _ _ _ _ _
    refine cQ ?_;have hsr:=hs;refine cR 13 [⟨12,22,.cells (List.toArray [qF,sZ,sZ]) 28 (0,0)⟩] mixed hs (bC (eW kR (fun _ _=>by kernel_rfl)) aq) (eV 0 99 (pB zb) (eO 1 100 [(2,0,1)] (qS U Yl.length Uc) hs (eV 2 101 (nV k) (eX 3 102 U Yl.length Uc 5 (k:Nat) k ((hs.f.q.q.q.r.2.1).ok oM) (eH 4 103 (qv (Yl.getD k 0)) hs ((hs.f.q.q.q.r.2.1).el k oM) (eV 6 105 (qS Ac tc.length cc) (eV 7 106 (nV k) (eX 8 107 Ac tc.length cc 3 (k:Nat) k ((hs.f.q.q.q.q.q.q.2.1).ok oM) ?_))))))));obtain ⟨Az,cz,Dz,dz,ez,hcz,hdz,hAz,hDz⟩:=(hs.f.q.q.q.q.q.q.1).at_ k oM;replace hs:=hs.aP hAz hDz;refine EX 9 108 (rA (tc.getD k uG)) hs ((hs.f.q.q.q.q.q.q.r.2.1).el k oM) ez (eC 5 104 hs (fun _ _ hs=>GQ (Yl.getD k 0) (LQ.mono (hgo.yq k) oM) _ _ hs.g) ?_);rintro _ _ _ _ _ hs ⟨Ya,Yb,Yc,Yd,rfl,yC,yD,yE,yF⟩;replace hs:=hs.aP yE yF;have zu:=LQ.sub (hgo.yq k) (dG zw 2 k);refine eC 10 109 hs (fun _ _ hs=>B4 (Yl.getD k 0) Ya Yb Yc Yd yC yD (nl (hgo.yq k)) (nD (hgo.yq k)) ((aF zw 2).getD k 0) Az cz Dz dz hcz hdz (nl (dG zw 2 k)) (nD (dG zw 2 k)) _ _ hs.g hs.f.2.1 hs.f.1 hs.f.r.2.1 hs.f.r.1) ?_;rintro _ _ _ _ _ hs ⟨Ye,Yf,Yg,Yi,rfl,yG,yH,yI,yJ⟩;replace hs:=hs.aP yI yJ;have za:LQ (71+1+1) (bp ((Yl.getD k 0)-((aF zw 2).getD k 0))):=LQ.abs zu;refine eC 11 110 hs (fun _ _ hs=>Ef ((Yl.getD k 0)-((aF zw 2).getD k 0)) Ye Yf Yg Yi yG yH (nl zu) (nD zu) _ _ hs.g hs.f.2.1 hs.f.1) ?_;rintro _ _ _ _ _ hs ⟨zc,zd,ze,zf,rfl,zx,zA,yK,yL⟩;replace hs:=hs.aP yK yL;refine jg [] hsr hs 28 [qF,sZ,sZ] (fun _ _ b192 hs=>tP 13 0 0 (jn (bp ((Yl.getD k 0)-((aF zw 2).getD k 0))) zc zd ze zf) hs (fun _ hs=>tN (cQ (ab hs [.o 111 (rG (bp ((Yl.getD k 0)-((aF zw 2).getD k 0))) zc zd ze zf) 0 0 3,.o 112 (rG sq AS cS DS dS) 1 0 3] ?_))));have zB:=LQ.sub za hsb;refine lC 113 hs (B4 (bp ((Yl.getD k 0)-((aF zw 2).getD k 0))) zc zd ze zf zx zA (nl za) (nD za) sq AS cS DS dS hcS hdS (nl hsb) (nD hsb) _ _ hs.g hs.f.2.1 hs.f.1 hs.f.q.q.1 hs.f.q.q.2.1) ?_;rintro _ _ _ hs ⟨Yj,Yk,Ym,Yn,rfl,yM,yN,yO,yP⟩;replace hs:=hs.aP yO yP;have zJ:LQ ((71+1+1)+(3+3*j)+1) (bp ((bp ((Yl.getD k 0)-((aF zw 2).getD k 0)))-sq)):=LQ.abs zB;refine lC 114 hs (Ef ((bp ((Yl.getD k 0)-((aF zw 2).getD k 0)))-sq) Yj Yk Ym Yn yM yN (nl zB) (nD zB) _ _ hs.g hs.f.2.1 hs.f.1) ?_;rintro _ _ _ hs ⟨Yo,Yp,Yq,Yr,rfl,yQ,yR,yS,yT⟩;replace hs:=hs.aP yS yT;refine lC 115 hs (mt 1 1000000 oM oM oM oM oM _ _ hs.g) ?_;rintro _ _ _ hs ⟨Ys,Yt,Yu,Yv,rfl,yU,yV,yW,yX⟩;replace hs:=hs.aP yW yX;refine ah 116 hs (IH (bp ((bp ((Yl.getD k 0)-((aF zw 2).getD k 0)))-sq)) Yo Yp Yq Yr yQ yR (nl zJ) (nD zJ) (mkR 1 1000000) Ys Yt Yu Yv yU yV (nl (LQ.mkR (n:=1) (d:=1000000) kD kD kD kD kD)) (nD (LQ.mkR (n:=1) (d:=1000000) kD kD kD kD kD)) _ _ hs.g hs.f.r.2.1 hs.f.r.1 hs.f.2.1 hs.f.1) (fun _ _ hs=>?_);have hcm:cW (bp ((bp ((Yl.getD k 0)-((aF zw 2).getD k 0)))-sq)) (mkR 1 1000000)≤0:=hgo.far k oM sq (by rw[hsq,show j=n by omega]);cases zm:(decide ((0:Int)<(cW (bp ((bp ((Yl.getD k 0)-((aF zw 2).getD k 0)))-sq)) (mkR 1 1000000):Int)))
    ·
     have zU:=oF zm;refine lB 117 zm (am (cK (cR 5 [] mixed hs aq ?_)));refine eO 0 118 [(2,0,3)] (rG fq AF cF DF dF) hs (eO 1 119 [(0,0,3)] (rG (bp ((Yl.getD k 0)-((aF zw 2).getD k 0))) zc zd ze zf) hs (eO 2 120 [(0,0,3)] (rG (bp ((Yl.getD k 0)-((aF zw 2).getD k 0))) zc zd ze zf) hs ?_));have zD:=LQ.mul za za;refine eC 3 121 hs (fun _ _ hs=>GW (bp ((Yl.getD k 0)-((aF zw 2).getD k 0))) zc zd ze zf zx zA (nl za) (nD za) (bp ((Yl.getD k 0)-((aF zw 2).getD k 0))) zc zd ze zf zx zA (nl za) (nD za) _ _ hs.g hs.f.q.r.2.1 hs.f.q.r.1 hs.f.q.r.2.1 hs.f.q.r.1) ?_;rintro _ _ _ _ _ hs ⟨Yw,Yx,YA,YB,rfl,Za,Zb,Zc,Zd⟩;replace hs:=hs.aP Zc Zd;have Ze:=LQ.add hfb zD;refine eC 4 122 hs (fun _ _ hs=>HY fq AF cF DF dF hcF hdF (nl hfb) (nD hfb) ((bp ((Yl.getD k 0)-((aF zw 2).getD k 0)))*(bp ((Yl.getD k 0)-((aF zw 2).getD k 0)))) Yw Yx YA YB Za Zb (nl zD) (nD zD) _ _ hs.g hs.f.q.q.q.q.q.q.r.1 hs.f.q.q.q.q.q.q.r.2.1 hs.f.2.1 hs.f.1) ?_;rintro _ _ _ _ _ hs ⟨zW,zX,ya,yb,rfl,Zf,Zg,Zi,Zj⟩;replace hs:=hs.aP Zi Zj;refine bF hs (fun _ YC hs=>tP 5 2 0 (jn (fq+((bp ((Yl.getD k 0)-((aF zw 2).getD k 0)))*(bp ((Yl.getD k 0)-((aF zw 2).getD k 0))))) zW zX ya yb) hs (fun _ hs=>tN (kQ (lL hs [.m 77 19] (bw 78 ((k:Nat)+1) (k+1) ?_)))));refine lL hs [.m 19 78] (lD ?_);intro a_ ka;replace hs:=((hs.tl.tl.tl.tl.tl.tl.tl.tl.tl.tl.tl.tl.tl.tl.tl.tl.tl.tl.tl.tl.tl.tl.tl.tl.tl.tl.tl.tl.tl.tl.aS hs.f.1).aS hs.f.2.1);replace hs:=hs.drop 2 0;refine ⟨_,_,?_,⟨k+1,(fq+((bp ((Yl.getD k 0)-((aF zw 2).getD k 0)))*(bp ((Yl.getD k 0)-((aF zw 2).getD k 0))))),zW,zX,ya,yb,YC,rfl,rfl,hs.to _ _,oM,(by rw[hfq];rfl),(LQ.mono Ze oM),Zf,Zg⟩,ka.to _ kR⟩
     omega
    have zU:=oT zm;refine lB 117 zm (ar (ab hs [.v 8 qF] (lN (kX ?_))))
    exfalso;omega
   have zT:=oT zl;refine lB 91 zl (ar (cK (cQ (kZ (cR 5 [] mixed hs aq ?_)))));refine eO 0 94 [(0,0,3)] (rG sq AS cS DS dS) hs (eO 2 96 [(4,0,3)] (rG ra A3 c4 A7 c8) hs (eC 1 95 hs (fun _ _ hs=>HO 1 oM oM _ _ hs.g) ?_));rintro _ _ _ _ _ hs ⟨YD,YE,YF,YG,rfl,Zk,Zl,Zm,Zn⟩;replace hs:=hs.aP Zm Zn;have zE:=LQ.sub (LQ.lit (z:=1) kD) hR1;refine eC 3 97 hs (fun _ _ hs=>B4 ((1:Int):Rat) YD YE YF YG Zk Zl (nl (LQ.lit (z:=1) kD)) (nD (LQ.lit (z:=1) kD)) ra A3 c4 A7 c8 hc5 hc9 (nl hR1) (nD hR1) _ _ hs.g hs.f.2.1 hs.f.1 hs.f.q.q.q.q.q.q.q.r.2.1 hs.f.q.q.q.q.q.q.q.r.1) ?_;rintro _ _ _ _ _ hs ⟨YH,YI,YJ,YK,rfl,Zo,Zp,Zq,Zr⟩;replace hs:=hs.aP Zq Zr;have Zs:=LQ.mul hsb zE;refine eC 4 98 hs (fun _ _ hs=>GW sq AS cS DS dS hcS hdS (nl hsb) (nD hsb) (((1:Int):Rat)-ra) YH YI YJ YK Zo Zp (nl zE) (nD zE) _ _ hs.g hs.f.q.1 hs.f.q.2.1 hs.f.2.1 hs.f.1) ?_;rintro _ _ _ _ _ hs ⟨yc,yd,ye,yf,rfl,Zt,Zu,Zv,Zw⟩;replace hs:=hs.aP Zv Zw;refine bF hs (fun _ YL hs=>tP 5 0 0 (jn (sq*(((1:Int):Rat)-ra)) yc yd ye yf) hs (fun _ hs=>tN (kQ (lL hs [.m 92 21] (bw 93 ((j:Nat)+1) (j+1) ?_)))));refine lL hs [.m 21 93] (lD ?_);intro a_ ka;replace hs:=((hs.tl.tl.tl.tl.tl.tl.tl.tl.aS hs.f.1).aS hs.f.2.1);refine ⟨_,_,?_,⟨j+1,(sq*(((1:Int):Rat)-ra)),yc,yd,ye,yf,YL,rfl,rfl,hs.to _ _,oM,(by rw[hsq,Rat.mul_assoc];rfl),(LQ.mono Zs oM),Zt,Zu⟩,ka.to _ kR⟩
   omega
  have yi:=aU zq;refine lB 72 zq (lL hs [.v 73 qT] (ar (ab hs [.v 8 qF] (lN (kX ?_)))))
  exfalso;omega
 have yg:=aU zp;refine lB 64 zp (lL hs [.v 65 qT,.m 66 65] (lG 67 ?_));refine lG 68 (lG 69 (lG 70 (lG 71 (lG 72 (lL hs [.v 73 qT] (ar (ab hs [.v 8 qF] (lN (kX ?_)))))))))
 exfalso;omega
end Go.Proofs.YtahgaogfpimkpaaGreatDoor
