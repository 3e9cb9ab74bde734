/- Laws of this claim, part 5. -/
import Derived.Test.YtmdaaeffcfheoaaGreatDoorQg0
import Derived.Test.YtmdaaeffcfheoaaGreatDoorQg1
import Derived.Test.YtmdaaeffcfheoaaGreatDoorQg2
import Derived.Test.YtmdaaeffcfheoaaGreatDoorQg3
set_option maxRecDepth 100000
set_option maxHeartbeats 4000000
namespace Go.Proofs.YtmdaaeffcfheoaaGreatDoor
open _root_.Array renaming getElem?_append_left -> x0, getElem?_push_size -> fo
open Bool renaming and_eq_true -> i3
open List renaming all_eq_true -> oi, any_eq_true -> ta, cons_append -> z7, eq_nil_of_length_eq_zero -> yD, ext_getElem -> HS, getD_eq_getElem?_getD -> zh, getElem?_eq_getElem -> HR, getElem?_eq_some_iff -> y6, getElem_map -> yi, getElem_mem -> gp, length_cons -> yc, length_eq_one_iff -> HP, length_map -> HV, length_nil -> HE, length_set -> Gq, lookup_cons -> hP, map_cons -> yR, map_map -> HU, mem_cons -> g3, mem_cons_of_mem -> GG, mem_cons_self -> GF, mem_filter -> H1, mem_iff_getElem? -> HO, mem_map -> g1, mem_range -> o0, mem_singleton -> ul, mergeSort_perm -> HW, range -> ov, replicate -> yJ, set_eq_of_length_le -> HY, size_toArray -> HT, toArray -> GX
open Nat renaming add_right_comm -> HZ, le_mul_of_pos_left -> GU, le_of_ble_eq_true -> y5, le_refl -> ey, le_trans -> ez, lt_or_ge -> ep, lt_succ_iff_lt_or_eq -> HX, mul_assoc -> Ab, mul_le_mul -> Gm, mul_le_mul_left -> A5, not_lt_zero -> HA, pow_succ -> z6, succ_lt_succ -> HQ, succ_ne_zero -> HD, succ_pos -> GD, zero_add -> yF, zero_le -> GA
open Option renaming isNone_iff_eq_none -> H0
open Go.RowKit
open Go.RowKit Go.Shelf
open Go.RowKit Go.WideMaps
theorem x4 (ok:ByteArray->Prop)(ix:ByteArray->Nat)(fs:List Rat)(e:Z9)(y:Nat)(z:fs.length<=1000)(o:Nat)(l:List MapEntry)(M:∀ i,LQ 1 (fs.getD i 0))(j:∀ s,ok s->ix s<fs.length/\∃ i,Instr.findNow .string (.string s) l 0=some (some (i,nV (ix s)))):∀ (d:Nat) (p:PTm) (t:Tm) (w:World) (h:Hp),d<=24->G w h->TmH d h p t->WfT1 ok d t->bu d t<=1000->Sq e fs h->MapS h o l->Tab h->Calls Tryz.prog 24 #[.agg #[.iface 73 (.agg #[.slice e fs.length y]),.map (some o),.bool false],az p] w (Ret w h (fun v h1=>∃ (O:Z9)(c_:Nat),v=.tuple #[iy (aA ix fs d t).2.1 O (aA ix fs d t).2.2.length c_,iV (aA ix fs d t).1]/\Sq O (aA ix fs d t).2.2 h1))
  | 0,_,_,_,_,_,_,x,_,_,_,_,_=>x.elim
  | d + 1,p,t,w,h,hd,g,x,wf,hw,hF,hM,tb=>by
    obtain ⟨op,n,q,s,A,c,ps,ks,rfl,rfl,Y,D,a⟩:=x.open;obtain ⟨w1,w2,w3,L,Z,X,F,C,B⟩:=wf;replace w1:fb op=(ks.length:Nat):=w1;replace F : -12<=n:=F;replace C:n<=12:=C;replace B:∀ i,i<ks.length->WfT1 ok d (ks.getD i bZ):=B;have S:=aN op;have K:=fun p t w h=>x4 ok ix fs e y z o l M j d p t w h oM
    have u:∀ t,WfT1 ok d t->bu d t<=1000->LQ 3000 (aA ix fs d t).2.1/\∀ i,LQ 1000000 ((aA ix fs d t).2.2.getD i 0):=fun t V k2=>by
      obtain ⟨_,Q,W⟩:=jE (ix:=ix) M V;exact ⟨Q.mono oM,fun i=>(W i).mono (by have:=Gm k2 (show d<=24 by omega);omega)⟩
    rcases fd w1 with rfl|⟨t1,rfl⟩|⟨t1,t2,rfl⟩
    . simp only[HE] at w1
      by_cases o1:op=1
      . subst o1;exact B1 ok ix fs e y z o l d n q s A c ps [] w h g D hF hM
      . obtain rfl:op=2:=by omega
        exact CQ ok ix fs e y z o l d n q s A c ps [] (j s (L rfl)).1 (j s (L rfl)).2 w h g D hF hM
    . obtain ⟨H,rfl⟩:=HP.1 (show ps.length=1 from a.len)
      simp only[yc,HE] at w1
      have f:WfT1 ok d t1:=B 0 (GD _);have b:bu d t1<=1000:=n4 hw;exact AO ok ix fs e y z o l d K op n q s A c H t1 f b (u t1 f b).1 (u t1 f b).2 oM oM ⟨F,C⟩ w h g D (a.at_ 0 (GD _)) hF hM tb
    . obtain ⟨H,U,rfl⟩:=k7 (show ps.length=2 from a.len)
      simp only[yc,HE] at w1
      have f:WfT1 ok d t1:=B 0 (GD _);have J:WfT1 ok d t2:=B 1 (by show 1<2;decide);obtain ⟨b,I⟩:=jV hw;exact Bj ok ix fs e y z o l d K op n q s A c H t1 f b (u t1 f b).1 (u t1 f b).2 U t2 J I (u t2 J I).1 (u t2 J I).2 oM oM ⟨F,C⟩ w h g D (a.at_ 0 (GD _)) (a.at_ 1 (by show 1<2;decide)) hF hM tb
def n5 (s:ByteArray):Prop:=s=⟨#[120]⟩\/s=⟨#[121]⟩\/s=⟨#[122]⟩
theorem Cl:∀ {k:Nat},k<3->n5 (eb.getD k ⟨#[]⟩)
 | 0,_=>.inl rfl
 | 1,_=>.inr (.inl rfl)
 | 2,_=>.inr (.inr rfl)
def GrT (d:Nat)(t:Tm):Prop:=WfT1 n5 d t/\3*bu d t<=3^d
theorem GrT.num {d:Nat}{q:Rat}(h:LQ 1 q):GrT (d+1) (.mk 1 0 q ⟨#[]⟩ []) :=
 ⟨⟨rfl,fun h=>absurd rfl h,h,fun h=>absurd (show (1:Int)=2 from h) kD,fun _=>rfl,fun _=>rfl,by show (-12:Int)<=0;decide,by show (0:Int)<=12;decide,fun i hi=>absurd hi (HA i)⟩,by
  have:=Nat.two_pow_pos d;have:0<3^d:=Nat.pow_pos kD
  show 3*1<=3^(d+1)
  rw[z6];omega⟩
theorem GrT.name {d:Nat}{s:ByteArray}(h:n5 s):GrT (d+1) (.mk 2 0 0 s []) :=
 ⟨⟨rfl,fun _=>rfl,iZ kD,fun _=>h,fun h=>absurd rfl h,fun _=>rfl,by show (-12:Int)<=0;decide,by show (0:Int)<=12;decide,fun i hi=>absurd hi (HA i)⟩,by
  have:0<3^d:=Nat.pow_pos kD
  show 3*1<=3^(d+1)
  rw[z6];omega⟩
theorem GrT.one {d:Nat}{op n:Int}{t:Tm}(x:GrT d t)(ha:fb op=1)(a:op≠8->n=0)(h1 : -3<=n)(b:n<=3):GrT (d+1) (.mk op n 0 ⟨#[]⟩ [t]):=by
 refine ⟨⟨ha,fun _=>rfl,iZ kD,fun h=>?_,fun _=>rfl,a,by show (-12:Int)<=n;omega,by show n<=12;omega,fun i hi=>?_⟩,?_⟩
 ·have h:op=2:=h
  rw[h] at ha;exact absurd ha kD
 ·have:i=0:=by have:i<1:=hi;omega
  subst this;exact x.1
 ·show 3*((if op=11 then 2 else if op=8 then bj n else 1)*(0+bu d t))<=3^(d+1)
  have hf:(if op=11 then 2 else if op=8 then bj n else 1)<=3:=by
   unfold bj
   repeat' split
   all_goals omega
  have:=Gm hf x.2;rw[z6,yF,Nat.mul_left_comm,Nat.mul_comm (3^d)];exact this
theorem GrT.two {d:Nat}{op:Int}{t u:Tm}(x:GrT d t)(y:GrT d u)(ha:fb op=2):GrT (d+1) (.mk op 0 0 ⟨#[]⟩ [t,u]):=by
 have b:op≠8:=fun h=>by rw[h] at ha;exact absurd ha kD
 have a:op≠11:=fun h=>by rw[h] at ha;exact absurd ha kD
 refine ⟨⟨ha,fun _=>rfl,iZ kD,fun h=>?_,fun _=>rfl,fun _=>rfl,by show (-12:Int)<=0;decide,by show (0:Int)<=12;decide,fun i hi=>?_⟩,?_⟩
 ·have h:op=2:=h
  rw[h] at ha;exact absurd ha kD
 ·have:i=0\/i=1:=by have:i<2:=hi;omega
  rcases this with rfl|rfl
  ·exact x.1
  ·exact y.1
 ·show 3*((if op=11 then 2 else if op=8 then bj 0 else 1)*(0+bu d t+bu d u))<=3^(d+1)
  rw[if_neg a,if_neg b,z6];have:=x.2;have:=y.2
  omega
section
variable {d:Nat}{h:Hp}
theorem oZ:RZ h (false,.slice none 0 0,.slice none 0 0) 0:=⟨false,⟨none,0,none,0,rfl,ey _,ey _,SlO.nil,SlO.nil⟩,fun _=>rfl⟩
theorem Bg {b:Bool}{j c:Z9}{f e l a:Nat}{q:Rat}(hz:RZ h (b,.slice j f e,.slice c l a) q):RmH (d+1) h ⟨1,0,b,j,f,e,c,l,a,⟨#[]⟩,none,0,0⟩ (.mk 1 0 q ⟨#[]⟩ []) :=
 ⟨rfl,rfl,hz,rfl,rfl,ey _,[],rfl,SlO.nil,fun i hi=>absurd hi (HA i)⟩
theorem xa {s:ByteArray}:RmH (d+1) h ⟨2,0,false,none,0,0,none,0,0,s,none,0,0⟩ (.mk 2 0 0 s []) :=
 ⟨rfl,rfl,oZ,rfl,rfl,ey _,[],rfl,SlO.nil,fun i hi=>absurd hi (HA i)⟩
theorem tA {op n:Int}{p:RTm}{t:Tm}{b:Nat}(x:RmH d h p t)(a:SlO 7 cB fV h (some ⟨b,0,none⟩) [p]):RmH (d+1) h ⟨op,n,false,none,0,0,none,0,0,⟨#[]⟩,some ⟨b,0,none⟩,1,1⟩ (.mk op n 0 ⟨#[]⟩ [t]) :=
 ⟨rfl,rfl,oZ,rfl,rfl,ey _,[p],rfl,a,fun i hi=>by
  have:i=0:=by have:i<1:=hi;omega
  subst this;exact x⟩
theorem AI {op:Int}{p q:RTm}{t u:Tm}{b:Nat}(x:RmH d h p t)(y:RmH d h q u)(a:SlO 7 cB fV h (some ⟨b,0,none⟩) [p,q]):RmH (d+1) h ⟨op,0,false,none,0,0,none,0,0,⟨#[]⟩,some ⟨b,0,none⟩,2,2⟩ (.mk op 0 0 ⟨#[]⟩ [t,u]) :=
 ⟨rfl,rfl,oZ,rfl,rfl,ey _,[p,q],rfl,a,fun i hi=>by
  have:i=0\/i=1:=by have:i<2:=hi;omega
  rcases this with rfl|rfl
  ·exact x
  ·exact y⟩
end
def g6 (s:ByteArray):Prop:=s.size<=1000
theorem vw {s:ByteArray}(h:n5 s):g6 s:=by
 rcases h with rfl|rfl|rfl<;>(unfold g6;decide)
theorem C9:g6 ⟨#[]⟩:=by unfold g6;decide
theorem gY {d:Nat}{t:Tm}(w:WfT1 n5 d t):SmT1 g6 d t:=w.sm (sm:=g6) (fun _ h=>vw h) C9
instance (s:ByteArray) (ns:List ByteArray):Decidable (s∈ns):=@List.instDecidableMemOfLawfulBEq ByteArray instBEqOfDecidableEq inferInstance s ns
def bB:List ByteArray->ByteArray->Nat
  | [],_=>0
  | x::l,s=>if x=s then 0 else bB l s+1
theorem pR:∀ {l:List ByteArray} {s:ByteArray} {j:Nat},(∀ i,i<j->¬l.getD i ⟨#[]⟩=s)->j<l.length->l.getD j ⟨#[]⟩=s->bB l s=j
  | [],_,_,_,hj,_=>absurd hj (HA _)
  | x::l,s,0,_,_,h=>if_pos h
  | x::l,s,j+1,h,hj,e=>by
    have h0:¬x=s:=h 0 (GD _);have:=pR (l:=l) (s:=s) (j:=j) (fun i hi=>h (i+1) (HQ hi)) (Nat.lt_of_succ_lt_succ hj) e
    show (if x=s then 0 else bB l s+1)=j+1
    rw[if_neg h0,this]
theorem pT:∀ {l:List ByteArray} {s:ByteArray},s∈l->bB l s<l.length/\l.getD (bB l s) ⟨#[]⟩=s
  | [],_,h=>absurd h List.not_mem_nil
  | x :: l,s,h=>by
    unfold bB
    by_cases e:x=s
    . rw[if_pos e];exact ⟨GD _,e⟩
    . rw[if_neg e]
      rcases g3.1 h with h1|h1
      . exact absurd h1.symm e
      . have:=pT h1
        exact ⟨HQ this.1,this.2⟩
def ED (ns:List ByteArray)(s:ByteArray):Int:=if s∈ns then (bB ns s:Nat) else 0
theorem qm {ns:List ByteArray}{s:ByteArray}(h:s∈ns):ED ns s=(bB ns s:Nat):=if_pos h
def oH:List ByteArray->Nat->List MapEntry
  | [],_=>[]
  | x::l,i=>⟨.string x,.int .i64 (i:Nat),i⟩::oH l (i+1)
theorem lZ:∀ {l:List ByteArray} {i j:Nat} {e:MapEntry},(oH l i)[j]?=some e->∃ x,l[j]?=some x/\e=⟨.string x,.int .i64 ((i+j:Nat):Int),i+j⟩
  | [],_,_,_,h=>by cases h
  | x::l,i,0,e,h=>by injection h with h;exact ⟨x,rfl,h.symm⟩
  | x::l,i,j+1,e,h=>by
    obtain ⟨y,h1,a⟩:=lZ (l:=l) (i:=i+1) (j:=j) h;exact ⟨y,h1,by rw[a,show i+1+j=i+(j+1) by omega]⟩
theorem o8:∀ {l:List ByteArray} {i j:Nat} {x:ByteArray},l[j]?=some x->(oH l i)[j]?=some ⟨.string x,.int .i64 ((i+j:Nat):Int),i+j⟩
  | [],_,_,_,h=>by cases h
  | y::l,i,0,x,h=>by injection h with h;subst h;rfl
  | y::l,i,j+1,x,h=>by
    have:=o8 (l:=l) (i:=i+1) (j:=j) (x:=x) h;rw[show i+1+j=i+(j+1) by omega] at this
    exact this
theorem wd {ns:List ByteArray}(b:ns.Nodup){j:Nat}{s:ByteArray}(h:ns[j]?=some s):bB ns s=j:=by
 obtain ⟨c,e⟩:=y6.1 h;refine pR (fun i hi a=>?_) c (by rw[zh,h];rfl);rw[zh,HR oM] at a
 have a:ns[i]'oM=s:=a;exact absurd ((List.getElem_inj b).1 (a.trans e.symm)) oM
theorem At {ns:List ByteArray}(u:ns.Nodup)(s:ByteArray):(∃ i,Instr.findNow .string (.string s) (oH ns 0) 0=some (some (i,.int .i64 (ED ns s)))/\decide (s∈ns)=true)\/(Instr.findNow .string (.string s) (oH ns 0) 0=some none/\decide (s∈ns)=false/\ED ns s=0):=by
 rcases MapKept.findNow_spec (d:=.string) (k:=.string s) (by simp[MapKept.IsKey]) (oH ns 0) 0 (fun x p=>by
  obtain ⟨j,l⟩:=HO.1 p;obtain ⟨y,_,rfl⟩:=lZ l
  simp[MapKept.IsKey]) with ⟨a,b⟩|⟨j,e,a,b,c⟩
 ·have f:s ∉ ns:=fun h=>by
   obtain ⟨j,l⟩:=HO.1 h;exact b _ (HO.2 ⟨j,o8 l⟩) rfl
  exact .inr ⟨a,decide_eq_false f,if_neg f⟩
 ·obtain ⟨y,o,rfl⟩:=lZ b
  injection c with c
  subst c;have f:y∈ns:=HO.2 ⟨j,o⟩;refine .inl ⟨0+j,?_,decide_eq_true f⟩;rw[a,qm f,wd u o,yF]
structure LaidO (pl:ByteArray->Int) (d:Nat) (h:Hp) (rl:List RSt) (ss:List OSt) (l:List Stp):Prop where
  rs:RSs h rl ss
  mp:ss.map OSt.stp=l
  sm:E1 ss
section srt
open Go.RowKit Go.Maps Go.Sort Go.Shelf Go.WideShapes
def Tryz.keysZ_ren:Go.Shelf.Ren:=⟨fun|7=>95|10=>126|n=>n,fun|23=>158|26=>9|3=>4|28=>162|0=>0|27=>161|33=>116|4=>4|n=>n,fun|n=>n⟩
theorem Tryz.keysZ:Go.Proofs.SlLaysZ.n7 Tryz.prog Tryz.keysZ_ren:={
 mixed:=by kernel_rfl
 f7:=⟨Tryz.f95.name,by decide,Tryz.func95.trans (congrArg some kR)⟩
 f10:=⟨Tryz.f126.name,by decide,Tryz.func126.trans (congrArg some kR)⟩
 t0:=Tryz.underlying0
 a0:=Tryz.isAgg0
 z0:=Tryz.sizeOf0
 v0:=Tryz.zeroValue0
 t4:=Tryz.underlying4
 a4:=Tryz.isAgg4
 z4:=Tryz.sizeOf4
 v4:=Tryz.zeroValue4
 t23:=Tryz.underlying158
 a23:=Tryz.isAgg158
 z23:=Tryz.sizeOf158
 v23:=Tryz.zeroValue158
 t26:=Tryz.underlying9
 a26:=Tryz.isAgg9
 z26:=Tryz.sizeOf9
 v26:=Tryz.zeroValue9
 t27:=Tryz.underlying161
 a27:=Tryz.isAgg161
 z27:=Tryz.sizeOf161
 v27:=Tryz.zeroValue161
 t28:=Tryz.underlying162
 a28:=Tryz.isAgg162
 z28:=Tryz.sizeOf162
 v28:=Tryz.zeroValue162
 t33:=Tryz.underlying116
 a33:=Tryz.isAgg116
 z33:=Tryz.sizeOf116
 v33:=Tryz.zeroValue116 }
def Tryz.sortedZ_ren:Go.Shelf.Ren:=⟨fun|6=>94|8=>124|9=>125|11=>147|13=>149|12=>148|23=>166|24=>102|14=>157|15=>158|16=>159|17=>160|18=>161|19=>162|20=>163|21=>164|22=>165|25=>170|26=>171|27=>172|28=>173|29=>174|30=>175|31=>182|n=>n,fun|26=>9|28=>162|24=>44|0=>0|3=>3|37=>154|48=>153|50=>33|4=>4|40=>233|39=>232|45=>118|5=>5|9=>9|51=>243|55=>247|57=>252|58=>253|33=>116|n=>n,fun|n=>n⟩
theorem Tryz.sortedZ:Go.Proofs.SlLaysZ.n6 Tryz.prog Tryz.sortedZ_ren:={
 mixed:=by kernel_rfl
 f6:=⟨Tryz.f94.name,by decide,Tryz.func94.trans (congrArg some kR)⟩
 f8:=⟨Tryz.f124.name,by decide,Tryz.func124.trans (congrArg some kR)⟩
 f11:=⟨Tryz.f147.name,by decide,Tryz.func147.trans (congrArg some kR)⟩
 t0:=Tryz.underlying0
 a0:=Tryz.isAgg0
 z0:=Tryz.sizeOf0
 v0:=Tryz.zeroValue0
 t24:=Tryz.underlying44
 a24:=Tryz.isAgg44
 z24:=Tryz.sizeOf44
 v24:=Tryz.zeroValue44
 t26:=Tryz.underlying9
 a26:=Tryz.isAgg9
 z26:=Tryz.sizeOf9
 v26:=Tryz.zeroValue9
 t28:=Tryz.underlying162
 a28:=Tryz.isAgg162
 z28:=Tryz.sizeOf162
 v28:=Tryz.zeroValue162
 i26:=by kernel_rfl }
def Tryz.sortZ_ren:Go.Shelf.Ren:=⟨fun|6=>125|8=>149|9=>148|19=>166|20=>102|21=>157|22=>158|23=>159|24=>160|25=>161|26=>162|27=>163|28=>164|29=>165|36=>170|31=>171|32=>172|37=>173|38=>174|39=>175|41=>182|n=>n,fun|27=>44|29=>9|3=>3|32=>154|26=>44|0=>0|44=>153|46=>33|4=>4|36=>233|35=>232|41=>118|5=>5|9=>9|53=>243|57=>247|63=>252|64=>253|n=>n,fun|n=>n⟩
theorem Tryz.sortZ:Go.Proofs.SlLaysM.n6 Tryz.prog Tryz.sortZ_ren:={
 mixed:=by kernel_rfl
 f6:=⟨Tryz.f125.name,by decide,Tryz.func125.trans (congrArg some kR)⟩
 f8:=Tryz.func149.trans (congrArg some kR)
 f9:=⟨Tryz.f148.name,by decide,Tryz.func148.trans (congrArg some kR)⟩
 f19:=Tryz.func166.trans (congrArg some kR)
 f20:=Tryz.func102.trans (congrArg some kR)
 f21:=⟨Tryz.f157.name,by decide,Tryz.func157.trans (congrArg some kR)⟩
 f22:=⟨Tryz.f158.name,by decide,Tryz.func158.trans (congrArg some kR)⟩
 f23:=⟨Tryz.f159.name,by decide,Tryz.func159.trans (congrArg some kR)⟩
 f24:=⟨Tryz.f160.name,by decide,Tryz.func160.trans (congrArg some kR)⟩
 f25:=⟨Tryz.f161.name,by decide,Tryz.func161.trans (congrArg some kR)⟩
 f26:=⟨Tryz.f162.name,by decide,Tryz.func162.trans (congrArg some kR)⟩
 f27:=⟨Tryz.f163.name,by decide,Tryz.func163.trans (congrArg some kR)⟩
 f28:=⟨Tryz.f164.name,by decide,Tryz.func164.trans (congrArg some kR)⟩
 f29:=⟨Tryz.f165.name,by decide,Tryz.func165.trans (congrArg some kR)⟩
 f31:=Tryz.func171.trans (congrArg some kR)
 f32:=Tryz.func172.trans (congrArg some kR)
 f36:=⟨Tryz.f170.name,by decide,Tryz.func170.trans (congrArg some kR)⟩
 f37:=⟨Tryz.f173.name,by decide,Tryz.func173.trans (congrArg some kR)⟩
 f38:=⟨Tryz.f174.name,by decide,Tryz.func174.trans (congrArg some kR)⟩
 f39:=⟨Tryz.f175.name,by decide,Tryz.func175.trans (congrArg some kR)⟩
 f41:=⟨Tryz.f182.name,by decide,Tryz.func182.trans (congrArg some kR)⟩
 t0:=Tryz.underlying0
 a0:=Tryz.isAgg0
 z0:=Tryz.sizeOf0
 v0:=Tryz.zeroValue0
 t3:=Tryz.underlying3
 a3:=Tryz.isAgg3
 z3:=Tryz.sizeOf3
 v3:=Tryz.zeroValue3
 t4:=Tryz.underlying4
 a4:=Tryz.isAgg4
 z4:=Tryz.sizeOf4
 v4:=Tryz.zeroValue4
 t5:=Tryz.underlying5
 a5:=Tryz.isAgg5
 z5:=Tryz.sizeOf5
 v5:=Tryz.zeroValue5
 t9:=Tryz.underlying9
 a9:=Tryz.isAgg9
 z9:=Tryz.sizeOf9
 v9:=Tryz.zeroValue9
 t26:=Tryz.underlying44
 a26:=Tryz.isAgg44
 z26:=Tryz.sizeOf44
 v26:=Tryz.zeroValue44
 t27:=Tryz.underlying44
 a27:=Tryz.isAgg44
 z27:=Tryz.sizeOf44
 v27:=Tryz.zeroValue44
 t29:=Tryz.underlying9
 a29:=Tryz.isAgg9
 z29:=Tryz.sizeOf9
 v29:=Tryz.zeroValue9
 t32:=Tryz.underlying154
 a32:=Tryz.isAgg154
 z32:=Tryz.sizeOf154
 v32:=Tryz.zeroValue154
 t35:=Tryz.underlying232
 a35:=Tryz.isAgg232
 z35:=Tryz.sizeOf232
 v35:=Tryz.zeroValue232
 t36:=Tryz.underlying233
 a36:=Tryz.isAgg233
 z36:=Tryz.sizeOf233
 v36:=Tryz.zeroValue233
 t41:=Tryz.underlying118
 a41:=Tryz.isAgg118
 z41:=Tryz.sizeOf118
 v41:=Tryz.zeroValue118
 t44:=Tryz.underlying153
 a44:=Tryz.isAgg153
 z44:=Tryz.sizeOf153
 v44:=Tryz.zeroValue153
 t46:=Tryz.underlying33
 a46:=Tryz.isAgg33
 z46:=Tryz.sizeOf33
 v46:=Tryz.zeroValue33
 t53:=Tryz.underlying243
 a53:=Tryz.isAgg243
 z53:=Tryz.sizeOf243
 v53:=Tryz.zeroValue243
 t57:=Tryz.underlying247
 a57:=Tryz.isAgg247
 z57:=Tryz.sizeOf247
 v57:=Tryz.zeroValue247
 t63:=Tryz.underlying252
 a63:=Tryz.isAgg252
 z63:=Tryz.sizeOf252
 v63:=Tryz.zeroValue252
 t64:=Tryz.underlying253
 a64:=Tryz.isAgg253
 z64:=Tryz.sizeOf253
 v64:=Tryz.zeroValue253 }
theorem qG (m:Nat):AnyZ.SortsIn Tryz.prog Tryz.sortedZ_ren Fence.wide m :=
 ⟨fun c off a f W e b d=>callsIn_wide.2 (AnyM.slices_Sort_string Tryz.sortZ c off a f W e b d),fun p a W=>callsIn_wide.2 (AnyM.slices_Sort_string_none Tryz.sortZ p a W)⟩
theorem rM (a:Option Nat)(W:World):CallsIn Fence.wide 5 Tryz.prog 95 #[.map a] W fun e w'=>e=.returned (.func (.func 126) #[] #[.pointer (some ⟨W.heap.size,0,none⟩)])/\w'=W.alloc (.cells #[.map a] 158) :=
 AnyZ.keys_in Tryz.keysZ Fence.wide 5 trivial rfl a W
theorem oD {H:Type}(b o:Nat)(d:DataW H)(R:Value->Option (DataW H × List MemPlace))(w:World)(c:w.ownsMap Tryz.prog 9 R b o d)(i:Maps.size d<=maxLen)(a:Maps.size d*16<=140737488355328) :
  CallsIn Fence.wide 5 Tryz.prog 94 #[.func (.func 126) #[] #[.pointer (some ⟨w.heap.size,0,none⟩)]] (w.alloc (.cells #[.map (some b)] 158)) fun e w'=>∃ (v:Value)(h:List (List UInt8)),e=.returned v/\h.Perm (strKeys d) /\
   w'.ownsRow (w.alloc (.cells #[.map (some b)] 158)).heap.size 9 1 v h.length ((h.mergeSort (fun x y=>decide (x<=y))).map encStr)/\(v=.slice none 0 0↔h=[])/\Below (w.alloc (.cells #[.map (some b)] 158)).heap.size (w.alloc (.cells #[.map (some b)] 158)) w':=by
 have l:=c.lt
 have j:SeqGives Fence.wide 2 Tryz.prog 126 #[.pointer (some ⟨w.heap.size,0,none⟩)] encStr (fun h=>h.Perm (strKeys d)) (Maps.size d) (w.alloc (.cells #[.map (some b)] 158)) :=
  AnyZ.keys_gives (ρ:=Tryz.keysZ_ren) { Tryz.keysZ with } Fence.wide _ trivial rfl oM w.heap.size b o d _ (by simp) (by simp) (by
   obtain ⟨B,f,p,u,C,z⟩:=c;exact ⟨B,f,(Below.heap_alloc _ _ b l).trans p,u,C,z⟩)
 exact AnyZ.sorted_in Tryz.sortedZ Fence.wide 5 trivial trivial trivial trivial rfl oM (qG _) (enters_of Tryz.func125 kR rfl) 126 #[.pointer (some ⟨w.heap.size,0,none⟩)] trivial (enters_of Tryz.func126 kR rfl) _ _ i a _ j
section
variable {P:Program}{k:TypeId}(hk:P.underlying k=some .string)
def RU (_:Value):Option (DataW Unit × List MemPlace):=some (.nil,[])
theorem vb (hk:P.underlying k=some .string){a:List ByteArray}(d:∀ s∈a,s.size<=maxLen){e:MapEntry}(c:e∈eM a):∃ s∈a,WideElems.rd P k RU e=some (.string s.data.toList,.nil)/\e.key=.string s:=by
 obtain ⟨j,s,f,rfl⟩:=mt c;have b:s∈a:=HO.2 ⟨j,f⟩;refine ⟨s,b,?_,rfl⟩
 have h1:keyOf P k (.string s)=some (.string s.data.toList):=by
  have:=d s b
  simp[keyOf,hk,mapKey,this]
 unfold WideElems.rd
 rw[h1];rfl
theorem nU {c:List ByteArray}(l:c.Nodup):MapKept.Stamped (eM c).toArray c.length:=by
 refine ⟨fun x d=>?_,?_,?_⟩
 ·obtain ⟨j,s,o,rfl⟩:=mt (by simpa using d)
  exact (y6.1 o).1
 ·have e:(eM c).map (·.born)=ov c.length:=by
   apply HS
   ·simp[eM]
   ·intro i h1 f;simp[eM]
  show ((eM c).map (·.born)).Nodup
  rw[e];exact List.nodup_range
 ·have e:(eM c).map (·.key)=c.map Value.string:=by
   apply HS
   ·simp[eM]
   ·intro i h1 f;simp[eM]
  show ((eM c).map (·.key)).Nodup
  rw[e];exact List.Pairwise.map _ (fun a b h e=>h (Value.string.inj e)) l
theorem wW (hk:P.underlying k=some .string){w:World}{b:Nat}{a:List ByteArray}(j:w.heap[b]?=some (.map (eM a).toArray a.length))(u:a.Nodup)(f:∀ s∈a,s.size<=maxLen)(l:a.length<=1048576) :
  ∃ D:DataW Unit,w.ownsMap P k RU b a.length D/\(strKeys D).Perm (a.map fun s=>s.data.toList)/\Maps.size D<=1048576:=by
 have c:(eM a).length=a.length:=by simp[eM]
 refine ⟨.map (((eM a).map (WideElems.rg P k RU)).foldr DataW.insert []),⟨(eM a).toArray,a.length,j,⟨?_,nU u,fun x y=>?_⟩,?_,rfl⟩,?_,?_⟩
 ·show (eM a).toArray.size<=maxLen
  rw[HT,c];unfold maxLen;omega
 ·obtain ⟨s,_,h,_⟩:=vb (P:=P) hk f (by simpa using y)
  exact ⟨_,h⟩
 ·rw[HT,c];exact ey _
 ·show ((((eM a).map (WideElems.rg P k RU)).foldr DataW.insert []).map fun p=>strOf p.1).Perm _
  refine ((sorted_perm _).map _).trans (List.Perm.of_eq ?_);rw[HU]
  apply HS
  ·simp[c]
  ·intro i h1 C
   have hi:i<(eM a).length:=by simpa using h1
   obtain ⟨s,B,hr,d⟩:=vb (P:=P) hk f (gp hi);obtain ⟨z,e,o⟩:=oL (HR hi);rw[yi,yi];rw[o] at d
   injection d with d
   subst d
   show strOf (((WideElems.rd P k RU (eM a)[i]).getD (.bool false,.nil)).1)=_
   rw[hr]
   show z.data.toList=_
   rw[HR oM] at e
   rw[Option.some.inj e]
 ·show Maps.size (.map _)<=_
  rw[Maps.size_eq,(sorted_perm _).length_eq,HV,c];exact l
end
theorem qL {w w':World}{h:Hp}(g:G w h)(x:Ext w w'):∃ c,Up w h w' c/\∀ b,h.size<=b->c[b]?=w'.heap[b]?:=by
 have f:=x.size;have d:=g.size
 have key:∀ b,h.size<=b->(h++w'.heap.extract h.size w'.heap.size)[b]?=w'.heap[b]?:=fun b a=>by
  rw[Array.getElem?_append_right a,Array.getElem?_extract]
  by_cases hl:b<w'.heap.size
  ·rw[if_pos oM];congr 1;omega
  ·rw[if_neg oM,Array.getElem?_eq_none oM]
 refine ⟨h++w'.heap.extract h.size w'.heap.size,⟨x,⟨by simp,fun b a=>x0 a⟩,⟨by simp;omega,fun b=>?_⟩⟩,key⟩
 rcases ep b h.size with a|a
 ·rw[x0 a]
  have e:=Below.block x b oM
  rcases g.blk b with h1|h1
  ·exact .inl (h1.trans e.symm)
  ·exact .inr h1
 ·exact .inl (key b a)
theorem B9 (ok:ByteArray->Prop)(V:∀ s,ok s->s.size<=1000)(d:Nat)(hd:d<=20)(p:PTm)(t:Tm)(w:World)(h:Hp)(g:G w h)(hT:TmH d h p t)(U:WfT1 ok d t):CR 58 #[az p] w h (fun v h1=>∃ (A:Z9)(c:Nat)(C:List ByteArray),v=.slice A C.length c/\C.length<=c/\C.length<=1048576/\SlO 1 dz ⟨#[]⟩ h1 A C/\∀ x,x∈C↔fS d t x):=by
 refine (callsIn_wide (n:=6)).1 (callsIn_of_wp Tryz.func58 rfl trivial ?_ rfl)
 simp only[Tryz.ntmps58,HT,yc,HE,Nat.reduceAdd,Nat.reduceSub,Array.replicate_succ,Array.replicate_zero,List.push_toArray,List.append_toArray,List.nil_append,z7]
 unfold az
 have hfK:Fence.wide.fn 93:=trivial;have hf2:Fence.wide.fn 95:=trivial;have hf3:Fence.wide.fn 94:=trivial
 have M:∀ o:Obj,G ((w.alloc o).alloc (.map #[] 0)) ((h.push a6).push a6)/\MapK ((w.alloc o).alloc (.map #[] 0)) ((h.push a6).push a6) (w.heap.size+1) []/\TmH d ((h.push a6).push a6) p t:=fun o=>by
  have u1:Up w h (w.alloc o) (h.push a6):=Up.allocAny g o a6 (.inr rfl);have u2:Up (w.alloc o) (h.push a6) ((w.alloc o).alloc (.map #[] 0)) ((h.push a6).push a6):=Up.allocAny u1.g _ _ (.inr rfl);refine ⟨u2.g,⟨?_,?_,List.nodup_nil⟩,(hT.gw u1.gr.gw).gw u2.gr.gw⟩
  ·rw[show w.heap.size+1=(h.push a6).size by rw[Array.size_push,g.size]];exact fo
  ·rw[heap_alloc,show w.heap.size+1=(w.alloc o).heap.size by simp];exact fo
 have hsz:∀ s,fS d t s->s.size<=maxLen:=fun s hs=>by have:=V s (oI U hs);unfold maxLen;omega
 have hcn:=sl U;have hp2:2^d<=1048576:=ez (Nat.pow_le_pow_right oM hd) kD;have hmm:=@run_makeMap Tryz.prog
 gi_wp2
 gi_at_call 93
 generalize hW2:(w.alloc _).alloc (.map #[] 0)=W2
 have q:=M (.cells #[iV p.op,iV p.n,.bool (aw p.q.num),uV (lo (ab p.q.num)),.string (hi (ab p.q.num)),uV (lo (qd p.q)),.string (hi (qd p.q)),.string p.s,qS p.A p.m p.c] 42);rw[hW2] at q
 clear M
 have cg:=(callsIn_wide (n:=5)).2 (p6 ok d p t (w.heap.size+1) [] W2 _ q.1 q.2.2 U q.2.1)
 unfold az at cg
 refine cg.mono ?_
 clear cg
 rintro e w' ⟨v,h3,rfl,Q,rfl,C,ho,hn,L,hl⟩;have F:∀ x,x∈C↔fS d t x:=fun x=>by rw[L x];simp
 have K:C.length<=1048576:=by have:=(show C.length<=0+iC d t from hl);omega
 have bb:w.heap.size+2=W2.heap.size:=by rw[<-hW2];simp
 have j:Go.RowKit.Below w.heap.size w W2:=by rw[<-hW2];exact ((Below.refl _ w).alloc (nR _) _).alloc (by simp) _
 have S:Go.RowKit.Below w.heap.size w w':=⟨Q.mo.os.trans j.os,Q.mo.tape.trans j.tape,Q.mo.output.trans j.output,ez j.size Q.mo.size,fun c hc=>(Q.mo.blk c oM (fun hm=>by rw[ul] at hm;omega)).trans (j.block c hc)⟩
 clear L hW2
 obtain ⟨D,hD1,J,hD3⟩:=wW (P:=Tryz.prog) (k:=9) Tryz.underlying9 ho hn (fun s h_=>hsz s ((F s).1 h_)) K
 gi_wp2
 gi_at_call 95
 refine (rM _ _).mono ?_;rintro e w'' ⟨rfl,rfl⟩
 gi_wp2
 gi_at_call 94
 refine (oD (w.heap.size+1) C.length D RU w' hD1 (by unfold maxLen;omega) oM).mono ?_;rintro e w3 ⟨v,B,rfl,I,X,-,hz3⟩;have W:=S.size;have Y:Ext w w3:=(S.alloc W _).trans (hz3.mono (by simp;omega));obtain ⟨h',u,key⟩:=qL g Y
 have H:∀ x:ByteArray,x∈((B.mergeSort fun x y=>decide (x<=y)).map fun z=>(⟨z.toArray⟩:ByteArray))↔fS d t x:=fun x=>by
  rw[<-F x,g1]
  constructor
  ·rintro ⟨z,hz,rfl⟩
   have h1:=(I.trans J).mem_iff.1 ((HW B _).mem_iff.1 hz);obtain ⟨s,hs,e⟩:=g1.1 h1;have:s=⟨z.toArray⟩:=by cases s;rename_i a;simp at e;subst e;rfl
   rw[<-this];exact hs
  ·intro hx
   refine ⟨x.data.toList,(HW B _).mem_iff.2 ((I.trans J).mem_iff.2 (g1.2 ⟨x,hx,rfl⟩)),?_⟩;cases x;simp
 have O:((B.mergeSort fun x y=>decide (x<=y)).map fun z=>(⟨z.toArray⟩:ByteArray)).length=B.length:=by rw[HV,(HW B _).length_eq]
 have hzs:B.length<=1048576:=by rw[(I.trans J).length_eq,HV];exact K
 gi_wp2
 go_ret
 generalize hzz:((B.mergeSort fun x y=>decide (x<=y)).map fun z=>(⟨z.toArray⟩:ByteArray))=zz at H O
 refine ⟨v,h',rfl,u,?_⟩
 rcases X with ⟨-,⟨rfl,hz⟩|⟨gb,cap,cur,rfl,hbase,hgb,r1,-,-,r4⟩⟩
 ·have:zz=[]:=yD oM
  subst this;refine ⟨none,0,[],rfl,nR _,by simp,SlO.nil,fun x=>H x⟩
 ·refine ⟨sB gb,cap,zz,by rw[O],by omega,by omega,SlO.of_flat (sz:=1) (f:=dz) (d:=⟨#[]⟩) (b:=gb) (o:=0) (fun _=>rfl) fun i v hv=>?_,H⟩
  have hf:zz.flatMap dz=(B.mergeSort fun x y=>decide (x<=y)).map encStr:=by
   rw[<-hzz]
   generalize (B.mergeSort fun x y=>decide (x<=y))=q
   induction q with
   | nil=>rfl
   | cons a l ih=>rw[yR,yR,List.flatMap_cons,ih];rfl
  rw[hf,<-r4,Nat.mul_one] at hv
  have Z:cur.toList[i]?=some v:=by
   rw[List.getElem?_take] at hv
   split at hv
   ·exact hv
   ·cases hv
  have hgs:h.size<=gb:=by have:=g.size;simp at hbase;omega
  unfold cH
  rw[key gb hgs,hgb,yF]
  show cur[i]?=some v
  rw[<-Array.getElem?_toList];exact Z
end srt
def j7 (c:Nat):Prop:=(97<=c/\c<=122)\/(65<=c/\c<=90)
def rj (c:Nat):Prop:=((97<=c/\c<=122)\/(65<=c/\c<=90))\/(48<=c/\c<=57)\/c=95
instance (c:Nat):Decidable (j7 c):=by unfold j7;infer_instance
instance (c:Nat):Decidable (rj c):=by unfold rj;infer_instance
def jI (s:ByteArray):Int:=if s=⟨#[97,98,115]⟩ then 9 else if s=⟨#[114,97,109,112]⟩ then 10 else if s=⟨#[98,101,110,100]⟩ then 11 else if s=⟨#[109,97,120]⟩ then 12 else if s=⟨#[109,105,110]⟩ then 13 else 0
def dH (s:ByteArray):Bool:=decide (jI s≠0)
def cC (s:ByteArray):Bool:=decide (1<=s.size/\s.size<=20/\j7 (aG s 0)/\(∀ i,i<s.size->rj (aG s i))/\dH s=false)
theorem uD {s:ByteArray}(h:¬(1<=s.size/\s.size<=20/\j7 (aG s 0))):Value.bool false=.bool (cC s):=congrArg Value.bool (decide_eq_false fun x=>h ⟨x.1,x.2.1,x.2.2.1⟩).symm
theorem Dz {s:ByteArray}{i:Nat}(h:i<s.size)(a:¬rj (aG s i)):Value.bool false=.bool (cC s):=congrArg Value.bool (decide_eq_false fun x=>a (x.2.2.2.1 i h)).symm
theorem DI {s:ByteArray}(h1:1<=s.size/\s.size<=20)(a:j7 (aG s 0))(b:∀ i,i<s.size->rj (aG s i)):cC s = !dH s:=by
 unfold cC
 cases h:dH s
 ·exact decide_eq_true ⟨h1.1,h1.2,a,b,rfl⟩
 ·exact decide_eq_false fun x=>by cases x.2.2.2.2
def gQ:List MapEntry:=[⟨.string ⟨#[97,98,115]⟩,.int .i64 9,0⟩,⟨.string ⟨#[114,97,109,112]⟩,.int .i64 10,1⟩,⟨.string ⟨#[98,101,110,100]⟩,.int .i64 11,2⟩,⟨.string ⟨#[109,97,120]⟩,.int .i64 12,3⟩,⟨.string ⟨#[109,105,110]⟩,.int .i64 13,4⟩]
theorem qk (s:ByteArray):(∃ i,Instr.findNow .string (.string s) gQ 0=some (some (i,.int .i64 (jI s)))/\dH s=true)\/(Instr.findNow .string (.string s) gQ 0=some none/\dH s=false/\jI s=0):=by
 by_cases h1:s=⟨#[97,98,115]⟩
 ·subst h1;exact .inl ⟨0,by kernel_rfl,by decide⟩
 by_cases h2:s=⟨#[114,97,109,112]⟩
 ·subst h2;exact .inl ⟨1,by kernel_rfl,by decide⟩
 by_cases h3:s=⟨#[98,101,110,100]⟩
 ·subst h3;exact .inl ⟨2,by kernel_rfl,by decide⟩
 by_cases h4:s=⟨#[109,97,120]⟩
 ·subst h4;exact .inl ⟨3,by kernel_rfl,by decide⟩
 by_cases h5:s=⟨#[109,105,110]⟩
 ·subst h5;exact .inl ⟨4,by kernel_rfl,by decide⟩
 have h:jI s=0:=by unfold jI;rw[if_neg h1,if_neg h2,if_neg h3,if_neg h4,if_neg h5]
 refine .inr ⟨?_,by unfold dH;rw[h];rfl,h⟩
 rcases MapKept.findNow_spec (d:=.string) (k:=.string s) (by simp[MapKept.IsKey]) gQ 0 (fun x f=>by
  simp only[gQ,g3,List.not_mem_nil,or_false] at f
  rcases f with rfl|rfl|rfl|rfl|rfl<;>simp[MapKept.IsKey]) with ⟨a,_⟩|⟨j,e,a,b,c⟩
 ·exact a
 ·exfalso
  match j,b with
  | 0,b=>injection b with b;subst b;injection c with c;exact h1 c.symm
  | 1,b=>injection b with b;subst b;injection c with c;exact h2 c.symm
  | 2,b=>injection b with b;subst b;injection c with c;exact h3 c.symm
  | 3,b=>injection b with b;subst b;injection c with c;exact h4 c.symm
  | 4,b=>injection b with b;subst b;injection c with c;exact h5 c.symm
  | n+5,b=>cases b
theorem jN (c:Nat)(B:c<256)(w:World)(h:Hp)(g:G w h):CV 90 #[.int .u8 (c:Nat)] w h (.bool (decide (j7 (c)))):=by
 have a:=sS g;refine go Tryz.func90 [(0,.int .u8 (c:Nat))] rfl (aa a ac (aK (lL a ac ?_)));cases e:(decide ((97:Int)<=(c:Int)))
 .
  have o:=oF e;refine lB 4 e (lL a ac (lG 6 ?_));refine lG 7 (lL a [.v qF,.c,.c] ?_);cases b:(decide ((65:Int)<=(c:Int)))
  .
   have l:=oF b;refine lB 11 b (lL a ac (lG 13 ?_));exact lG 14 (lL a [.v qF,.v qF,.c] (ae a [] qF (congrArg Value.bool (decide_eq_false (by unfold j7;omega)).symm)))
  have l:=oT b;refine lB 11 b (lL a aF ?_);cases d:(decide ((c:Int)<=(90:Int)))
  .
   have j:=oF d;exact lB 14 d (lL a [.v qF,.v qF,.c] (ae a [] qF (congrArg Value.bool (decide_eq_false (by unfold j7;omega)).symm)))
  have j:=oT d;exact lB 14 d (lL a [.v qT,.v qT,.c] (ae a [] qT (congrArg Value.bool (decide_eq_true (by unfold j7;omega)).symm)))
 have o:=oT e;refine lB 4 e (lL a aF ?_);cases f:(decide ((c:Int)<=(122:Int)))
 .
  have i:=oF f;refine lB 7 f (lL a [.v qF,.c,.c] ?_);have ⟨u,y⟩:=dT (p:=(65:Int)<=(c:Int)) oM;refine lB 11 u (lL a aF ?_);have ⟨x,z⟩:=dF (p:=(c:Int)<=(90:Int)) oM;exact lB 14 x (lL a [.v qF,.v qF,.c] (ae a [] qF (congrArg Value.bool (decide_eq_false (by unfold j7;omega)).symm)))
 have i:=oT f;refine lB 7 f (lL a [.v qT,.c] (lG 10 ?_));exact lG 11 (lG 12 (lG 13 (lG 14 (lG 15 (lL a [.v qT,.c] (ae a [] qT (congrArg Value.bool (decide_eq_true (by unfold j7;omega)).symm)))))))
theorem mi (c:Nat)(i:c<256)(w:World)(h:Hp)(g:G w h):CV 123 #[.int .u8 (c:Nat)] w h (.bool (decide (48<=(c)/\(c)<=57))):=by
 have a:=sS g;refine go Tryz.func123 [(0,.int .u8 (c:Nat))] rfl (aa a ac (aK (lL a ac ?_)));cases b:(decide ((48:Int)<=(c:Int)))
 .
  have f:=oF b;refine lB 4 b (lL a ac (lG 6 ?_));exact lG 7 (lL a [.v qF,.c] (ae a [] qF (congrArg Value.bool (decide_eq_false oM).symm)))
 have f:=oT b;refine lB 4 b (lL a aF ?_);cases d:(decide ((c:Int)<=(57:Int)))
 .
  have e:=oF d;exact lB 7 d (lL a [.v qF,.c] (ae a [] qF (congrArg Value.bool (decide_eq_false oM).symm)))
 have e:=oT d;exact lB 7 d (lL a [.v qT,.c] (ae a [] qT (congrArg Value.bool (decide_eq_true oM).symm)))
theorem mP (c:Nat)(l:c<256)(w:World)(h:Hp)(g:G w h):CV 91 #[.int .u8 (c:Nat)] w h (.bool (decide (rj (c)))):=by
 have a:=sS g;refine go Tryz.func91 [(0,.int .u8 (c:Nat))] rfl (aa a ac (aK (lL a ac (ao 4 a (jN c l _ _ a.g) (fun w1 p a=>?_)))));cases f:(decide (j7 (c)))
 .
  have d:=oF f;refine lL a aF (ao 7 a (mi c l _ _ a.g) (fun o u a=>?_));cases j:(decide (48<=(c)/\(c)<=57))
  .
   have i:=oF j;refine lL a [.v qF,.c,.c] ?_;cases b:((c:Int) == (95:Int))
   .
    have e:=aq b;exact lB 11 b (lL a [.v qF,.c] (ae a [] qF (congrArg Value.bool (decide_eq_false (by unfold j7 at *;unfold rj;omega)).symm)))
   have e:=eq_of_beq b;exact lB 11 b (lL a [.v qT,.c] (ae a [] qT (congrArg Value.bool (decide_eq_true (by unfold j7 at *;unfold rj;omega)).symm)))
  have i:=oT j;refine lL a [.v qT,.c] (lG 10 ?_);exact lG 11 (lL a [.v qT,.c] (ae a [] qT (congrArg Value.bool (decide_eq_true (by unfold j7 at *;unfold rj;omega)).symm)))
 have d:=oT f;refine lL a ac (lG 6 ?_);refine lG 7 (lL a [.v qT,.c] (lG 10 ?_));exact lG 11 (lL a [.v qT,.c] (ae a [] qT (congrArg Value.bool (decide_eq_true (by unfold j7 at *;unfold rj;omega)).symm)))
theorem qw  (w:World)(h:Hp)(g:G w h):CR 92 #[] w h (fun v h1=>∃ b,v=.map (some b)/\MapS h1 b gQ):=by
 have a:=sS g;refine go Tryz.func92 [] rfl (aa a ac (aK (C1 1 a (fun p w2 x a i=>mA 74 9 3 (⟨#[97,98,115]⟩) (iV 9) a i (fun z a j=>mA 74 9 3 (⟨#[114,97,109,112]⟩) (iV 10) a j (fun y a o=>mA 74 9 3 (⟨#[98,101,110,100]⟩) (iV 11) a o (fun B a d=>mA 74 9 3 (⟨#[109,97,120]⟩) (iV 12) a d (fun _ a e=>mA 74 9 3 (⟨#[109,105,110]⟩) (iV 13) a e (fun _ a c=>lL a ac ?_)))))))));obtain ⟨_,a,l⟩:=a.pubMap c;replace a:=a.to [] [];replace a:=a.add (K:=fun u=>MapS u p [⟨.string (⟨#[97,98,115]⟩),iV 9,0⟩,⟨.string (⟨#[114,97,109,112]⟩),iV 10,1⟩,⟨.string (⟨#[98,101,110,100]⟩),iV 11,2⟩,⟨.string (⟨#[109,97,120]⟩),iV 12,3⟩,⟨.string (⟨#[109,105,110]⟩),iV 13,4⟩]) l;exact lL a ac (ae a [] (.map (some p)) (⟨_,rfl,a.f.1⟩))
theorem B0 (s:ByteArray)(a:s.size<=1000000)(w:World)(h:Hp)(g:G w h):CV 57 #[.string s] w h (.bool (cC s)):=by
 have a:=sS g;refine go Tryz.func57 [(0,.string s)] rfl (aa a ac (af (aa a [.c,.v (nV s.size)] ?_)));cases e:(decide ((s.size:Int)<(1:Int)))
 .
  have z:=oF e;refine lB 8 e (lL a [.c,.c,.v (nV s.size)] ?_);cases d:(decide ((20:Int)<(s.size:Int)))
  .
   have D:=oF d;refine lB 12 d (lL a [.v qF,.c,.c] (lV 16 (.int .u8 (aG s 0:Nat)) ?_ (hr:=dG (tx:=9) (x:=.tmp 15) (i:=.const (iV 0)) (k:=.i64) (s:=s) (n:=0) (j:=(0:Int)) kR kR kR kR oM oM _)));refine ao 17 a (jN ((aG s 0)) (bX _ _) _ _ a.g) (fun w3 Q a=>?_);cases y:(decide (j7 ((aG s 0))))
   .
    have F:=oF y;exact lL a [.v qT,.v qT] (ar (aa a ac (ae a [] qF (uD (fun b=>by have u:=b.1;have B:=b.2.1;first|omega|exact absurd b.2.2 aM)))))
   have F:=oT y;refine lL a [.v qF,.v qF] (aj (cK (cQ (aa a [.c,.v (nV s.size),.c] (ba ?_)))));refine bS _ (CG.loop (fun I Γ M=>∃ (k:Nat)(b:Hp),I=s.size-k/\Γ=[(0,.string s),(21,nV s.size),(22,nV k)]/\SS w h M b [] [] []/\k<=s.size/\(∀ i,i<k->rj (aG s i))) _ ⟨0,Q,rfl,rfl,a.to _ _,GA _,(fun i hi=>absurd hi (HA i))⟩ ?_);rintro _ _ Y ⟨k,Z,O,rfl,a,hk,o⟩;refine aD ?_;cases l:(decide ((k:Int)<(s.size:Int)))
   .
    have C:=oF l;refine lB 23 l (af (cG (CG.exit ?_)))
    show CG _ _ _ _ _ _ _ _
    refine aD (lC 32 a (qw _ _ a.g) ?_);rintro _ _ _ a ⟨V,rfl,H⟩;replace a:=(a.add (K:=fun b=>MapS b V gQ) H);refine lL a ac (C6 34 74 9 3 (s) true (iV (jI s)) ((dH s)) a a.f.1 ?_ (hf:=(by rcases qk s with ⟨i_,e1_,e2_⟩|⟨e1_,e2_,e3_⟩;exact .inl ⟨i_,e1_,e2_⟩;exact .inr ⟨e1_,e2_,fun _=>by rw[e3_];kernel_rfl⟩)));refine lL a [.c,.v (iV (jI s)),.v (.bool (dH s)),.c,.c] (aK (lL a ac ?_));cases L:(!(dH s))
    .
     refine lB 38 L (lL a ac (lN (kX ?_)));have p:=DI (s:=s) ⟨by omega,by omega⟩ aM (fun i hi=>o i oM);exact a.ret [] qF (congrArg Value.bool (by rw[p];exact (by assumption:(!dH s)=false).symm))
    refine lB 38 L (lL a ac (lN (kX ?_)));have p:=DI (s:=s) ⟨by omega,by omega⟩ aM (fun i hi=>o i oM);exact a.ret [] qT (congrArg Value.bool (by rw[p];exact (by assumption:(!dH s)=true).symm))
   have C:=oT l;refine lB 23 l (af (bY (cK (cQ (kZ (aa a aF (aK (lL a aF (lV 27 (.int .u8 (aG s k:Nat)) ?_ (hr:=dG (tx:=9) (x:=.tmp 25) (i:=.tmp 26) (k:=.i64) (s:=s) (n:=k) (j:=(k:Int)) kR kR kR kR oM oM _))))))))));refine ao 28 a (mP ((aG s k)) (bX _ _) _ _ a.g) (fun _ U a=>?_);cases J:(decide (rj ((aG s k))))
   .
    have S:=oF J;exact lL a [.v qT] (ar (aa a ac (ae a [] qF (Dz (i:=k) oM aM))))
   have S:=oT J;refine lL a [.v qF] (aj (cK (kQ (bA 30 ((k:Nat)+1) (k+1) ?_))));refine lL a ac (lD ?_);intro X W;refine ⟨_,_,?_,⟨k+1,U,rfl,rfl,a.to _ _,oM,(fun i hi=>by rcases HX.1 hi with b|rfl;exact o i b;assumption)⟩,W.to _ kR⟩
   omega
  have D:=oT d;refine lB 12 d (lL a [.v qT,.c] (lG 15 ?_));exact lG 16 (lG 17 (lG 18 (lL a [.v qT] (ar (aa a ac (ae a [] qF (uD (fun b=>by have u:=b.1;have B:=b.2.1;first|omega|exact absurd b.2.2 aM))))))))
 have z:=oT e;refine lB 8 e (lL a ac (lG 10 ?_));refine lG 11 (lG 12 (lL a [.v qT,.c] (lG 15 ?_)));exact lG 16 (lG 17 (lG 18 (lL a [.v qT] (ar (aa a ac (ae a [] qF (uD (fun b=>by have u:=b.1;have B:=b.2.1;first|omega|exact absurd b.2.2 aM))))))))
theorem mE  (isb:ByteArray->Bool)(sm:ByteArray->Prop)(mL:∀ s,sm s->∀ (w:World) (h:Hp),G w h->Calls Tryz.prog 57 #[.string s] w (Ret w h (fun v _=>∃ b,v=.bool b/\b=isb s)))(d:Nat)(p:PTm)(t:Tm)(D:d<=24)(w:World)(h:Hp)(g:G w h)(z:TmH d h p t)(l:SmT sm d t):CR 19 #[az p] w h (fun v _=>∃ e:Int,v=iV e/\((WfT (fun s=>isb s=true) d t/\e=(if 1000<bu d t then 18 else 0))\/(¬WfT (fun s=>isb s=true) d t/\e=2))):=by
 have a:=((sS g).add (K:=fun j=>TmH d j p t) z);refine go Tryz.func19 [(0,az p)] rfl (aD (lA 1 42 (be p) a (fun C w2 H a=>lL a ac (af (aa a [.o (az p) 0 0 9] (ao 4 a (pS sm d p t 24 _ _ a.g a.f.1 l oM oM) (fun B F a=>aj (cK (cQ (aa a [.o (az p) 0 0 9] (lC 6 a (nG isb sm mL d p t _ _ a.g a.f.1 l) ?_)))))))))));rintro _ I J a ⟨y,rfl,c⟩;cases x:(y)
 .
  exact lL a [.v qT] (ar (aa a ac (ae a [] (iV 2) (⟨_,rfl,.inr ⟨fun j=>Bool.noConfusion ((c.2 j).symm.trans aM),rfl⟩⟩))))
 refine lL a [.v qF] (aj (cK (cQ (aa a [.o (az p) 0 0 9] (ao 9 a (mU (fun s=>isb s=true) d p t _ _ a.g a.f.1 (c.1 aM)) (fun L _ a=>?_))))));cases i:(decide ((1000:Int)<(((min (bu d t) 1001:Nat):Int):Int)))
 .
  have u:=oF i;exact lB 10 i (aj (cK (aa a ac (ae a [] (iV 0) (⟨_,rfl,.inl ⟨c.1 aM,by split<;>omega⟩⟩)))))
 have u:=oT i;exact lB 10 i (ar (aa a ac (ae a [] (iV 18) (⟨_,rfl,.inl ⟨c.1 aM,by split<;>omega⟩⟩))))
theorem Di (isb:ByteArray->Bool)(sm:ByteArray->Prop)(mL:∀ s,sm s->∀ (w:World) (h:Hp),G w h->Calls Tryz.prog 57 #[.string s] w (Ret w h (fun v _=>∃ b,v=.bool b/\b=isb s)))(c:∀ s,isb s=true->sm s)(h0:sm ⟨#[]⟩)(d:Nat)(p:PTm)(t:Tm)(i:d<=24)(w:World)(h:Hp)(g:G w h)(o:TmH d h p t)(f:WfT (fun s=>isb s=true) d t):Calls Tryz.prog 19 #[az p] w (Ret w h (fun v _=>v=iV (if 1000<bu d t then 18 else 0))) :=
 (mE isb sm mL d p t i w h g o (f.sm c h0)).mono fun e w' ⟨v,j,e1,u,e2,l,a⟩=>⟨v,j,e1,u,by
  rcases a with ⟨_,a⟩|⟨a,_⟩
  ·rw[l,a]
  ·exact absurd f a⟩
theorem ut (A:Z9)(c:Nat)(w:World)(h:Hp)(g:G w h)(o:SlO 1 dz ⟨#[]⟩ h A ([⟨#[120]⟩,⟨#[121]⟩]:List ByteArray)):CR 23 #[.slice A 2 c] w h (fun v h1=>∃ b,v=.map (some b)/\MapS h1 b [⟨.string (⟨#[120]⟩),iV 0,0⟩,⟨.string (⟨#[121]⟩),iV 1,1⟩]):=by
 have a:=((sS g).aS o);have p:([⟨#[120]⟩,⟨#[121]⟩]:List ByteArray).length=2:=rfl;refine go Tryz.func23 [(0,qS A 2 c)] rfl (aa a ac (aK (C1 6 a (fun d w2 x a e=>lL a ac (af (aa a [.c,.v (iV 2),.c] (ba (cU ?_))))))));refine cN (aa a [.v qT] (af (bY (cK (cQ (kZ (aa a ac (lX 12 A 2 c 1 0 0 ((a.f.1).ok oM) ?_))))))));refine lH 13 (.string (⟨#[120]⟩)) a ((a.f.1).el 0 oM) (lL a aF (lN (kQ (lL a eo (mA 74 9 3 (⟨#[120]⟩) (iV 0) a e (fun B a i=>lN (kQ (lL a [.v (iV 1),.c] (lD (CL.to [(2,.map none),(3,.map (some d)),(7,qS A 2 c),(8,iV 2),(9,iV 1),(10,qT),(11,iV 0),(12,.pointer (some ⟨(aB A),aO A+0*1,none⟩)),(13,.string (⟨#[120]⟩)),(4,iV 0),(5,.string (⟨#[120]⟩)),(14,.map (some d)),(15,.string (⟨#[120]⟩)),(16,iV 0),(17,iV 1)] ?_))))))))));replace a:=a.to [] [];refine cN (aa a [.v qT] (af (bY (cK (cQ (kZ (aa a ac (lX 12 A 2 c 1 1 1 ((a.f.1).ok oM) ?_))))))));refine lH 13 (.string (⟨#[121]⟩)) a ((a.f.1).el 1 oM) (lL a aF (lN (kQ (lL a eo (mA 74 9 3 (⟨#[121]⟩) (iV 1) a i (fun z a j=>lN (kQ (lL a [.v (iV 2),.c] (lD (CL.to [(2,.map none),(3,.map (some d)),(7,qS A 2 c),(8,iV 2),(9,iV 2),(10,qT),(11,iV 1),(12,.pointer (some ⟨(aB A),aO A+1*1,none⟩)),(13,.string (⟨#[121]⟩)),(4,iV 1),(5,.string (⟨#[121]⟩)),(14,.map (some d)),(15,.string (⟨#[121]⟩)),(16,iV 1),(17,iV 2)] ?_))))))))));replace a:=a.to [] [];refine cN (aa a [.v qF] (af (cG (CG.exit ?_))))
 show CG _ _ _ _ _ _ _ _
 refine aa a ac ?_;obtain ⟨y,a,l⟩:=a.pubMap j;replace a:=a.to [] [];replace a:=a.add (K:=fun u=>MapS u d [⟨.string (⟨#[120]⟩),iV 0,0⟩,⟨.string (⟨#[121]⟩),iV 1,1⟩]) l;exact lL a ac (ae a [] (.map (some d)) (⟨_,rfl,a.f.1⟩))
theorem tK (A:Z9)(c:Nat)(w:World)(h:Hp)(g:G w h)(z:SlO 1 dz ⟨#[]⟩ h A ([⟨#[120]⟩,⟨#[121]⟩,⟨#[122]⟩,⟨#[120]⟩]:List ByteArray)):CR 23 #[.slice A 4 c] w h (fun v h1=>∃ b,v=.map (some b)/\MapS h1 b [⟨.string (⟨#[120]⟩),iV 3,0⟩,⟨.string (⟨#[121]⟩),iV 1,1⟩,⟨.string (⟨#[122]⟩),iV 2,2⟩]):=by
 have a:=((sS g).aS z);have x:([⟨#[120]⟩,⟨#[121]⟩,⟨#[122]⟩,⟨#[120]⟩]:List ByteArray).length=4:=rfl;refine go Tryz.func23 [(0,qS A 4 c)] rfl (aa a ac (aK (C1 6 a (fun d w2 B a l=>lL a ac (af (aa a [.c,.v (iV 4),.c] (ba (cU ?_))))))));refine cN (aa a [.v qT] (af (bY (cK (cQ (kZ (aa a ac (lX 12 A 4 c 1 0 0 ((a.f.1).ok oM) ?_))))))));refine lH 13 (.string (⟨#[120]⟩)) a ((a.f.1).el 0 oM) (lL a aF (lN (kQ (lL a eo (mA 74 9 3 (⟨#[120]⟩) (iV 0) a l (fun D a p=>lN (kQ (lL a [.v (iV 1),.c] (lD (CL.to [(2,.map none),(3,.map (some d)),(7,qS A 4 c),(8,iV 4),(9,iV 1),(10,qT),(11,iV 0),(12,.pointer (some ⟨(aB A),aO A+0*1,none⟩)),(13,.string (⟨#[120]⟩)),(4,iV 0),(5,.string (⟨#[120]⟩)),(14,.map (some d)),(15,.string (⟨#[120]⟩)),(16,iV 0),(17,iV 1)] ?_))))))))));replace a:=a.to [] [];refine cN (aa a [.v qT] (af (bY (cK (cQ (kZ (aa a ac (lX 12 A 4 c 1 1 1 ((a.f.1).ok oM) ?_))))))));refine lH 13 (.string (⟨#[121]⟩)) a ((a.f.1).el 1 oM) (lL a aF (lN (kQ (lL a eo (mA 74 9 3 (⟨#[121]⟩) (iV 1) a p (fun C a u=>lN (kQ (lL a [.v (iV 2),.c] (lD (CL.to [(2,.map none),(3,.map (some d)),(7,qS A 4 c),(8,iV 4),(9,iV 2),(10,qT),(11,iV 1),(12,.pointer (some ⟨(aB A),aO A+1*1,none⟩)),(13,.string (⟨#[121]⟩)),(4,iV 1),(5,.string (⟨#[121]⟩)),(14,.map (some d)),(15,.string (⟨#[121]⟩)),(16,iV 1),(17,iV 2)] ?_))))))))));replace a:=a.to [] [];refine cN (aa a [.v qT] (af (bY (cK (cQ (kZ (aa a ac (lX 12 A 4 c 1 2 2 ((a.f.1).ok oM) ?_))))))));refine lH 13 (.string (⟨#[122]⟩)) a ((a.f.1).el 2 oM) (lL a aF (lN (kQ (lL a eo (mA 74 9 3 (⟨#[122]⟩) (iV 2) a u (fun F a e=>lN (kQ (lL a [.v (iV 3),.c] (lD (CL.to [(2,.map none),(3,.map (some d)),(7,qS A 4 c),(8,iV 4),(9,iV 3),(10,qT),(11,iV 2),(12,.pointer (some ⟨(aB A),aO A+2*1,none⟩)),(13,.string (⟨#[122]⟩)),(4,iV 2),(5,.string (⟨#[122]⟩)),(14,.map (some d)),(15,.string (⟨#[122]⟩)),(16,iV 2),(17,iV 3)] ?_))))))))));replace a:=a.to [] [];refine cN (aa a [.v qT] (af (bY (cK (cQ (kZ (aa a ac (lX 12 A 4 c 1 3 3 ((a.f.1).ok oM) ?_))))))));refine lH 13 (.string (⟨#[120]⟩)) a ((a.f.1).el 3 oM) (lL a aF (lN (kQ (lL a eo (F0 (i:=0) 74 9 3 (⟨#[120]⟩) (iV 3) (iV 0) [⟨.string (⟨#[120]⟩),iV 3,0⟩,⟨.string (⟨#[121]⟩),iV 1,1⟩,⟨.string (⟨#[122]⟩),iV 2,2⟩] a e (fun _ a j=>lN (kQ (lL a [.v (iV 4),.c] (lD (CL.to [(2,.map none),(3,.map (some d)),(7,qS A 4 c),(8,iV 4),(9,iV 4),(10,qT),(11,iV 3),(12,.pointer (some ⟨(aB A),aO A+3*1,none⟩)),(13,.string (⟨#[120]⟩)),(4,iV 3),(5,.string (⟨#[120]⟩)),(14,.map (some d)),(15,.string (⟨#[120]⟩)),(16,iV 3),(17,iV 4)] ?_))))))))));replace a:=a.to [] [];refine cN (aa a [.v qF] (af (cG (CG.exit ?_))))
 show CG _ _ _ _ _ _ _ _
 refine aa a ac ?_;obtain ⟨_,a,o⟩:=a.pubMap j;replace a:=a.to [] [];replace a:=a.add (K:=fun y=>MapS y d [⟨.string (⟨#[120]⟩),iV 3,0⟩,⟨.string (⟨#[121]⟩),iV 1,1⟩,⟨.string (⟨#[122]⟩),iV 2,2⟩]) o;exact lL a ac (ae a [] (.map (some d)) (⟨_,rfl,a.f.1⟩))
theorem sU (A:Z9)(c:Nat)(w:World)(h:Hp)(g:G w h)(y:SlO 1 dz ⟨#[]⟩ h A ([⟨#[122]⟩,⟨#[121]⟩,⟨#[120]⟩,⟨#[119]⟩]:List ByteArray)):CR 23 #[.slice A 4 c] w h (fun v h1=>∃ b,v=.map (some b)/\MapS h1 b [⟨.string (⟨#[122]⟩),iV 0,0⟩,⟨.string (⟨#[121]⟩),iV 1,1⟩,⟨.string (⟨#[120]⟩),iV 2,2⟩,⟨.string (⟨#[119]⟩),iV 3,3⟩]):=by
 have a:=((sS g).aS y);have u:([⟨#[122]⟩,⟨#[121]⟩,⟨#[120]⟩,⟨#[119]⟩]:List ByteArray).length=4:=rfl;refine go Tryz.func23 [(0,qS A 4 c)] rfl (aa a ac (aK (C1 6 a (fun d w2 z a j=>lL a ac (af (aa a [.c,.v (iV 4),.c] (ba (cU ?_))))))));refine cN (aa a [.v qT] (af (bY (cK (cQ (kZ (aa a ac (lX 12 A 4 c 1 0 0 ((a.f.1).ok oM) ?_))))))));refine lH 13 (.string (⟨#[122]⟩)) a ((a.f.1).el 0 oM) (lL a aF (lN (kQ (lL a eo (mA 74 9 3 (⟨#[122]⟩) (iV 0) a j (fun C a o=>lN (kQ (lL a [.v (iV 1),.c] (lD (CL.to [(2,.map none),(3,.map (some d)),(7,qS A 4 c),(8,iV 4),(9,iV 1),(10,qT),(11,iV 0),(12,.pointer (some ⟨(aB A),aO A+0*1,none⟩)),(13,.string (⟨#[122]⟩)),(4,iV 0),(5,.string (⟨#[122]⟩)),(14,.map (some d)),(15,.string (⟨#[122]⟩)),(16,iV 0),(17,iV 1)] ?_))))))))));replace a:=a.to [] [];refine cN (aa a [.v qT] (af (bY (cK (cQ (kZ (aa a ac (lX 12 A 4 c 1 1 1 ((a.f.1).ok oM) ?_))))))));refine lH 13 (.string (⟨#[121]⟩)) a ((a.f.1).el 1 oM) (lL a aF (lN (kQ (lL a eo (mA 74 9 3 (⟨#[121]⟩) (iV 1) a o (fun B a p=>lN (kQ (lL a [.v (iV 2),.c] (lD (CL.to [(2,.map none),(3,.map (some d)),(7,qS A 4 c),(8,iV 4),(9,iV 2),(10,qT),(11,iV 1),(12,.pointer (some ⟨(aB A),aO A+1*1,none⟩)),(13,.string (⟨#[121]⟩)),(4,iV 1),(5,.string (⟨#[121]⟩)),(14,.map (some d)),(15,.string (⟨#[121]⟩)),(16,iV 1),(17,iV 2)] ?_))))))))));replace a:=a.to [] [];refine cN (aa a [.v qT] (af (bY (cK (cQ (kZ (aa a ac (lX 12 A 4 c 1 2 2 ((a.f.1).ok oM) ?_))))))));refine lH 13 (.string (⟨#[120]⟩)) a ((a.f.1).el 2 oM) (lL a aF (lN (kQ (lL a eo (mA 74 9 3 (⟨#[120]⟩) (iV 2) a p (fun D a e=>lN (kQ (lL a [.v (iV 3),.c] (lD (CL.to [(2,.map none),(3,.map (some d)),(7,qS A 4 c),(8,iV 4),(9,iV 3),(10,qT),(11,iV 2),(12,.pointer (some ⟨(aB A),aO A+2*1,none⟩)),(13,.string (⟨#[120]⟩)),(4,iV 2),(5,.string (⟨#[120]⟩)),(14,.map (some d)),(15,.string (⟨#[120]⟩)),(16,iV 2),(17,iV 3)] ?_))))))))));replace a:=a.to [] [];refine cN (aa a [.v qT] (af (bY (cK (cQ (kZ (aa a ac (lX 12 A 4 c 1 3 3 ((a.f.1).ok oM) ?_))))))));refine lH 13 (.string (⟨#[119]⟩)) a ((a.f.1).el 3 oM) (lL a aF (lN (kQ (lL a eo (mA 74 9 3 (⟨#[119]⟩) (iV 3) a e (fun _ a i=>lN (kQ (lL a [.v (iV 4),.c] (lD (CL.to [(2,.map none),(3,.map (some d)),(7,qS A 4 c),(8,iV 4),(9,iV 4),(10,qT),(11,iV 3),(12,.pointer (some ⟨(aB A),aO A+3*1,none⟩)),(13,.string (⟨#[119]⟩)),(4,iV 3),(5,.string (⟨#[119]⟩)),(14,.map (some d)),(15,.string (⟨#[119]⟩)),(16,iV 3),(17,iV 4)] ?_))))))))));replace a:=a.to [] [];refine cN (aa a [.v qF] (af (cG (CG.exit ?_))))
 show CG _ _ _ _ _ _ _ _
 refine aa a ac ?_;obtain ⟨_,a,l⟩:=a.pubMap i;replace a:=a.to [] [];replace a:=a.add (K:=fun x=>MapS x d [⟨.string (⟨#[122]⟩),iV 0,0⟩,⟨.string (⟨#[121]⟩),iV 1,1⟩,⟨.string (⟨#[120]⟩),iV 2,2⟩,⟨.string (⟨#[119]⟩),iV 3,3⟩]) l;exact lL a ac (ae a [] (.map (some d)) (⟨_,rfl,a.f.1⟩))
theorem ur (A:Z9)(c:Nat)(w:World)(h:Hp)(g:G w h)(x:SlO 1 dz ⟨#[]⟩ h A eb):CR 23 #[.slice A 3 c] w h (fun v h1=>∃ b,v=.map (some b)/\MapS h1 b [⟨.string (⟨#[120]⟩),iV 0,0⟩,⟨.string (⟨#[121]⟩),iV 1,1⟩,⟨.string (⟨#[122]⟩),iV 2,2⟩]):=by
 have a:=((sS g).aS x);have p:eb.length=3:=rfl;refine go Tryz.func23 [(0,qS A 3 c)] rfl (aa a ac (aK (C1 6 a (fun d w2 y a i=>lL a ac (af (aa a [.c,.v (iV 3),.c] (ba (cU ?_))))))));refine cN (aa a [.v qT] (af (bY (cK (cQ (kZ (aa a ac (lX 12 A 3 c 1 0 0 ((a.f.1).ok oM) ?_))))))));refine lH 13 (.string (⟨#[120]⟩)) a ((a.f.1).el 0 oM) (lL a aF (lN (kQ (lL a eo (mA 74 9 3 (⟨#[120]⟩) (iV 0) a i (fun B a j=>lN (kQ (lL a [.v (iV 1),.c] (lD (CL.to [(2,.map none),(3,.map (some d)),(7,qS A 3 c),(8,iV 3),(9,iV 1),(10,qT),(11,iV 0),(12,.pointer (some ⟨(aB A),aO A+0*1,none⟩)),(13,.string (⟨#[120]⟩)),(4,iV 0),(5,.string (⟨#[120]⟩)),(14,.map (some d)),(15,.string (⟨#[120]⟩)),(16,iV 0),(17,iV 1)] ?_))))))))));replace a:=a.to [] [];refine cN (aa a [.v qT] (af (bY (cK (cQ (kZ (aa a ac (lX 12 A 3 c 1 1 1 ((a.f.1).ok oM) ?_))))))));refine lH 13 (.string (⟨#[121]⟩)) a ((a.f.1).el 1 oM) (lL a aF (lN (kQ (lL a eo (mA 74 9 3 (⟨#[121]⟩) (iV 1) a j (fun z a o=>lN (kQ (lL a [.v (iV 2),.c] (lD (CL.to [(2,.map none),(3,.map (some d)),(7,qS A 3 c),(8,iV 3),(9,iV 2),(10,qT),(11,iV 1),(12,.pointer (some ⟨(aB A),aO A+1*1,none⟩)),(13,.string (⟨#[121]⟩)),(4,iV 1),(5,.string (⟨#[121]⟩)),(14,.map (some d)),(15,.string (⟨#[121]⟩)),(16,iV 1),(17,iV 2)] ?_))))))))));replace a:=a.to [] [];refine cN (aa a [.v qT] (af (bY (cK (cQ (kZ (aa a ac (lX 12 A 3 c 1 2 2 ((a.f.1).ok oM) ?_))))))));refine lH 13 (.string (⟨#[122]⟩)) a ((a.f.1).el 2 oM) (lL a aF (lN (kQ (lL a eo (mA 74 9 3 (⟨#[122]⟩) (iV 2) a o (fun C a e=>lN (kQ (lL a [.v (iV 3),.c] (lD (CL.to [(2,.map none),(3,.map (some d)),(7,qS A 3 c),(8,iV 3),(9,iV 3),(10,qT),(11,iV 2),(12,.pointer (some ⟨(aB A),aO A+2*1,none⟩)),(13,.string (⟨#[122]⟩)),(4,iV 2),(5,.string (⟨#[122]⟩)),(14,.map (some d)),(15,.string (⟨#[122]⟩)),(16,iV 2),(17,iV 3)] ?_))))))))));replace a:=a.to [] [];refine cN (aa a [.v qF] (af (cG (CG.exit ?_))))
 show CG _ _ _ _ _ _ _ _
 refine aa a ac ?_;obtain ⟨_,a,l⟩:=a.pubMap e;replace a:=a.to [] [];replace a:=a.add (K:=fun u=>MapS u d [⟨.string (⟨#[120]⟩),iV 0,0⟩,⟨.string (⟨#[121]⟩),iV 1,1⟩,⟨.string (⟨#[122]⟩),iV 2,2⟩]) l;exact lL a ac (ae a [] (.map (some d)) (⟨_,rfl,a.f.1⟩))
theorem uL (A:Z9)(c:Nat)(w:World)(h:Hp)(g:G w h)(p:SlO 1 dz ⟨#[]⟩ h A ([⟨#[120]⟩]:List ByteArray)):CR 23 #[.slice A 1 c] w h (fun v h1=>∃ b,v=.map (some b)/\MapS h1 b [⟨.string (⟨#[120]⟩),iV 0,0⟩]):=by
 have a:=((sS g).aS p);have l:([⟨#[120]⟩]:List ByteArray).length=1:=rfl;refine go Tryz.func23 [(0,qS A 1 c)] rfl (aa a ac (aK (C1 6 a (fun i w2 u a d=>lL a ac (af (aa a [.c,.v (iV 1),.c] (ba (cU ?_))))))));refine cN (aa a [.v qT] (af (bY (cK (cQ (kZ (aa a ac (lX 12 A 1 c 1 0 0 ((a.f.1).ok oM) ?_))))))));refine lH 13 (.string (⟨#[120]⟩)) a ((a.f.1).el 0 oM) (lL a aF (lN (kQ (lL a eo (mA 74 9 3 (⟨#[120]⟩) (iV 0) a d (fun y a e=>lN (kQ (lL a [.v (iV 1),.c] (lD (CL.to [(2,.map none),(3,.map (some i)),(7,qS A 1 c),(8,iV 1),(9,iV 1),(10,qT),(11,iV 0),(12,.pointer (some ⟨(aB A),aO A+0*1,none⟩)),(13,.string (⟨#[120]⟩)),(4,iV 0),(5,.string (⟨#[120]⟩)),(14,.map (some i)),(15,.string (⟨#[120]⟩)),(16,iV 0),(17,iV 1)] ?_))))))))));replace a:=a.to [] [];refine cN (aa a [.v qF] (af (cG (CG.exit ?_))))
 show CG _ _ _ _ _ _ _ _
 refine aa a ac ?_;obtain ⟨x,a,j⟩:=a.pubMap e;replace a:=a.to [] [];replace a:=a.add (K:=fun o=>MapS o i [⟨.string (⟨#[120]⟩),iV 0,0⟩]) j;exact lL a ac (ae a [] (.map (some i)) (⟨_,rfl,a.f.1⟩))
def rc (isb:ByteArray->Bool)(d:Nat)(t:Tm):Prop:=WfT1 (fun s=>isb s=true) d t/\bu d t<=1000
theorem BL:∀ s,g6 s->∀ (w:World) (h:Hp),G w h->Calls Tryz.prog 57 #[.string s] w (Ret w h (fun v _=>∃ b,v=.bool b/\b=cC s)):=fun s c w h g =>
 (B0 s (by unfold g6 at c;omega) w h g).mono fun e w' ⟨v,a,e1,u,e2⟩=>⟨v,a,e1,u,_,e2,rfl⟩
theorem lj {s:ByteArray}(h:cC s=true):g6 s:=by
 have:=oT h
 unfold g6;omega
theorem Do {b:Bool}(h:(!b)=false):b=true:=by cases b<;>first|rfl|cases h
theorem ES {b:Bool}(h:(!b)=true):b=false:=by cases b<;>first|rfl|cases h
theorem Bp {l:List ByteArray}{k:Nat}(h:k<l.length):l.getD k ⟨#[]⟩∈l:=by
 rw[zh,HR h];exact gp h
theorem vp {l:List ByteArray}{s:ByteArray}(h:s∈l):∃ i,i<l.length/\l.getD i ⟨#[]⟩=s:=by
 obtain ⟨i,hi,e⟩:=List.mem_iff_getElem.1 h;exact ⟨i,hi,by rw[zh,HR hi];exact e⟩
theorem qx {ok sm:ByteArray->Prop}:∀ {d:Nat} {t:Tm},SmT1 sm d t->WfT ok d t->WfT1 ok d t
 | _+1,_,⟨_,_,_,s4,_,s6⟩,⟨h1,h2,_,h4,h5,h6,h7,h8,h9⟩=>⟨h1,h2,s4,h4,h5,h6,h7,h8,fun i hi=>qx (s6 i hi) (h9 i hi)⟩
theorem ua {isb:ByteArray->Bool}{sm:ByteArray->Prop}{d:Nat}{t:Tm}{e:Int}(a:SmT1 sm d t)(h:(WfT (fun s=>isb s=true) d t/\e=(if 1000<bu d t then 18 else 0))\/(¬WfT (fun s=>isb s=true) d t/\e=2))(z:e=0):WfT1 (fun s=>isb s=true) d t/\bu d t<=1000:=by
 rcases h with ⟨h1,h2⟩|⟨h1,h2⟩
 ·refine ⟨qx a h1,?_⟩
  split at h2<;>omega
 ·omega
theorem Dl {isb:ByteArray->Bool}{d:Nat}{t:Tm}{e:Int}(h:(WfT (fun s=>isb s=true) d t/\e=(if 1000<bu d t then 18 else 0))\/(¬WfT (fun s=>isb s=true) d t/\e=2))(z:rc isb d t):e=0:=by
 rcases h with ⟨h1,h2⟩|⟨h1,h2⟩
 ·rw[h2,if_neg (by have:=z.2;omega)]
 ·exact absurd z.1.wf h1
def NsD (ns:List ByteArray):Prop:=ns=([⟨#[120]⟩,⟨#[121]⟩]:List ByteArray)\/ns=([⟨#[120]⟩,⟨#[121]⟩,⟨#[122]⟩,⟨#[120]⟩]:List ByteArray)\/ns=([⟨#[109,97,120]⟩,⟨#[120]⟩,⟨#[121]⟩,⟨#[122]⟩]:List ByteArray)\/ns=([⟨#[122]⟩,⟨#[121]⟩,⟨#[120]⟩,⟨#[119]⟩]:List ByteArray)\/ns=eb\/ns=([⟨#[120]⟩]:List ByteArray)
theorem NsD.len {ns:List ByteArray}(h:NsD ns):ns.length<=4/\1<=ns.length:=by
 rcases h with rfl|rfl|rfl|rfl|rfl|rfl<;>decide
theorem NsD.small {ns:List ByteArray}(h:NsD ns):∀ i,i<ns.length->g6 (ns.getD i ⟨#[]⟩):=by
 unfold g6
 rcases h with rfl|rfl|rfl|rfl|rfl|rfl<;>decide
def uS:List MapEntry:=[⟨.string ⟨#[120]⟩,.int .i64 3,0⟩,⟨.string ⟨#[121]⟩,.int .i64 1,1⟩,⟨.string ⟨#[122]⟩,.int .i64 2,2⟩]
def lE:List ByteArray:=([⟨#[120]⟩,⟨#[121]⟩,⟨#[122]⟩,⟨#[120]⟩]:List ByteArray)
def gX (ns:List ByteArray):List MapEntry:=if ns=lE then uS else oH ns 0
def vN (ns:List ByteArray)(s:ByteArray):Int:=if ns=lE then (if s=⟨#[120]⟩ then 3 else if s=⟨#[121]⟩ then 1 else if s=⟨#[122]⟩ then 2 else 0) else ED ns s
theorem AT (s:ByteArray):(∃ i,Instr.findNow .string (.string s) uS 0=some (some (i,.int .i64 (vN lE s)))/\decide (s∈lE)=true)\/(Instr.findNow .string (.string s) uS 0=some none/\decide (s∈lE)=false/\vN lE s=0):=by
 by_cases h1:s=⟨#[120]⟩
 ·subst h1;exact .inl ⟨0,by kernel_rfl,by decide⟩
 by_cases h2:s=⟨#[121]⟩
 ·subst h2;exact .inl ⟨1,by kernel_rfl,by decide⟩
 by_cases h3:s=⟨#[122]⟩
 ·subst h3;exact .inl ⟨2,by kernel_rfl,by decide⟩
 refine .inr ⟨?_,decide_eq_false (fun h=>?_),by unfold vN;rw[if_pos rfl,if_neg h1,if_neg h2,if_neg h3]⟩
 ·rcases MapKept.findNow_spec (d:=.string) (k:=.string s) (by simp[MapKept.IsKey]) uS 0 (fun x f=>by
   simp only[uS,g3,List.not_mem_nil,or_false] at f
   rcases f with rfl|rfl|rfl<;>simp[MapKept.IsKey]) with ⟨a,_⟩|⟨j,e,a,b,c⟩
  ·exact a
  ·exfalso
   match j,b with
   | 0,b=>injection b with b;subst b;injection c with c;exact h1 c.symm
   | 1,b=>injection b with b;subst b;injection c with c;exact h2 c.symm
   | 2,b=>injection b with b;subst b;injection c with c;exact h3 c.symm
   | n+3,b=>cases b
 ·simp only[lE,g3,List.not_mem_nil,or_false] at h
  rcases h with h|h|h|h
  ·exact h1 h
  ·exact h2 h
  ·exact h3 h
  ·exact h1 h
theorem FT {ns:List ByteArray}(a:NsD ns)(_:∀ i,i<ns.length->cC (ns.getD i ⟨#[]⟩)=true)(s:ByteArray):(∃ i,Instr.findNow .string (.string s) (gX ns) 0=some (some (i,.int .i64 (vN ns s)))/\decide (s∈ns)=true)\/(Instr.findNow .string (.string s) (gX ns) 0=some none/\decide (s∈ns)=false/\vN ns s=0):=by
 by_cases hd:ns=lE
 ·subst hd;unfold gX;rw[if_pos rfl];exact AT s
 ·unfold gX vN;rw[if_neg hd,if_neg hd]
  refine At ?_ s
  rcases a with rfl|rfl|rfl|rfl|rfl|rfl
  ·decide
  ·exact absurd rfl hd
  ·decide
  ·decide
  ·decide
  ·decide
theorem sd {ns:List ByteArray}(a:NsD ns):ns.Nodup↔(gX ns).length=ns.length:=by
 rcases a with rfl|rfl|rfl|rfl|rfl|rfl<;>decide
theorem ii {ns:List ByteArray}(e:NsD ns)(a:∀ i,i<ns.length->cC (ns.getD i ⟨#[]⟩)=true)(A:Z9)(c:Nat)(w:World)(h:Hp)(g:G w h)(d:SlO 1 dz ⟨#[]⟩ h A ns):Calls Tryz.prog 23 #[.slice A ns.length c] w (Ret w h (fun v h1=>∃ b,v=.map (some b)/\MapS h1 b (gX ns))):=by
 rcases e with rfl|rfl|rfl|rfl|rfl|rfl
 ·exact ut A c w h g d
 ·exact tK A c w h g d
 ·exact absurd (a 0 kD) kD
 ·exact sU A c w h g d
 ·exact ur A c w h g d
 ·exact uL A c w h g d
def DckR (d:Nat)(t:Tm)(ns:List ByteArray)(M:Prop)(e:Int):Prop :=
  (¬rc cC d t/\e=1)\/(rc cC d t/\((¬M/\e=5)\/(M/\((¬(∀ i,i<ns.length->cC (ns.getD i ⟨#[]⟩)=true)/\e=11)\/((∀ i,i<ns.length->cC (ns.getD i ⟨#[]⟩)=true)/\((¬(∀ s,fS d t s->s∈ns)/\e=11)\/((∀ s,fS d t s->s∈ns)/\((¬ns.Nodup/\e=8)\/(ns.Nodup/\e=0)))))))))
theorem DckR.uniq {d:Nat}{t:Tm}{ns:List ByteArray}{M:Prop}{e h:Int}(x:DckR d t ns M e)(y:DckR d t ns M h):e=h:=by
 rcases x with ⟨a,rfl⟩|⟨a,⟨b,rfl⟩|⟨b,⟨c,rfl⟩|⟨c,⟨f,rfl⟩|⟨f,⟨i,rfl⟩|⟨i,rfl⟩⟩⟩⟩⟩ <;>
 rcases y with ⟨a',rfl⟩|⟨a',⟨b',rfl⟩|⟨b',⟨c',rfl⟩|⟨c',⟨f',rfl⟩|⟨f',⟨i',rfl⟩|⟨i',rfl⟩⟩⟩⟩⟩ <;>
 first
 | rfl
 | exact absurd a' a
 | exact absurd a a'
 | exact absurd b' b
 | exact absurd b b'
 | exact absurd c' c
 | exact absurd c c'
 | exact absurd f' f
 | exact absurd f f'
 | exact absurd i' i
 | exact absurd i i'
theorem DckR.ok {d:Nat}{t:Tm}{ns:List ByteArray}{M:Prop}{e:Int}(x:DckR d t ns M e)(h:e=0):rc cC d t/\M/\(∀ i,i<ns.length->cC (ns.getD i ⟨#[]⟩)=true)/\(∀ s,fS d t s->s∈ns)/\ns.Nodup:=by
 rcases x with ⟨a,rfl⟩|⟨a,⟨b,rfl⟩|⟨b,⟨c,rfl⟩|⟨c,⟨f,rfl⟩|⟨f,⟨i,rfl⟩|⟨i,rfl⟩⟩⟩⟩⟩
 ·cases h
 ·cases h
 ·cases h
 ·cases h
 ·cases h
 ·exact ⟨a,b,c,f,i⟩
theorem pJ (d:Nat)(p:PTm)(t:Tm)(hd:d<=20)(C:Z9)(y:Nat)(ns:List ByteArray)(z:NsD ns)(O:Z9)(cu:Nat)(us:List Value)(U:List Nat)(bn:us.length<=10)(hus:∀ j,j<us.length->∃ A c,us.getD j undef=.slice A (U.getD j 0) c/\U.getD j 0<=1000000)(w:World)(h:Hp)(g:G w h)(hT:TmH d h p t)(hS:SmT1 g6 d t)(hN:SlO 1 dz ⟨#[]⟩ h C ns)(hU:Sv O us h):CR 22 #[az p,.slice C ns.length y,.slice O us.length cu] w h (fun v _=>∃ e:Int,v=iV e/\DckR d t ns (∀ j,j<us.length->U.getD j 0=ns.length) e):=by
 have a:=((((sS g).add (K:=fun b=>TmH d b p t) hT).aS hN).aS hU);have bl:=z.len;refine go Tryz.func22 [(0,az p),(1,qS C ns.length y),(2,qS O us.length cu)] rfl (aD (lA 3 42 (be p) a (fun Y w2 h3 a=>lL a ac (af (aa a [.o (az p) 0 0 9] (lC 17 a (mE cC g6 BL d p t oM _ _ a.g a.f.r.1 hS.sm) ?_))))));rintro _ w4 h5 a ⟨ec,rfl,I⟩;cases J:((ec:Int) != (0:Int))
 .
  have Z:=aJ J;refine lB 18 J (aj (cK (cQ (aa a [.c,.v (nV us.length),.c] (ba ?_)))));refine bS _ (CG.loop (fun F Γ w_=>∃ (u:Nat)(b:Hp),F=us.length-u/\Γ=[(1,qS C ns.length y),(3,pB Y),(19,qS O us.length cu),(20,nV us.length),(21,nV u)]/\SS w h w_ b [⟨Y,42,be p⟩] [] [Sv O us,fun b=>SlO 1 dz ⟨#[]⟩ b C ns,fun b=>TmH d b p t]/\u<=us.length/\(∀ i,i<u->U.getD i 0=ns.length)) _ ⟨0,h5,rfl,rfl,a.to _ _,GA _,(fun i hi=>absurd hi (HA i))⟩ ?_);rintro _ _ w7 ⟨u,h8,hm9,rfl,a,hu,D⟩;refine aD ?_;cases za:(decide ((u:Int)<(us.length:Int)))
  .
   have zi:=oF za;refine lB 22 za (af (cG (CG.exit ?_)))
   show CG _ _ _ _ _ _ _ _
   refine cQ (aa a [.c,.v (nV ns.length)] ?_);cases zb:(decide ((20:Int)<(ns.length:Int)))
   .
    have zj:=oF zb;refine lB 33 zb (aj (cK (cQ (aa a [.c,.v (nV ns.length),.c] (ba ?_)))));refine bS _ (CG.loop (fun F Γ w_=>∃ (k:Nat)(b:Hp),F=ns.length-k/\Γ=[(1,qS C ns.length y),(3,pB Y),(34,qS C ns.length y),(35,nV ns.length),(36,nV k)]/\SS w h w_ b [⟨Y,42,be p⟩] [] [Sv O us,fun b=>SlO 1 dz ⟨#[]⟩ b C ns,fun b=>TmH d b p t]/\k<=ns.length/\(∀ i,i<k->cC (ns.getD i ⟨#[]⟩)=true)) _ ⟨0,h8,rfl,rfl,a.to _ _,GA _,(fun i hi=>absurd hi (HA i))⟩ ?_);rintro _ _ _ ⟨k,_,bk,rfl,a,hk,V⟩;refine aD ?_;cases zc:(decide ((k:Int)<(ns.length:Int)))
    .
     have zk:=oF zc;refine lB 37 zc (af (cG (CG.exit ?_)))
     show CG _ _ _ _ _ _ _ _
     have x:∀ i,i<ns.length->cC (ns.getD i ⟨#[]⟩)=true:=fun i hi=>V i oM
     refine aa a ac (lC 45 a (ii z x C y _ _ a.g a.f.2.1) ?_);rintro _ _ _ a ⟨bm,rfl,hM⟩;replace a:=(a.add (K:=fun b=>MapS b bm (gX ns)) hM);refine lL a ac (af ?_);have B:=ua hS I oM;have bb:=B.1;refine aa a [.o (az p) 0 0 9] (lC 47 a (B9 (fun s=>cC s=true) (fun s_ b=>by have q_:=lj b;unfold g6 at q_;omega) d hd p t _ _ a.g a.f.r.2.1 bb) ?_);rintro _ _ zo a ⟨nA,nc,l,rfl,hnc,hnl,hnS,Q⟩;replace a:=a.aS hnS;refine lL a [.v (nV l.length),.c] (ba ?_);refine bS _ (CG.loop (fun F Γ w_=>∃ (j:Nat)(b:Hp),F=l.length-j/\Γ=[(1,qS C ns.length y),(11,.map (some bm)),(47,qS nA l.length nc),(48,nV l.length),(49,nV j)]/\SS w h w_ b [⟨Y,42,be p⟩] [] [fun b=>SlO 1 dz ⟨#[]⟩ b nA l,fun b=>MapS b bm (gX ns),Sv O us,fun b=>SlO 1 dz ⟨#[]⟩ b C ns,fun b=>TmH d b p t]/\j<=l.length/\(∀ i,i<j->l.getD i ⟨#[]⟩∈ns)) _ ⟨0,zo,rfl,rfl,a.to _ _,GA _,(fun i hi=>absurd hi (HA i))⟩ ?_);rintro _ _ _ ⟨j,zp,bf,rfl,a,hj,M⟩;refine aD ?_;cases zd:(decide ((j:Int)<(l.length:Int)))
     .
      have zl:=oF zd;refine lB 50 zd (af (cG (CG.exit ?_)))
      show CG _ _ _ _ _ _ _ _
      refine cQ ?_;have S:∀ s,fS d t s->s∈ns:=fun s_ b=>by obtain ⟨H,L,e_⟩:=vp ((Q s_).2 b);rw[<-e_];exact M H oM
      refine aa a ac (Fy 63 74 0 9 3 a a.f.2.1 ?_);refine lL a [.c,.v (nV ns.length)] ?_;cases ze:((((gX ns).length:Nat):Int) != (ns.length:Int))
      .
       have zm:=aJ ze;exact lB 66 ze (aj (cK (aa a ac (ae a [] (iV 0) (⟨_,rfl,.inr ⟨B,.inr ⟨(fun H L=>D H oM),.inr ⟨x,.inr ⟨S,.inr ⟨(sd z).2 oM,rfl⟩⟩⟩⟩⟩⟩)))))
      have zm:=aU ze;exact lB 66 ze (ar (aa a ac (ae a [] (iV 8) (⟨_,rfl,.inr ⟨B,.inr ⟨(fun H L=>D H oM),.inr ⟨x,.inr ⟨S,.inl ⟨fun b=>by have:=(sd z).1 b;omega,rfl⟩⟩⟩⟩⟩⟩))))
     have zl:=oT zd;refine lB 50 zd (af (bY (cK (cQ (kZ (aD (lX 51 nA l.length nc 1 (j:Nat) j ((a.f.1).ok oM) ?_)))))));refine lH 52 (.string (l.getD j ⟨#[]⟩)) a ((a.f.1).el j oM) (lL a ac (aK (lL a aF (C6 56 74 9 3 (l.getD j ⟨#[]⟩) true (iV (vN ns (l.getD j ⟨#[]⟩))) ((decide (l.getD j ⟨#[]⟩∈ns))) a a.f.2.1 ?_ (hf:=(by rcases FT z x (l.getD j ⟨#[]⟩) with ⟨H,e1_,e2_⟩|⟨e1_,e2_,e3_⟩;exact .inl ⟨H,e1_,e2_⟩;exact .inr ⟨e1_,e2_,fun _=>by rw[e3_];kernel_rfl⟩))))));refine lL a [.c,.v (iV (vN ns (l.getD j ⟨#[]⟩))),.v (.bool (decide (l.getD j ⟨#[]⟩∈ns))),.c,.c] (aK (lL a ac ?_));cases zg:(!(decide (l.getD j ⟨#[]⟩∈ns)))
     .
      refine lB 60 zg (aj (cK (kQ (bA 61 ((j:Nat)+1) (j+1) ?_))));refine lL a ac (lD ?_);intro a_ W;refine ⟨_,_,?_,⟨j+1,zp,rfl,rfl,a.to _ _,oM,(fun i hi=>by rcases HX.1 hi with b|rfl;exact M i b;exact oT (by first|assumption|exact Do aM))⟩,W.to _ kR⟩
      omega
     exact lB 60 zg (ar (aa a ac (ae a [] (iV 11) (⟨_,rfl,.inr ⟨B,.inr ⟨(fun H L=>D H oM),.inr ⟨x,.inl ⟨fun b=>oF (by first|assumption|exact ES aM) (b _ ((Q _).1 (Bp oM))),rfl⟩⟩⟩⟩⟩))))
    have zk:=oT zc;refine lB 37 zc (af (bY (cK (cQ (kZ (aD (lX 38 C ns.length y 1 (k:Nat) k ((a.f.2.1).ok oM) ?_)))))));refine lH 39 (.string (ns.getD k ⟨#[]⟩)) a ((a.f.2.1).el k oM) (lL a ac (aK (lL a ac (lC 41 a (BL (ns.getD k ⟨#[]⟩) (z.small k oM) _ _ a.g) ?_))));rintro _ _ zq a ⟨bi,rfl,X⟩;cases bd:(bi)
    .
     exact lL a [.v qT] (ar (aa a ac (ae a [] (iV 11) (⟨_,rfl,.inr ⟨ua hS I oM,.inr ⟨(fun H L=>D H oM),.inl ⟨(fun b=>by have q_:=b k oM;rw[<-X] at q_;have q2_:bi=false:=aM;rw[q_] at q2_;cases q2_),rfl⟩⟩⟩⟩))))
    refine lL a [.v qF] (aj (cK (kQ (bA 43 ((k:Nat)+1) (k+1) ?_))));refine lL a ac (lD ?_);intro a_ W;refine ⟨_,_,?_,⟨k+1,zq,rfl,rfl,a.to _ _,oM,(fun i hi=>by rcases HX.1 hi with b|rfl;exact V i b;rw[<-X];first|assumption|exact Do aM)⟩,W.to _ kR⟩
    omega
   have zj:=oT zb;refine lB 33 zb (ar (aa a ac (lN (kX ?_))))
   exfalso;have:=z.len;omega
  have zi:=oT za;refine lB 22 za (af (bY (cK (cQ (kZ (aD (lX 23 O us.length cu 1 (u:Nat) u ((a.f.1).ok oM) ?_)))))));obtain ⟨Uj,uj,huj,hmj⟩:=hus u oM;refine FJ 24 ((us.getD u undef)) a ((a.f.1).el u oM) huj (lL a ac (aK (lL a [.c,.v (nV (U.getD u 0)),.c,.v (nV ns.length)] ?_)));cases zf:((((U.getD u 0):Nat):Int) != (ns.length:Int))
  .
   have zn:=aJ zf;refine lB 29 zf (aj (cK (kQ (bA 30 ((u:Nat)+1) (u+1) ?_))));refine lL a ac (lD ?_);intro a_ W;refine ⟨_,_,?_,⟨u+1,h8,rfl,rfl,a.to _ _,oM,(fun i hi=>by rcases HX.1 hi with b|rfl;exact D i b;omega)⟩,W.to _ kR⟩
   omega
  have zn:=aU zf;exact lB 29 zf (ar (aa a ac (ae a [] (iV 5) (⟨_,rfl,.inr ⟨ua hS I oM,.inl ⟨fun b=>by have:=b u oM;omega,rfl⟩⟩⟩))))
 have Z:=aU J;exact lB 18 J (ar (aa a ac (ae a [] (iV 1) (⟨_,rfl,.inl ⟨fun b=>by have:=Dl I ⟨b.1,b.2⟩;omega,rfl⟩⟩))))
theorem DckR.cg {d:Nat}{t:Tm}{ns:List ByteArray}{M a:Prop}{e:Int}(x:DckR d t ns M e)(h:M↔a):DckR d t ns a e:=propext h▸x
theorem pL (d:Nat)(p:PTm)(t:Tm)(D:d<=20)(i:Z9)(a:Nat)(ns:List ByteArray)(c:NsD ns)(o:Z9)(B:Nat)(y:Z9)(b z:Nat)(l:b<=1000000)(w:World)(h:Hp)(g:G w h)(J:TmH d h p t)(C:SmT1 g6 d t)(H:SlO 1 dz ⟨#[]⟩ h i ns)(F:Sv (o) ([.slice y b z]:List Value) h):Calls Tryz.prog 22 #[az p,.slice i ns.length a,.slice o 1 B] w (Ret w h (fun v _=>∃ e:Int,v=iV e/\DckR d t ns (b=ns.length) e)) :=
 (pJ d p t D i a ns c o B [.slice y b z] [b] (y5 rfl) (fun j f=>by match j,f with|0,_=>exact ⟨_,_,rfl,l⟩) w h g J C H F).mono fun e w' ⟨v,I,e1,u,x,e2,k⟩=>⟨v,I,e1,u,x,e2,k.cg ⟨fun h=>h 0 (GD _),fun h j f=>by match j,f with|0,_=>exact h⟩⟩
theorem xc (d:Nat)(p:PTm)(t:Tm)(I:d<=20)(o:Z9)(a:Nat)(ns:List ByteArray)(i:NsD ns)(z:Z9)(D:Nat)(B:Z9)(c C:Nat)(F:Z9)(b u1:Nat)(y:c<=1000000)(f:b<=1000000)(w:World)(h:Hp)(g:G w h)(M:TmH d h p t)(H:SmT1 g6 d t)(K:SlO 1 dz ⟨#[]⟩ h o ns)(J:Sv (z) ([.slice B c C,.slice F b u1]:List Value) h):Calls Tryz.prog 22 #[az p,.slice o ns.length a,.slice z 2 D] w (Ret w h (fun v _=>∃ e:Int,v=iV e/\DckR d t ns (c=ns.length/\b=ns.length) e)) :=
 (pJ d p t I o a ns i z D [.slice B c C,.slice F b u1] [c,b] (y5 rfl) (fun j l=>by match j,l with|0,_=>exact ⟨_,_,rfl,y⟩|1,_=>exact ⟨_,_,rfl,f⟩) w h g M H K J).mono fun e w' ⟨v,L,e1,u,x,e2,k⟩=>⟨v,L,e1,u,x,e2,k.cg ⟨fun h=>⟨h 0 (GD _),h 1 (nR 2)⟩,fun h j l=>by match j,l with|0,_=>exact h.1|1,_=>exact h.2⟩⟩
def DrunR (d:Nat)(t:Tm)(ns:List ByteArray)(fs:List Rat)(e:Int)(q:Rat)(G_:List Rat):Prop :=
  ∃ ec,DckR d t ns (fs.length=ns.length) ec/\((ec≠0/\e=ec/\q=0/\G_=[])\/(ec=0/\(e,q,G_)=aA (bB ns) fs d t))
theorem vj {d:Nat}{t:Tm}{ns:List ByteArray}{M:Prop}(h:rc cC d t/\M/\(∀ i,i<ns.length->cC (ns.getD i ⟨#[]⟩)=true)/\(∀ s,fS d t s->s∈ns)/\ns.Nodup):WfT1 (fun s=>s∈ns) d t :=
 WfT1.imp (fun _ x=>x.2) (h.1.1.names h.2.2.2.1)
theorem Ao {ns:List ByteArray}{fs:List Rat}(f:NsD ns)(a:ns.Nodup)(c:fs.length=ns.length)(s:ByteArray)(b:s∈ns):bB ns s<fs.length/\∃ i,Instr.findNow .string (.string s) (gX ns) 0=some (some (i,.int .i64 (bB ns s:Nat))):=by
 have d:ns≠lE:=fun e=>by subst e;exact absurd a kD
 refine ⟨by rw[c];exact (pT b).1,?_⟩
 unfold gX;rw[if_neg d]
 rcases At a s with ⟨i,e1,_⟩|⟨_,e2,_⟩
 ·exact ⟨i,by rw[e1,qm b]⟩
 ·exact absurd b (oF e2)
theorem Cx (d:Nat)(p:PTm)(t:Tm)(S:d<=20)(C:Z9)(y:Nat)(ns:List ByteArray)(z:NsD ns)(fs:List Rat)(u:Z9)(x:Nat)(O:fs.length<=1000)(Y:∀ i,LQ 1 (fs.getD i 0))(w:World)(h:Hp)(g:G w h)(hT:TmH d h p t)(Q:SmT1 g6 d t)(W:SlO 1 dz ⟨#[]⟩ h C ns)(Z:Sq u fs h)(U:Tab h):CR 10 #[az p,.slice C ns.length y,.slice u fs.length x] w h (fun v h1=>∃ (e:Int)(q:Rat)(A_:Z9)(c_:Nat)(G_:List Rat),v=.tuple #[iy q A_ G_.length c_,iV e]/\Sq A_ G_ h1/\DrunR d t ns fs e q G_):=by
 have a:=(((((sS g).add (K:=fun L=>TmH d L p t) hT).aS W).aS Z).aB U);refine go Tryz.func10 [(0,az p),(1,qS C ns.length y),(2,qS u fs.length x)] rfl (aD (lA 3 42 (be p) a (fun b1 w2 h3 a=>lA 6 54 ([qF,uV 0,eS,uV 0,eS,sZ]) a (fun b4 w5 h6 a=>lL a ac (af (aa a [.o (az p) 1 0 9,.c,.c] (lR 13 46 1 ([qS u fs.length x]) a (fun M w8 h9 a=>?_))))))));replace a:=a.aS (SlO.of_flat (sz:=1) (f:=vc) (d:=undef) (b:=M) (o:=0) (l:=([qS u fs.length x]:List Value)) (fun _=>rfl) a.f.1);refine lC 14 a (pL d p t S C y ns z (sB M) 1 u fs.length x oM _ _ a.g a.f.q.2.1 Q a.f.q.1 a.f.1) ?_;rintro _ _ _ a ⟨F,rfl,B⟩;refine lL a ac (aK (lL a ac ?_));cases H:((F:Int) != (0:Int))
 .
  have V:=aJ H;refine lB 16 H (aj (cK ?_));have j:=B.ok oM;refine aa a [.c,.v (.agg #[qS u fs.length x]),.v (.iface 73 (.agg #[qS u fs.length x])),.c] (lC 23 a (ii z j.2.2.1 C y _ _ a.g a.f.q.1) ?_);rintro _ _ _ a ⟨D,rfl,hM⟩;replace a:=(a.add (K:=fun L=>MapS L D (gX ns)) hM);refine lL a [.v (.agg #[.iface 73 (.agg #[qS u fs.length x]),.map (some D),qF])] (lA 9 79 ([.nilIface,.map none,qF]) a (fun X _ _ a=>lP 0 0 ([.iface 73 (.agg #[qS u fs.length x]),.map (some D),qF]) a (fun _ a=>aK (lL a [.o (.agg #[.iface 73 (.agg #[qS u fs.length x]),.map (some D),qF]) 0 0 3,.o (az p) 2 0 9] (lC 27 a (x4 (fun s=>s∈ns) (bB ns) fs u x O D (gX ns) Y (Ao z j.2.2.2.2 j.2.1) d p t _ _ oM a.g a.f.q.r.1 (vj j) j.1.2 a.f.q.1 a.f.1 a.f.r.2.1) ?_)))));rintro _ _ _ a ⟨J,cg,rfl,I⟩;replace a:=a.aS I;exact lL a [.v (qY ((aA (bB ns) fs d t).2.1) J (((aA (bB ns) fs d t).2.2).length) cg),.v (iV ((aA (bB ns) fs d t).1))] (lP 1 0 (qZ ((aA (bB ns) fs d t).2.1) J (((aA (bB ns) fs d t).2.2).length) cg) a (fun _ a=>lL a ac (ae a [(1,0,6)] (.tuple #[qY ((aA (bB ns) fs d t).2.1) J (((aA (bB ns) fs d t).2.2).length) cg,iV ((aA (bB ns) fs d t).1)]) (⟨_,_,_,_,_,rfl,a.f.1,F,B,.inr ⟨by omega,rfl⟩⟩))))
 have V:=aU H;exact lB 16 H (ar (aa a [.v (.agg #[qF,uV 0,eS,uV 0,eS,sZ]),.c] (lP 0 0 ([qF,uV 0,eS,uV 0,eS,sZ]) a (fun _ a=>lL a ac (ae a [(0,0,6)] (.tuple #[.agg #[qF,uV 0,eS,uV 0,eS,sZ],iV F]) (⟨_,0,none,0,[],rfl,SlO.nil,F,B,.inl ⟨by omega,rfl,rfl,rfl⟩⟩))))))
theorem Bl {ix:ByteArray->Nat}{fs:List Rat}:∀ {d:Nat} {t:Tm},(aA ix fs d t).1≠0->aA ix fs d t=((aA ix fs d t).1,0,[])
  | 0,_,h=>absurd rfl h
  | d + 1,t,h=>by
    by_cases o1:t.op=1
    . have e:aA ix fs (d+1) t=(0,t.q,yJ fs.length 0):=if_pos o1
      rw[e] at h;exact absurd rfl h
    . by_cases o2:t.op=2
      . have e:aA ix fs (d+1) t=(0,fs.getD (ix t.s) 0,ck fs.length (ix t.s)):=(if_neg o1).trans (if_pos o2)
        rw[e] at h;exact absurd rfl h
      . have e:aA ix fs (d+1) t=ml fs.length t.op t.n _ _:=(if_neg o1).trans (if_neg o2)
        rw[e] at h ⊢
        generalize (if 0<t.ks.length then aA ix fs d (t.ks.getD 0 bZ) else (0,0,[]))=x at *
        generalize (if 1<t.ks.length then aA ix fs d (t.ks.getD 1 bZ) else (0,0,[]))=y at *
        by_cases c1:x.1=0
        . by_cases c2:y.1=0
          . by_cases c3:bI t.op t.n x.2.1 y.2.1=0
            . rw[ia c1 c2 c3] at h;exact absurd rfl h
            . rw[g7 c1 c2 c3]
          . rw[jQ c1 c2]
        . rw[io c1]
theorem Fr (b:Bool)(e:Z9)(d a:Nat)(c:Z9)(j i:Nat)(w:World)(h:Hp)(g:G w h):CV 44 #[.agg #[.bool b,.slice e d a,.slice c j i]] w h (dw ⟨1,0,b,e,d,a,c,j,i,⟨#[]⟩,none,0,0⟩):=by
 have f:=sS g;exact go Tryz.func44 [(0,.agg #[.bool b,qS e d a,qS c j i])] rfl (aD (lA 1 28 ([.bool b,qS e d a,qS c j i]) f (fun p w2 u f=>lA 2 31 (cB ⟨0,0,false,none,0,0,none,0,0,⟨#[]⟩,none,0,0⟩) f (fun x z l f=>aK (lL f [.o (.agg #[.bool b,qS e d a,qS c j i]) 1 0 3,.v (dw ⟨1,0,b,e,d,a,c,j,i,⟨#[]⟩,none,0,0⟩)] (lP 0 0 (cB ⟨1,0,b,e,d,a,c,j,i,⟨#[]⟩,none,0,0⟩) f (fun y f=>ae f [(0,0,7)] (dw ⟨1,0,b,e,d,a,c,j,i,⟨#[]⟩,none,0,0⟩) rfl)))))))
theorem Eb (op:Int)(a rb:RTm)(w:World)(h:Hp)(g:G w h):CR 45 #[iV op,dw a,dw rb] w h (fun v h1=>∃ b,v=dw ⟨op,0,false,none,0,0,none,0,0,⟨#[]⟩,sB b,2,2⟩/\SlO 7 cB fV h1 (sB b) [a,rb]):=by
 have e:=sS g;refine go Tryz.func45 [(0,iV op),(1,dw a),(2,dw rb)] rfl (aD (lA 4 31 (cB a) e (fun j w2 p e=>lA 5 31 (cB rb) e (fun u C B e=>lA 6 31 (cB ⟨0,0,false,none,0,0,none,0,0,⟨#[]⟩,none,0,0⟩) e (fun x y z e=>aK (lL e [.c,.o (dw a) 2 0 7,.o (dw rb) 1 0 7] (lR 10 31 2 ([iV a.op,iV a.n,.bool a.neg,qS a.zA a.zn a.zc,qS a.dA a.dn a.dc,.string a.s,qS a.A a.m a.c,iV rb.op,iV rb.n,.bool rb.neg,qS rb.zA rb.zn rb.zc,qS rb.dA rb.dn rb.dc,.string rb.s,qS rb.A rb.m rb.c]) e (fun i _ _ e=>?_))))))));replace e:=e.aS (SlO.of_flat (sz:=7) (f:=cB) (d:=fV) (b:=i) (o:=0) (l:=([(⟨a.op,a.n,a.neg,a.zA,a.zn,a.zc,a.dA,a.dn,a.dc,a.s,a.A,a.m,a.c⟩:RTm),(⟨rb.op,rb.n,rb.neg,rb.zA,rb.zn,rb.zc,rb.dA,rb.dn,rb.dc,rb.s,rb.A,rb.m,rb.c⟩:RTm)]:List RTm)) (fun _=>rfl) e.f.1);exact lL e [.v (dw ⟨op,0,false,none,0,0,none,0,0,⟨#[]⟩,sB i,2,2⟩)] (lP 0 0 (cB ⟨op,0,false,none,0,0,none,0,0,⟨#[]⟩,sB i,2,2⟩) e (fun _ e=>ae e [(0,0,7)] (dw ⟨op,0,false,none,0,0,none,0,0,⟨#[]⟩,sB i,2,2⟩) (⟨_,rfl,e.f.1⟩)))
theorem uE  (w:World)(h:Hp)(g:G w h):CR 6 #[] w h (fun v h1=>∃ b,v=.slice (sB b) 3 3/\SlO 1 dz ⟨#[]⟩ h1 (sB b) eb):=by
 have a:=sS g;refine go Tryz.func6 [] rfl (aa a ac (aK (lR 1 9 3 ([.string (⟨#[120]⟩),.string (⟨#[121]⟩),.string (⟨#[122]⟩)]) a (fun c w2 e a=>?_))));replace a:=a.aS (SlO.of_flat (sz:=1) (f:=dz) (d:=⟨#[]⟩) (b:=c) (o:=0) (l:=eb) (fun _=>rfl) a.f.1);exact lL a ac (ae a [] (qS (sB c) 3 3) (⟨_,rfl,a.f.1⟩))
theorem Ek (op:Int)(a:RTm)(w:World)(h:Hp)(g:G w h):CR 46 #[iV op,dw a] w h (fun v h1=>∃ b,v=dw ⟨op,0,false,none,0,0,none,0,0,⟨#[]⟩,sB b,1,1⟩/\SlO 7 cB fV h1 (sB b) [a]):=by
 have e:=sS g;refine go Tryz.func46 [(0,iV op),(1,dw a)] rfl (aD (lA 3 31 (cB a) e (fun u w2 y e=>lA 4 31 (cB ⟨0,0,false,none,0,0,none,0,0,⟨#[]⟩,none,0,0⟩) e (fun z B p e=>aK (lL e [.c,.o (dw a) 1 0 7] (lR 7 31 1 ([iV a.op,iV a.n,.bool a.neg,qS a.zA a.zn a.zc,qS a.dA a.dn a.dc,.string a.s,qS a.A a.m a.c]) e (fun i j x e=>?_)))))));replace e:=e.aS (SlO.of_flat (sz:=7) (f:=cB) (d:=fV) (b:=i) (o:=0) (l:=([(⟨a.op,a.n,a.neg,a.zA,a.zn,a.zc,a.dA,a.dn,a.dc,a.s,a.A,a.m,a.c⟩:RTm)]:List RTm)) (fun _=>rfl) e.f.1);exact lL e [.v (dw ⟨op,0,false,none,0,0,none,0,0,⟨#[]⟩,sB i,1,1⟩)] (lP 0 0 (cB ⟨op,0,false,none,0,0,none,0,0,⟨#[]⟩,sB i,1,1⟩) e (fun _ e=>ae e [(0,0,7)] (dw ⟨op,0,false,none,0,0,none,0,0,⟨#[]⟩,sB i,1,1⟩) (⟨_,rfl,e.f.1⟩)))
theorem DJ (a:RTm)(i:Int)(w:World)(h:Hp)(g:G w h):CR 47 #[dw a,iV i] w h (fun v h1=>∃ b,v=dw ⟨8,i,false,none,0,0,none,0,0,⟨#[]⟩,sB b,1,1⟩/\SlO 7 cB fV h1 (sB b) [a]):=by
 have e:=sS g;refine go Tryz.func47 [(0,dw a),(1,iV i)] rfl (aD (lA 2 31 (cB a) e (fun x w2 z e=>lA 4 31 (cB ⟨0,0,false,none,0,0,none,0,0,⟨#[]⟩,none,0,0⟩) e (fun B C u e=>aK (lL e [.c,.o (dw a) 1 0 7] (lR 7 31 1 ([iV a.op,iV a.n,.bool a.neg,qS a.zA a.zn a.zc,qS a.dA a.dn a.dc,.string a.s,qS a.A a.m a.c]) e (fun j p y e=>?_)))))));replace e:=e.aS (SlO.of_flat (sz:=7) (f:=cB) (d:=fV) (b:=j) (o:=0) (l:=([(⟨a.op,a.n,a.neg,a.zA,a.zn,a.zc,a.dA,a.dn,a.dc,a.s,a.A,a.m,a.c⟩:RTm)]:List RTm)) (fun _=>rfl) e.f.1);exact lL e [.v (dw ⟨8,i,false,none,0,0,none,0,0,⟨#[]⟩,sB j,1,1⟩)] (lP 0 0 (cB ⟨8,i,false,none,0,0,none,0,0,⟨#[]⟩,sB j,1,1⟩) e (fun _ e=>ae e [(0,0,7)] (dw ⟨8,i,false,none,0,0,none,0,0,⟨#[]⟩,sB j,1,1⟩) (⟨_,rfl,e.f.1⟩)))
section
variable {d:Nat}
theorem EQ (b:Bool)(i:Z9)(f j:Nat)(c:Z9)(a l:Nat){q:Rat}(w:World)(h:Hp)(g:G w h)(hz:RZ h (b,.slice i f j,.slice c a l) q):CR 44 #[.agg #[.bool b,.slice i f j,.slice c a l]] w h (fun v h1=>∃ r,v=dw r/\RmH (d+1) h1 r (.mk 1 0 q ⟨#[]⟩ [])) :=
 (Fr b i f j c a l w h g).mono fun e w' ⟨v,o,e1,u,e2⟩=>⟨v,o,e1,u,_,e2,Bg (hz.gw u.gr.gw)⟩
theorem kG (op:Int)(a rb:RTm)(t u:Tm)(w:World)(h:Hp)(g:G w h)(x:RmH d h a t)(y:RmH d h rb u):CR 45 #[iV op,dw a,dw rb] w h (fun v h1=>∃ r,v=dw r/\RmH (d+1) h1 r (.mk op 0 0 ⟨#[]⟩ [t,u])) :=
 (Eb op a rb w h g).mono fun e w' ⟨v,c,e1,up,b,e2,f⟩=>⟨v,c,e1,up,_,e2,AI (x.gw up.gr.gw) (y.gw up.gr.gw) f⟩
theorem qo (op:Int)(a:RTm)(t:Tm)(w:World)(h:Hp)(g:G w h)(x:RmH d h a t):CR 46 #[iV op,dw a] w h (fun v h1=>∃ r,v=dw r/\RmH (d+1) h1 r (.mk op 0 0 ⟨#[]⟩ [t])) :=
 (Ek op a w h g).mono fun e w' ⟨v,c,e1,up,b,e2,f⟩=>⟨v,c,e1,up,_,e2,tA (x.gw up.gr.gw) f⟩
theorem Df (a:RTm)(t:Tm)(c:Int)(w:World)(h:Hp)(g:G w h)(x:RmH d h a t):CR 47 #[dw a,iV c] w h (fun v h1=>∃ r,v=dw r/\RmH (d+1) h1 r (.mk 8 c 0 ⟨#[]⟩ [t])) :=
 (DJ a c w h g).mono fun e w' ⟨v,f,e1,up,b,e2,i⟩=>⟨v,f,e1,up,_,e2,tA (x.gw up.gr.gw) i⟩
end
theorem uu (e:Nat)(A:Z9)(p:Nat)(u:List Int)(hl:u.length<=9223372036854775807)(hz:l5 u)(dp:Nat)(hdp:dp<=1000)(J:∀ z:Int,z+1=(dp:Nat)->0<=z->∀ at_:Nat,at_<=u.length->∀ (w:World) (h:Hp),G w h->Own w e 63 [.slice A u.length p,nV at_]->h[e]?=some a6->Si A u h->Calls Tryz.prog 15 #[pB e,iV z,.bool false] w (dr e w h (fun v w' h'=>∃ (r:RTm)(t:Tm)(at2:Nat),v=dw r/\at2<=u.length/\Own w' e 63 [.slice A u.length p,nV at2]/\RmH dp h' r t/\GrT dp t)))(at_:Nat)(ha:at_<=u.length)(w:World)(h:Hp)(g:G w h)(ho:Own w e 63 [.slice A u.length p,nV at_])(hj:h[e]?=some a6)(hA:Si A u h):Calls Tryz.prog 15 #[pB e,nV dp,.bool false] w (dr e w h (fun v w' h'=>∃ (r:RTm)(t:Tm)(at2:Nat),v=dw r/\at2<=u.length/\Own w' e 63 [.slice A u.length p,nV at2]/\RmH (dp+1) h' r t/\GrT (dp+1) t)):=by
 have b:UpM [e] w h w h:=UpM.refl g;obtain ⟨wz,sy,a⟩:=SS.at_ g ho hj;replace a:=a.aS hA;refine go Tryz.func15 [(0,pB e),(1,nV dp),(2,qF)] rfl (aD (EL 6 31 (cB ⟨0,0,false,none,0,0,none,0,0,⟨#[]⟩,none,0,0⟩) a (fun y w2 h3 u4 i a=>?_)));replace i:=ez b.gr.size i;replace b:=b.trans (u4.m _);refine aK (lL a ac (eD 11 (rR A p u hl hz e at_ oM _ _ a.g (a.own 1) (a.jk 1) a.f.1) ?_));rintro _ w6 h7 u8 ⟨C,o,rfl,t2,mp,s2⟩;replace a:=(a.stepM 1 u8 s2).to [⟨y,31,cB ⟨0,0,false,none,0,0,none,0,0,⟨#[]⟩,none,0,0⟩⟩,⟨e,63,[qS A u.length p,nV o]⟩] [];replace b:=b.trans u8;have t0:=mp.1;have tq:=mp.2;refine i5 12 (kA (C) 19 oM oM _ _ a.g) ?_;rintro _ _ zr u12 rfl;replace b:=b.trans (u12.m _);replace a:=a.step u12;have lp9:=dy (C) 19 oM;refine lL a ac (af (aa a aF (lG 15 ?_)));refine lG 16 ?_;refine lL a [.v qF] (aj (cK (cQ (kZ (CG.join (fun Γ w_=>∃ (zq:Bool)(j:Hp),Γ=[(0,pB e),(1,nV dp),(2,qF),(6,pB y),(7,nV (bL (C) 19)),(20,.bool zq)]/\SS wz sy w_ j [⟨y,31,cB ⟨0,0,false,none,0,0,none,0,0,⟨#[]⟩,none,0,0⟩⟩,⟨e,63,[qS A u.length p,nV o]⟩] [] [Si A u]/\(zq=true->¬(1<=dp/\2<=(bL (C) 19)/\(bL (C) 19)<17))/\(zq=false->(1<=dp/\2<=(bL (C) 19)/\(bL (C) 19)<17))/\UpM [e] w h w_ j) ?_ ?_)))))
 .
  refine kQ (lL a ac ?_);cases zb:(decide ((dp:Int)<(1:Int)))
  .
   have zu:=oF zb;refine lB 22 zb (lL a aF ?_);cases zc:(decide (((bL (C) 19:Nat):Int)<(2:Int)))
   .
    have zv:=oF zc;refine lB 25 zc (lL a [.v qF,.c,.c] ?_);cases zd:(decide ((17:Int)<=((bL (C) 19:Nat):Int)))
    .
     have zw:=oF zd;refine lB 29 zd (lL a [.v qF,.c] (lD ?_));intro a_ ka;exact ⟨_,⟨false,zr,rfl,a.to _ _,(fun j=>absurd j kD),(fun _=>by omega),b⟩,ka.to _ kR⟩
    have zw:=oT zd;refine lB 29 zd (lL a [.v qT,.c] (lD ?_));intro a_ ka;exact ⟨_,⟨true,zr,rfl,a.to _ _,(fun _=>by omega),(fun j=>absurd j kD),b⟩,ka.to _ kR⟩
   have zv:=oT zc;refine lB 25 zc (lL a [.v qT,.c] (lG 28 ?_));refine lG 29 (lL a [.v qT,.c] (lD ?_));intro a_ ka;exact ⟨_,⟨true,zr,rfl,a.to _ _,(fun _=>by omega),(fun j=>absurd j kD),b⟩,ka.to _ kR⟩
  have zu:=oT zb;refine lB 22 zb (lL a ac (lG 24 ?_));refine lG 25 (lL a [.v qT,.c] (lG 28 ?_));refine lG 29 (lL a [.v qT,.c] (lD ?_));intro a_ ka;exact ⟨_,⟨true,zr,rfl,a.to _ _,(fun _=>by omega),(fun j=>absurd j kD),b⟩,ka.to _ kR⟩
 rintro _ _ ⟨zq,_,rfl,a,t5,s1,b⟩;cases ze:(zq)
 .
  try rw[ze] at a
  try rw[ze]
  refine cG (aD ?_);have t1:=s1 aM;refine lL a ac ?_;cases zf:(decide (((bL (C) 19:Nat):Int)<(4:Int)))
  .
   have zx:=oF zf;refine lB 49 zf (lL a ac (aj (aa a ac ?_)));cases zg:(decide (((bL (C) 19:Nat):Int)<(5:Int)))
   .
    have zA:=oF zg;refine lB 63 zg (lL a ac (aj (aa a ac ?_)));cases zi:(decide (((bL (C) 19:Nat):Int)<(7:Int)))
    .
     have zB:=oF zi;refine lB 77 zi (lL a ac (aj (aa a ac ?_)));cases zj:(decide (((bL (C) 19:Nat):Int)<(8:Int)))
     .
      have zD:=oF zj;refine lB 91 zj (lL a ac (aj (aa a ac ?_)));cases zk:(decide (((bL (C) 19:Nat):Int)<(9:Int)))
      .
       have zE:=oF zk;refine lB 100 zk (lL a ac (aj (aa a ac ?_)));cases zl:(decide (((bL (C) 19:Nat):Int)<(11:Int)))
       .
        have zG:=oF zl;refine lB 117 zl (lL a ac (aj (aa a ac ?_)));cases zm:(decide (((bL (C) 19:Nat):Int)<(12:Int)))
        .
         have zH:=oF zm;refine lB 131 zm (lL a ac (aj (aa a ac ?_)));cases zn:(decide (((bL (C) 19:Nat):Int)<(13:Int)))
         .
          have zI:=oF zn;refine lB 140 zn (lL a ac (aj (aa a ac ?_)));cases zo:(decide (((bL (C) 19:Nat):Int)<(15:Int)))
          .
           have zJ:=oF zo;refine lB 149 zo (lL a ac (aj (aa a ac ?_)));cases zp:(decide (((bL (C) 19:Nat):Int)<(16:Int)))
           .
            have zK:=oF zp;refine lB 158 zp (lL a ac (aj (cK (aa a aF (lI 172 ((dp:Nat)-1) ?_)))));refine lL a ac (eD 174 (J ((dp:Nat)-1) oM oM o oM _ _ a.g (a.own 1) (a.jk 1) a.f.1) ?_);rintro _ _ _ u44 ⟨m3,cp,b0,rfl,tv,r3,rs,q2⟩;replace a:=(a.stepM 1 u44 r3).to [⟨y,31,cB ⟨0,0,false,none,0,0,none,0,0,⟨#[]⟩,none,0,0⟩⟩,⟨e,63,[qS A u.length p,nV b0]⟩] [];replace b:=b.trans u44;replace a:=(a.add (K:=fun j=>RmH dp j m3 cp) rs);refine lL a aF (lI 177 ((dp:Nat)-1) ?_);refine lL a ac (eD 179 (J ((dp:Nat)-1) oM oM b0 oM _ _ a.g (a.own 1) (a.jk 1) a.f.2.1) ?_);rintro _ _ _ u48 ⟨n6,c7,b2,rfl,pn,p1,p2,pw⟩;replace a:=(a.stepM 1 u48 p1).to [⟨y,31,cB ⟨0,0,false,none,0,0,none,0,0,⟨#[]⟩,none,0,0⟩⟩,⟨e,63,[qS A u.length p,nV b2]⟩] [];replace b:=b.trans u48;replace a:=(a.add (K:=fun j=>RmH dp j n6 c7) p2);refine i5 180 (kG 13 m3 n6 cp c7 _ _ a.g a.f.2.1 a.f.1) ?_;rintro _ _ _ u52 ⟨r49,rfl,r1⟩;replace b:=b.trans (u52.m _);replace a:=a.step u52;replace a:=(a.add (K:=fun j=>RmH (dp+1) j r49 (.mk 13 0 0 ⟨#[]⟩ [cp,c7])) r1);refine kH 0 0 (cB r49) a (fun _ x a=>?_);replace b:=b.put2 x i g a.g;refine lN (bS [(6,pB y)] ?_);exact kX (a.retM b [(0,0,7)] (dw r49) ⟨_,_,b2,rfl,pn,a.own 1,a.f.1,q2.two pw rfl⟩)
           have zK:=oT zp;refine lB 158 zp (lL a ac (ar (aa a aF (lI 161 ((dp:Nat)-1) ?_))));refine lL a ac (eD 163 (J ((dp:Nat)-1) oM oM o oM _ _ a.g (a.own 1) (a.jk 1) a.f.1) ?_);rintro _ _ _ u57 ⟨m4,b7,b4,rfl,ts,q6,pv,ql⟩;replace a:=(a.stepM 1 u57 q6).to [⟨y,31,cB ⟨0,0,false,none,0,0,none,0,0,⟨#[]⟩,none,0,0⟩⟩,⟨e,63,[qS A u.length p,nV b4]⟩] [];replace b:=b.trans u57;replace a:=(a.add (K:=fun j=>RmH dp j m4 b7) pv);refine lL a aF (lI 166 ((dp:Nat)-1) ?_);refine lL a ac (eD 168 (J ((dp:Nat)-1) oM oM b4 oM _ _ a.g (a.own 1) (a.jk 1) a.f.2.1) ?_);rintro _ _ _ u61 ⟨mf,cr,bl,rfl,rf,qr,rl,ss⟩;replace a:=(a.stepM 1 u61 qr).to [⟨y,31,cB ⟨0,0,false,none,0,0,none,0,0,⟨#[]⟩,none,0,0⟩⟩,⟨e,63,[qS A u.length p,nV bl]⟩] [];replace b:=b.trans u61;replace a:=(a.add (K:=fun j=>RmH dp j mf cr) rl);refine i5 169 (kG 12 m4 mf b7 cr _ _ a.g a.f.2.1 a.f.1) ?_;rintro _ _ _ u65 ⟨r62,rfl,sb⟩;replace b:=b.trans (u65.m _);replace a:=a.step u65;replace a:=(a.add (K:=fun j=>RmH (dp+1) j r62 (.mk 12 0 0 ⟨#[]⟩ [b7,cr])) sb);refine kH 0 0 (cB r62) a (fun _ x a=>?_);replace b:=b.put2 x i g a.g;refine lN (bS [(0,pB e),(1,nV dp),(2,qF),(6,pB y)] ?_);exact kX (a.retM b [(0,0,7)] (dw r62) ⟨_,_,bl,rfl,rf,a.own 1,a.f.1,ql.two ss rfl⟩)
          have zJ:=oT zo;refine lB 149 zo (lL a ac (ar (aa a aF (lI 152 ((dp:Nat)-1) ?_))));refine lL a ac (eD 154 (J ((dp:Nat)-1) oM oM o oM _ _ a.g (a.own 1) (a.jk 1) a.f.1) ?_);rintro _ _ _ u70 ⟨m0,c6,bt,rfl,sr,r2,q0,q5⟩;replace a:=(a.stepM 1 u70 r2).to [⟨y,31,cB ⟨0,0,false,none,0,0,none,0,0,⟨#[]⟩,none,0,0⟩⟩,⟨e,63,[qS A u.length p,nV bt]⟩] [];replace b:=b.trans u70;replace a:=(a.add (K:=fun j=>RmH dp j m0 c6) q0);refine i5 155 (qo 11 m0 c6 _ _ a.g a.f.1) ?_;rintro _ _ _ u74 ⟨r71,rfl,sc⟩;replace b:=b.trans (u74.m _);replace a:=a.step u74;replace a:=(a.add (K:=fun j=>RmH (dp+1) j r71 (.mk 11 0 0 ⟨#[]⟩ [c6])) sc);refine kH 0 0 (cB r71) a (fun _ x a=>?_);replace b:=b.put2 x i g a.g;exact lN (kX (a.retM b [(0,0,7)] (dw r71) ⟨_,_,bt,rfl,sr,a.own 1,a.f.1,q5.one rfl (fun _=>rfl) kD kD⟩))
         have zI:=oT zn;refine lB 140 zn (lL a ac (ar (aa a aF (lI 143 ((dp:Nat)-1) ?_))));refine lL a ac (eD 145 (J ((dp:Nat)-1) oM oM o oM _ _ a.g (a.own 1) (a.jk 1) a.f.1) ?_);rintro _ _ _ u79 ⟨nq,df,bx,rfl,r4,r9,pl,q4⟩;replace a:=(a.stepM 1 u79 r9).to [⟨y,31,cB ⟨0,0,false,none,0,0,none,0,0,⟨#[]⟩,none,0,0⟩⟩,⟨e,63,[qS A u.length p,nV bx]⟩] [];replace b:=b.trans u79;replace a:=(a.add (K:=fun j=>RmH dp j nq df) pl);refine i5 146 (qo 10 nq df _ _ a.g a.f.1) ?_;rintro _ _ _ u83 ⟨r80,rfl,pp⟩;replace b:=b.trans (u83.m _);replace a:=a.step u83;replace a:=(a.add (K:=fun j=>RmH (dp+1) j r80 (.mk 10 0 0 ⟨#[]⟩ [df])) pp);refine kH 0 0 (cB r80) a (fun _ x a=>?_);replace b:=b.put2 x i g a.g;exact lN (kX (a.retM b [(0,0,7)] (dw r80) ⟨_,_,bx,rfl,r4,a.own 1,a.f.1,q4.one rfl (fun _=>rfl) kD kD⟩))
        have zH:=oT zm;refine lB 131 zm (lL a ac (ar (aa a aF (lI 134 ((dp:Nat)-1) ?_))));refine lL a ac (eD 136 (J ((dp:Nat)-1) oM oM o oM _ _ a.g (a.own 1) (a.jk 1) a.f.1) ?_);rintro _ _ _ u88 ⟨l1,cm,bn,rfl,st,q1,rd,q3⟩;replace a:=(a.stepM 1 u88 q1).to [⟨y,31,cB ⟨0,0,false,none,0,0,none,0,0,⟨#[]⟩,none,0,0⟩⟩,⟨e,63,[qS A u.length p,nV bn]⟩] [];replace b:=b.trans u88;replace a:=(a.add (K:=fun j=>RmH dp j l1 cm) rd);refine i5 137 (qo 9 l1 cm _ _ a.g a.f.1) ?_;rintro _ _ _ u92 ⟨r89,rfl,p0⟩;replace b:=b.trans (u92.m _);replace a:=a.step u92;replace a:=(a.add (K:=fun j=>RmH (dp+1) j r89 (.mk 9 0 0 ⟨#[]⟩ [cm])) p0);refine kH 0 0 (cB r89) a (fun _ x a=>?_);replace b:=b.put2 x i g a.g;exact lN (kX (a.retM b [(0,0,7)] (dw r89) ⟨_,_,bn,rfl,st,a.own 1,a.f.1,q3.one rfl (fun _=>rfl) kD kD⟩))
       have zG:=oT zl;refine lB 117 zl (lL a ac (ar (aa a aF (lI 120 ((dp:Nat)-1) ?_))));refine lL a ac (eD 122 (J ((dp:Nat)-1) oM oM o oM _ _ a.g (a.own 1) (a.jk 1) a.f.1) ?_);rintro _ _ _ u97 ⟨nd,c3,b3,rfl,tp,qs,qq,p4⟩;replace a:=(a.stepM 1 u97 qs).to [⟨y,31,cB ⟨0,0,false,none,0,0,none,0,0,⟨#[]⟩,none,0,0⟩⟩,⟨e,63,[qS A u.length p,nV b3]⟩] [];replace b:=b.trans u97;replace a:=(a.add (K:=fun j=>RmH dp j nd c3) qq);refine lL a aF (lI 125 ((dp:Nat)-1) ?_);refine lL a ac (eD 127 (J ((dp:Nat)-1) oM oM b3 oM _ _ a.g (a.own 1) (a.jk 1) a.f.2.1) ?_);rintro _ _ _ l4 ⟨nj,ch,bq,rfl,qb,r0,p3,q8⟩;replace a:=(a.stepM 1 l4 r0).to [⟨y,31,cB ⟨0,0,false,none,0,0,none,0,0,⟨#[]⟩,none,0,0⟩⟩,⟨e,63,[qS A u.length p,nV bq]⟩] [];replace b:=b.trans l4;replace a:=(a.add (K:=fun j=>RmH dp j nj ch) p3);refine i5 128 (kG 6 nd nj c3 ch _ _ a.g a.f.2.1 a.f.1) ?_;rintro _ _ _ mx ⟨c9,rfl,hy⟩;replace b:=b.trans (mx.m _);replace a:=a.step mx;replace a:=(a.add (K:=fun j=>RmH (dp+1) j c9 (.mk 6 0 0 ⟨#[]⟩ [c3,ch])) hy);refine kH 0 0 (cB c9) a (fun _ x a=>?_);replace b:=b.put2 x i g a.g;exact lN (kX (a.retM b [(0,0,7)] (dw c9) ⟨_,_,bq,rfl,qb,a.own 1,a.f.1,p4.two q8 rfl⟩))
      have zE:=oT zk;refine lB 100 zk (lL a ac (ar (aa a ac (eD 102 (rR A p u hl hz e o oM _ _ a.g (a.own 1) (a.jk 1) a.f.1) ?_))));rintro _ _ _ l0 ⟨S,U,rfl,s4,bk,hb⟩;replace a:=(a.stepM 1 l0 hb).to [⟨y,31,cB ⟨0,0,false,none,0,0,none,0,0,⟨#[]⟩,none,0,0⟩⟩,⟨e,63,[qS A u.length p,nV U]⟩] [];replace b:=b.trans l0;have s0:=bk.1;have s3:=bk.2;refine i5 103 (kA (S) 6 oM oM _ _ a.g) ?_;rintro _ _ _ lx rfl;replace b:=b.trans (lx.m _);replace a:=a.step lx;have tb:=dy (S) 6 oM;refine lI 104 ((bL (S) 6:Nat)-2) (lL a ac (af (aa a ac (aj (cK (aa a aF (lI 110 ((dp:Nat)-1) ?_)))))));refine lL a ac (eD 112 (J ((dp:Nat)-1) oM oM U oM _ _ a.g (a.own 1) (a.jk 1) a.f.1) ?_);rintro _ _ _ ly ⟨cb,V,I,rfl,k1,hx,h6,f6⟩;replace a:=(a.stepM 1 ly hx).to [⟨y,31,cB ⟨0,0,false,none,0,0,none,0,0,⟨#[]⟩,none,0,0⟩⟩,⟨e,63,[qS A u.length p,nV I]⟩] [];replace b:=b.trans ly;replace a:=(a.add (K:=fun j=>RmH dp j cb V) h6);refine lL a ac (i5 114 (Df cb V ((bL (S) 6:Nat)-2) _ _ a.g a.f.1) ?_);rintro _ _ _ n7 ⟨b6,rfl,d2⟩;replace b:=b.trans (n7.m _);replace a:=a.step n7;replace a:=(a.add (K:=fun j=>RmH (dp+1) j b6 (.mk 8 ((bL (S) 6:Nat)-2) 0 ⟨#[]⟩ [V])) d2);refine kH 0 0 (cB b6) a (fun _ x a=>?_);replace b:=b.put2 x i g a.g;exact lN (kX (a.retM b [(0,0,7)] (dw b6) ⟨_,_,I,rfl,k1,a.own 1,a.f.1,f6.one rfl (fun j=>absurd rfl j) oM oM⟩))
     have zD:=oT zj;refine lB 91 zj (lL a ac (ar (aa a aF (lI 94 ((dp:Nat)-1) ?_))));refine lL a ac (eD 96 (J ((dp:Nat)-1) oM oM o oM _ _ a.g (a.own 1) (a.jk 1) a.f.1) ?_);rintro _ _ _ k4 ⟨c5,bb,D,rfl,f7,f3,j1,h4⟩;replace a:=(a.stepM 1 k4 f3).to [⟨y,31,cB ⟨0,0,false,none,0,0,none,0,0,⟨#[]⟩,none,0,0⟩⟩,⟨e,63,[qS A u.length p,nV D]⟩] [];replace b:=b.trans k4;replace a:=(a.add (K:=fun j=>RmH dp j c5 bb) j1);refine i5 97 (qo 7 c5 bb _ _ a.g a.f.1) ?_;rintro _ _ _ mw ⟨cf,rfl,f1⟩;replace b:=b.trans (mw.m _);replace a:=a.step mw;replace a:=(a.add (K:=fun j=>RmH (dp+1) j cf (.mk 7 0 0 ⟨#[]⟩ [bb])) f1);refine kH 0 0 (cB cf) a (fun _ x a=>?_);replace b:=b.put2 x i g a.g;exact lN (kX (a.retM b [(0,0,7)] (dw cf) ⟨_,_,D,rfl,f7,a.own 1,a.f.1,h4.one rfl (fun _=>rfl) kD kD⟩))
    have zB:=oT zi;refine lB 77 zi (lL a ac (ar (aa a aF (lI 80 ((dp:Nat)-1) ?_))));refine lL a ac (eD 82 (J ((dp:Nat)-1) oM oM o oM _ _ a.g (a.own 1) (a.jk 1) a.f.1) ?_);rintro _ _ _ n1 ⟨cz,bf,O,rfl,s6,hn,fp,hd⟩;replace a:=(a.stepM 1 n1 hn).to [⟨y,31,cB ⟨0,0,false,none,0,0,none,0,0,⟨#[]⟩,none,0,0⟩⟩,⟨e,63,[qS A u.length p,nV O]⟩] [];replace b:=b.trans n1;replace a:=(a.add (K:=fun j=>RmH dp j cz bf) fp);refine lL a aF (lI 85 ((dp:Nat)-1) ?_);refine lL a ac (eD 87 (J ((dp:Nat)-1) oM oM O oM _ _ a.g (a.own 1) (a.jk 1) a.f.2.1) ?_);rintro _ _ _ mb ⟨b5,W,F,rfl,f2,f8,h8,d0⟩;replace a:=(a.stepM 1 mb f8).to [⟨y,31,cB ⟨0,0,false,none,0,0,none,0,0,⟨#[]⟩,none,0,0⟩⟩,⟨e,63,[qS A u.length p,nV F]⟩] [];replace b:=b.trans mb;replace a:=(a.add (K:=fun j=>RmH dp j b5 W) h8);refine i5 88 (kG 5 cz b5 bf W _ _ a.g a.f.2.1 a.f.1) ?_;rintro _ _ _ ls ⟨dc,rfl,kx⟩;replace b:=b.trans (ls.m _);replace a:=a.step ls;replace a:=(a.add (K:=fun j=>RmH (dp+1) j dc (.mk 5 0 0 ⟨#[]⟩ [bf,W])) kx);refine kH 0 0 (cB dc) a (fun _ x a=>?_);replace b:=b.put2 x i g a.g;exact lN (kX (a.retM b [(0,0,7)] (dw dc) ⟨_,_,F,rfl,f2,a.own 1,a.f.1,hd.two d0 rfl⟩))
   have zA:=oT zg;refine lB 63 zg (lL a ac (ar (aa a aF (lI 66 ((dp:Nat)-1) ?_))));refine lL a ac (eD 68 (J ((dp:Nat)-1) oM oM o oM _ _ a.g (a.own 1) (a.jk 1) a.f.1) ?_);rintro _ _ _ mv ⟨cw,Z,M,rfl,s9,h9,hp,fm⟩;replace a:=(a.stepM 1 mv h9).to [⟨y,31,cB ⟨0,0,false,none,0,0,none,0,0,⟨#[]⟩,none,0,0⟩⟩,⟨e,63,[qS A u.length p,nV M]⟩] [];replace b:=b.trans mv;replace a:=(a.add (K:=fun j=>RmH dp j cw Z) hp);refine lL a aF (lI 71 ((dp:Nat)-1) ?_);refine lL a ac (eD 73 (J ((dp:Nat)-1) oM oM M oM _ _ a.g (a.own 1) (a.jk 1) a.f.2.1) ?_);rintro _ _ _ pb ⟨cy,Y,L,rfl,d1,f9,h2,h5⟩;replace a:=(a.stepM 1 pb f9).to [⟨y,31,cB ⟨0,0,false,none,0,0,none,0,0,⟨#[]⟩,none,0,0⟩⟩,⟨e,63,[qS A u.length p,nV L]⟩] [];replace b:=b.trans pb;replace a:=(a.add (K:=fun j=>RmH dp j cy Y) h2);refine i5 74 (kG 4 cw cy Z Y _ _ a.g a.f.2.1 a.f.1) ?_;rintro _ _ _ my ⟨ds,rfl,hq⟩;replace b:=b.trans (my.m _);replace a:=a.step my;replace a:=(a.add (K:=fun j=>RmH (dp+1) j ds (.mk 4 0 0 ⟨#[]⟩ [Z,Y])) hq);refine kH 0 0 (cB ds) a (fun _ x a=>?_);replace b:=b.put2 x i g a.g;exact lN (kX (a.retM b [(0,0,7)] (dw ds) ⟨_,_,L,rfl,d1,a.own 1,a.f.1,fm.two h5 rfl⟩))
  have zx:=oT zf;refine lB 49 zf (lL a ac (ar (aa a aF (lI 52 ((dp:Nat)-1) ?_))));refine lL a ac (eD 54 (J ((dp:Nat)-1) oM oM o oM _ _ a.g (a.own 1) (a.jk 1) a.f.1) ?_);rintro _ _ _ m5 ⟨cx,bd,H,rfl,s5,hw,kn,k3⟩;replace a:=(a.stepM 1 m5 hw).to [⟨y,31,cB ⟨0,0,false,none,0,0,none,0,0,⟨#[]⟩,none,0,0⟩⟩,⟨e,63,[qS A u.length p,nV H]⟩] [];replace b:=b.trans m5;replace a:=(a.add (K:=fun j=>RmH dp j cx bd) kn);refine lL a aF (lI 57 ((dp:Nat)-1) ?_);refine lL a ac (eD 59 (J ((dp:Nat)-1) oM oM H oM _ _ a.g (a.own 1) (a.jk 1) a.f.2.1) ?_);rintro _ _ _ m1 ⟨dn,X,Q,rfl,hh,kq,hm,kr⟩;replace a:=(a.stepM 1 m1 kq).to [⟨y,31,cB ⟨0,0,false,none,0,0,none,0,0,⟨#[]⟩,none,0,0⟩⟩,⟨e,63,[qS A u.length p,nV Q]⟩] [];replace b:=b.trans m1;replace a:=(a.add (K:=fun j=>RmH dp j dn X) hm);refine i5 60 (kG 3 cx dn bd X _ _ a.g a.f.2.1 a.f.1) ?_;rintro _ _ _ pc ⟨b9,rfl,ht⟩;replace b:=b.trans (pc.m _);replace a:=a.step pc;replace a:=(a.add (K:=fun j=>RmH (dp+1) j b9 (.mk 3 0 0 ⟨#[]⟩ [bd,X])) ht);refine kH 0 0 (cB b9) a (fun _ x a=>?_);replace b:=b.put2 x i g a.g;exact lN (kX (a.retM b [(0,0,7)] (dw b9) ⟨_,_,Q,rfl,hh,a.own 1,a.f.1,k3.two kr rfl⟩))
 try rw[ze] at a
 try rw[ze]
 refine bY (aa a ac (eD 32 (rR A p u hl hz e o oM _ _ a.g (a.own 1) (a.jk 1) a.f.1) ?_));rintro _ _ _ lb ⟨l,B,rfl,bm,bz,hc⟩;replace a:=(a.stepM 1 lb hc).to [⟨y,31,cB ⟨0,0,false,none,0,0,none,0,0,⟨#[]⟩,none,0,0⟩⟩,⟨e,63,[qS A u.length p,nV B]⟩] [];replace b:=b.trans lb;have c8:=bz.1;have cq:=bz.2;have t3:=pf l 3 oM c8 cq;refine lL a ac (af (aa a ac (i5 34 (kA (l) 3 oM oM _ _ a.g) ?_)));rintro _ _ _ n2 rfl;replace b:=b.trans (n2.m _);replace a:=a.step n2;have tn:=dy (l) 3 oM;cases za:(((bL (l) 3:Nat):Int) == (0:Int))
 .
  have zt:=aq za;refine lB 35 za (aj (cK (aD (i5 40 (uE _ _ a.g) ?_))));rintro _ _ _ nn ⟨bN,rfl,hN0⟩;replace b:=b.trans (nn.m _);replace a:=a.step nn;replace a:=a.aS hN0;have t4:eb.length=3:=rfl;refine lL a ac (lV 42 (iV ((l).tdiv 3)) ?_ (hr:=rS (((l).tdiv 3)) kR (mc oM oM)));refine i5 43 (kA ((l).tdiv 3) 3 oM oM _ _ a.g) ?_;rintro _ _ _ ms rfl;replace b:=b.trans (ms.m _);replace a:=a.step ms;have tt:=dy ((l).tdiv 3) 3 oM;refine lX 44 (sB bN) 3 3 1 (bL ((l).tdiv 3) 3:Nat) (bL ((l).tdiv 3) 3:Nat) ((a.f.1).ok oM) (lH 45 (.string (eb.getD (bL ((l).tdiv 3) 3:Nat) ⟨#[]⟩)) a ((a.f.1).el (bL ((l).tdiv 3) 3:Nat) oM) (lL a [.v (dw ⟨2,0,false,none,0,0,none,0,0,eb.getD (bL ((l).tdiv 3) 3:Nat) ⟨#[]⟩,none,0,0⟩)] (kH 0 0 (cB ⟨2,0,false,none,0,0,none,0,0,eb.getD (bL ((l).tdiv 3) 3:Nat) ⟨#[]⟩,none,0,0⟩) a (fun _ x a=>?_))));replace b:=b.put2 x i g a.g;exact lN (kX (a.retM b [(0,0,7)] (dw ⟨2,0,false,none,0,0,none,0,0,eb.getD (bL ((l).tdiv 3) 3:Nat) ⟨#[]⟩,none,0,0⟩) ⟨⟨2,0,false,none,0,0,none,0,0,eb.getD (bL ((l).tdiv 3) 3:Nat) ⟨#[]⟩,none,0,0⟩,_,B,rfl,bm,a.own 1,xa,GrT.name (Cl oM)⟩))
 have zt:=eq_of_beq za;refine lB 35 za (ar (aa a ac (lV 37 (iV ((l).tdiv 3)) ?_ (hr:=rS (((l).tdiv 3)) kR (mc oM oM)))));refine i5 38 (hR ((l).tdiv 3) oM oM _ _ a.g) ?_;rintro _ _ _ mz ⟨zQ,zR,zS,zU,rfl,zL,zM,zN,zP⟩;replace b:=b.trans (mz.m _);replace a:=a.step mz;replace a:=a.aP zN zP;refine i5 39 (EQ (d:=dp) (aw (cD ((l).tdiv 3)).num) zQ ((lim (ab (cD ((l).tdiv 3)).num)).length) zR zS ((lim (cD ((l).tdiv 3)).den).length) zU _ _ a.g ⟨true,⟨_,_,_,_,rfl,zL,zM,a.f.2.1,a.f.1⟩,fun j=>(by cases j)⟩) ?_;rintro _ _ _ pk ⟨cd,rfl,fn⟩;replace b:=b.trans (pk.m _);replace a:=a.step pk;replace a:=(a.add (K:=fun j=>RmH (dp+1) j cd (.mk 1 0 (cD ((l).tdiv 3)) ⟨#[]⟩ [])) fn);refine kH 0 0 (cB cd) a (fun _ x a=>?_);replace b:=b.put2 x i g a.g;exact lN (kX (a.retM b [(0,0,7)] (dw cd) ⟨_,_,B,rfl,bm,a.own 1,a.f.1,GrT.num (LQ.hand _)⟩))
theorem xP (a:Nat):∀ (k:Nat) {z:Int},z=(k:Nat)->∀ (A:Z9) (cap:Nat) (zs:List Int) (hl:zs.length<=9223372036854775807) (hz:l5 zs) (dp:Nat),dp=k->dp<=1000->∀ (at_:Nat),at_<=zs.length->∀ (w:World) (h:Hp),G w h->Own w a 63 [.slice A zs.length cap,nV at_]->h[a]?=some a6->Si A zs h->Calls Tryz.prog 15 #[pB a,iV z,.bool false] w (dr a w h (fun v w' b=>∃ (r:RTm)(t:Tm)(at2:Nat),v=dw r/\at2<=zs.length/\Own w' a 63 [.slice A zs.length cap,nV at2]/\RmH (dp+1) b r t/\GrT (dp+1) t))
  | 0,z,e,A,cap,zs,hl,hz,dp,ed,hd,at_,ha,w,h,g,ho,hj,hA=>by
    subst ed e;exact uu a A cap zs hl hz 0 hd (fun z h1 c=>by omega) at_ ha w h g ho hj hA
  | k+1,z,e,A,cap,zs,hl,hz,dp,ed,hd,at_,ha,w,h,g,ho,hj,hA=>by
    subst ed e;exact uu a A cap zs hl hz (k+1) hd (fun z h1 c=>xP a k (z:=z) oM A cap zs hl hz k rfl oM) at_ ha w h g ho hj hA
theorem Cd {h:Hp}{b:Bool}{i c:Z9}{f d a j:Nat}{q:Rat}(x:RZ h (b,.slice i f d,.slice c a j) q)(e:a=0):q=0:=by subst e;exact DL x
theorem tg  (sm:ByteArray->Prop)(d:Nat)(ih:∀ (r:RTm) (t:Tm) (w:World) (h:Hp),G w h->RmH d h r t->SmT sm d t->Tab h->Calls Tryz.prog 5 #[dw r] w (Ret w h (fun v h1=>∃ p,v=az p/\TmH d h1 p t)))(op n:Int)(H:Bool)(I:Z9)(F J:Nat)(B:Z9)(z C:Nat)(q:Rat)(s:ByteArray)(A:Z9)(c:Nat)(y:List RTm)(ks:List Tm)(hc:y.length<=c)(hk3:ks.length<=3)(hop : -1000<=op/\op<=1000)(hn : -1000<=n/\n<=1000)(hq:LQ 3000 q)(hsm:sm s)(hW:∀ i,i<ks.length->SmT sm d (ks.getD i bZ))(w:World)(h:Hp)(g:G w h)(hZ:RZ h (H,.slice I F J,.slice B z C) q)(hK:SlO 7 cB fV h A y)(hKs:Rms d h y ks)(tb:Tab h):CR 5 #[dw ⟨op,n,H,I,F,J,B,z,C,s,A,y.length,c⟩] w h (fun v h1=>∃ p,v=az p/\TmH (d+1) h1 p (.mk op n q s ks)):=by
 have a:=(((((sS g).add (K:=fun j=>RZ j (H,qS I F J,qS B z C) q) hZ).aS hK).add (K:=fun j=>Rms d j y ks) hKs).aB tb);have hln:=(a.f.2.1).len;refine go Tryz.func5 [(0,dw ⟨op,n,H,I,F,J,B,z,C,s,A,y.length,c⟩)] rfl (aD (lA 1 31 (cB ⟨op,n,H,I,F,J,B,z,C,s,A,y.length,c⟩) a (fun D w2 h3 a=>lA 2 42 ca a (fun U w5 h6 a=>aK (lL a [.v (pB D),.o (iV op) 1 0 1,.v (qP D 1),.o (iV n) 1 1 1,.v (qP D 5),.o (.string s) 1 5 1,.v (.agg #[iV op,iV n,qF,uV 0,eS,uV 0,eS,.string s,sZ])] (lA 3 42 ca a (fun M w8 h9 a=>lP 0 0 ([iV op,iV n,qF,uV 0,eS,uV 0,eS,.string s,sZ]) a (fun _ a=>?_))))))));refine lN (CG.join (fun Γ w_=>∃ (L:Rat)(j:Hp),Γ=[(1,pB D),(2,pB U),(3,pB M)]/\SS w h w_ j [⟨M,42,be ⟨op,n,L,s,none,0,0⟩⟩,⟨U,42,[iV 0,iV 0,qF,uV 0,eS,uV 0,eS,eS,sZ]⟩,⟨D,31,cB ⟨op,n,H,I,F,J,B,z,C,s,A,y.length,c⟩⟩] [] [fun j=>Tab j,fun j=>Rms d j y ks,fun j=>SlO 7 cB fV j A y,fun j=>RZ j (H,qS I F J,qS B z C) q]/\L=q) ?_ ?_)
 .
  refine aa a [.v (qP D 2),.v (qP D 4),.o (qS B z C) 2 4 1,.v (nV z)] ?_;cases V:(decide ((0:Int)<(z:Int)))
  .
   have zd:=oF V;refine lB 16 V (aj (CG.skip ?_));intro a_ Q;exact ⟨_,⟨0,h9,rfl,a.to _ _,((Cd a.f.r.2.1 oM).symm)⟩,Q.to _ kR⟩
  have zd:=oT V;refine lB 16 V (ar (kQ (lL a [.v (qP D 2),.o (.agg #[.bool H,qS I F J,qS B z C]) 2 2 3] (ao 19 a (Dw (.agg #[.bool H,qS I F J,qS B z C]) q (hq.mono oM) _ _ a.g (Bf a.f.r.2.1 oM) a.f.1) (fun _ zj a=>lL a [.v (qP M 2)] (lP 0 2 (qc q) a (fun _ a=>lD ?_)))))));intro a_ Q;exact ⟨_,⟨q,zj,rfl,a.to _ _,rfl⟩,Q.to _ kR⟩
 rintro _ _ ⟨L,zk,rfl,a,W⟩;refine cQ (aa a ac (ba ?_));replace a:=a.nil 42 9;replace a:=a.add (K:=fun j=>Tms d j ([]) (ks.take 0)) (Tms.nil);refine bS _ (CG.loop (fun μ_ Γ w_=>∃ (k:Nat)(u:Z9)(e:Nat)(x:List PTm)(j:Hp),μ_=y.length-k/\Γ=[(1,pB D),(2,pB U),(3,pB M),(4,nV k)]/\SS w h w_ j [⟨M,42,pG op n L s u ((x).length) e⟩,⟨U,42,[iV 0,iV 0,qF,uV 0,eS,uV 0,eS,eS,sZ]⟩,⟨D,31,cB ⟨op,n,H,I,F,J,B,z,C,s,A,y.length,c⟩⟩] [⟨42,9,u,e,(x).length,(x).flatMap be⟩] [fun j=>Tms d j x (ks.take k),fun j=>Tab j,fun j=>Rms d j y ks,fun j=>SlO 7 cB fV j A y,fun j=>RZ j (H,qS I F J,qS B z C) q]/\k<=y.length) _ ⟨0,none,0,[],zk,rfl,rfl,a.to _ _,GA _⟩ ?_);rintro _ _ _ ⟨k,u,e,x,_,bb,rfl,a,hk⟩;have Z:=(a.f.1).len;rw[List.length_take] at Z
 refine cQ (aa a [.c,.v (qP D 6),.o (qS A y.length c) 2 6 1,.v (nV y.length)] ?_);cases S:(decide ((k:Int)<(y.length:Int)))
 .
  have ze:=oF S;refine lB 25 S (aj (CG.exit ?_))
  show CG _ _ _ _ _ _ _ _
  refine aD ?_;have X:k=ks.length:=by omega
  obtain ⟨_,a,zi⟩:=a.pubr 0 (A:=u) (c:=e) (l:=x) (f:=be) (ty:=42) (sz:=9) aZ (fun _=>rfl);exact lL a [.o (az ⟨op,n,L,s,u,(x).length,e⟩) 0 0 9] (lP 1 0 (be ⟨op,n,L,s,u,(x).length,e⟩) a (fun _ a=>ae a [(1,0,9)] (az ⟨op,n,L,s,u,(x).length,e⟩) (⟨⟨op,n,L,s,u,x.length,e⟩,rfl,by subst W;exact TmH.mk (by have x_:=(a.f.2.1);rw[X,List.take_length] at x_;exact x_) zi a.f.1⟩)))
 have ze:=oT S;refine lB 25 S (ar (cK (cQ (kZ (CG.region ⟨((Value.slice u ((x).length) e).ownBlock.toList),none⟩ 10 [] mixed kR a.g am (a.ro_lt 0 (ty:=42) (sz:=9) (A:=u) (c:=e) (m:=(x).length) (cs:=(x).flatMap be)) ?_)))));refine eV 0 28 (qP M 8) (eO 1 29 [(0,8,1)] (qS u ((x).length) e) a ?_ (hM:=fun p Y=>by obtain rfl:=ul.1 Y;exact a.ro_ne 0 0 (ty:=42) (sz:=9) (A:=u) (c:=e) (m:=(x).length) (cs:=(x).flatMap be)));refine eV 2 30 (qP D 6) (eO 3 31 [(2,6,1)] (qS A y.length c) a ?_ (hM:=fun p Y=>by obtain rfl:=ul.1 Y;exact a.ro_ne 2 0 (ty:=42) (sz:=9) (A:=u) (c:=e) (m:=(x).length) (cs:=(x).flatMap be)));refine eV 4 32 (nV k) (eX 5 33 A y.length c 7 (k:Nat) k ((a.f.r.2.1).ok oM) (eH 6 34 (dw (y.getD k fV)) a ((a.f.r.2.1).el k oM) ?_ (hM:=a.ro_jk 0 (ty:=42) (sz:=9) (A:=u) (c:=e) (m:=(x).length) (cs:=(x).flatMap be))));refine eC 7 35 a (fun _ _ a=>ih (y.getD k fV) (ks.getD k bZ) _ _ a.g ((a.f.r.1).at_ k oM) (hW k oM) a.f.2.1) ?_;rintro _ _ _ _ _ a ⟨O,rfl,hpk⟩;replace a:=(a.add (K:=fun j=>TmH d j O (ks.getD k bZ)) hpk);refine eR 8 36 42 1 (pC O) a (fun zl _ _ a=>eY 9 37 0 42 9 e u x be O 112 zl (.agg #[iV 0,iV 0,qF,uV 0,eS,uV 0,eS,eS,sZ]) a (fun _ f_=>f_.1) (fun b hb=>Option.mem_toList.2 hb) (fun zf zg _ _ a=>bW a (fun _ zm a=>tV 10 38 (qP M 8) (tP 11 0 8 ([qS zf ((x++[O]).length) zg]) a (fun _ a=>tN (kQ (lL a ac (bA 27 ((k:Nat)+1) (k+1) ?_))))))));refine lL a ac (lD ?_);intro a_ Q;replace a:=(a.tl.tl.tl.add (K:=fun j=>Tms d j (x++[O]) (ks.take (k+1))) (by rw[kj bZ oM];exact (a.f.r.1).snoc a.f.2.1));refine ⟨_,_,?_,⟨k+1,zf,zg,x++[O],zm,rfl,rfl,a.to _ _,oM⟩,Q.to _ kR⟩
 omega
theorem mh (sm:ByteArray->Prop):∀ (d:Nat) (r:RTm) (t:Tm) (w:World) (h:Hp),G w h->RmH d h r t->SmT sm d t->Tab h->Calls Tryz.prog 5 #[dw r] w (Ret w h (fun v h1=>∃ p,v=az p/\TmH d h1 p t))
  | 0,_,_,_,_,_,x,_,_=>x.elim
  | d+1,r,t,w,h,g,x,wf,tb=>by
    obtain ⟨op,n,b,y,u,F,l,j,J,q,s,A,c,f,ks,rfl,rfl,i,B,D,a⟩:=x.open;obtain ⟨C,e,H,o,I,z⟩:=wf;exact tg sm d (fun r t w h=>mh sm d r t w h) op n b y u F l j J q s A c f ks B C e H o I z w h g i D a tb
theorem DrunR.lq {d:Nat}{t:Tm}{ns:List ByteArray}{fs:List Rat}{e:Int}{q:Rat}{f:List Rat}(x:DrunR d t ns fs e q f)(j:∀ i,LQ 1 (fs.getD i 0))(h:d<=20):LQ 3000 q/\(∀ i,LQ 1000000 (f.getD i 0))/\f.length<=fs.length:=by
 obtain ⟨c,c1,⟨_,_,rfl,rfl⟩|⟨h0,a⟩⟩:=x
 ·exact ⟨iZ kD,fun i=>by rw[dL];exact iZ kD,GA _⟩
 ·have b:=c1.ok h0
  have wf:=vj b;obtain ⟨_,l,k2⟩:=jE (ix:=bB ns) j wf;have g:=b.1.2;have e1:q=(aA (bB ns) fs d t).2.1:=congrArg (·.2.1) a;have e2:f=(aA (bB ns) fs d t).2.2:=congrArg (·.2.2) a;rw[e1,e2];refine ⟨l.mono oM,fun i=>(k2 i).mono (by have:=Gm g h;omega),?_⟩
  by_cases z:(aA (bB ns) fs d t).1=0
  ·rw[dM wf z];exact ey _
  ·rw[Bl z];exact GA _
theorem sK (A:Z9)(b:Nat)(d:List Int)(p:d.length<=9223372036854775807)(hz:l5 d)(dp:Nat)(i:dp<=1000)(w:World)(h:Hp)(g:G w h)(B:Si A d h):CR 4 #[.slice A d.length b,nV dp] w h (fun v h1=>∃ (r:RTm)(t:Tm),v=dw r/\RmH (dp+1) h1 r t/\GrT (dp+1) t):=by
 have a:=((sS g).aS B);refine go Tryz.func4 [(0,qS A d.length b),(1,nV dp)] rfl (aD (lA 4 31 (cB ⟨0,0,false,none,0,0,none,0,0,⟨#[]⟩,none,0,0⟩) a (fun o w2 D a=>aK (lL a [.c,.v (.agg #[qS A d.length b,iV 0])] (lA 7 63 ([qS A d.length b,iV 0]) a (fun l I H a=>lL a ac (eD 9 (xP l dp rfl A b d p hz dp rfl i 0 (GA _) _ _ a.g (a.own 0) (a.jk 0) a.f.1) ?_)))))));rintro _ F C x ⟨r,t,e,rfl,j,y,hR,u⟩;replace a:=(a.stepM 0 x y).to [⟨l,63,[qS A d.length b,nV e]⟩,⟨o,31,cB ⟨0,0,false,none,0,0,none,0,0,⟨#[]⟩,none,0,0⟩⟩] [];replace a:=(a.add (K:=fun z=>RmH (dp+1) z r t) hR);exact lP 1 0 (cB r) a (fun _ a=>ae a [(1,0,7)] (dw r) (⟨r,t,rfl,a.f.1,u⟩))
def eJ (a b:List Rat)(i:Nat):Nat->Rat
  | 0=>0
  | j+1=>eJ a b i j+a.getD j 0*b.getD (i-j) 0
def eE (m:Nat)(q:Rat):List Rat:=(yJ m (0:Rat)).set 0 q
def lh (m:Nat)(x y:Rat):List Rat:=if 1<m then (eE m x).set 1 y else eE m x
def iR (m:Nat)(a b:List Rat):List Rat:=(ov m).map fun i=>eJ a b i (i+1)
def e8 (a:List Rat)(m:Nat):Nat->List Rat
  | 0=>yJ m 0
  | i+1=>(e8 a m i).set i (if i=0 then ((1:Int):Rat)/a.getD 0 0 else -(eJ (e8 a m i) a i i*(e8 a m i).getD 0 0))
def fj (m:Nat)(a:List Rat):List Rat:=e8 a m m
theorem nh (m:Nat)(q:Rat):(eE m q).length=m:=by simp[eE]
theorem kb (m:Nat)(x y:Rat):(lh m x y).length=m:=by unfold lh;split<;>simp[eE]
theorem ry (m:Nat)(a b:List Rat):(iR m a b).length=m:=by simp[iR]
theorem ei (a:List Rat)(m:Nat):∀ k,(e8 a m k).length=m
 | 0=>by simp[e8]
 | k+1=>by unfold e8;rw[Gq];exact ei a m k
theorem mQ (m:Nat)(a:List Rat):(fj m a).length=m:=ei a m m
theorem Bu {m:Nat}(x y:Rat)(h:1<m):(eE m x).set 1 y=lh m x y:=by unfold lh;rw[if_pos h]
theorem BU {m:Nat}(x y:Rat)(h:¬1<m):eE m x=lh m x y:=by unfold lh;rw[if_neg h]
section
variable {a b:List Rat}{m i j k:Nat}
theorem ue {f:Nat->Rat}(h:i<m):(da f m k).getD i 0=if i<k then f i else 0:=iD h
theorem iW (f:Nat->Rat)(m k:Nat):(da f m k).length=m:=by simp[da]
theorem qU {l:List Rat}(h:i<l.length)(e:l.getD i 0=0):l=l.set i 0:=by
 refine hJ (by simp) fun t=>?_
 rw[dK h]
 split
 ·rename_i e2;subst e2;exact e
 ·rfl
theorem BP (h:i<m):da (fun i=>eJ a b i (i+1)) m i=(da (fun i=>eJ a b i (i+1)) m i).set i (eJ a b i 0) :=
 qU (by rw[iW];exact h) (by rw[ue h,if_neg (Nat.lt_irrefl i)])
theorem AH {S:List Rat}(c:S.length=m)(h:i<m):(S.set i (eJ a b i j)).set i ((S.set i (eJ a b i j)).getD i 0+a.getD j 0*b.getD (i-j) 0)=S.set i (eJ a b i (j+1)):=by
 rw[List.set_set,dK oM,if_pos rfl];rfl
theorem AZ {S:List Rat}(a:S.length=m)(h:i<m)(c:Rat):(S.set i c).getD i 0=c:=by rw[dK oM,if_pos rfl]
theorem xE (h:i<m)(e:j=i+1):(da (fun i=>eJ a b i (i+1)) m i).set i (eJ a b i j)=da (fun i=>eJ a b i (i+1)) m (i+1):=by
 subst e;exact d7 (f:=fun i=>eJ a b i (i+1)) h
theorem xj:da (fun i=>eJ a b i (i+1)) m m=iR m a b:=d4 _ _
theorem Cp (h:1<=i):(e8 a m i).set i (-(eJ (e8 a m i) a i i*(e8 a m i).getD 0 0))=e8 a m (i+1):=by
 show _=(e8 a m i).set i (if i=0 then _ else _)
 rw[if_neg oM]
theorem pF (hk:k<=m):∀ {n},k<=n->i<k->(e8 a m n).getD i 0=(e8 a m k).getD i 0
  | n,hn,hi=>by
    obtain ⟨e,rfl⟩:∃ e,n=k+e:=⟨n-k,by omega⟩
    induction e with
    | zero=>rfl
    | succ e ih =>
      rw[<-ih oM]
      show ((e8 a m (k+e)).set (k+e) _).getD i 0=_
      by_cases hm:k+e<m
      . rw[dK (by rw[ei];exact hm),if_neg oM]
      . rw[HY (by rw[ei];omega)]
theorem oA:∀ {k},k<=i->(e8 a m k).getD i 0=0
  | 0,_=>dC m i
  | k+1,h=>by
    show ((e8 a m k).set k _).getD i 0=0
    by_cases hm:k<m
    . rw[dK (by rw[ei];exact hm),if_neg oM];exact oA oM
    . rw[HY (by rw[ei];omega)];exact oA oM
theorem xh {K:Nat}(b:1<=K)(h:∀ i,LQ K ((fj m a).getD i 0))(hk:k<=m)(i:Nat):LQ K ((e8 a m k).getD i 0):=by
 by_cases hi:i<k
 ·rw[<-pF hk hk hi];exact h i
 ·rw[oA oM];exact iZ b
end
def li (m:Nat)(a b:List Rat):List Rat:=(ov m).map fun i=>a.getD i 0+b.getD i 0
def gL (m:Nat)(a:List Rat)(k:Rat):List Rat:=(ov m).map fun i=>a.getD i 0*k
theorem r6 (m:Nat)(a b:List Rat):(li m a b).length=m:=by simp[li]
theorem mY (m:Nat)(a:List Rat)(k:Rat):(gL m a k).length=m:=by simp[gL]
theorem kJ {a b c:List Rat}{i:Nat}:∀ j,(∀ t,t<j->a.getD t 0=c.getD t 0)->eJ a b i j=eJ c b i j
  | 0,_=>rfl
  | j+1,h=>by
    show eJ a b i j+a.getD j 0*_=eJ c b i j+c.getD j 0*_
    rw[kJ j (fun t d=>h t oM),h j (Nat.lt_succ_self j)]
theorem xF {a:List Rat}{m i j:Nat}(c:j<=i)(hi:i<=m):eJ (e8 a m i) a i j=eJ (fj m a) a i j :=
 kJ j fun t b=>(pF hi hi oM).symm
def vm (p:Nat->Bool)(s:ByteArray):Nat->Nat->Nat
  | 0,a=>a
  | f+1,a=>if a<s.size/\p (aG s a)=true then vm p s f (a+1) else a
def rn (p:Nat->Bool)(s:ByteArray)(a:Nat):Nat:=vm p s (s.size-a) a
theorem rL (p:Nat->Bool)(s:ByteArray):∀ f a,a<=s.size->vm p s f a<=s.size
  | 0,a,h=>h
  | f+1,a,h=>by
    unfold vm;split
    . rename_i c;exact rL p s f (a+1) c.1
    . exact h
theorem tB {p:Nat->Bool}{s:ByteArray}{a:Nat}(h:a<=s.size):rn p s a<=s.size:=rL p s _ a h
theorem sx {p:Nat->Bool}{s:ByteArray}{j:Nat}:∀ f a,s.size-a<=f->a<=j->j<=s.size->(∀ i,a<=i->i<j->p (aG s i)=true)->(j=s.size\/p (aG s j)=false)->vm p s f a=j
  | 0,a,h1,h2,h3,_,_=>by show a=j;omega
  | f + 1,a,h1,h2,h3,h4,h5=>by
    unfold vm
    by_cases e:a=j
    . subst e
      rw[if_neg];rintro ⟨d,b⟩
      rcases h5 with h5|h5
      . omega
      . rw[h5] at b;cases b
    . rw[if_pos ⟨by omega,h4 a (ey a) oM⟩]
      exact sx f (a+1) oM oM h3 (fun i hi c=>h4 i oM c) h5
theorem mD {p:Nat->Bool}{s:ByteArray}{a j:Nat}(c:a<=j)(d:j<=s.size)(b:∀ i,a<=i->i<j->p (aG s i)=true)(e:j=s.size\/p (aG s j)=false):rn p s a=j:=sx _ a (ey _) c d b e
theorem mR (p:Nat->Bool)(s:ByteArray):∀ f a,s.size-a<=f->vm p s f a<s.size->p (aG s (vm p s f a))=false
  | 0,a,h1,b=>by
    have b:a<s.size:=b
    omega
  | f + 1,a,h1,b=>by
    unfold vm at b ⊢
    split
    . rename_i c;rw[if_pos c] at b;exact mR p s f (a+1) oM b
    . rename_i c;rw[if_neg c] at b
      cases h:p (aG s a) with
      | true=>exact absurd ⟨b,h⟩ c
      | false=>rfl
def wj (c:Nat):Bool:=decide (c=32)
def jR (c:Nat):Bool:=decide ((48<=c/\c<=57)\/c=46)
def fx (c:Nat):Bool:=decide (rj c)
def sk (s:ByteArray)(a:Nat):Nat:=rn wj s a
theorem j6 {s:ByteArray}{a:Nat}(h:a<=s.size):sk s a<=s.size:=tB h
theorem DR (s:ByteArray)(a:Nat):sk s (sk s a)=sk s a:=by
 rcases ep (sk s a) s.size with h1|h1
 ·exact mD (ey _) (Nat.le_of_lt h1) (fun i b c=>absurd b oM) (.inr (mR wj s (s.size-a) a (ey _) h1))
 ·show vm wj s (s.size-sk s a) (sk s a)=sk s a
  rw[show s.size-sk s a=0 by omega];rfl
theorem pV {s:ByteArray}{a:Nat}(h:s.size<=a):aG s a=0:=by
 unfold aG
 rw[zh,List.getElem?_eq_none (by simpa using h)];rfl
theorem rY {s:ByteArray}{a:Nat}(h:aG s a≠0):a<s.size:=by
 rcases ep a s.size with h1|h1
 ·exact h1
 ·exact absurd (pV h1) h
inductive PR where
  | ok (t:Tm) (a:Nat)
  | err (b:Nat)
inductive PKd where
  | sum|prod|sign|pow|atom
  | more (lv:Bool) (t:Tm)
def fL (op:Int)(t u:Tm):Tm:=.mk op 0 0 ⟨#[]⟩ [t,u]
def lJ (q:Rat):Tm:=.mk 1 0 q ⟨#[]⟩ []
def nL (s:ByteArray):Tm:=.mk 2 0 0 s []
def o4 (x:Option PR)(f:Tm->Nat->Option PR):Option PR:=match x with
  | none=>none
  | some (.ok t a)=>f t a
  | some (.err b)=>some (.err b)
def c1 (lv:Bool):Nat:=if lv then 42 else 43
def c2 (lv:Bool):Nat:=if lv then 47 else 45
def vn (lv:Bool):Int:=if lv then 5 else 3
def px (lv:Bool):Int:=if lv then 6 else 4
def part (lv:Bool):PKd:=if lv then .sign else .prod
section
variable (nf:ByteArray->Option Rat)(s:ByteArray)
def d9:Nat->PKd->Nat->Option PR
  | 0,_,_=>none
  | n+1,.sum,a=>o4 (d9 n .prod a) fun t b=>d9 n (.more false t) b
  | n+1,.prod,a=>o4 (d9 n .sign a) fun t b=>d9 n (.more true t) b
  | n+1,.more lv t,a =>
    if aG s (sk s a)=c1 lv then o4 (d9 n (part lv) (sk s a+1)) fun u b=>d9 n (.more lv (fL (vn lv) t u)) b
    else if aG s (sk s a)=c2 lv then o4 (d9 n (part lv) (sk s a+1)) fun u b=>d9 n (.more lv (fL (px lv) t u)) b
    else some (.ok t (sk s a))
  | n+1,.sign,a=>if aG s (sk s a)=45 then none else d9 n .pow (sk s a)
  | n+1,.pow,a=>o4 (d9 n .atom a) fun t b=>if aG s (sk s b)=94 then none else some (.ok t (sk s b))
  | n + 1,.atom,a =>
    if jR (aG s (sk s a))=true then match nf (s.extract (sk s a) (rn jR s (sk s a))) with
      | some q=>some (.ok (lJ q) (rn jR s (sk s a)))
      | none=>some (.err (sk s a))
    else if j7 (aG s (sk s a))\/aG s (sk s a)=95 then
      if dH (s.extract (sk s a) (rn fx s (sk s a)))=true then none
      else if cC (s.extract (sk s a) (rn fx s (sk s a)))=true then some (.ok (nL (s.extract (sk s a) (rn fx s (sk s a)))) (rn fx s (sk s a)))
      else some (.err (sk s a))
    else if aG s (sk s a)=40 then o4 (d9 n .sum (sk s a+1)) fun t b=>if aG s (sk s b)=41 then some (.ok t (sk s b+1)) else some (.err (sk s b))
    else some (.err (sk s a))
variable {nf s}
theorem iB {x:Option PR}{f:Tm->Nat->Option PR}{t:Tm}{b:Nat}(h:o4 x f=some (.ok t b)):∃ u a,x=some (.ok u a)/\f u a=some (.ok t b):=by
 match x,h with
 | some (.ok u a),h=>exact ⟨u,a,rfl,h⟩
def rD (lv:Bool):PKd:=if lv then .prod else .sum
section
variable {n a b:Nat}{t u:Tm}{lv:Bool}{op:Int}
theorem wY {k:PKd}{r:PR}(h:d9 nf s n k a=some r):∃ m,n=m+1:=by
 cases n with
 | zero=>cases h
 | succ m=>exact ⟨m,rfl⟩
theorem wg (h:d9 nf s (n+1) (rD lv) a=some (.ok t b)):∃ u c,d9 nf s n (part lv) a=some (.ok u c)/\d9 nf s n (.more lv u) c=some (.ok t b):=by
 cases lv<;>exact iB h
theorem qI (h:d9 nf s (n+1) (.more lv u) a=some (.ok t b))(c:aG s (sk s a)=c1 lv):∃ v e,d9 nf s n (part lv) (sk s a+1)=some (.ok v e)/\d9 nf s n (.more lv (fL (vn lv) u v)) e=some (.ok t b):=by
 unfold d9 at h;rw[if_pos c] at h;exact iB h
theorem qV (h:d9 nf s (n+1) (.more lv u) a=some (.ok t b))(d:aG s (sk s a)≠c1 lv)(c:aG s (sk s a)=c2 lv):∃ v e,d9 nf s n (part lv) (sk s a+1)=some (.ok v e)/\d9 nf s n (.more lv (fL (px lv) u v)) e=some (.ok t b):=by
 unfold d9 at h;rw[if_neg d,if_pos c] at h;exact iB h
theorem q7 (h:d9 nf s (n+1) (.more lv u) a=some (.ok t b))(d:aG s (sk s a)≠c1 lv)(c:aG s (sk s a)≠c2 lv):t=u/\b=sk s a:=by
 unfold d9 at h;rw[if_neg d,if_neg c] at h;injection h with h;injection h with h1 h2;exact ⟨h1.symm,h2.symm⟩
theorem kS (h:d9 nf s (n+1) .sign a=some (.ok t b)):aG s (sk s a)≠45/\d9 nf s n .pow (sk s a)=some (.ok t b):=by
 unfold d9 at h
 split at h
 ·cases h
 ·rename_i c;exact ⟨c,h⟩
theorem vG (h:d9 nf s (n+1) .pow a=some (.ok t b)):∃ e,d9 nf s n .atom a=some (.ok t e)/\aG s (sk s e)≠94/\b=sk s e:=by
 unfold d9 at h
 obtain ⟨v,e,h1,d⟩:=iB h
 split at d
 ·cases d
 ·rename_i c;injection d with d;injection d with d h3;subst d;exact ⟨e,h1,c,h3.symm⟩
section
variable (h:d9 nf s (n+1) .atom a=some (.ok t b))
include h
theorem vW (c:jR (aG s (sk s a))=true):∃ q,nf (s.extract (sk s a) (rn jR s (sk s a)))=some q/\t=lJ q/\b=rn jR s (sk s a):=by
 unfold d9 at h;rw[if_pos c] at h
 split at h
 ·rename_i q d;injection h with h;injection h with h1 h2;exact ⟨q,d,h1.symm,h2.symm⟩
 ·cases h
variable (c0:jR (aG s (sk s a))=false)
include c0
theorem xx (c:j7 (aG s (sk s a))\/aG s (sk s a)=95):dH (s.extract (sk s a) (rn fx s (sk s a)))=false/\cC (s.extract (sk s a) (rn fx s (sk s a)))=true/\t=nL (s.extract (sk s a) (rn fx s (sk s a)))/\b=rn fx s (sk s a):=by
 unfold d9 at h;rw[if_neg (by rw[c0];decide),if_pos c] at h
 split at h
 ·cases h
 ·rename_i d
  split at h
  ·rename_i e;injection h with h;injection h with h1 h2;exact ⟨by simpa using d,e,h1.symm,h2.symm⟩
  ·cases h
variable (cL:¬(j7 (aG s (sk s a))\/aG s (sk s a)=95))
include cL
theorem xI:aG s (sk s a)=40/\∃ e,d9 nf s n .sum (sk s a+1)=some (.ok t e)/\aG s (sk s e)=41/\b=sk s e+1:=by
 unfold d9 at h;rw[if_neg (by rw[c0];decide),if_neg cL] at h
 split at h
 ·rename_i c
  obtain ⟨v,e,h1,f⟩:=iB h
  split at f
  ·rename_i d;injection f with f;injection f with f h3;subst f;exact ⟨c,e,h1,d,h3.symm⟩
  ·cases f
 ·cases h
end
end
end
def PtH (h:Hp)(p:PTm)(t:Tm):Prop:=∃ d,TmH d h p t
theorem PtH.gw {h a:Hp}{p:PTm}{t:Tm}(x:PtH h p t)(u:Gw h a):PtH a p t:=by obtain ⟨d,x⟩:=x;exact ⟨d,x.gw u⟩
theorem PtH.two {h:Hp}{op:Int}{p q:PTm}{t u:Tm}{b:Nat}(x:PtH h p t)(y:PtH h q u)(a:SlO 9 be aZ h (some ⟨b,0,none⟩) [p,q]):PtH h ⟨op,0,0,⟨#[]⟩,some ⟨b,0,none⟩,2,2⟩ (fL op t u):=by
 obtain ⟨d,x⟩:=x;obtain ⟨e,y⟩:=y
 exact ⟨max d e+1,TmH.mk (ps:=[p,q]) (ks:=[t,u]) ⟨rfl,fun i hi=>by
  have:i=0\/i=1:=by have:i<2:=hi;omega
  rcases this with rfl|rfl
  ·exact x.mono (Nat.le_max_left _ _)
  ·exact y.mono (Nat.le_max_right _ _)⟩ (ey _) a⟩
theorem PtH.num {h:Hp}{q:Rat}:PtH h ⟨1,0,q,⟨#[]⟩,none,0,0⟩ (lJ q):=⟨1,TmH.mk (ps:=[]) (ks:=[]) Tms.nil (ey _) SlO.nil⟩
theorem PtH.nam {h:Hp}{s:ByteArray}:PtH h ⟨2,0,0,s,none,0,0⟩ (nL s):=⟨1,TmH.mk (ps:=[]) (ks:=[]) Tms.nil (ey _) SlO.nil⟩
section ops
variable {P:Program}{Γ:bO}{o:Oper}
theorem uG {tx:TypeId}{x i e:Operand}{k k2:IntKind}{s:ByteArray}{n m:Nat}{j j2:Int}(c:o.op=.slice tx x (some i) (some e) none)(f:ev Γ x=.string s)(hi:ev Γ i=.int k j)(h:ev Γ e=.int k2 j2)(p:P.underlying tx=some .string)(l:j=(n:Int))(a:j2=(m:Int))(d:n<=m)(b:m<=s.size)(w:World) :
  (execOp (ev Γ) o).run P w=.ok (.value (.string (s.extract n m))) w:=by
 unfold execOp;simp only[c]
 subst l;subst a;have h0:(m:Int)<=(s.size:Int):=by omega
 simp[Instr.sliceAt,f,hi,h,Instr.slice,run_underlying p,Instr.sliceBounds,Instr.sliceBound,asIntOf,Result.andThen,h0,d,b]
end ops
theorem x7 {q:Rat}(h:decide (ab q.num<18446744073709551616/\q.den<18446744073709551616)=true):LQ 1 q:=by
 have h:=oT h
 have k:∀ n,n<18446744073709551616->(wds n).length<=1:=fun n a=>by
  rcases Nat.eq_zero_or_pos n with rfl|h0
  ·rw[jt];exact GA _
  ·rw[iQ h0 a];exact ey _
 exact ⟨k _ h.1,k _ h.2⟩
section
variable {ok:ByteArray->Prop}{d:Nat}
theorem vh {q:Rat}(h:LQ 1 q):WfT1 ok (d+1) (lJ q):=⟨rfl,fun h=>absurd rfl h,h,fun h=>absurd (show (1:Int)=2 from h) kD,fun _=>rfl,fun _=>rfl,by show (-12:Int)<=0;decide,by show (0:Int)<=12;decide,fun i hi=>absurd hi (HA i)⟩
theorem ox {s:ByteArray}(h:ok s):WfT1 ok (d+1) (nL s):=⟨rfl,fun _=>rfl,iZ kD,fun _=>h,fun h=>absurd rfl h,fun _=>rfl,by show (-12:Int)<=0;decide,by show (0:Int)<=12;decide,fun i hi=>absurd hi (HA i)⟩
theorem ot {op:Int}{t u:Tm}(x:WfT1 ok d t)(y:WfT1 ok d u)(ha:fb op=2)(a:op≠2):WfT1 ok (d+1) (fL op t u):=⟨ha,fun _=>rfl,iZ kD,fun h=>absurd (show op=2 from h) a,fun _=>rfl,fun _=>rfl,by show (-12:Int)<=0;decide,by show (0:Int)<=12;decide,fun i hi=>by
 have:i=0\/i=1:=by have:i<2:=hi;omega
 rcases this with rfl|rfl
 ·exact x
 ·exact y⟩
end
def wP:Tm:=fL 5 (nL ⟨#[120]⟩) (nL ⟨#[121]⟩)
def qn:Tm:=fL 6 (lJ ((1:Nat):Rat)) (fL 4 (lJ ((1:Nat):Rat)) (nL ⟨#[120]⟩))
theorem pq {ok:ByteArray->Prop}(h:ok ⟨#[120]⟩)(a:ok ⟨#[121]⟩):WfT1 ok 2 wP:=ot (ox h) (ox a) kD kD
theorem pd {ok:ByteArray->Prop}(h:ok ⟨#[120]⟩):WfT1 ok 3 qn:=ot (vh (x7 kR)) (ot (vh (x7 kR)) (ox h) kD kD) kD kD
theorem x3:bu 2 wP<=1000:=oT kR
theorem Ac:bu 3 qn<=1000:=oT kR
theorem BT {a b:Rat}(h:LQ 1 a)(c:LQ 1 b)(i:Nat):LQ 1 ([a,b].getD i 0):=by
 match i with
 | 0=>exact h
 | 1=>exact c
 | _+2=>exact iZ kD
theorem DrunR.of {d:Nat}{t:Tm}{ns:List ByteArray}{fs:List Rat}{e:Int}{q:Rat}{b:List Rat}(h:DrunR d t ns fs e q b)(h0:DckR d t ns (fs.length=ns.length) 0):(e,q,b)=aA (bB ns) fs d t:=by
 obtain ⟨c,h1,⟨a,_⟩|⟨_,a⟩⟩:=h
 ·exact absurd (h1.uniq h0) a
 ·exact a
theorem AV {d:Nat}{t:Tm}{ns:List ByteArray}{M:Prop}(w:WfT1 (fun s=>cC s=true) d t)(g:bu d t<=1000)(hM:M)(b:∀ i,i<ns.length->cC (ns.getD i ⟨#[]⟩)=true)(w2:WfT1 (fun s=>s∈ns) d t)(a:ns.Nodup):DckR d t ns M 0 :=
 .inr ⟨⟨w,g⟩,.inr ⟨hM,.inr ⟨b,.inr ⟨fun s c=>oI w2 c,.inr ⟨a,rfl⟩⟩⟩⟩⟩
theorem wi {e:Int}{q:Rat}{a:List Rat}(h:DrunR 2 wP [⟨#[120]⟩,⟨#[121]⟩] [((2:Int):Rat),((3:Int):Rat)] e q a):e=0/\q=6/\a=[3,2]:=by
 have k:=h.of (AV (pq kD kD) x3 rfl (by intro i hi;match i,hi with|0,_=>decide|1,_=>decide) (pq kD kD) kD);have v:aA (bB [⟨#[120]⟩,⟨#[121]⟩]) [((2:Int):Rat),((3:Int):Rat)] 2 wP=(0,6,[3,2]):=by kernel_rfl
 rw[v] at k
 injection k with k1 k2
 injection k2 with k2 k3
 exact ⟨k1,k2,k3⟩
theorem C3 {l:List Rat}(h:(l.all fun q=>decide (ab q.num<18446744073709551616/\q.den<18446744073709551616))=true)(i:Nat):LQ 39500000 (l.getD i 0):=by
 by_cases hi:i<l.length
 ·rw[zh,HR hi]
  exact (x7 (oi.1 h _ (gp hi))).mono kD
 ·rw[cY oM];exact iZ kD
theorem FD {a b:List Rat}(h:((ov 4).all fun i=>(ov 5).all fun j=>decide (ab (eJ a b i j).num<18446744073709551616/\(eJ a b i j).den<18446744073709551616))=true)(i j:Nat)(hi:i<=3)(c:j<=i+1):LQ 39500000 (eJ a b i j) :=
 (x7 (oi.1 (oi.1 h i (o0.2 oM)) j (o0.2 oM))).mono kD
def dk1:List Rat:=eE 4 ((1:Nat):Rat)
def dk2:List Rat:=lh 4 ((0:Int):Rat) ((1:Int):Rat)
def dk3:List Rat:=li 4 dk1 (gL 4 dk2 ((-1:Int):Rat))
theorem Ff:iR 4 dk1 (fj 4 dk3)=[1,1,1,1]:=by kernel_rfl
def bh (nm:ByteArray)(u:Tm):Nat->Tm->Tm
  | 0,t=>t
  | d+1,t=>if t.op=2/\t.s=nm then u else .mk t.op t.n t.q t.s (t.ks.map (bh nm u d))
theorem fU {nm s:ByteArray}{u:Tm}{d:Nat}{op n:Int}{q:Rat}{ks:List Tm}(h:op=2)(a:s=nm):bh nm u (d+1) (.mk op n q s ks)=u:=if_pos ⟨h,a⟩
theorem gi {nm s:ByteArray}{u:Tm}{d:Nat}{op n:Int}{q:Rat}{ks:List Tm}(h:¬(op=2/\s=nm)):bh nm u (d+1) (.mk op n q s ks)=.mk op n q s (ks.map (bh nm u d)):=if_neg h
theorem f5 {α β:Type}{f:α->β}{l:List α}{i:Nat}{a:α}{b:β}(h:i<l.length):(l.map f).getD i b=f (l.getD i a):=by
 simp[zh,h]
theorem SmT.put {sm:ByteArray->Prop}{nm:ByteArray}{u:Tm}{e:Nat}(f:SmT sm e u):∀ {d:Nat} {t:Tm},SmT sm d t->SmT sm (d+e) (bh nm u d t)
  | d + 1,.mk op n q s ks,⟨h1,h2,h3,h4,h5,h6⟩=>by
    by_cases c:op=2/\s=nm
    . rw[fU c.1 c.2];exact f.mono oM
    . rw[gi c,HZ]
      refine ⟨?_,h2,h3,h4,h5,fun i hi=>?_⟩
      . show (ks.map _).length<=3;rw[HV];exact h1
      . have b:i<ks.length:=by have h:i<(ks.map (bh nm u d)).length:=hi;rwa [HV] at h
        show SmT sm (d+e) ((ks.map (bh nm u d)).getD i bZ)
        rw[f5 (a:=bZ) b];exact SmT.put f (h6 i b)
def ChkR (ok:ByteArray->Prop)(d:Nat)(t:Tm)(e:Int):Prop:=(WfT ok d t/\e=(if 1000<bu d t then 18 else 0))\/(¬WfT ok d t/\e=2)
theorem ChkR.uniq {ok:ByteArray->Prop}{d:Nat}{t:Tm}{e e2:Int}(a:ChkR ok d t e)(b:ChkR ok d t e2):e=e2:=by
 rcases a with ⟨a1,rfl⟩|⟨a1,rfl⟩<;>rcases b with ⟨b1,rfl⟩|⟨b1,rfl⟩
 ·rfl
 ·exact absurd a1 b1
 ·exact absurd b1 a1
 ·rfl
theorem ChkR.ex (ok:ByteArray->Prop)(d:Nat)(t:Tm):∃ e,ChkR ok d t e:=by
 rcases Classical.em (WfT ok d t) with h|h
 ·exact ⟨_,.inl ⟨h,rfl⟩⟩
 ·exact ⟨_,.inr ⟨h,rfl⟩⟩
def PutE (ok:ByteArray->Prop)(nm:ByteArray)(d:Nat)(t:Tm)(e:Nat)(u:Tm)(er:Int):Prop :=
  ∃ a b,ChkR ok d t a/\ChkR ok e u b/\(((a≠0\/b≠0)/\er=1)\/(a=0/\b=0/\ChkR ok (d+e) (bh nm u d t) er))
section
variable {ok:ByteArray->Prop}{nm:ByteArray}{d e:Nat}{t u:Tm}
theorem nS {a:Int}(h:ChkR ok d t a)(ha:a≠0):PutE ok nm d t e u 1:=by
 obtain ⟨b,c⟩:=ChkR.ex ok e u;exact ⟨a,b,h,c,.inl ⟨.inl ha,rfl⟩⟩
theorem nW {a b:Int}(h:ChkR ok d t a)(f:ChkR ok e u b)(c:b≠0):PutE ok nm d t e u 1:=⟨a,b,h,f,.inl ⟨.inr c,rfl⟩⟩
theorem sh {a b c:Int}(h:ChkR ok d t a)(i:ChkR ok e u b)(ha:a=0)(f:b=0)(j:ChkR ok (d+e) (bh nm u d t) c):PutE ok nm d t e u c:=⟨a,b,h,i,.inr ⟨ha,f,j⟩⟩
theorem PutE.uniq {x y:Int}(h:PutE ok nm d t e u x)(g:PutE ok nm d t e u y):x=y:=by
 obtain ⟨a,b,h1,i,j⟩:=h;obtain ⟨z,o,f,c,l⟩:=g;obtain rfl:=h1.uniq f;obtain rfl:=i.uniq c
 rcases j with ⟨p,rfl⟩|⟨p,q,r⟩<;>rcases l with ⟨p',rfl⟩|⟨p',q',r'⟩
 ·rfl
 ·omega
 ·omega
 ·exact r.uniq r'
end
section
variable {ix:ByteArray->Nat}{fs:List Rat}
theorem ug {ok:ByteArray->Prop}:∀ {d:Nat} {t:Tm},WfT ok d t->∀ k,aA ix fs (d+k) t=aA ix fs d t
  | 0,_,h,_=>h.elim
  | d + 1,t,h,k=>by
    rw[HZ]
    unfold aA
    by_cases c1:t.op=1
    . rw[if_pos c1,if_pos c1]
    . rw[if_neg c1,if_neg c1]
      by_cases c2:t.op=2
      . rw[if_pos c2,if_pos c2]
      . rw[if_neg c2,if_neg c2]
        have e:∀ i,(if i<t.ks.length then aA ix fs (d+k) (t.ks.getD i bZ) else (0,0,[]))=(if i<t.ks.length then aA ix fs d (t.ks.getD i bZ) else (0,0,[])):=fun i=>by
          by_cases hi:i<t.ks.length
          . rw[if_pos hi,if_pos hi,ug (h.2.2.2.2.2.2.2.2 i hi) k]
          . rw[if_neg hi,if_neg hi]
        rw[e 0,e 1]
theorem oc {m k:Nat}{op n:Int}{a b:Rat}{ga gb:List Rat}(hk:k<m):(g8 m op n a b ga gb).getD k 0=AY op n a b*ga.getD k 0+B8 op a b*gb.getD k 0:=by
 unfold g8;simp[hk]
def DK (i m:Nat)(gu:List Rat)(x y:Int × Rat × List Rat):Prop:=y.1=x.1/\(x.1=0->y.2.1=x.2.1/\∀ k,k<m->y.2.2.getD k 0=x.2.2.getD i 0*gu.getD k 0+(if k=i then 0 else x.2.2.getD k 0))
theorem DU {i m:Nat}{op n:Int}{d:List Rat}{x y f c:Int × Rat × List Rat}(hi:i<m)(p:DK i m d x f)(o:DK i m d y c):DK i m d (ml m op n x y) (ml m op n f c):=by
  obtain ⟨e1,h1⟩:=p;obtain ⟨e2,u⟩:=o
  by_cases c1:x.1=0
  . obtain ⟨b,j⟩:=h1 c1
    by_cases c2:y.1=0
    . obtain ⟨a,l⟩:=u c2
      by_cases c3:bI op n x.2.1 y.2.1=0
      . rw[ia c1 c2 c3,ia (e1.trans c1) (e2.trans c2) (by rw[b,a];exact c3)]
        refine ⟨rfl,fun _=>⟨by show ko _ _ _ _ _=ko _ _ _ _ _;rw[b,a],fun k hk=>?_⟩⟩
        show (g8 m op n f.2.1 c.2.1 f.2.2 c.2.2).getD k 0=(g8 m op n x.2.1 y.2.1 x.2.2 y.2.2).getD i 0*d.getD k 0+(if k=i then 0 else (g8 m op n x.2.1 y.2.1 x.2.2 y.2.2).getD k 0)
        rw[oc hk,oc hi,oc hk,b,a,j k hk,l k hk]
        by_cases e:k=i
        . rw[if_pos e,if_pos e,if_pos e];grind
        . rw[if_neg e,if_neg e,if_neg e];grind
      . rw[g7 c1 c2 c3,g7 (e1.trans c1) (e2.trans c2) (by rw[b,a];exact c3),b,a]
        exact ⟨rfl,fun h=>absurd h c3⟩
    . rw[jQ c1 c2,jQ (e1.trans c1) (by rw[e2];exact c2)];exact ⟨e2,fun h=>absurd h c2⟩
  . rw[io c1,io (by rw[e1];exact c1)];exact ⟨e1,fun h=>absurd h c1⟩
theorem md {l:List Rat}{i j:Nat}{x:Rat}(h:i<l.length):(l.set i x).getD j 0=if j=i then x else l.getD j 0:=by
 rw[zh,zh,List.getElem?_set]
 by_cases e:i=j
 ·subst e;rw[if_pos rfl,if_pos h,if_pos rfl];rfl
 ·rw[if_neg e,if_neg (fun k=>e k.symm)]
theorem il {m i j:Nat}(h:i<m):(ck m i).getD j 0=if j=i then 1 else 0:=by
 unfold ck
 rw[md (by simpa using h),dC];rfl
theorem uF {ok:ByteArray->Prop}{nm:ByteArray}{u:Tm}{e:Nat}(l:∀ s,ok s->ix s<fs.length)(b:∀ s,ok s->s≠nm->ix s≠ix nm)(f:ix nm<fs.length)(y:WfT ok e u)(hz:(aA ix fs e u).1=0):∀ {d:Nat} {t:Tm},WfT ok d t->DK (ix nm) fs.length (aA ix fs e u).2.2 (aA ix (fs.set (ix nm) (aA ix fs e u).2.1) d t) (aA ix fs (d+e) (bh nm u d t))
  | 0,_,h=>h.elim
  | d + 1,.mk op n q s ks,h=>by
    have p:(fs.set (ix nm) (aA ix fs e u).2.1).length=fs.length:=Gq
    by_cases c:op=2/\s=nm
    . have e2:aA ix (fs.set (ix nm) (aA ix fs e u).2.1) (d+1) (.mk op n q s ks)=(0,(fs.set (ix nm) (aA ix fs e u).2.1).getD (ix s) 0,ck (fs.set (ix nm) (aA ix fs e u).2.1).length (ix s)):=(if_neg (show ¬op=1 by omega)).trans (if_pos c.1)
      rw[fU c.1 c.2,Nat.add_comm (d+1) e,ug y,e2,c.2,p];refine ⟨hz,fun _=>⟨?_,fun k hk=>?_⟩⟩
      . show _=(fs.set (ix nm) _).getD (ix nm) 0
        rw[md f,if_pos rfl]
      . show _=(ck fs.length (ix nm)).getD (ix nm) 0*_+(if k=ix nm then 0 else (ck fs.length (ix nm)).getD k 0)
        rw[il f,il f,if_pos rfl]
        by_cases k1:k=ix nm
        . rw[if_pos k1];grind
        . rw[if_neg k1,if_neg k1];grind
    . rw[gi c,HZ]
      by_cases o1:op=1
      . have e2:aA ix (fs.set (ix nm) (aA ix fs e u).2.1) (d+1) (.mk op n q s ks)=(0,q,yJ (fs.set (ix nm) (aA ix fs e u).2.1).length 0):=if_pos o1
        have o:aA ix fs (d+e+1) (.mk op n q s (ks.map (bh nm u d)))=(0,q,yJ fs.length 0):=if_pos o1;rw[e2,o,p];refine ⟨rfl,fun _=>⟨rfl,fun k _=>?_⟩⟩
        show (yJ fs.length (0:Rat)).getD k 0=(yJ fs.length (0:Rat)).getD (ix nm) 0*_+(if k=ix nm then 0 else (yJ fs.length (0:Rat)).getD k 0)
        rw[dC,dC]
        split<;>grind
      . by_cases o2:op=2
        . have x:s≠nm:=fun k=>c ⟨o2,k⟩
          have j:ok s:=h.2.2.2.1 o2;have e2:aA ix (fs.set (ix nm) (aA ix fs e u).2.1) (d+1) (.mk op n q s ks)=(0,(fs.set (ix nm) (aA ix fs e u).2.1).getD (ix s) 0,ck (fs.set (ix nm) (aA ix fs e u).2.1).length (ix s)):=(if_neg o1).trans (if_pos o2);have o:aA ix fs (d+e+1) (.mk op n q s (ks.map (bh nm u d)))=(0,fs.getD (ix s) 0,ck fs.length (ix s)):=(if_neg o1).trans (if_pos o2);rw[e2,o,p];refine ⟨rfl,fun _=>⟨?_,fun k _=>?_⟩⟩
          . show fs.getD (ix s) 0=(fs.set (ix nm) _).getD (ix s) 0
            rw[md f,if_neg (b s j x)]
          . show (ck fs.length (ix s)).getD k 0=(ck fs.length (ix s)).getD (ix nm) 0*_+(if k=ix nm then 0 else (ck fs.length (ix s)).getD k 0)
            rw[il (l s j),il (l s j),if_neg (show ¬ix nm=ix s from fun k=>b s j x k.symm)]
            by_cases k1:k=ix nm
            . rw[if_neg (show ¬k=ix s from fun k2=>b s j x (k2.symm.trans k1)),if_pos k1];grind
            . rw[if_neg k1];grind
        . have e2:aA ix (fs.set (ix nm) (aA ix fs e u).2.1) (d+1) (.mk op n q s ks)=ml (fs.set (ix nm) (aA ix fs e u).2.1).length op n (if 0<ks.length then aA ix (fs.set (ix nm) (aA ix fs e u).2.1) d (ks.getD 0 bZ) else (0,0,[])) (if 1<ks.length then aA ix (fs.set (ix nm) (aA ix fs e u).2.1) d (ks.getD 1 bZ) else (0,0,[])):=(if_neg o1).trans (if_neg o2)
          have o:aA ix fs (d+e+1) (.mk op n q s (ks.map (bh nm u d)))=ml fs.length op n (if 0<(ks.map (bh nm u d)).length then aA ix fs (d+e) ((ks.map (bh nm u d)).getD 0 bZ) else (0,0,[])) (if 1<(ks.map (bh nm u d)).length then aA ix fs (d+e) ((ks.map (bh nm u d)).getD 1 bZ) else (0,0,[])):=(if_neg o1).trans (if_neg o2);rw[e2,o,p,HV]
          have z:∀ i,DK (ix nm) fs.length (aA ix fs e u).2.2 (if i<ks.length then aA ix (fs.set (ix nm) (aA ix fs e u).2.1) d (ks.getD i bZ) else (0,0,[])) (if i<ks.length then aA ix fs (d+e) ((ks.map (bh nm u d)).getD i bZ) else (0,0,[])):=fun i=>by
            by_cases hi:i<ks.length
            . rw[if_pos hi,if_pos hi,f5 (a:=bZ) hi]
              exact uF l b f y hz (h.2.2.2.2.2.2.2.2 i hi)
            . rw[if_neg hi,if_neg hi]
              exact ⟨rfl,fun _=>⟨rfl,fun k _=>by show (0:Rat)=0*_+(if k=ix nm then 0 else 0);split<;>grind⟩⟩
          exact DU f (z 0) (z 1)
end
section
variable {ok:ByteArray->Prop}{ix:ByteArray->Nat}{at_:List Rat}{nm:ByteArray}{u:Tm}{e:Nat}
theorem mq (b:∀ s,s≠nm->ok s->LQ 1 (at_.getD (ix s) 0))(p:WfT1 ok e u)(a:1<=bu e u)(f:LQ (3*bu e u-2) (at_.getD (ix nm) 0)):∀ {d:Nat} {t:Tm},WfT1 ok d t->1<=bu (d+e) (bh nm u d t)/\rH (bu (d+e) (bh nm u d t)) d (aA ix at_ d t)
  | d + 1,.mk op n q s ks,⟨h1,h2,z,h4,h5,h6,o,l,h9⟩=>by
    have B:=aN op;replace h1:fb op=(ks.length:Nat):=h1;replace z:LQ 1 q:=z;replace o : -12<=n:=o;replace l:n<=12:=l
    by_cases c:op=2/\s=nm
    . rw[fU c.1 c.2,jD p oM]
      have e2:aA ix at_ (d+1) (.mk op n q s ks)=(0,at_.getD (ix s) 0,ck at_.length (ix s)):=(if_neg (show ¬op=1 by omega)).trans (if_pos c.1);rw[e2,c.2];refine ⟨a,f,fun i=>(lu _ _ i).mono ?_⟩;have:1<=bu e u*(d+1):=Nat.mul_pos a (GD d)
      omega
    . rw[gi c,HZ]
      rcases fd h1 with rfl|⟨t,rfl⟩|⟨t,v,rfl⟩
      . have e1:bu (d+e+1) (.mk op n q s (([]:List Tm).map (bh nm u d)))=1:=kV rfl
        rw[e1];refine ⟨ey _,?_⟩
        simp only[HE] at h1
        by_cases o1:op=1
        . have e2:aA ix at_ (d+1) (.mk op n q s [])=(0,q,yJ at_.length 0):=if_pos o1
          rw[e2];exact ⟨z,fun i=>by show LQ _ ((yJ _ _).getD i 0);rw[dC];exact iZ oM⟩
        . have x:op=2:=by omega
          have e2:aA ix at_ (d+1) (.mk op n q s [])=(0,at_.getD (ix s) 0,ck at_.length (ix s)):=(if_neg o1).trans (if_pos x);rw[e2];exact ⟨b s (fun k=>c ⟨x,k⟩) (h4 x),fun i=>(lu _ _ i).mono oM⟩
      . obtain ⟨i1,j⟩:=mq b p a f (h9 0 (GD _))
        replace i1:1<=bu (d+e) (bh nm u d t):=i1;replace j:rH (bu (d+e) (bh nm u d t)) d (aA ix at_ d t):=j
        simp only[yc,HE] at h1
        have e1:bu (d+e+1) (.mk op n q s ([t].map (bh nm u d)))=cP op n*(bu (d+e) (bh nm u d t)+0):=by rw[fH (show ([t].map (bh nm u d)).length≠0 from HD _)];show _*(0+bu (d+e) (bh nm u d t))=_;rw[yF,Nat.add_zero]
        have w1:=cv op n;rw[e1,iY oM oM];exact ⟨ez i1 (GU _ w1),pN i1 j (fun h=>absurd h kD) oM (fun _=>⟨rfl,rfl,rfl⟩) oM ⟨o,l⟩ oM⟩
      . obtain ⟨i1,j⟩:=mq b p a f (h9 0 (GD _))
        obtain ⟨y,j2⟩:=mq b p a f (h9 1 (by show 1<2;decide));replace i1:1<=bu (d+e) (bh nm u d t):=i1;replace j:rH (bu (d+e) (bh nm u d t)) d (aA ix at_ d t):=j;replace y:1<=bu (d+e) (bh nm u d v):=y;replace j2:rH (bu (d+e) (bh nm u d v)) d (aA ix at_ d v):=j2
        simp only[yc,HE] at h1
        have e1:bu (d+e+1) (.mk op n q s ([t,v].map (bh nm u d)))=cP op n*(bu (d+e) (bh nm u d t)+bu (d+e) (bh nm u d v)):=by rw[fH (show ([t,v].map (bh nm u d)).length≠0 from HD _)];show _*(0+bu (d+e) (bh nm u d t)+bu (d+e) (bh nm u d v))=_;rw[yF]
        have w1:=cv op n;rw[e1,gG oM oM];exact ⟨ez oM (GU _ w1),pN i1 j (fun _=>j2) (fun _=>y) oM oM ⟨o,l⟩ oM⟩
end
theorem jx {ok:ByteArray->Prop}{nm:ByteArray}{u:Tm}{e:Nat}(f:WfT1 ok e u)(b:1<=bu e u):∀ {d:Nat} {t:Tm},WfT1 ok d t->WfT1 ok (d+e) (bh nm u d t)/\bu (d+e) (bh nm u d t)<=bu d t*bu e u
  | d + 1,.mk op n q s ks,⟨h1,h2,h3,h4,h5,h6,h7,h8,h9⟩=>by
    have l:=aN op;replace h1:fb op=(ks.length:Nat):=h1
    by_cases c:op=2/\s=nm
    . rw[fU c.1 c.2,jD f oM]
      have hk:ks.length=0:=by have:=c.1;omega
      have e1:bu (d+1) (.mk op n q s ks)=1:=kV hk;rw[e1,Nat.one_mul];exact ⟨f.mono oM,ey _⟩
    . rw[gi c,HZ]
      have h:∀ i,i<(ks.map (bh nm u d)).length->WfT1 ok (d+e) ((ks.map (bh nm u d)).getD i bZ):=fun i hi=>by
        rw[HV] at hi
        rw[f5 (a:=bZ) hi];exact (jx f b (h9 i hi)).1
      refine ⟨⟨by show fb op=((ks.map (bh nm u d)).length:Nat);rw[HV];exact h1,h2,h3,h4,h5,h6,h7,h8,h⟩,?_⟩
      rcases fd h1 with rfl|⟨t,rfl⟩|⟨t,v,rfl⟩
      . have e1:bu (d+e+1) (.mk op n q s (([]:List Tm).map (bh nm u d)))=1:=kV rfl
        have e2:bu (d+1) (.mk op n q s [])=1:=kV rfl;rw[e1,e2,Nat.one_mul];exact b
      . have i1:bu (d+e) (bh nm u d t)<=bu d t*bu e u:=(jx f b (h9 0 (GD _))).2
        have e1:bu (d+e+1) (.mk op n q s ([t].map (bh nm u d)))=cP op n*(0+bu (d+e) (bh nm u d t)):=fH (show ([t].map (bh nm u d)).length≠0 from HD _);have e2:bu (d+1) (.mk op n q s [t])=cP op n*(0+bu d t):=fH (show [t].length≠0 from HD _);rw[e1,e2,yF,yF,Ab];exact A5 _ i1
      . have i1:bu (d+e) (bh nm u d t)<=bu d t*bu e u:=(jx f b (h9 0 (GD _))).2
        have j:bu (d+e) (bh nm u d v)<=bu d v*bu e u:=(jx f b (h9 1 (by show 1<2;decide))).2;have e1:bu (d+e+1) (.mk op n q s ([t,v].map (bh nm u d)))=cP op n*(0+bu (d+e) (bh nm u d t)+bu (d+e) (bh nm u d v)):=fH (show ([t,v].map (bh nm u d)).length≠0 from HD _);have e2:bu (d+1) (.mk op n q s [t,v])=cP op n*(0+bu d t+bu d v):=fH (show [t,v].length≠0 from HD _);rw[e1,e2,yF,yF,Ab];refine A5 _ ?_;rw[Nat.add_mul]
        omega
abbrev xyz:List ByteArray:=[⟨#[120]⟩,⟨#[121]⟩,⟨#[122]⟩]
theorem AK:∀ i,i<xyz.length->cC (xyz.getD i ⟨#[]⟩)=true
 | 0,_=>by decide
 | 1,_=>by decide
 | 2,_=>by decide
 | _+3,h=>absurd h (by show ¬_<3;omega)
theorem wU {s:ByteArray}(h:n5 s):s∈xyz:=by
 rcases h with rfl|rfl|rfl<;>decide
theorem sJ {s:ByteArray}(h:n5 s):cC s=true:=by
 rcases h with rfl|rfl|rfl<;>decide
theorem xq {s:ByteArray}(h:n5 s):bB xyz s<3:=by
 rcases h with rfl|rfl|rfl<;>decide
theorem ww {s:ByteArray}(h:n5 s)(a:s≠⟨#[120]⟩):bB xyz s≠bB xyz ⟨#[120]⟩:=by
 rcases h with rfl|rfl|rfl
 ·exact absurd rfl a
 ·decide
 ·decide
theorem jA {d:Nat}{t:Tm}{M:Prop}(w:WfT1 n5 d t)(g:bu d t<=1000)(hM:M):DckR d t xyz M 0 :=
 AV (w.imp fun _=>sJ) g hM AK (w.imp fun _=>wU) kD
theorem GrT.w3 {t:Tm}(h:GrT 3 t):bu 3 t<=9:=by have:=h.2;omega
theorem xV {ok:ByteArray->Prop}{d:Nat}{t:Tm}(w:WfT1 ok d t):1<=bu d t:=(jE (ix:=fun _=>0) (at_:=[]) (fun i=>by rw[dL];exact iZ kD) w).1
theorem jF {nm:ByteArray}{t u:Tm}(d:GrT 3 t)(c:GrT 3 u):WfT1 n5 6 (bh nm u 3 t)/\bu 6 (bh nm u 3 t)<=81:=by
 obtain ⟨a,b⟩:=jx (nm:=nm) c.1 (xV c.1) d.1;exact ⟨a,ez b (Gm d.w3 c.w3)⟩
theorem Eu {nm:ByteArray}{t u:Tm}(f:GrT 3 t)(e:GrT 3 u):PutE (fun s=>cC s=true) nm 3 t 3 u 0:=by
 obtain ⟨a,b⟩:=jF (nm:=nm) f e;have c:∀ {d:Nat} {v:Tm},WfT1 n5 d v->bu d v<=1000->ChkR (fun s=>cC s=true) d v 0:=fun w g=>.inl ⟨(w.imp fun _=>sJ).wf,by rw[if_neg oM]⟩
 exact ⟨0,0,c f.1 (by have:=f.w3;omega),c e.1 (by have:=e.w3;omega),.inr ⟨rfl,rfl,c a (show bu 6 (bh nm u 3 t)<=1000 from ez b kD)⟩⟩
def SBp (u t:Tm)(d:Nat)(v:Tm):Prop:=d<=3/\WfT1 n5 d v/\bu (d+3) (bh ⟨#[120]⟩ u d v)<=81
theorem SBp.kid {u t:Tm}{ok:ByteArray->Prop}(d:Nat)(op n:Int)(q:Rat)(s:ByteArray)(ks:List Tm)(_:WfT1 ok (d+1) (.mk op n q s ks))(h:SBp u t (d+1) (.mk op n q s ks))(i:Nat)(hi:i<ks.length):SBp u t d (ks.getD i bZ):=by
 obtain ⟨h1,e,c⟩:=h;have j:∀ i,i<ks.length->WfT1 n5 d (ks.getD i bZ):=e.2.2.2.2.2.2.2.2;have h0:fb op=(ks.length:Nat):=e.1;have l:=aN op;refine ⟨by omega,j i hi,?_⟩;have f:¬(op=2/\s=⟨#[120]⟩):=fun k=>by have:=k.1;omega
 rw[gi f,HZ] at c
 rcases fd h0 with rfl|⟨a,rfl⟩|⟨a,b,rfl⟩
 ·exact absurd hi (HA _)
 ·obtain rfl:i=0:=by simp at hi;exact hi
  exact n4 c
 ·match i,hi with
  | 0,_=>exact (jV c).1
  | 1,_=>exact (jV c).2
  | _+2,h=>exact absurd h (by show ¬_<2;omega)
theorem v6 {fs:List Rat}{c:Rat}(a:∀ i,LQ 1 (fs.getD i 0))(s:ByteArray)(h:s≠⟨#[120]⟩)(b:n5 s):LQ 1 ([c,fs.getD 1 0,fs.getD 2 0].getD (bB xyz s) 0):=by
 rcases b with rfl|rfl|rfl
 ·exact absurd rfl h
 ·exact a 1
 ·exact a 2
theorem SBp.sz {t u:Tm}(c:GrT 3 u){fs:List Rat}(e:∀ i,LQ 1 (fs.getD i 0))(d:Nat)(v:Tm)(h:SBp u t d v):LQ 3000 (aA (bB xyz) [(aA (bB xyz) fs 3 u).2.1,fs.getD 1 0,fs.getD 2 0] d v).2.1/\∀ i,LQ 1000000 ((aA (bB xyz) [(aA (bB xyz) fs 3 u).2.1,fs.getD 1 0,fs.getD 2 0] d v).2.2.getD i 0):=by
 obtain ⟨h1,l,o⟩:=h;have k:=(jE (ix:=bB xyz) e c.1).2.1;obtain ⟨_,f,j⟩:=mq (nm:=⟨#[120]⟩) (at_:=[(aA (bB xyz) fs 3 u).2.1,fs.getD 1 0,fs.getD 2 0]) (fun s a b=>v6 e s a b) c.1 (xV c.1) k l;exact ⟨f.mono oM,fun i=>(j i).mono (by have:=Gm o h1;omega)⟩
theorem tR {t u:Tm}{fs:List Rat}{e1 e2 B:Int}{d D H:Rat}{b a e:List Rat}(h:GrT 3 t)(f:GrT 3 u)(hf:fs.length=3)(h1:DrunR 3 u xyz fs e1 d b)(h0:e1=0)(U:DrunR 3 t xyz [d,fs.getD 1 0,fs.getD 2 0] e2 D a)(O:DrunR 6 (bh ⟨#[120]⟩ u 3 t) xyz fs B H e):B=e2/\b.length=3/\(e2≠0\/a.length=3/\e.length=3)/\(e2=0->H=D/\e.getD 0 0=a.getD 0 0*b.getD 0 0/\e.getD 1 0=a.getD 0 0*b.getD 1 0+a.getD 1 0/\e.getD 2 0=a.getD 0 0*b.getD 2 0+a.getD 2 0):=by
 obtain ⟨J,X⟩:=jF (nm:=⟨#[120]⟩) h f;have o:=h1.of (jA f.1 (by have:=f.w3;omega) hf);have K:=U.of (jA h.1 (by have:=h.w3;omega) rfl);have j:=O.of (jA J oM hf)
 obtain ⟨x,y,z,rfl⟩:∃ x y z,fs=[x,y,z]:=by
  match fs,hf with
  | [x,y,z],_=>exact ⟨x,y,z,rfl⟩
 have hz:(aA (bB xyz) [x,y,z] 3 u).1=0:=by rw[<-o];exact h0
 have V:d=(aA (bB xyz) [x,y,z] 3 u).2.1:=congrArg (·.2.1) o;have I:b=(aA (bB xyz) [x,y,z] 3 u).2.2:=congrArg (·.2.2) o;have p:=uF (ix:=bB xyz) (fs:=[x,y,z]) (nm:=⟨#[120]⟩) (fun s (F:n5 s)=>xq F) (fun s F S=>ww F S) (show bB xyz ⟨#[120]⟩<3 by decide) f.1.wf hz h.1.wf;have W:([x,y,z]:List Rat).set (bB xyz ⟨#[120]⟩) (aA (bB xyz) [x,y,z] 3 u).2.1=[d,y,z]:=by rw[V];rfl
 rw[W] at p
 have c:(e2,D,a)=aA (bB xyz) [d,y,z] 3 t:=K;rw[<-I,<-c,<-j] at p
 obtain ⟨i,Q⟩:=p;replace i:B=e2:=i;refine ⟨i,?_,?_,fun k=>?_⟩
 ·rw[I];exact dM f.1 hz
 ·by_cases k:e2=0
  ·right
   have l2:=dM (ix:=bB xyz) (at_:=[d,y,z]) h.1 (by rw[<-c];exact k);have l3:=dM (ix:=bB xyz) (at_:=[x,y,z]) J (by rw[<-j];exact i.trans k);rw[<-c] at l2
   rw[<-j] at l3
   exact ⟨l2,l3⟩
  ·exact .inl k
 ·obtain ⟨L,l⟩:=Q k
  have c0:=l 0 (by show 0<3;decide);have c1:=l 1 (by show 1<3;decide);have c2:=l 2 (by show 2<3;decide);have M:bB xyz ⟨#[120]⟩=0:=by decide
  rw[M] at c0 c1 c2
  rw[if_pos rfl] at c0
  rw[if_neg kD] at c1 c2
  refine ⟨L,?_,c1,c2⟩;have C:e.getD 0 0=a.getD 0 0*b.getD 0 0+0:=c0;rw[C];grind
theorem CX (ok:ByteArray->Prop)(ix:ByteArray->Nat)(fs:List Rat)(b:Z9)(e:Nat)(y:fs.length<=1000)(i:Nat)(u:List MapEntry)(I:Nat->Tm->Prop)(d:Nat)(n:Int)(q:Rat)(s:ByteArray)(A:Z9)(c:Nat)(ps:List PTm)(ks:List Tm)(w:World)(h:Hp)(g:G w h)(C:SlO 9 be aZ h A ps)(F:Sq b fs h)(hM:MapS h i u):CR 24 #[.agg #[.iface 73 (.agg #[.slice b fs.length e]),.map (some i),.bool false],az ⟨1,n,q,s,A,ps.length,c⟩] w h (fun v h1=>∃ (x:Z9)(c_:Nat),v=.tuple #[iy (aA ix fs (d+1) (.mk 1 n q s ks)).2.1 x (aA ix fs (d+1) (.mk 1 n q s ks)).2.2.length c_,iV (aA ix fs (d+1) (.mk 1 n q s ks)).1]/\Sq x (aA ix fs (d+1) (.mk 1 n q s ks)).2.2 h1):=by
 have a:=((((sS g).aS C).aS F).add (K:=fun D=>MapS D i u) hM);refine go Tryz.func24 [(0,.agg #[.iface 73 (.agg #[qS b fs.length e]),.map (some i),qF]),(1,az ⟨1,n,q,s,A,ps.length,c⟩)] rfl (aD (lA 2 79 ([.iface 73 (.agg #[qS b fs.length e]),.map (some i),qF]) a (fun z w2 H a=>lA 3 42 (be ⟨1,n,q,s,A,ps.length,c⟩) a (fun l Q O a=>lA 4 54 ([qF,uV 0,eS,uV 0,eS,sZ]) a (fun J L M a=>lL a ac (aK (lA 6 54 ([qF,uV 0,eS,uV 0,eS,sZ]) a (fun B _ _ a=>af (aa a [.v (pB l),.o (iV 1) 2 0 1] (ba (aa a [.v qT,.c] (ar (aa a [.v (pB z),.o (.iface 73 (.agg #[qS b fs.length e])) 3 0 1,.v (qP l 2),.o (qv q) 2 2 5] (lC 19 a (fR b fs.length e y q _ _ a.g) ?_))))))))))))));rintro _ _ _ a ⟨p,rfl,j⟩;replace a:=a.aS j;exact lP 1 0 (qZ q (sB p) ((yJ fs.length (0:Rat)).length) fs.length) a (fun _ a=>lL a ac (ae a [(1,0,6)] (.tuple #[qY q (sB p) ((yJ fs.length (0:Rat)).length) fs.length,iV 0]) (⟨_,_,rfl,a.f.1⟩)))
theorem Cu (ok:ByteArray->Prop)(ix:ByteArray->Nat)(fs:List Rat)(b:Z9)(j:Nat)(D:fs.length<=1000)(e:Nat)(x:List MapEntry)(Q:Nat->Tm->Prop)(d:Nat)(n:Int)(q:Rat)(s:ByteArray)(A:Z9)(c:Nat)(ps:List PTm)(ks:List Tm)(u:ix s<fs.length)(p:∃ i,Instr.findNow .string (.string s) x 0=some (some (i,nV (ix s))))(w:World)(h:Hp)(g:G w h)(I:SlO 9 be aZ h A ps)(L:Sq b fs h)(hM:MapS h e x):CR 24 #[.agg #[.iface 73 (.agg #[.slice b fs.length j]),.map (some e),.bool false],az ⟨2,n,q,s,A,ps.length,c⟩] w h (fun v h1=>∃ (C:Z9)(c_:Nat),v=.tuple #[iy (aA ix fs (d+1) (.mk 2 n q s ks)).2.1 C (aA ix fs (d+1) (.mk 2 n q s ks)).2.2.length c_,iV (aA ix fs (d+1) (.mk 2 n q s ks)).1]/\Sq C (aA ix fs (d+1) (.mk 2 n q s ks)).2.2 h1):=by
 have a:=((((sS g).aS I).aS L).add (K:=fun J=>MapS J e x) hM);refine go Tryz.func24 [(0,.agg #[.iface 73 (.agg #[qS b fs.length j]),.map (some e),qF]),(1,az ⟨2,n,q,s,A,ps.length,c⟩)] rfl (aD (lA 2 79 ([.iface 73 (.agg #[qS b fs.length j]),.map (some e),qF]) a (fun y w2 O a=>lA 3 42 (be ⟨2,n,q,s,A,ps.length,c⟩) a (fun z X W a=>lA 4 54 ([qF,uV 0,eS,uV 0,eS,sZ]) a (fun S U V a=>lL a ac (aK (lA 6 54 ([qF,uV 0,eS,uV 0,eS,sZ]) a (fun H _ _ a=>af (aa a [.v (pB z),.o (iV 2) 2 0 1] (ba (aa a [.v qF,.c] (aj (aa a [.v qT,.c] (ar (aa a [.v (pB y),.o (.iface 73 (.agg #[qS b fs.length j])) 3 0 1,.v (qP y 1),.o (.map (some e)) 3 1 1,.v (qP z 7),.o (.string s) 2 7 1] (C6 28 74 9 3 (s) false (nV (ix s)) (true) a a.f.1 ?_ (hf:=(by obtain ⟨F,M⟩:=p;exact .inl ⟨F,M,rfl⟩))))))))))))))))));refine lC 29 a (rO b fs.length j D fs rfl (ix s) u _ _ a.g a.f.2.1) ?_;rintro _ _ _ a ⟨B,rfl,l⟩;replace a:=a.aS l;exact lP 1 0 (qZ (fs.getD (ix s) 0) (sB B) ((ck fs.length (ix s)).length) fs.length) a (fun _ a=>lL a ac (ae a [(1,0,6)] (.tuple #[qY (fs.getD (ix s) 0) (sB B) ((ck fs.length (ix s)).length) fs.length,iV 0]) (⟨_,_,rfl,a.f.1⟩)))
theorem CP  (ok:ByteArray->Prop)(ix:ByteArray->Nat)(fs:List Rat)(j:Z9)(l:Nat)(hm:fs.length<=1000)(e:Nat)(es:List MapEntry)(SB:Nat->Tm->Prop)(d:Nat)(ih:∀ (p:PTm) (t:Tm) (w:World) (h:Hp),G w h->TmH d h p t->WfT1 ok d t->SB d t->Sq j fs h->MapS h e es->Tab h->Calls Tryz.prog 24 #[.agg #[.iface 73 (.agg #[.slice j fs.length l]),.map (some e),.bool false],az p] w (Ret w h (fun v h1=>∃ (D:Z9)(c_:Nat),v=.tuple #[iy (aA ix fs d t).2.1 D (aA ix fs d t).2.2.length c_,iV (aA ix fs d t).1]/\Sq D (aA ix fs d t).2.2 h1)))(op n:Int)(q:Rat)(s:ByteArray)(A:Z9)(c:Nat)(u:PTm)(b:Tm)(B:WfT1 ok d b)(J:SB d b)(W:LQ 3000 (aA ix fs d b).2.1)(U:∀ i,LQ 1000000 ((aA ix fs d b).2.2.getD i 0))(hop:3<=op/\op<=13)(har:fb op=1)(hn : -12<=n/\n<=12)(w:World)(h:Hp)(g:G w h)(hK:SlO 9 be aZ h A ([u]:List PTm))(Z:TmH d h u b)(hF:Sq j fs h)(hM:MapS h e es)(tb:Tab h):CR 24 #[.agg #[.iface 73 (.agg #[.slice j fs.length l]),.map (some e),.bool false],az ⟨op,n,q,s,A,1,c⟩] w h (fun v h1=>∃ (D:Z9)(c_:Nat),v=.tuple #[iy (aA ix fs (d+1) (.mk op n q s ([b]:List Tm))).2.1 D (aA ix fs (d+1) (.mk op n q s ([b]:List Tm))).2.2.length c_,iV (aA ix fs (d+1) (.mk op n q s ([b]:List Tm))).1]/\Sq D (aA ix fs (d+1) (.mk op n q s ([b]:List Tm))).2.2 h1):=by
 have a:=((((((sS g).aS hK).add (K:=fun X=>TmH d X u b) Z).aS hF).add (K:=fun X=>MapS X e es) hM).aB tb);have hln:([u]:List PTm).length=1:=rfl;have hac:=aN op;refine go Tryz.func24 [(0,.agg #[.iface 73 (.agg #[qS j fs.length l]),.map (some e),qF]),(1,az ⟨op,n,q,s,A,1,c⟩)] rfl (aD (lA 2 79 ([.iface 73 (.agg #[qS j fs.length l]),.map (some e),qF]) a (fun b1 w2 h3 a=>lA 3 42 (be ⟨op,n,q,s,A,1,c⟩) a (fun O w5 h6 a=>lA 4 54 ([qF,uV 0,eS,uV 0,eS,sZ]) a (fun b7 w8 h9 a=>lL a ac (aK (lA 6 54 ([qF,uV 0,eS,uV 0,eS,sZ]) a (fun b10 _ _ a=>af (aa a [.v (pB O),.o (iV op) 2 0 1] (ba (aD ?_)))))))))));have zc:((op:Int) == (1:Int))=false:=e9 oM;have L:=aq zc;refine lB 14 zc (lL a ac (aj (aD ?_)));have zd:((op:Int) == (2:Int))=false:=e9 oM;have V:=aq zd;refine lB 21 zd (lL a ac (aj (cK (cQ ?_))));have Y:=a;refine cR 10 [⟨9,7,.cells (GX [qF,uV 0,eS,uV 0,eS,sZ]) 54 (0,0)⟩] mixed a (aW (cl kR (fun _ _=>by kernel_rfl)) am) (eO 0 31 [(3,0,3)] (.agg #[.iface 73 (.agg #[qS j fs.length l]),.map (some e),qF]) a (eV 1 32 (qP O 8) (eO 2 33 [(2,8,1)] (qS A 1 c) a (eX 3 34 A 1 c 9 0 0 ((a.f.q.1).ok oM) (eH 4 35 (az (([u]:List PTm).getD 0 aZ)) a ((a.f.q.1).el 0 oM) (eC 5 36 a (fun _ _ a=>ih (([u]:List PTm).getD 0 aZ) b _ _ a.g a.f.r.2.1 B J a.f.r.1 a.f.2.1 a.f.1) ?_))))));rintro _ _ _ _ _ a ⟨x,c1,rfl,Q⟩;replace a:=a.aS Q;refine eV 6 30 (.tuple #[qY ((aA ix fs d b).2.1) x (((aA ix fs d b).2.2).length) c1,iV ((aA ix fs d b).1)]) (eV 7 37 (qY ((aA ix fs d b).2.1) x (((aA ix fs d b).2.2).length) c1) (eV 8 38 (iV ((aA ix fs d b).1)) (dm [] Y a 54 [qF,uV 0,eS,uV 0,eS,sZ] (fun _ _ zg a=>tP 10 0 0 (qZ ((aA ix fs d b).2.1) x (((aA ix fs d b).2.2).length) c1) a (fun _ a=>tV 11 8 (iV ((aA ix fs d b).1)) (tN (cQ (aa a ac ?_))))))));cases I:(((aA ix fs d b).1:Int) != (0:Int))
 .
  have ze:=aJ I;refine lB 40 I (aj (cK (cQ (aa a [.v (qP O 8),.o (qS A 1 c) 3 8 1,.v (iV 1),.v qT] (ar (kQ (lL a [.o (.agg #[.iface 73 (.agg #[qS j fs.length l]),.map (some e),qF]) 4 0 3,.o (az ⟨op,n,q,s,A,1,c⟩) 3 0 9,.o (qY ((aA ix fs d b).2.1) x (((aA ix fs d b).2.2).length) c1) 0 0 6] (lC 51 a (p9 j fs.length l hm 3000 1000000 kD kD kD e op n q s A 1 c (aA ix fs d b).2.1 (aA ix fs d b).2.2 x c1 (dM B oM) W U oM (fun _=>hn) _ _ a.g a.f.1 a.f.2.1) ?_))))))));rintro _ _ _ a ⟨C,Gr,F,y,rfl,M,S⟩;replace a:=a.aS M;refine lL a [.c,.v (qY C F Gr.length y),.v (iV (bI op n (aA ix fs d b).2.1 0))] (lP 0 0 (qZ C F Gr.length y) a (fun _ a=>lL a ac (af (aa a ac ?_))));cases H:(((bI op n (aA ix fs d b).2.1 0):Int) != (0:Int))
  .
   have zf:=aJ H;exact lB 76 H (aj (cK (aa a [.o (qY C F Gr.length y) 0 0 6] (lP 2 0 (qZ C F Gr.length y) a (fun _ a=>lL a ac (ae a [(2,0,6)] (.tuple #[qY C F Gr.length y,iV 0]) (by obtain ⟨e1_,z⟩:=S oM;rw[iY oM oM,ia oM rfl oM,e1_,z];exact ⟨_,_,rfl,by rw[<-z];exact a.f.1⟩)))))))
  have zf:=aU H;refine lB 76 H (ar (aa a [.o (.agg #[qF,uV 0,eS,uV 0,eS,sZ]) 1 0 6,.c] (lP 2 0 ([qF,uV 0,eS,uV 0,eS,sZ]) a (fun _ a=>lL a ac (lN (bS [(4,pB b7),(5,iV (bI op n (aA ix fs d b).2.1 0)),(7,pB zg)] ?_))))));exact kX (a.ret [(2,0,6)] (.tuple #[.agg #[qF,uV 0,eS,uV 0,eS,sZ],iV (bI op n (aA ix fs d b).2.1 0)]) (by rw[iY oM oM,g7 oM rfl oM];exact ⟨none,0,rfl,SlO.nil⟩))
 have ze:=aU I;exact lB 40 I (ar (aa a [.o (.agg #[qF,uV 0,eS,uV 0,eS,sZ]) 1 0 6,.c] (lP 2 0 ([qF,uV 0,eS,uV 0,eS,sZ]) a (fun _ a=>lL a ac (ae a [(2,0,6)] (.tuple #[.agg #[qF,uV 0,eS,uV 0,eS,sZ],iV ((aA ix fs d b).1)]) (by rw[iY oM oM,io oM];exact ⟨none,0,rfl,SlO.nil⟩))))))
theorem BY  (ok:ByteArray->Prop)(ix:ByteArray->Nat)(fs:List Rat)(l:Z9)(y:Nat)(hm:fs.length<=1000)(j:Nat)(X:List MapEntry)(SB:Nat->Tm->Prop)(d:Nat)(ih:∀ (p:PTm) (t:Tm) (w:World) (h:Hp),G w h->TmH d h p t->WfT1 ok d t->SB d t->Sq l fs h->MapS h j X->Tab h->Calls Tryz.prog 24 #[.agg #[.iface 73 (.agg #[.slice l fs.length y]),.map (some j),.bool false],az p] w (Ret w h (fun v h1=>∃ (Q:Z9)(c_:Nat),v=.tuple #[iy (aA ix fs d t).2.1 Q (aA ix fs d t).2.2.length c_,iV (aA ix fs d t).1]/\Sq Q (aA ix fs d t).2.2 h1)))(op n:Int)(q:Rat)(s:ByteArray)(A:Z9)(c:Nat)(u:PTm)(b:Tm)(B:WfT1 ok d b)(hg1:SB d b)(hv1:LQ 3000 (aA ix fs d b).2.1)(hG1:∀ i,LQ 1000000 ((aA ix fs d b).2.2.getD i 0))(x:PTm)(e:Tm)(O:WfT1 ok d e)(hg2:SB d e)(hv2:LQ 3000 (aA ix fs d e).2.1)(hG2:∀ i,LQ 1000000 ((aA ix fs d e).2.2.getD i 0))(hop:3<=op/\op<=13)(har:fb op=2)(hn : -12<=n/\n<=12)(w:World)(h:Hp)(g:G w h)(hK:SlO 9 be aZ h A ([u,x]:List PTm))(hp1:TmH d h u b)(hp2:TmH d h x e)(hF:Sq l fs h)(hM:MapS h j X)(tb:Tab h):CR 24 #[.agg #[.iface 73 (.agg #[.slice l fs.length y]),.map (some j),.bool false],az ⟨op,n,q,s,A,2,c⟩] w h (fun v h1=>∃ (Q:Z9)(c_:Nat),v=.tuple #[iy (aA ix fs (d+1) (.mk op n q s ([b,e]:List Tm))).2.1 Q (aA ix fs (d+1) (.mk op n q s ([b,e]:List Tm))).2.2.length c_,iV (aA ix fs (d+1) (.mk op n q s ([b,e]:List Tm))).1]/\Sq Q (aA ix fs (d+1) (.mk op n q s ([b,e]:List Tm))).2.2 h1):=by
 have a:=(((((((sS g).aS hK).add (K:=fun J=>TmH d J u b) hp1).add (K:=fun J=>TmH d J x e) hp2).aS hF).add (K:=fun J=>MapS J j X) hM).aB tb);have hln:([u,x]:List PTm).length=2:=rfl;have hac:=aN op;refine go Tryz.func24 [(0,.agg #[.iface 73 (.agg #[qS l fs.length y]),.map (some j),qF]),(1,az ⟨op,n,q,s,A,2,c⟩)] rfl (aD (lA 2 79 ([.iface 73 (.agg #[qS l fs.length y]),.map (some j),qF]) a (fun b1 w2 h3 a=>lA 3 42 (be ⟨op,n,q,s,A,2,c⟩) a (fun H w5 h6 a=>lA 4 54 ([qF,uV 0,eS,uV 0,eS,sZ]) a (fun b7 w8 h9 a=>lL a ac (aK (lA 6 54 ([qF,uV 0,eS,uV 0,eS,sZ]) a (fun zj _ _ a=>af (aa a [.v (pB H),.o (iV op) 2 0 1] (ba (aD ?_)))))))))));have zd:((op:Int) == (1:Int))=false:=e9 oM;have bd:=aq zd;refine lB 14 zd (lL a ac (aj (aD ?_)));have ze:((op:Int) == (2:Int))=false:=e9 oM;have bb:=aq ze;refine lB 21 ze (lL a ac (aj (cK (cQ ?_))));have z:=a;refine cR 10 [⟨9,7,.cells (GX [qF,uV 0,eS,uV 0,eS,sZ]) 54 (0,0)⟩] mixed a (aW (cl kR (fun _ _=>by kernel_rfl)) am) (eO 0 31 [(3,0,3)] (.agg #[.iface 73 (.agg #[qS l fs.length y]),.map (some j),qF]) a (eV 1 32 (qP H 8) (eO 2 33 [(2,8,1)] (qS A 2 c) a (eX 3 34 A 2 c 9 0 0 ((a.f.q.2.1).ok oM) (eH 4 35 (az (([u,x]:List PTm).getD 0 aZ)) a ((a.f.q.2.1).el 0 oM) (eC 5 36 a (fun _ _ a=>ih (([u,x]:List PTm).getD 0 aZ) b _ _ a.g a.f.q.1 B hg1 a.f.r.1 a.f.2.1 a.f.1) ?_))))));rintro _ _ _ _ _ a ⟨C,c1,rfl,hS1⟩;replace a:=a.aS hS1;refine eV 6 30 (.tuple #[qY ((aA ix fs d b).2.1) C (((aA ix fs d b).2.2).length) c1,iV ((aA ix fs d b).1)]) (eV 7 37 (qY ((aA ix fs d b).2.1) C (((aA ix fs d b).2.2).length) c1) (eV 8 38 (iV ((aA ix fs d b).1)) (dm [] z a 54 [qF,uV 0,eS,uV 0,eS,sZ] (fun _ _ zk a=>tP 10 0 0 (qZ ((aA ix fs d b).2.1) C (((aA ix fs d b).2.2).length) c1) a (fun _ a=>tV 11 8 (iV ((aA ix fs d b).1)) (tN (cQ (aa a ac ?_))))))));cases V:(((aA ix fs d b).1:Int) != (0:Int))
 .
  have zf:=aJ V;refine lB 40 V (aj (cK (cQ (aa a [.v (qP H 8),.o (qS A 2 c) 3 8 1,.v (iV 2),.v qF] (aj (cQ ?_))))));have z:=a;refine cR 10 [⟨9,9,.cells (GX [qF,uV 0,eS,uV 0,eS,sZ]) 54 (0,0)⟩] mixed a (aW (cl kR (fun _ _=>by kernel_rfl)) am) (eO 0 55 [(4,0,3)] (.agg #[.iface 73 (.agg #[qS l fs.length y]),.map (some j),qF]) a (eV 1 56 (qP H 8) (eO 2 57 [(3,8,1)] (qS A 2 c) a (eX 3 58 A 2 c 9 1 1 ((a.f.q.r.1).ok oM) (eH 4 59 (az (([u,x]:List PTm).getD 1 aZ)) a ((a.f.q.r.1).el 1 oM) (eC 5 60 a (fun _ _ a=>ih (([u,x]:List PTm).getD 1 aZ) e _ _ a.g a.f.q.1 O hg2 a.f.r.2.1 a.f.r.1 a.f.2.1) ?_))))));rintro _ _ _ _ _ a ⟨F,c2,rfl,Z⟩;replace a:=a.aS Z;refine eV 6 54 (.tuple #[qY ((aA ix fs d e).2.1) F (((aA ix fs d e).2.2).length) c2,iV ((aA ix fs d e).1)]) (eV 7 61 (qY ((aA ix fs d e).2.1) F (((aA ix fs d e).2.2).length) c2) (eV 8 62 (iV ((aA ix fs d e).1)) (dm [] z a 54 [qF,uV 0,eS,uV 0,eS,sZ] (fun _ _ zl a=>tP 10 0 0 (qZ ((aA ix fs d e).2.1) F (((aA ix fs d e).2.2).length) c2) a (fun _ a=>tV 11 10 (iV ((aA ix fs d e).1)) (tN (bS [(2,pB b1),(3,pB H),(4,pB b7),(5,iV 0),(6,pB zj),(7,pB zk),(8,iV ((aA ix fs d b).1)),(9,pB zl),(10,iV ((aA ix fs d e).1))] ?_)))))));refine cQ (aa a ac ?_);cases U:(((aA ix fs d e).1:Int) != (0:Int))
  .
   have zg:=aJ U;refine lB 64 U (aj (cK (kQ (lL a [.o (.agg #[.iface 73 (.agg #[qS l fs.length y]),.map (some j),qF]) 5 0 3,.o (az ⟨op,n,q,s,A,2,c⟩) 4 0 9,.o (qY ((aA ix fs d b).2.1) C (((aA ix fs d b).2.2).length) c1) 1 0 6,.o (qY ((aA ix fs d e).2.1) F (((aA ix fs d e).2.2).length) c2) 0 0 6] (lC 72 a (qp l fs.length y hm 3000 1000000 kD kD kD j op n q s A 2 c (aA ix fs d b).2.1 (aA ix fs d b).2.2 C c1 (dM B oM) hv1 hG1 (aA ix fs d e).2.1 (aA ix fs d e).2.2 F c2 (dM O oM) hv2 hG2 oM _ _ a.g a.f.2.1 a.f.1 a.f.r.1) ?_)))));rintro _ _ _ a ⟨L,Gr,D,M,rfl,W,hRr⟩;replace a:=a.aS W;refine lL a [.c,.v (qY L D Gr.length M),.v (iV (bI op n (aA ix fs d b).2.1 (aA ix fs d e).2.1))] (lP 1 0 (qZ L D Gr.length M) a (fun _ a=>lL a ac (af (aa a ac ?_))));cases S:(((bI op n (aA ix fs d b).2.1 (aA ix fs d e).2.1):Int) != (0:Int))
   .
    have zi:=aJ S;exact lB 76 S (aj (cK (aa a [.o (qY L D Gr.length M) 1 0 6] (lP 3 0 (qZ L D Gr.length M) a (fun _ a=>lL a ac (ae a [(3,0,6)] (.tuple #[qY L D Gr.length M,iV 0]) (by obtain ⟨Y,I⟩:=hRr oM;rw[gG oM oM,ia oM oM oM,Y,I];exact ⟨_,_,rfl,by rw[<-I];exact a.f.1⟩)))))))
   have zi:=aU S;exact lB 76 S (ar (aa a [.o (.agg #[qF,uV 0,eS,uV 0,eS,sZ]) 2 0 6,.c] (lP 3 0 ([qF,uV 0,eS,uV 0,eS,sZ]) a (fun _ a=>lL a ac (ae a [(3,0,6)] (.tuple #[.agg #[qF,uV 0,eS,uV 0,eS,sZ],iV (bI op n (aA ix fs d b).2.1 (aA ix fs d e).2.1)]) (by rw[gG oM oM,g7 oM oM oM];exact ⟨none,0,rfl,SlO.nil⟩))))))
  have zg:=aU U;exact lB 64 U (ar (aa a [.o (.agg #[qF,uV 0,eS,uV 0,eS,sZ]) 2 0 6,.c] (lP 3 0 ([qF,uV 0,eS,uV 0,eS,sZ]) a (fun _ a=>lL a ac (ae a [(3,0,6)] (.tuple #[.agg #[qF,uV 0,eS,uV 0,eS,sZ],iV ((aA ix fs d e).1)]) (by rw[gG oM oM,jQ oM oM];exact ⟨none,0,rfl,SlO.nil⟩))))))
 have zf:=aU V;exact lB 40 V (ar (aa a [.o (.agg #[qF,uV 0,eS,uV 0,eS,sZ]) 1 0 6,.c] (lP 2 0 ([qF,uV 0,eS,uV 0,eS,sZ]) a (fun _ a=>lL a ac (ae a [(2,0,6)] (.tuple #[.agg #[qF,uV 0,eS,uV 0,eS,sZ],iV ((aA ix fs d b).1)]) (by rw[gG oM oM,io oM];exact ⟨none,0,rfl,SlO.nil⟩))))))
theorem Ae (ok:ByteArray->Prop)(ix:ByteArray->Nat)(fs:List Rat)(j:Z9)(B:Nat)(C:fs.length<=1000)(y:Nat)(u:List MapEntry)(a:Nat->Tm->Prop)(D:∀ d op n q s ks,WfT1 ok (d+1) (.mk op n q s ks)->a (d+1) (.mk op n q s ks)->∀ i,i<ks.length->a d (ks.getD i bZ))(F:∀ d t,WfT1 ok d t->a d t->LQ 3000 (aA ix fs d t).2.1/\∀ i,LQ 1000000 ((aA ix fs d t).2.2.getD i 0))(o:∀ s,ok s->ix s<fs.length/\∃ i,Instr.findNow .string (.string s) u 0=some (some (i,nV (ix s)))):∀ (d:Nat) (p:PTm) (t:Tm) (w:World) (h:Hp),G w h->TmH d h p t->WfT1 ok d t->a d t->Sq j fs h->MapS h y u->Tab h->Calls Tryz.prog 24 #[.agg #[.iface 73 (.agg #[.slice j fs.length B]),.map (some y),.bool false],az p] w (Ret w h (fun v h1=>∃ (U:Z9)(c_:Nat),v=.tuple #[iy (aA ix fs d t).2.1 U (aA ix fs d t).2.2.length c_,iV (aA ix fs d t).1]/\Sq U (aA ix fs d t).2.2 h1))
  | 0,_,_,_,_,_,x,_,_,_,_,_=>x.elim
  | d + 1,p,t,w,h,g,x,wf,hw,hF,hM,tb=>by
    obtain ⟨op,n,q,s,A,c,ps,ks,rfl,rfl,Y,J,e⟩:=x.open;have b:=D d op n q s ks wf hw;obtain ⟨w1,w2,w3,S,Z,X,K,I,H⟩:=wf;replace w1:fb op=(ks.length:Nat):=w1;replace K : -12<=n:=K;replace I:n<=12:=I;replace H:∀ i,i<ks.length->WfT1 ok d (ks.getD i bZ):=H;have V:=aN op;have Q:=fun p t w h=>Ae ok ix fs j B C y u a D F o d p t w h
    have z:=F d
    rcases fd w1 with rfl|⟨t1,rfl⟩|⟨t1,t2,rfl⟩
    . simp only[HE] at w1
      by_cases o1:op=1
      . subst o1;exact CX ok ix fs j B C y u a d n q s A c ps [] w h g J hF hM
      . obtain rfl:op=2:=by omega
        exact Cu ok ix fs j B C y u a d n q s A c ps [] (o s (S rfl)).1 (o s (S rfl)).2 w h g J hF hM
    . obtain ⟨L,rfl⟩:=HP.1 (show ps.length=1 from e.len)
      simp only[yc,HE] at w1
      have l:WfT1 ok d t1:=H 0 (GD _);have f:a d t1:=b 0 (GD _);exact CP ok ix fs j B C y u a d Q op n q s A c L t1 l f (z t1 l f).1 (z t1 l f).2 oM oM ⟨K,I⟩ w h g J (e.at_ 0 (GD _)) hF hM tb
    . obtain ⟨L,W,rfl⟩:=k7 (show ps.length=2 from e.len)
      simp only[yc,HE] at w1
      have l:WfT1 ok d t1:=H 0 (GD _);have O:WfT1 ok d t2:=H 1 (by show 1<2;decide);have f:a d t1:=b 0 (GD _);have M:a d t2:=b 1 (by show 1<2;decide);exact BY ok ix fs j B C y u a d Q op n q s A c L t1 l f (z t1 l f).1 (z t1 l f).2 W t2 O M (z t2 O M).1 (z t2 O M).2 oM oM ⟨K,I⟩ w h g J (e.at_ 0 (GD _)) (e.at_ 1 (by show 1<2;decide)) hF hM tb
theorem EW (d:Nat)(p:PTm)(t:Tm)(X:d<=20)(D:Z9)(y:Nat)(ns:List ByteArray)(z:NsD ns)(fs:List Rat)(u:Z9)(x:Nat)(V:fs.length<=1000)(C:Nat->Tm->Prop)(J:∀ d op n q s ks,WfT1 (fun s=>s∈ns) (d+1) (.mk op n q s ks)->C (d+1) (.mk op n q s ks)->∀ i,i<ks.length->C d (ks.getD i bZ))(S:∀ d t,WfT1 (fun s=>s∈ns) d t->C d t->LQ 3000 (aA (bB ns) fs d t).2.1/\∀ i,LQ 1000000 ((aA (bB ns) fs d t).2.2.getD i 0))(L:rc cC d t->C d t)(w:World)(h:Hp)(g:G w h)(hT:TmH d h p t)(W:SmT1 g6 d t)(hN:SlO 1 dz ⟨#[]⟩ h D ns)(hF:Sq u fs h)(Y:Tab h):CR 10 #[az p,.slice D ns.length y,.slice u fs.length x] w h (fun v h1=>∃ (e:Int)(q:Rat)(A_:Z9)(c_:Nat)(G_:List Rat),v=.tuple #[iy q A_ G_.length c_,iV e]/\Sq A_ G_ h1/\DrunR d t ns fs e q G_):=by
 have a:=(((((sS g).add (K:=fun Q=>TmH d Q p t) hT).aS hN).aS hF).aB Y);refine go Tryz.func10 [(0,az p),(1,qS D ns.length y),(2,qS u fs.length x)] rfl (aD (lA 3 42 (be p) a (fun b1 w2 h3 a=>lA 6 54 ([qF,uV 0,eS,uV 0,eS,sZ]) a (fun b4 w5 h6 a=>lL a ac (af (aa a [.o (az p) 1 0 9,.c,.c] (lR 13 46 1 ([qS u fs.length x]) a (fun U w8 h9 a=>?_))))))));replace a:=a.aS (SlO.of_flat (sz:=1) (f:=vc) (d:=undef) (b:=U) (o:=0) (l:=([qS u fs.length x]:List Value)) (fun _=>rfl) a.f.1);refine lC 14 a (pL d p t X D y ns z (sB U) 1 u fs.length x oM _ _ a.g a.f.q.2.1 W a.f.q.1 a.f.1) ?_;rintro _ _ _ a ⟨H,rfl,B⟩;refine lL a ac (aK (lL a ac ?_));cases I:((H:Int) != (0:Int))
 .
  have Z:=aJ I;refine lB 16 I (aj (cK ?_));have j:=B.ok oM;refine aa a [.c,.v (.agg #[qS u fs.length x]),.v (.iface 73 (.agg #[qS u fs.length x])),.c] (lC 23 a (ii z j.2.2.1 D y _ _ a.g a.f.q.1) ?_);rintro _ _ _ a ⟨F,rfl,hM⟩;replace a:=(a.add (K:=fun Q=>MapS Q F (gX ns)) hM);refine lL a [.v (.agg #[.iface 73 (.agg #[qS u fs.length x]),.map (some F),qF])] (lA 9 79 ([.nilIface,.map none,qF]) a (fun b17 _ _ a=>lP 0 0 ([.iface 73 (.agg #[qS u fs.length x]),.map (some F),qF]) a (fun _ a=>aK (lL a [.o (.agg #[.iface 73 (.agg #[qS u fs.length x]),.map (some F),qF]) 0 0 3,.o (az p) 2 0 9] (lC 27 a (Ae (fun s=>s∈ns) (bB ns) fs u x V F (gX ns) C J S (Ao z j.2.2.2.2 j.2.1) d p t _ _ a.g a.f.q.r.1 (vj j) (L j.1) a.f.q.1 a.f.1 a.f.r.2.1) ?_)))));rintro _ _ _ a ⟨O,cg,rfl,M⟩;replace a:=a.aS M;exact lL a [.v (qY ((aA (bB ns) fs d t).2.1) O (((aA (bB ns) fs d t).2.2).length) cg),.v (iV ((aA (bB ns) fs d t).1))] (lP 1 0 (qZ ((aA (bB ns) fs d t).2.1) O (((aA (bB ns) fs d t).2.2).length) cg) a (fun _ a=>lL a ac (ae a [(1,0,6)] (.tuple #[qY ((aA (bB ns) fs d t).2.1) O (((aA (bB ns) fs d t).2.2).length) cg,iV ((aA (bB ns) fs d t).1)]) (⟨_,_,_,_,_,rfl,a.f.1,H,B,.inr ⟨by omega,rfl⟩⟩))))
 have Z:=aU I;exact lB 16 I (ar (aa a [.v (.agg #[qF,uV 0,eS,uV 0,eS,sZ]),.c] (lP 0 0 ([qF,uV 0,eS,uV 0,eS,sZ]) a (fun _ a=>lL a ac (ae a [(0,0,6)] (.tuple #[.agg #[qF,uV 0,eS,uV 0,eS,sZ],iV H]) (⟨_,0,none,0,[],rfl,SlO.nil,H,B,.inl ⟨by omega,rfl,rfl,rfl⟩⟩))))))
theorem xN  (ok:ByteArray->Prop)(d:Nat)(V:∀ (p:PTm) (t:Tm) (w:World) (h:Hp),G w h->TmH d h p t->WfT ok d t ->  Calls Tryz.prog 21 #[az p] w (Ret w h (fun v h1=>∃ y,v=az y/\TmH d h1 y t)))(op n:Int)(q:Rat)(s:ByteArray)(A:Z9)(c:Nat)(ps:List PTm)(ks:List Tm)(hc:ps.length<=c)(hlp:ps.length<=2)(S:fb op=(ks.length:Nat))(hq0:op≠1->q=0)(hq:LQ 3000 q)(Y:op=2->ok s)(Z:op≠2->s=⟨#[]⟩)(hn0:op≠8->n=0)(hn1 : -12<=n)(hn2:n<=12)(X:∀ i,i<ks.length->WfT ok d (ks.getD i bZ))(w:World)(h:Hp)(g:G w h)(hK:SlO 9 be aZ h A ps)(I:Tms d h ps ks):CR 21 #[az ⟨op,n,q,s,A,ps.length,c⟩] w h (fun v h1=>∃ y,v=az y/\TmH (d+1) h1 y (.mk op n q s ks)):=by
 have a:=(((sS g).aS hK).add (K:=fun e=>Tms d e ps ks) I);have hln:=(a.f.1).len;refine go Tryz.func21 [(0,az ⟨op,n,q,s,A,ps.length,c⟩)] rfl (aD (lA 1 42 (be ⟨op,n,q,s,A,ps.length,c⟩) a (fun j w2 h3 a=>lA 2 42 ca a (fun D w5 h6 a=>af (aa a [.v (qP j 8),.o (qS A ps.length c) 1 8 1,.v (nV ps.length)] ?_)))));cases u:((ps.length:Int) == (0:Int))
 .
  have B:=aq u;refine lB 9 u (aj (cK (aa a [.v (qP j 8),.o (qS A ps.length c) 1 8 1,.v (nV ps.length)] (lK 15 42 ps.length 9 112 (.agg #[iV 0,iV 0,qF,uV 0,eS,uV 0,eS,eS,sZ]) be aZ a (fun b8 w9 zd a=>?_)))));have U:(yJ ps.length aZ).length=ps.length:=by simp
  refine lL a ac (af (aa a [.v (qP j 8),.o (qS A ps.length c) 2 8 1,.v (nV ps.length),.c] (ba ?_)));replace a:=a.add (K:=fun e=>TmsU d e 0 (yJ ps.length aZ) ks) ((fun i hi=>absurd hi (HA i)));refine bS _ (CG.loop (fun J Γ w_=>∃ (k:Nat)(L:List PTm)(e:Hp),J=ps.length-k/\Γ=[(1,pB j),(2,pB D),(3,qS (sB b8) ps.length ps.length),(17,qS A ps.length c),(18,nV ps.length),(19,nV k)]/\SS w h w_ e [⟨b8,42,(L).flatMap be⟩,⟨D,42,[iV 0,iV 0,qF,uV 0,eS,uV 0,eS,eS,sZ]⟩,⟨j,42,be ⟨op,n,q,s,A,ps.length,c⟩⟩] [] [fun e=>TmsU d e k L ks,fun e=>Tms d e ps ks,fun e=>SlO 9 be aZ e A ps]/\k<=ps.length/\L.length=ps.length) _ ⟨0,yJ ps.length aZ,zd,rfl,rfl,a.to _ _,GA _,(by simp)⟩ ?_);rintro _ _ _ ⟨k,L,_,M,rfl,a,hk,C⟩;refine aD ?_;cases F:(decide ((k:Int)<(ps.length:Int)))
  .
   have zb:=oF F;refine lB 20 F (af (cG (CG.exit ?_)))
   show CG _ _ _ _ _ _ _ _
   refine aD ?_;have W:k=ps.length:=by omega
   obtain ⟨_,a,z,Q,O⟩:=a.pub 0;replace a:=(a.to [⟨D,42,[iV 0,iV 0,qF,uV 0,eS,uV 0,eS,eS,sZ]⟩,⟨j,42,be ⟨op,n,q,s,A,ps.length,c⟩⟩] []).aS (SlO.of_flat (sz:=9) (f:=be) (d:=aZ) (b:=b8) (o:=0) (l:=L) (fun _=>rfl) z);exact lL a [.c,.v (qP j 8)] (lP 1 8 ([qS (sB b8) ps.length ps.length]) a (fun _ a=>aK (lL a [.o (az ⟨op,n,q,s,sB b8,ps.length,ps.length⟩) 1 0 9] (lP 0 0 (be ⟨op,n,q,s,sB b8,ps.length,ps.length⟩) a (fun _ a=>ae a [(0,0,9)] (az ⟨op,n,q,s,sB b8,ps.length,ps.length⟩) (⟨⟨op,n,q,s,sB b8,ps.length,ps.length⟩,rfl,by have e:=TmH.mk (op:=op) (n:=n) (q:=q) (s:=s) (c:=L.length) (Tms.of_u oM oM a.f.2.1) (nR _) (a.f.1);rw[C] at e;exact e⟩))))))
  have zb:=oT F;refine lB 20 F (af (bY (cK (cQ (kZ (aa a ac (lX 22 A ps.length c 9 (k:Nat) k ((a.f.r.1).ok oM) ?_)))))));refine lH 23 (az (ps.getD k aZ)) a ((a.f.r.1).el k oM) (lA 5 42 ca a (fun ze _ _ a=>lL a ac (lP 0 0 (be (ps.getD k aZ)) a (fun _ a=>lN (kQ (lL a [.c,.c,.o (az (ps.getD k aZ)) 0 0 9] (lC 27 a (V (ps.getD k aZ) (ks.getD k bZ) _ _ a.g ((a.f.2.1).at_ k oM) (X k oM)) ?_)))))));rintro _ _ zf a ⟨x,rfl,H⟩;replace a:=(a.add (K:=fun e=>TmH d e x (ks.getD k bZ)) H);refine lX 28 (sB b8) ps.length ps.length 9 (k:Nat) k rfl (lW 1 L be 9 k x a oM (fun _ a=>?_));have zc:((L).set k x).length=ps.length:=by rw[Gq];exact C
  replace a:=a.to [⟨ze,42,be (ps.getD k aZ)⟩,⟨b8,42,((L).set k x).flatMap be⟩,⟨D,42,[iV 0,iV 0,qF,uV 0,eS,uV 0,eS,eS,sZ]⟩,⟨j,42,be ⟨op,n,q,s,A,ps.length,c⟩⟩] [];refine lN (kQ (bA 29 ((k:Nat)+1) (k+1) ?_));refine lL a ac (lD ?_);intro a_ ka;replace a:=(a.tl.tl.add (K:=fun e=>TmsU d e (k+1) ((L).set k x) ks) ((a.f.2.1).set oM a.f.1));replace a:=a.drop 1 0;refine ⟨_,_,?_,⟨k+1,(L).set k x,zf,rfl,rfl,a.to _ _,oM,zc⟩,ka.to _ kR⟩
  omega
 have B:=eq_of_beq u;exact lB 9 u (ar (aa a [.v (qP j 8)] (lP 1 8 ([sZ]) a (fun _ a=>aK (lL a [.o (az ⟨op,n,q,s,none,0,0⟩) 1 0 9] (lP 0 0 (be ⟨op,n,q,s,none,0,0⟩) a (fun _ a=>ae a [(0,0,9)] (az ⟨op,n,q,s,none,0,0⟩) (⟨⟨op,n,q,s,none,0,0⟩,rfl,by obtain rfl:ks=[]:=yD oM;exact TmH.mk (op:=op) (n:=n) (q:=q) (s:=s) (c:=0) Tms.nil (nR _) SlO.nil⟩))))))))
theorem uv (ok:ByteArray->Prop):∀ (d:Nat) (p:PTm) (t:Tm) (w:World) (h:Hp),G w h->TmH d h p t->WfT ok d t ->  Calls Tryz.prog 21 #[az p] w (Ret w h (fun v h1=>∃ e,v=az e/\TmH d h1 e t))
  | 0,_,_,_,_,_,x,_=>x.elim
  | d + 1,p,t,w,h,g,x,wf=>by
    obtain ⟨op,n,q,s,A,c,ps,ks,rfl,rfl,j,o,a⟩:=x.open;obtain ⟨w1,w2,w3,f,y,i,u,l,z⟩:=wf
    have b:ps.length<=2:=by
      have e1:fb op=ks.length:=w1;have:=aN op;have:=a.len
      omega
    exact xN ok d (fun p t w h=>uv ok d p t w h) op n q s A c ps ks j b w1 w2 w3 f y i u l z w h g o a
theorem DH  (sm:ByteArray->Prop)(nm:ByteArray)(e:Nat)(y:PTm)(u:Tm)(d:Nat)(ih:∀ (p:PTm) (t:Tm) (w:World) (h:Hp),G w h->TmH d h p t->SmT sm d t->TmH e h y u->Calls Tryz.prog 20 #[az p,.string nm,az y] w (Ret w h (fun v h1=>∃ M,v=az M/\TmH (d+e) h1 M (bh nm u d t))))(op n:Int)(q:Rat)(s:ByteArray)(A:Z9)(c:Nat)(ps:List PTm)(ks:List Tm)(hc:ps.length<=c)(hlp:ps.length<=3)(hk3:ks.length<=3)(hop : -1000<=op/\op<=1000)(hn : -1000<=n/\n<=1000)(hq:LQ 3000 q)(hsm:sm s)(hW:∀ i,i<ks.length->SmT sm d (ks.getD i bZ))(w:World)(h:Hp)(g:G w h)(hK:SlO 9 be aZ h A ps)(hKs:Tms d h ps ks)(hB:TmH e h y u):CR 20 #[az ⟨op,n,q,s,A,ps.length,c⟩,.string nm,az y] w h (fun v h1=>∃ M,v=az M/\TmH (d+1+e) h1 M (bh nm u (d+1) (.mk op n q s ks))):=by
 have j:=((((sS g).aS hK).add (K:=fun x=>Tms d x ps ks) hKs).add (K:=fun x=>TmH e x y u) hB);have hln:=(j.f.2.1).len;refine go Tryz.func20 [(0,az ⟨op,n,q,s,A,ps.length,c⟩),(1,.string nm),(2,az y)] rfl (aD (lA 3 42 (be ⟨op,n,q,s,A,ps.length,c⟩) j (fun z w2 h3 j=>lA 5 42 (be y) j (fun F w5 h6 j=>lA 6 42 ca j (fun H w8 Y j=>?_)))));refine af (CG.join (fun Γ w_=>∃ (I:Bool)(x:Hp),Γ=[(1,.string nm),(3,pB z),(5,pB F),(6,pB H),(18,.bool I)]/\SS w h w_ x [⟨H,42,[iV 0,iV 0,qF,uV 0,eS,uV 0,eS,eS,sZ]⟩,⟨F,42,be y⟩,⟨z,42,be ⟨op,n,q,s,A,ps.length,c⟩⟩] [] [fun x=>TmH e x y u,fun x=>Tms d x ps ks,fun x=>SlO 9 be aZ x A ps]/\(I=true->¬(¬(op=2/\s=nm)))/\(I=false->(¬(op=2/\s=nm)))) ?_ ?_)
 .
  refine kQ (lL j [.v (pB z),.o (iV op) 2 0 1] ?_);cases U:((op:Int) == (2:Int))
  .
   have zg:=aq U;refine lB 12 U (lL j ac (lG 14 ?_));refine lG 15 (lG 16 (lG 17 (lL j [.v qF] (lD ?_))));intro X C;exact ⟨_,⟨false,Y,rfl,j.to _ _,(fun x=>absurd x kD),(fun _ x=>by first|exact absurd x.1 oM|exact (by assumption:¬s=nm) x.2)⟩,C.to _ kR⟩
  have zg:=eq_of_beq U;refine lB 12 U (lL j [.c,.v (qP z 7),.o (.string s) 2 7 1,.c] ?_);cases S:(oJ s nm)
  .
   have zi:=oy S;refine lB 17 S (lL j [.v qF] (lD ?_));intro X C;exact ⟨_,⟨false,Y,rfl,j.to _ _,(fun x=>absurd x kD),(fun _ x=>by first|exact absurd x.1 oM|exact (by assumption:¬s=nm) x.2)⟩,C.to _ kR⟩
  have zi:=oW S;refine lB 17 S (lL j [.v qT] (lD ?_));intro X C;exact ⟨_,⟨true,Y,rfl,j.to _ _,(fun _ x=>x ⟨by omega,by assumption⟩),(fun x=>absurd x kD)⟩,C.to _ kR⟩
 rintro _ _ ⟨I,_,rfl,j,zk,Q⟩;cases V:(I)
 .
  try rw[V] at j
  try rw[V]
  refine cG (cK (aa j [.v (qP z 8),.o (qS A ps.length c) 2 8 1,.v (nV ps.length)] (lK 23 42 ps.length 9 112 (.agg #[iV 0,iV 0,qF,uV 0,eS,uV 0,eS,eS,sZ]) be aZ j (fun B _ zm j=>?_))));have bd:(yJ ps.length aZ).length=ps.length:=by simp
  refine lL j ac (af (aa j [.v (qP z 8),.o (qS A ps.length c) 3 8 1,.v (nV ps.length),.c] (ba ?_)));replace j:=j.add (K:=fun x=>TmsU (d+e) x 0 (yJ ps.length aZ) (ks.map (bh nm u d))) ((fun i hi=>absurd hi (HA i)));refine bS _ (CG.loop (fun Z Γ w_=>∃ (k:Nat)(L:List PTm)(x:Hp),Z=ps.length-k/\Γ=[(1,.string nm),(3,pB z),(5,pB F),(6,pB H),(7,qS (sB B) ps.length ps.length),(25,qS A ps.length c),(26,nV ps.length),(27,nV k)]/\SS w h w_ x [⟨B,42,(L).flatMap be⟩,⟨H,42,[iV 0,iV 0,qF,uV 0,eS,uV 0,eS,eS,sZ]⟩,⟨F,42,be y⟩,⟨z,42,be ⟨op,n,q,s,A,ps.length,c⟩⟩] [] [fun x=>TmsU (d+e) x k L (ks.map (bh nm u d)),fun x=>TmH e x y u,fun x=>Tms d x ps ks,fun x=>SlO 9 be aZ x A ps]/\k<=ps.length/\L.length=ps.length) _ ⟨0,yJ ps.length aZ,zm,rfl,rfl,j.to _ _,GA _,(by simp)⟩ ?_);rintro _ _ _ ⟨k,L,_,bb,rfl,j,hk,O⟩;refine aD ?_;cases W:(decide ((k:Int)<(ps.length:Int)))
  .
   have zj:=oF W;refine lB 28 W (af (cG (CG.exit ?_)))
   show CG _ _ _ _ _ _ _ _
   refine aD ?_;have hkn:k=ps.length:=by omega
   obtain ⟨_,j,J,bf,bk⟩:=j.pub 0;replace j:=(j.to [⟨H,42,[iV 0,iV 0,qF,uV 0,eS,uV 0,eS,eS,sZ]⟩,⟨F,42,be y⟩,⟨z,42,be ⟨op,n,q,s,A,ps.length,c⟩⟩] []).aS (SlO.of_flat (sz:=9) (f:=be) (d:=aZ) (b:=B) (o:=0) (l:=L) (fun _=>rfl) J);exact lL j [.c,.v (qP z 8)] (lP 2 8 ([qS (sB B) ps.length ps.length]) j (fun _ j=>aK (lL j [.o (az ⟨op,n,q,s,sB B,ps.length,ps.length⟩) 2 0 9] (lP 0 0 (be ⟨op,n,q,s,sB B,ps.length,ps.length⟩) j (fun _ j=>ae j [(0,0,9)] (az ⟨op,n,q,s,sB B,ps.length,ps.length⟩) (⟨⟨op,n,q,s,sB B,ps.length,ps.length⟩,rfl,by rw[gi (Q aM),HZ];have x:=TmH.mk (op:=op) (n:=n) (q:=q) (s:=s) (c:=L.length) (Tms.of_u (by rw[HV];omega) (by rw[HV];omega) j.f.2.1) (nR _) (j.f.1);rw[O] at x;exact x⟩))))))
  have zj:=oT W;refine lB 28 W (af (bY (cK (cQ (kZ (aa j ac (lX 30 A ps.length c 9 (k:Nat) k ((j.f.r.2.1).ok oM) ?_)))))));refine lH 31 (az (ps.getD k aZ)) j ((j.f.r.2.1).el k oM) (lA 9 42 ca j (fun zn _ _ j=>lL j ac (lP 0 0 (be (ps.getD k aZ)) j (fun _ j=>lN (kQ (lL j [.c,.c,.o (az (ps.getD k aZ)) 0 0 9,.c,.o (az y) 3 0 9] (lC 37 j (ih (ps.getD k aZ) (ks.getD k bZ) _ _ j.g ((j.f.r.1).at_ k oM) (hW k oM) j.f.2.1) ?_)))))));rintro _ _ zo j ⟨D,rfl,hpk⟩;replace j:=(j.add (K:=fun x=>TmH (d+e) x D (bh nm u d (ks.getD k bZ))) hpk);refine lX 38 (sB B) ps.length ps.length 9 (k:Nat) k rfl (lW 1 L be 9 k D j oM (fun _ j=>?_));have zl:((L).set k D).length=ps.length:=by rw[Gq];exact O
  replace j:=j.to [⟨zn,42,be (ps.getD k aZ)⟩,⟨B,42,((L).set k D).flatMap be⟩,⟨H,42,[iV 0,iV 0,qF,uV 0,eS,uV 0,eS,eS,sZ]⟩,⟨F,42,be y⟩,⟨z,42,be ⟨op,n,q,s,A,ps.length,c⟩⟩] [];refine lN (kQ (bA 39 ((k:Nat)+1) (k+1) ?_));refine lL j ac (lD ?_);intro X C;replace j:=(j.tl.tl.add (K:=fun x=>TmsU (d+e) x (k+1) ((L).set k D) (ks.map (bh nm u d))) ((j.f.2.1).set oM (by rw[f5 (a:=bZ) oM];exact j.f.1)));replace j:=j.drop 1 0;refine ⟨_,_,?_,⟨k+1,(L).set k D,zo,rfl,rfl,j.to _ _,oM,zl⟩,C.to _ kR⟩
  omega
 try rw[V] at j
 try rw[V]
 exact bY (aa j [.o (az y) 1 0 9] (lP 0 0 (be y) j (fun _ j=>ae j [(0,0,9)] (az y) (⟨y,rfl,by have x:=Classical.not_not.1 (zk aM);rw[fU x.1 x.2];exact (j.f.1).mono oM⟩))))
theorem Db (sm:ByteArray->Prop)(nm:ByteArray)(e:Nat)(b:PTm)(u:Tm):∀ (d:Nat) (p:PTm) (t:Tm) (w:World) (h:Hp),G w h->TmH d h p t->SmT sm d t->TmH e h b u->Calls Tryz.prog 20 #[az p,.string nm,az b] w (Ret w h (fun v h1=>∃ f,v=az f/\TmH (d+e) h1 f (bh nm u d t)))
  | 0,_,_,_,_,_,x,_,_=>x.elim
  | d+1,p,t,w,h,g,x,wf,hB=>by
    obtain ⟨op,n,q,s,A,c,ps,ks,rfl,rfl,y,z,a⟩:=x.open;obtain ⟨i,j,B,l,D,o⟩:=wf;have C:ks.length<=3:=i;exact DH sm nm e b u d (fun p t w h=>Db sm nm e b u d p t w h) op n q s A c ps ks y (by have:=a.len;omega) i j B l D o w h g z a hB
theorem Ep (isb:ByteArray->Bool)(sm:ByteArray->Prop)(mL:∀ s,sm s->∀ (w:World) (h:Hp),G w h->Calls Tryz.prog 57 #[.string s] w (Ret w h (fun v _=>∃ b,v=.bool b/\b=isb s)))(nm:ByteArray)(d e:Nat)(p y:PTm)(t u:Tm)(U:d+e<=24)(w:World)(h:Hp)(g:G w h)(Z:TmH d h p t)(B:SmT sm d t)(hB:TmH e h y u)(D:SmT sm e u):CR 9 #[az p,.string nm,az y] w h (fun v h1=>∃ (O:PTm)(er:Int),v=.tuple #[az O,iV er]/\PutE (fun s=>isb s=true) nm d t e u er/\(er=0->TmH (d+e) h1 O (bh nm u d t))/\(er≠0->O=aZ)):=by
 have a:=(((sS g).add (K:=fun j=>TmH d j p t) Z).add (K:=fun j=>TmH e j y u) hB);refine go Tryz.func9 [(0,az p),(1,.string nm),(2,az y)] rfl (aD (lA 3 42 (be p) a (fun b1 w2 h3 a=>lA 5 42 (be y) a (fun b4 w5 h6 a=>lA 6 42 ca a (fun b7 w8 h9 a=>lL a ac (af (aa a [.o (az p) 2 0 9] (lC 11 a (mE isb sm mL d p t oM _ _ a.g a.f.2.1 B) ?_))))))));rintro _ _ _ a ⟨L,rfl,i⟩;cases I:((L:Int) != (0:Int))
 .
  have W:=aJ I;refine lB 12 I (lL a [.c,.o (az y) 1 0 9] (lC 15 a (mE isb sm mL e y u oM _ _ a.g a.f.1 D) ?_));rintro _ _ _ a ⟨Q,rfl,l⟩;cases H:((Q:Int) != (0:Int))
  .
   have Y:=aJ H;refine lB 16 H (lL a [.v qF] (aj (cK (aa a [.o (az p) 2 0 9,.c,.o (az y) 1 0 9] (lC 22 a (Db sm nm e y u d p t _ _ a.g a.f.2.1 B a.f.1) ?_)))));rintro _ _ _ a ⟨C,rfl,M⟩;replace a:=(a.add (K:=fun j=>TmH (d+e) j C (bh nm u d t)) M);refine lA 8 42 ca a (fun X _ _ a=>lP 0 0 (be C) a (fun _ a=>af (aa a [.o (az C) 0 0 9] (lC 24 a (mE isb sm mL (d+e) C (bh nm u d t) oM _ _ a.g a.f.1 (D.put B)) ?_))));rintro _ _ _ a ⟨z,rfl,x⟩;refine lL a ac (aK (lL a ac ?_));cases J:((z:Int) != (0:Int))
   .
    have V:=aJ J;refine lB 26 J (aj (cK (aa a [.o (az C) 0 0 9] (lC 30 a (uv (fun s=>isb s=true) (d+e) C (bh nm u d t) _ _ a.g a.f.1 (CF x oM).1) ?_))));rintro _ _ _ a ⟨F,rfl,S⟩;replace a:=(a.add (K:=fun j=>TmH (d+e) j F (bh nm u d t)) S);exact lP 1 0 (be F) a (fun _ a=>lL a ac (ae a [(1,0,9)] (.tuple #[az F,iV 0]) (⟨F,_,rfl,sh i l oM oM ((show z=0 by omega)▸x),(fun _=>(a.f.1)),(fun j=>absurd rfl j)⟩)))
   have V:=aU J;exact lB 26 J (ar (aa a [.v (.agg #[iV 0,iV 0,qF,uV 0,eS,uV 0,eS,eS,sZ]),.c] (lP 1 0 ca a (fun _ a=>lL a ac (ae a [(1,0,9)] (.tuple #[.agg #[iV 0,iV 0,qF,uV 0,eS,uV 0,eS,eS,sZ],iV z]) (⟨aZ,_,rfl,sh i l oM oM x,(fun j=>absurd j oM),(fun _=>rfl)⟩))))))
  have Y:=aU H;exact lB 16 H (lL a [.v qT] (ar (aa a [.v (.agg #[iV 0,iV 0,qF,uV 0,eS,uV 0,eS,eS,sZ])] (lP 0 0 ca a (fun _ a=>lL a ac (ae a [(0,0,9)] (.tuple #[.agg #[iV 0,iV 0,qF,uV 0,eS,uV 0,eS,eS,sZ],iV 1]) (⟨aZ,_,rfl,(by first|exact nS i oM|exact nW i l oM),(fun j=>absurd j kD),(fun _=>rfl)⟩)))))))
 have W:=aU I;refine lB 12 I (lL a ac (lG 14 ?_));exact lG 15 (lG 16 (lL a [.v qT] (ar (aa a [.v (.agg #[iV 0,iV 0,qF,uV 0,eS,uV 0,eS,eS,sZ])] (lP 0 0 ca a (fun _ a=>lL a ac (ae a [(0,0,9)] (.tuple #[.agg #[iV 0,iV 0,qF,uV 0,eS,uV 0,eS,eS,sZ],iV 1]) (⟨aZ,_,rfl,(by first|exact nS i oM|exact nW i l oM),(fun j=>absurd j kD),(fun _=>rfl)⟩))))))))
section laws
variable {M:Ms}{P:Program}{ops:Array Oper}{Q:Exit->Act->World->Prop}{k0:Nat}
theorem E.eventN {h0:Hp}{AL:List Al}{L:Array Bool}{a:Act}{w:World}{h:Hp}(I:List Nat)(i0:Nat)(J:i0∈I)
    (B:∀ i∈I,i<ops.size/\i<k0)(V:Region.noSelect ops=true)(hun:L.getD i0 true=false)
    (F:∀ j X,ops[j]?=some X->L.getD j true=false->j ∉ I->(∀ x∈AL,x.i≠j)->∃ e∈X.after,Region.binds .any e=true/\L.getD e.on false=false/\∀ x∈AL,x.i≠e.on)
    (U:∀ e∈(ak ops i0).after,Region.binds .any e=true->L.getD e.on false=true)
    (hal:∀ i∈I,∀ x∈AL,x.i≠i/\x.t ∉ (ak ops i).looksAt ops/\(ak ops i).dst≠some x.t)(oks:∀ x∈AL,AlOk P ops k0 x)(hM:∀ b∈M.l,b<h0.size)(g:G w h)(hsz:h0.size<=h.size)
    (H:∀ i∈I,L.getD i true=false->∀ w' p,Up w h w' p->OpR P ops (ak ops i) a w' (fun v o=>∃ y,UpM M.l w' p o y/\E M P ops Q k0 h0 AL (L.setIfInBounds i true) (a.put (ak ops i).dst v) o y)):E M P ops Q k0 h0 AL L a w h:=by
  have key:∀ (m:Nat) (T:List Al),T.length=m->∀ w' p,Up w h w' p->∀ (S:List SA),(S.map (·.1)++T).Perm AL->(∀ s∈S,Blk h0 w' p s)->(S.map (·.2)).Nodup ->
      A M P ops Q k0 (dg L S) (addA a S) w':=by
    intro m
    induction m using Nat.strongRecOn with
    | _ m ih =>
      intro T hT w' p u S C W Y;have f:∀ i∈I,∀ s∈S,s.1.i≠i/\s.1.t ∉ (ak ops i).looksAt ops/\(ak ops i).dst≠some s.1.t:=fun i hi s d=>hal i hi _ (fO C d)
      refine A.intro (fun h0'=>?_) (fun j hj=>?_)
      . exfalso
        have:i0∈Region.ready .any ops (dg L S):=mem_ready.2 ⟨by rw[gf true (fun s d=>(f i0 J s d).1)];exact hun,_,bC (B i0 J).1,fun e O D=>iK (U e O D)⟩;rw[h0'] at this
        cases this
      . by_cases hji:j∈I
        . have z:=bC (ops:=ops) (B j hji).1
          have c:L.getD j true=false:=by
            obtain ⟨c,_⟩:=mem_ready.1 hj;exact fc c
          refine OpR.wpOp z ((H j hji c w' p u).addA (Region.noSelect_spec V j _ · · z) S (fun s d=>(f j hji s d).2.1)) ?_;rintro v o ⟨y,u2,H3⟩;refine ⟨Rl.mo (B j hji).2 u2.mo,?_⟩;rw[<-jB L S j (fun s d=>(f j hji s d).1),<-kg a S _ v (fun s d=>(f j hji s d).2.2)];exact H3 o y (Up.refl u2.g) S T C (fun s d=>(W s d).up u2 hM) Y
        . obtain ⟨c,X,hoj,K⟩:=mem_ready.1 hj
          have hx:∃ x∈AL,x.i=j:=by
            refine Classical.byContradiction fun hno=>?_
            obtain ⟨e,O,D,hf,hne⟩:=F j X hoj (fc c) hji (fun x hx O=>hno ⟨x,hx,O⟩);have:=K e O D;rw[gf false (fun s d=>hne _ (fO C d)),hf] at this
            cases this
          obtain ⟨x,Z,rfl⟩:=hx;have hxT:=fz C Z hj;exact ma oks hM u.g (ez hsz u.gr.size) C W Y hxT (fun w1 h1 S1 T1 u1 hp1 hb1 hn1 hlt=>ih T1.length oM T1 rfl w1 h1 (u.trans u1) S1 hp1 hb1 hn1)
  exact fun w' p u S T C W Y=>key _ T rfl w' p u S C W Y
end laws
section dag
variable {M:Ms}{P:Program}{n:Nat}{N R:Po}{X:Nat->Po}{ops:Array Oper}{k0:Nat}{hr:Hp}{AL:List Al}{L:Array Bool}{Γ:bO}{w:World}{h:Hp}
def SrD (P:Program)(ops:Array Oper)(Γ:bO)(i:Nat)(w:World)(h:Hp)(Φ:Value->World->Hp->Prop):Prop :=
  (∃ v w'' h'',(execOp (ev Γ) (ak ops i)).run P w=.ok (.value v) w''/\Up w h w'' h''/\Φ v w'' h'') \/
  (∃ f args,(execOp (ev Γ) (ak ops i)).run P w=.ok (.enter f args) w/\Calls P f args w (fun e w''=>∃ v h'',e=.returned v/\Up w h w'' h''/\Φ v w'' h''))
theorem SrD.mono {i:Nat}{Φ Φ':Value->World->Hp->Prop}(x:SrD P ops Γ i w h Φ)(k:∀ v w' a,Up w h w' a->Φ v w' a->Φ' v w' a):SrD P ops Γ i w h Φ':=by
 rcases x with ⟨v,w',a,e,u,p⟩|⟨f,args,e,c⟩
 ·exact .inl ⟨v,w',a,e,u,k _ _ _ u p⟩
 ·exact .inr ⟨f,args,e,c.mono fun e w' ⟨v,a,b,u,p⟩=>⟨v,a,b,u,k _ _ _ u p⟩⟩
theorem D3 {Γ:bO}{o:Oper}(h:o.guard.isNone=true):bg ops Γ o=some true:=by
 unfold bg
 rw[H0.1 h]
theorem SrD.opR {i:Nat}{a:Act}{K:Value->World->Hp->Prop}(y:Region.noSelect ops=true)(hi:i<ops.size)(hk:a7 Γ (ak ops i)=true)(o:(ak ops i).guard.isNone=true)(d:Kn n a Γ)(x:SrD P ops Γ i w h K) :
  OpR P ops (ak ops i) a w (fun v w'=>∃ b,UpM M.l w h w' b/\K v w' b):=by
 have e1:=d.exec (Region.noSelect_spec y i _ · · (bC hi)) hk;refine ⟨d.want (D3 o),?_⟩;rw[e1]
 rcases x with ⟨v,w',b,e,u,p⟩|⟨f,args,e,c⟩
 ·exact .inl ⟨v,w',e,b,u.m M.l,p⟩
 ·exact .inr (.inr ⟨f,args,e,c.mono fun e w' ⟨v,b,j,u,p⟩=>⟨v,j,b,u.m M.l,p⟩⟩)
structure DS where
  i:Nat
  t:Nat
  K:Value->Hp->Prop
  D:List (Nat × Value)
structure DOk (P:Program) (ops:Array Oper) (Γ:bO) (s:DS):Prop where
  known:a7 (s.D++Γ) (ak ops s.i)=true
  run:∀ w h,G w h->SrD P ops (s.D++Γ) s.i w h (fun v _ h''=>s.K v h'')
  stay:∀ v h h',Gw h h'->s.K v h->s.K v h'
theorem DOk.row (i t:Nat)(ty:TypeId)(m:Nat)(cs:List Value)(D:List (Nat × Value))(hk:a7 (D++Γ) (ak ops i)=true:=by kernel_rfl)
  (hv:∀ w,(execOp (ev (D++Γ)) (ak ops i)).run P w=.ok (.value (.slice (some ⟨w.heap.size,0,none⟩) m m)) (w.alloc (.cells cs.toArray ty (0,0))):=by intro _;kernel_rfl):DOk P ops Γ ⟨i,t,fun v h=>∃ b,v=.slice (some ⟨b,0,none⟩) m m/\Seg h b 0 cs,D⟩ :=
 ⟨hk,fun w h g=>by
  have u:Up w h (w.alloc (.cells cs.toArray ty (0,0))) _:=Up.allocAny g (.cells cs.toArray ty (0,0)) (.cells cs.toArray ty (0,0)) (.inl rfl);exact .inl ⟨_,_,_,hv w,u,_,rfl,by rw[g.size];exact Seg.new cs ty⟩,fun v h a u ⟨b,e,s⟩=>⟨b,e,s.gw u⟩⟩
theorem DOk.call (i t:Nat){f:FuncId}{args:Array Value}(b:Value)(D:List (Nat × Value))(c:∀ w h,G w h->Calls P f args w (Ret w h fun v _=>v=b))(hk:a7 (D++Γ) (ak ops i)=true:=by kernel_rfl)
  (hv:∀ w,(execOp (ev (D++Γ)) (ak ops i)).run P w=.ok (.enter f args) w:=by intro _;kernel_rfl):DOk P ops Γ ⟨i,t,fun v _=>v=b,D⟩ :=
 ⟨hk,fun w h g=>.inr ⟨f,args,hv w,(c w h g).mono fun e w' ⟨v,d,j,u,a⟩=>⟨v,d,j,u,a⟩⟩,fun _ _ _ _ x=>x⟩
def oN (ops:Array Oper)(L:Array Bool)(i:Nat):Bool:=(ak ops i).after.all fun e=>!Region.binds .any e || L.getD e.on false
def Fx (n:Nat)(ops:Array Oper)(k0:Nat)(AL:List Al)(L:Array Bool)(I:List (Nat × Nat)):Bool :=
  Region.noSelect ops && (I.all fun x=>decide (x.1<ops.size) && decide (x.1<k0) && pM ops AL x.1 (ak ops x.1) && ((ak ops x.1).dst == some x.2) && decide (x.2<n) && (ak ops x.1).guard.isNone) &&
  (ov ops.size).all fun j=>L.getD j true || I.any (·.1 == j) || AL.any (·.i == j) || (ak ops j).after.any fun e=>Region.binds .any e && (L.getD e.on false == false) && AL.all (·.i != e.on)
abbrev SK:=Nat × Nat × List Nat
def jU (n:Nat)(ops:Array Oper)(k0:Nat)(AL:List Al)(Lf:Array Bool):Nat->Array Bool->List SK->Bool
  | 0,L,D=>D.isEmpty && (L.toList == Lf.toList)
  | m + 1,L,D=>((D.filter fun s=>oN ops L s.1).any fun s=>L.getD s.1 true == false) && Fx n ops k0 AL L ((D.filter fun s=>oN ops L s.1).map fun s=>(s.1,s.2.1)) &&
      (D.filter fun s=>oN ops L s.1).all fun s=>(s.2.2.all fun t=>D.all fun s'=>s'.2.1 != t) && (D.all fun s'=>s'.1 == s.1 || s'.2.1 != s.2.1) && jU n ops k0 AL Lf m (L.setIfInBounds s.1 true) (D.filter fun s'=>s'.1 != s.1)
def DS.k (s:DS):SK:=(s.i,s.t,s.D.map (·.1))
theorem oG {β:Type}{f:DS->β}:∀ {D:List DS},(D.map f).Nodup->∀ {s s':DS},s∈D->s'∈D->f s=f s'->s=s'
  | x :: D,h,s,s',hs,hs',e=>by
    rw[yR,List.nodup_cons] at h
    rcases g3.1 hs with e1|hs
    . rcases g3.1 hs' with e2|hs'
      . rw[e1,e2]
      . exact absurd (g1.2 ⟨s',hs',by rw[<-e,e1]⟩) h.1
    . rcases g3.1 hs' with e2|hs'
      . exact absurd (g1.2 ⟨s,hs,by rw[e,e2]⟩) h.1
      . exact oG h.2 hs hs' e
def Ent (n:Nat)(a:Act)(x:Nat × Value):Prop:=x.1<n/\a.tmps[x.1]?=some x.2
theorem BA {t:Nat}{v:Value}{D:List (Nat × Value)}(h:(D++Γ).lookup t=some v):(∃ x∈D,x.1=t/\x.2=v)\/(Γ.lookup t=some v/\∀ x∈D,x.1≠t):=by
  induction D with
  | nil=>exact .inr ⟨h,fun x b=>by cases b⟩
  | cons x D ih =>
    rw[z7,hP] at h
    cases h0:t == x.1 with
    | true=>rw[h0] at h;injection h with h;exact .inl ⟨x,GF,(by simpa using h0:t=x.1).symm,h⟩
    | false =>
      rw[h0] at h
      rcases ih h with ⟨y,a,e⟩|⟨h1,h2⟩
      . exact .inl ⟨y,GG _ a,e⟩
      . refine .inr ⟨h1,fun y a=>?_⟩
        rcases g3.1 a with rfl|a
        . exact fun e=>by subst e;simp at h0
        . exact h2 y a
theorem Bd {a:Act}{D:List (Nat × Value)}(nb:n<=1000000)(b:∀ x∈D,Ent n a x):fl (D++Γ)=fl Γ:=by
  induction D with
  | nil=>rfl
  | cons x D ih =>
    rw[<-ih (fun y c=>b y (GG _ c))];have d:=(b x GF).1;have e:((1000000:Nat) == x.1)=false:=by simp;omega
    unfold fl
    rw[z7,hP,e]
theorem uB {a:Act}{D:List (Nat × Value)}(k:Kn n a Γ)(b:∀ x∈D,Ent n a x):Kn n a (D++Γ):=by
 refine ⟨k.df.trans (Bd k.nb b).symm,k.sz,k.nb,fun t v c hv=>?_⟩
 rcases BA hv with ⟨x,hx,rfl,rfl⟩|⟨h1,_⟩
 ·exact (b x hx).2
 ·exact k.has t v c h1
theorem Ent.put {a:Act}{x:Nat × Value}(e:Ent n a x){t:Nat}(v:Value)(h:x.1≠t):Ent n (a.put (some t) v) x:=⟨e.1,by
 have:(a.put (some t) v).tmps=a.tmps.setIfInBounds t v:=by simp[Act.put]
 rw[this,Array.getElem?_setIfInBounds_ne (fun b=>h b.symm)];exact e.2⟩
theorem Ent.new {a:Act}(k:Kn n a Γ){t:Nat}(b:t<n)(v:Value):Ent n (a.put (some t) v) (t,v):=⟨b,(k.put b v).has t v (by have:=k.nb;omega) (by rw[hP];simp)⟩
theorem uo {a:Act}(k:Kn n a Γ){t:Nat}(c:t<n)(v:Value)(d:Γ.lookup t=none):Kn n (a.put (some t) v) Γ:=by
  have k2:=k.put c v;have e:((1000000:Nat) == t)=false:=by have:=k.nb;simp;omega
  refine ⟨k2.df.trans (by unfold fl;rw[hP,e]),k2.sz,k2.nb,fun s u f b=>k2.has s u f ?_⟩;rw[hP];cases h0:s == t with
  | true => have:s=t:=by simpa using h0
            subst this;rw[d] at b;cases b
  | false=>exact b
theorem Er (z:List DS)(Γ:bO)(ok:∀ s∈z,DOk P ops Γ s)(hdt:∀ s∈z,∀ x∈s.D,∃ c∈z,c.t=x.1/\∀ v h,c.K v h->v=x.2)(hfr:∀ s∈z,Γ.lookup s.t=none)(hni:(z.map (·.i)).Nodup)(hnt:(z.map (·.t)).Nodup){Lf:Array Bool}(oks:∀ x∈AL,AlOk P ops k0 x)(hM:∀ b∈M.l,b<hr.size) :
    ∀ (m:Nat) (D:List DS) (L:Array Bool) (a:Act) (w:World) (h:Hp),jU n ops k0 AL Lf m L (D.map DS.k)=true->(∀ s∈D,s∈z)->(∀ s∈z,s∈D\/∃ v,Ent n a (s.t,v)/\s.K v h)->G w h->hr.size<=h.size->Kn n a Γ ->
      (∀ w' U a',Up w h w' U->(∀ s∈z,∃ v,Ent n a' (s.t,v)/\s.K v U)->Kn n a' Γ->E M P ops (gk N R X) k0 hr AL Lf a' w' U)->E M P ops (gk N R X) k0 hr AL L a w h:=by
  intro m
  induction m with
  | zero =>
    intro D L a w h C hD hI g H W K
    unfold jU at C
    rw[i3] at C
    have e0:D=[]:=by
      cases D with
      | nil=>rfl
      | cons x D=>simp at C
    have e:L=Lf:=Array.ext' (by simpa using C.2);subst e0;subst e;exact K w h a (Up.refl g) (fun s I=>(hI s I).resolve_left (by simp)) W
  | succ m ih =>
    intro D L a w h C hD hI g H W K
    unfold jU at C
    simp only[i3,ta,oi] at C
    obtain ⟨⟨⟨Y,hk0,hk1⟩,Q⟩,bd⟩:=C
    unfold Fx at Q
    simp only[i3,oi,decide_eq_true_eq,beq_iff_eq] at Q
    obtain ⟨⟨B,J⟩,O⟩:=Q
    have o:∀ i,i∈((D.map DS.k).filter fun s=>oN ops L s.1).map (·.1)->∃ s∈D,s.i=i/\DS.k s∈(D.map DS.k).filter fun s=>oN ops L s.1:=fun i hi=>by
      obtain ⟨x,f,rfl⟩:=g1.1 hi;obtain ⟨hx1,F⟩:=H1.1 f;obtain ⟨s,I,rfl⟩:=g1.1 hx1;exact ⟨s,I,rfl,f⟩
    refine E.eventN (((D.map DS.k).filter fun s=>oN ops L s.1).map (·.1)) Y.1 (g1.2 ⟨Y,hk0,rfl⟩) (fun i hi=>?_) B (by simpa using hk1) ?_ ?_ (fun i hi=>?_) oks hM g H (fun i hi Z w' U u=>?_)
    . obtain ⟨s,I,rfl,f⟩:=o i hi
      have:=J (s.i,s.t) (g1.2 ⟨_,f,rfl⟩);exact ⟨this.1.1.1.1.1,this.1.1.1.1.2⟩
    . intro j oj hj Z hji hal
      have V:=(Array.getElem?_eq_some_iff.1 hj).1;have e:oj=ak ops j:=by have:=bC (ops:=ops) V;rw[hj] at this;injection this
      have:=O j (o0.2 V)
      simp only[Bool.or_eq_true,Z,Bool.false_eq_true,false_or,ta,Array.any_eq_true,beq_iff_eq,i3] at this
      rcases this with (⟨x,f,hxe⟩|⟨x,f,hxe⟩)|⟨x,f,⟨hb,hL⟩,hno⟩
      . exfalso
        obtain ⟨y,hy,rfl⟩:=g1.1 f;exact hji (g1.2 ⟨y,hy,hxe⟩)
      . exact absurd hxe (hal x f)
      . rw[e]
        refine ⟨_,Array.getElem_mem f,hb,hL,fun y hy=>?_⟩;have:=(oi.1 hno) y hy
        simpa using this
    . intro e he hb
      have:=(H1.1 hk0).2
      unfold oN at this
      have:=(Array.all_eq_true_iff_forall_mem.1 this) e he
      simpa [hb] using this
    . obtain ⟨s,I,rfl,f⟩:=o i hi
      have:=J (s.i,s.t) (g1.2 ⟨_,f,rfl⟩);exact gM this.1.1.1.2
    . obtain ⟨s,I,rfl,f⟩:=o i hi
      have hi2:=J (s.i,s.t) (g1.2 ⟨_,f,rfl⟩);obtain ⟨⟨⟨⟨⟨q1,q2⟩,q3⟩,q4⟩,q5⟩,q6⟩:=hi2;obtain ⟨⟨r1,r2⟩,r3⟩:=bd _ f;have p:=hD s I;have S:=ok s p
      have bf:∀ x∈s.D,Ent n a x:=fun x F=>by
        obtain ⟨c,d,e1,e2⟩:=hdt s p x F
        rcases hI c d with hm|⟨v,hv,hK⟩
        . exfalso
          have:=r1 x.1 (g1.2 ⟨x,F,rfl⟩);have:=this (DS.k c) (g1.2 ⟨c,hm,rfl⟩);have:c.t≠x.1:=by simpa [DS.k] using this
          exact this e1
        . have:=e2 v _ hK
          rw[e1,this] at hv
          exact hv
      have bb:=uB W bf;rw[show (ak ops s.i).dst=some s.t from q4];refine SrD.opR B q1 S.known q6 bb (SrD.mono (S.run w' U u.g) fun v w'' h'' u2 hK=>?_);refine ih (D.filter fun c=>c.i != s.i) _ _ w'' h'' ?_ (fun c d=>hD c (H1.1 d).1) (fun c d=>?_) u2.g (ez H (u.trans u2).gr.size) (uo W q5 v (hfr s p)) (fun w3 h3 a3 u3=>K w3 h3 a3 ((u.trans u2).trans u3))
      . have e:(D.map DS.k).filter (fun c=>c.1 != s.i)=(D.filter fun c=>c.i != s.i).map DS.k:=by rw[List.filter_map];rfl
        rw[<-e];exact r3
      . by_cases es:c=s
        . subst es;exact .inr ⟨v,Ent.new W q5 v,hK⟩
        . rcases hI c d with hm|⟨v',hv',hK'⟩
          . refine .inl (H1.2 ⟨hm,?_⟩)
            simp only[bne_iff_ne,ne_eq]
            exact fun e=>es (oG hni d p e)
          . exact .inr ⟨v',hv'.put v (fun e=>es (oG hnt d p e)),(ok c d).stay _ _ _ (u.trans u2).gr.gw hK'⟩
def oB:List DS->List Value->Hp->Prop
  | [],vs,_=>vs=[]
  | s::D,vs,h=>∃ v vs',vs=v::vs'/\s.K v h/\oB D vs' h
def CB:List DS->List Value->List (Nat × Value)
  | s::D,v::vs=>(s.t,v)::CB D vs
  | _,_=>[]
theorem nP {a:Act}{h:Hp}:∀ (D:List DS),(∀ s∈D,∃ v,Ent n a (s.t,v)/\s.K v h)->∃ vs,oB D vs h/\∀ x∈CB D vs,Ent n a x
  | [],_=>⟨[],rfl,fun x b=>by cases b⟩
  | s::D,H=>by
    obtain ⟨vs,h1,d⟩:=nP D (fun s f=>H s (GG _ f));obtain ⟨v,e,c⟩:=H s GF;refine ⟨v::vs,⟨v,vs,rfl,c,h1⟩,fun x b=>?_⟩
    rcases g3.1 b with rfl|b
    . exact e
    . exact d x b
def DX (L:Array Bool)(D:List SK):Array Bool:=D.foldl (fun L x=>L.setIfInBounds x.1 true) L
def DagOk (P:Program)(ops:Array Oper)(Γ:bO):List DS->Prop
  | []=>True
  | s::D=>DOk P ops Γ s/\DagOk P ops Γ D
theorem DagOk.nil {P:Program}{ops:Array Oper}{Γ:bO}:DagOk P ops Γ []:=trivial
theorem DagOk.cons {P:Program}{ops:Array Oper}{Γ:bO}{s:DS}{D:List DS}(h:DOk P ops Γ s)(r:DagOk P ops Γ D):DagOk P ops Γ (s::D):=⟨h,r⟩
theorem ux {P:Program}{ops:Array Oper}{Γ:bO}:∀ {D:List DS},DagOk P ops Γ D->∀ s∈D,DOk P ops Γ s
  | _::_,h,s,hs=>by
    rcases g3.1 hs with rfl|hs
    . exact h.1
    . exact ux h.2 s hs
theorem Rg.dag (D:List DS)(ks:List SK)(j:D.map DS.k=ks)(ok:DagOk P ops Γ D)(p:∀ s∈D,∀ x∈s.D,∃ s'∈D,s'.t=x.1/\∀ v h,s'.K v h->v=x.2)
  (H:∀ w' c vs,Up w h w' c->oB D vs c->EG M P n N R X ops k0 hr AL (DX L ks) (CB D vs++Γ) w' c)
  (z:jU n ops k0 AL (DX L ks) ks.length L ks=true:=by kernel_rfl)(l:(ks.all fun x=>(Γ.lookup x.2.1).isNone)=true:=by kernel_rfl)(b:(ks.map (·.1)).Nodup:=by decide)(i:(ks.map (·.2.1)).Nodup:=by decide):EG M P n N R X ops k0 hr AL L Γ w h:=by
 intro f hM g e a F;subst j
 have d:∀ s∈D,Γ.lookup s.t=none:=fun s y=>by
  have:=oi.1 l (DS.k s) (g1.2 ⟨s,y,rfl⟩);exact H0.1 this
 rw[HU] at b i
 refine Er D Γ (ux ok) p d b i f hM _ D L a w h (by rw[HV] at z;exact z) (fun _ h=>h) (fun s y=>.inl y) g e F (fun w' c I u C o=>?_);obtain ⟨vs,h1,B⟩:=nP D C;exact H w' c vs u h1 f hM u.g (ez e u.gr.size) I (uB o B)
end dag
section
variable {M:Ms}{P:Program}{n:Nat}{N R:Po}{X:Nat->Po}{ops:Array Oper}{k0:Nat}{hr:Hp}{AL:List Al}{L:Array Bool}{Γ:bO}{w:World}{h:Hp}{w0:World}{h0:Hp}{B:List Bx}{Rs:List Rw}{F:List (Hp->Prop)}{M2:List Nat}{wa:World}{ha:Hp}
theorem SS.pubM (s:SS w0 h0 w h B Rs F)(u:UpM M2 wa ha w h)(j:Nat)(z:ha.size<=(av B j).b)(y:decide (j<B.length)=true:=by kernel_rfl):∃ d,SS w0 h0 w d (B.eraseIdx j) Rs F/\UpM M2 wa ha w d/\Seg d (av B j).b 0 (av B j).vs:=by
 have c:=oT y;obtain ⟨d,l,gw,C,D,a⟩:=s.st.pubX j c;have o:=a8 c;refine ⟨d,⟨s.g0,l,fun r hr=>((s.ro r hr).out (g1.2 ⟨_,o,rfl⟩) a).sub _ (fun b i=>?_),s.ap,s.mo,s.f.gw s.mo gw⟩,⟨u.mo,⟨ez u.gr.size gw.size,fun b i=>?_⟩,l.up.g⟩,C⟩
 ·obtain ⟨x,p,e⟩:=g1.1 i
  exact g1.2 ⟨x,List.mem_of_mem_eraseIdx p,e⟩
 ·exact (a b (fun e=>by subst e;omega)).trans (u.gr.blk b i)
theorem EO (i t:Nat){f:FuncId}{args:Array Value}{Φ:World->Hp->Value->Hp->Prop}(s:SS w0 h0 w h B Rs F)(m:UpM M2 wa ha w h)(c:∀ w1 h1,SS w0 h0 w1 h1 B Rs F->Calls P f args w1 (Ret w1 h1 (Φ w1 h1)))(H:∀ w1 h1 v w' a,UpM M2 wa ha w' a->SS w0 h0 w' a B Rs F->Φ w1 h1 v a->EG M P n N R X ops k0 hr AL (L.setIfInBounds i true) ((t,v)::Γ) w' a)(j:x2 n ops k0 AL L Γ i t=true:=by kernel_rfl)(hv:∀ w,(execOp (ev Γ) (ak ops i)).run P w=.ok (.enter f args) w:=by intro _;kernel_rfl):EG M P n N R X ops k0 hr AL L Γ w h :=
 Rg.call i t f args (gH j).1 (gH j).2 hv (fun w1 h1 u=>(c w1 h1 (s.step u)).mono fun e w' ⟨v,a,o,b,d⟩=>⟨v,a,o,b.m M.l,H w1 h1 v w' a (m.trans ((u.m _).trans (b.m _))) ((s.step u).step b) d⟩)
theorem Dj {F1:List (Hp->Prop)}{wr:World}{x:Al}(a:List Bx)(j:SS w0 h0 wr hr B Rs F1)(s:SS w0 h0 w h (a++B) Rs F)(m:UpM M2 wa ha w h)(l:ha.size<=hr.size)(t:TypeId)(vs:List Value)(H:∀ w' c b,UpM M2 wa ha w' c->ha.size<=b->SS w0 h0 w' c (⟨b,t,vs⟩::(a++B)) Rs F->AG M P n N R X ops k0 (L.setIfInBounds x.i true) ((x.t,.pointer (some ⟨b,0,none⟩))::Γ) w')(f:(eu ops [x] L && decide (x.t<n))=true:=by kernel_rfl)(d:x.o=.cells vs.toArray t (0,0):=by kernel_rfl)(e:a.all (fun y=>y.t != t)=true:=by kernel_rfl):EG M P n N R X ops k0 hr [x] L Γ w h :=
 Rg.fin1 f (fun w' c b u k=>H w' c b (m.trans (u.m _)) (ez l k.2.2) (SS.blkp a j (s.step u) k t vs d e))
theorem FB (i j o:Nat)(cs:List Value)(s:SS w0 h0 w h B Rs F)(H:∀ w',Put (av B j).b w w'->SS w0 h0 w' h (fB B j o cs) Rs F->AG M P n N R X ops k0 (L.setIfInBounds i true) Γ w')(c:C0 ops k0 L Γ i=true:=by kernel_rfl)
  (a:(decide (j<B.length) && decide (o+cs.length<=(av B j).vs.length))=true:=by kernel_rfl)(d:dk P (execOp (ev Γ) (ak ops i))=some (.skip,mB (av B j).b o cs):=by kernel_rfl)(hz:∀ K bs,M.z=some (K,bs)->K<=(av B j).b\/(av B j).b∈bs:=by intro _ _ e;cases e):AG M P n N R X ops k0 L Γ w :=
 T.put i j o cs s.st s.g0 (i9 c).1 (i9 c).2 a d (fun w' p f=>H w' p (s.put0 (oT (i3 _ _▸a).1) p f (lw (oT (i3 _ _▸a).1)))) hz
end
def CI (pb:Nat)(s:ByteArray)(t:Tm)(b:Nat)(bd:Int):Value->World->Hp->Prop:=fun v w' h'=>∃ (tb:Nat)(p:PTm),v=.pointer (some ⟨tb,0,none⟩)/\b<=s.size/\Own w' pb 125 [.string s,.int .i64 (b:Nat),.int .i64 bd]/\Seg h' tb 0 (be p)/\PtH h' p t
def PC (nf:ByteArray->Option Rat)(f:FuncId)(n:Nat)(k:PKd):Prop:=∀ (pb:Nat) (s:ByteArray),s.size<=1000000->∀ (a:Nat),a<=s.size->∀ (bd:Int) (t:Tm) (b:Nat),d9 nf s n k a=some (.ok t b)->∀ (w:World) (h:Hp),G w h->Own w pb 125 [.string s,nV a,iV bd]->h[pb]?=some a6->Tab h->Calls Tryz.prog f #[pB pb] w (dr pb w h (CI pb s t b bd))
theorem s7  (b:Nat)(s:ByteArray)(hsz:s.size<=1000000)(a:Nat)(ha:a<=s.size)(O:Int)(w:World)(h:Hp)(g:G w h)(Z:Own w b 125 [.string s,nV a,iV O])(hj:h[b]?=some a6)(Y:Tab h):Calls Tryz.prog 62 #[pB b] w (dr b w h fun v w' _=>v=.int .u8 (aG s (sk s a):Nat)/\Own w' b 125 [.string s,nV (sk s a),iV O]):=by
 have e:UpM [b] w h w h:=UpM.refl g;obtain ⟨wz,D,d⟩:=SS.at_ g Z hj;replace d:=(d.aB Y);refine go Tryz.func62 [(0,pB b)] rfl (aa d ac (af (kZ ?_)));refine bS _ (CG.loop (fun U Γ V=>∃ (k:Nat)(y:Hp),U=s.size-k/\Γ=[(0,pB b),(2,.int .u8 0)]/\SS wz D V y [⟨b,125,[.string s,nV k,iV O]⟩] [] [fun y=>Tab y]/\a<=k/\k<=s.size/\UpM [b] w h V y/\(∀ i,a<=i->i<k->wj (aG s i)=true)) _ ⟨a,h,rfl,rfl,d.to _ _,nR _,ha,e,(fun i h1 L=>absurd h1 oM)⟩ ?_);rintro _ _ w1 ⟨k,L,X,rfl,d,C,z,e,l⟩;refine cQ (cQ (cR 22 [] mixed d am ?_));refine eV 0 3 (pB b) (eV 1 4 (pB b) (eV 2 5 (qP b 1) (eO 3 6 [(0,1,1)] (nV k) d (eV 4 7 (pB b) (eV 5 8 (pB b) (eV 6 9 (pB b) (eO 7 10 [(0,0,1)] (.string s) d (eV 8 11 (nV s.size) ?_))))))));cases f:(decide ((k:Int)<(s.size:Int)))
 .
  have B:=oF f;refine eB 9 12 f (eV 10 13 qF (eG 11 14 (eG 12 15 (eG 13 16 (eG 14 17 (eG 15 18 (eG 16 19 (eG 17 20 (eG 18 21 (eG 19 22 (eG 20 23 (eV 21 24 qF (ig d (fun w5 h6 u7 d=>?_))))))))))))));replace e:=e.trans (u7.m _);refine tN (cG (CG.exit ?_))
  show CG _ _ _ _ _ _ _ _
  refine cQ (cQ (cR 10 [] mixed d am ?_));refine eV 0 32 (pB b) (eV 1 33 (pB b) (eV 2 34 (qP b 1) (eO 3 35 [(0,1,1)] (nV k) d (eV 4 36 (pB b) (eV 5 37 (pB b) (eV 6 38 (pB b) (eO 7 39 [(0,0,1)] (.string s) d (eV 8 40 (nV s.size) ?_))))))));have ⟨K,W⟩:=dF (p:=(k:Int)<(s.size:Int)) oM;refine eB 9 41 K (ig d (fun w9 _ H d=>?_));replace e:=e.trans (H.m _);refine tN (cG (cK (aa d ac (lN (kX ?_)))));have u:sk s a=k:=mD C z l (by first|exact .inl oM|exact .inr (decide_eq_false oM));exact d.retM e [] (.int .u8 0) (by rw[u,pV oM];exact ⟨rfl,d.own 0⟩)
 have B:=oT f;refine eB 9 12 f (eV 10 13 qT (eV 11 14 (pB b) (eV 12 15 (pB b) (eV 13 16 (pB b) (eO 14 17 [(0,0,1)] (.string s) d (eV 15 18 (pB b) (eV 16 19 (pB b) (eV 17 20 (qP b 1) (eO 18 21 [(0,1,1)] (nV k) d (eV 19 22 (.int .u8 (aG s k:Nat)) ?_ (hv:=fun _=>dG (tx:=9) (x:=.tmp 17) (i:=.tmp 21) (k:=.i64) (s:=s) (n:=k) (j:=(k:Int)) kR kR kR kR oM oM _)))))))))));cases F:(((aG s k:Nat):Int) == (32:Int))
 .
  have zb:=aq F;refine eB 20 23 F (eV 21 24 qF (ig d (fun _ _ I d=>?_)));replace e:=e.trans (I.m _);refine tN (cG (CG.exit ?_))
  show CG _ _ _ _ _ _ _ _
  refine cQ (cQ (cR 10 [] mixed d am ?_));refine eV 0 32 (pB b) (eV 1 33 (pB b) (eV 2 34 (qP b 1) (eO 3 35 [(0,1,1)] (nV k) d (eV 4 36 (pB b) (eV 5 37 (pB b) (eV 6 38 (pB b) (eO 7 39 [(0,0,1)] (.string s) d (eV 8 40 (nV s.size) ?_))))))));have ⟨zc,J⟩:=dT (p:=(k:Int)<(s.size:Int)) oM;refine eB 9 41 zc (ig d (fun _ _ S d=>?_));replace e:=e.trans (S.m _);refine tN (bY (cQ (cR 9 [] mixed d am ?_)));refine eV 0 42 (pB b) (eV 1 43 (pB b) (eV 2 44 (pB b) (eO 3 45 [(0,0,1)] (.string s) d (eV 4 46 (pB b) (eV 5 47 (pB b) (eV 6 48 (qP b 1) (eO 7 49 [(0,1,1)] (nV k) d (eV 8 50 (.int .u8 (aG s k:Nat)) ?_ (hv:=fun _=>dG (tx:=9) (x:=.tmp 45) (i:=.tmp 49) (k:=.i64) (s:=s) (n:=k) (j:=(k:Int)) kR kR kR kR oM oM _)))))))));refine ig d (fun _ _ Q d=>?_);replace e:=e.trans (Q.m _);refine tV 9 2 (.int .u8 (aG s k:Nat)) (tN (bS [(2,.int .u8 (aG s k:Nat))] ?_));refine kX ?_;have u:sk s a=k:=mD C z l (by first|exact .inl oM|exact .inr (decide_eq_false oM));exact d.retM e [] (.int .u8 (aG s k:Nat)) (by rw[u];exact ⟨rfl,d.own 0⟩)
 have zb:=eq_of_beq F;refine eB 20 23 F (eV 21 24 qT (ig d (fun _ zd M d=>?_)));replace e:=e.trans (M.m _);refine tN (bY (cK (kZ (kQ (lL d [.c,.v (pB b),.v (qP b 1),.o (nV k) 0 1 1] (bA 29 ((k:Nat)+1) (k+1) ?_))))));refine lL d [.v (pB b),.v (qP b 1)] (kH 0 1 ([nV (k+1)]) d (fun _ pu d=>?_));replace e:=e.put pu (ul.2 rfl) d.g;refine lD ?_;intro a_ ka;refine ⟨_,_,?_,⟨k+1,zd,rfl,rfl,d.to _ _,oM,oM,e,(fun i h1 L=>by rcases HX.1 L with y|rfl;exact l i h1 y;exact decide_eq_true oM)⟩,ka.to _ kR⟩
 omega
theorem p5  (d:Nat)(s:ByteArray)(u:s.size<=1000000)(a:Nat)(ha:a<=s.size)(p:Int)(c:Nat)(K:c≠0)(w:World)(h:Hp)(g:G w h)(D:Own w d 125 [.string s,nV a,iV p])(F:h[d]?=some a6)(C:Tab h):Calls Tryz.prog 127 #[pB d,.int .u8 (c:Nat)] w (dr d w h fun v w' _=>(v=.bool true/\aG s (sk s a)=c/\sk s a<s.size/\Own w' d 125 [.string s,nV (sk s a+1),iV p])\/(v=.bool false/\aG s (sk s a)≠c/\Own w' d 125 [.string s,nV (sk s a),iV p])):=by
 have e:UpM [d] w h w h:=UpM.refl g;obtain ⟨wz,B,b⟩:=SS.at_ g D F;replace b:=(b.aB C);refine go Tryz.func127 [(0,pB d),(1,.int .u8 (c:Nat))] rfl (aa b ac (af (aa b ac ?_)));have x:=j6 (s:=s) (a:=a) oM;refine eD 6 (s7 d s u a ha p _ _ b.g (b.own 0) (b.jk 0) b.f.1) ?_;rintro _ w2 I z ⟨rfl,l⟩;replace b:=(b.stepM 0 z l).to [⟨d,125,[.string s,nV (sk s a),iV p]⟩] [];replace e:=e.trans z;refine lL b ac ?_;cases i:(((aG s (sk s a):Nat):Int) != (c:Int))
 .
  have j:=aJ i;refine lB 8 i (aj (cK (aa b [.c,.v (pB d),.v (qP d 1),.o (nV (sk s a)) 0 1 1] (bA 13 ((sk s a:Nat)+1) ((sk s a)+1) ?_))));refine lL b [.v (pB d),.v (qP d 1)] (kH 0 1 ([nV ((sk s a)+1)]) b (fun J H b=>?_));replace e:=e.put H (ul.2 rfl) b.g;refine aK (lL b ac (lN (kX ?_)));have y:=rY (s:=s) (a:=sk s a) oM;exact b.retM e [] qT (.inl ⟨rfl,by omega,by omega,b.own 0⟩)
 have j:=aU i;exact lB 8 i (ar (aa b ac (lN (kX (b.retM e [] qF (.inr ⟨rfl,by omega,b.own 0⟩))))))
theorem Bz (b:Nat)(s:ByteArray)(e:s.size<=1000000)(a:Nat)(ha:a<=s.size)(d:Int)(c:Nat)(o:c≠0)(f:sk s a=a)(w:World)(h:Hp)(g:G w h)(j:Own w b 125 [.string s,nV a,iV d])(l:h[b]?=some a6)(i:Tab h):Calls Tryz.prog 127 #[pB b,.int .u8 (c:Nat)] w (dr b w h fun v w' _=>(v=.bool true/\aG s a=c/\a<s.size/\Own w' b 125 [.string s,nV (a+1),iV d])\/(v=.bool false/\aG s a≠c/\Own w' b 125 [.string s,nV a,iV d])):=by
 have q:=p5 b s e a ha d c o w h g j l i;rw[f] at q;exact q
theorem CH (b:Nat)(s:ByteArray)(f:s.size<=1000000)(a:Nat)(ha:a<=s.size)(i:Int)(c:Nat)(p:c≠0)(j:aG s (sk s a)=c)(w:World)(h:Hp)(g:G w h)(o:Own w b 125 [.string s,nV a,iV i])(z:h[b]?=some a6)(l:Tab h):Calls Tryz.prog 127 #[pB b,.int .u8 (c:Nat)] w (dr b w h fun v w' _=>v=.bool true/\sk s a<s.size/\Own w' b 125 [.string s,nV (sk s a+1),iV i]) :=
 (p5 b s f a ha i c p w h g o z l).mono fun e w' ⟨v,x,y,u,d⟩=>⟨v,x,y,u,by
  rcases d with ⟨h1,h2,h3,h4⟩|⟨h1,h2,h3⟩
  ·exact ⟨h1,h3,h4⟩
  ·exact absurd j h2⟩
theorem uI (b:Nat)(s:ByteArray)(f:s.size<=1000000)(a:Nat)(ha:a<=s.size)(i:Int)(c:Nat)(p:c≠0)(j:aG s (sk s a)≠c)(w:World)(h:Hp)(g:G w h)(o:Own w b 125 [.string s,nV a,iV i])(z:h[b]?=some a6)(l:Tab h):Calls Tryz.prog 127 #[pB b,.int .u8 (c:Nat)] w (dr b w h fun v w' _=>v=.bool false/\Own w' b 125 [.string s,nV (sk s a),iV i]) :=
 (p5 b s f a ha i c p w h g o z l).mono fun e w' ⟨v,x,y,u,d⟩=>⟨v,x,y,u,by
  rcases d with ⟨h1,h2,h3,h4⟩|⟨h1,h2,h3⟩
  ·exact absurd h2 j
  ·exact ⟨h1,h3⟩⟩
theorem DY  (y:FuncId)(p:Nat->Bool)(I:∀ (args:Array Value) (w:World),(callFunc y args).run Tryz.prog w=.ok (.enter y args) w)(Q:∀ c,c<256->∀ (w:World) (h:Hp),G w h->Calls Tryz.prog y #[.int .u8 (c:Nat)] w (Ret w h fun v _=>v=.bool (p c)))(d:Nat)(s:ByteArray)(hsz:s.size<=1000000)(a:Nat)(ha:a<=s.size)(M:Int)(w:World)(h:Hp)(g:G w h)(Z:Own w d 125 [.string s,nV a,iV M])(hj:h[d]?=some a6)(Y:Tab h):Calls Tryz.prog 168 #[pB d,.func (.func y) #[] #[]] w (dr d w h fun v w' _=>v=.string (s.extract a (rn p s a))/\Own w' d 125 [.string s,nV (rn p s a),iV M]):=by
 have f:UpM [d] w h w h:=UpM.refl g;obtain ⟨wz,H,b⟩:=SS.at_ g Z hj;replace b:=(b.aB Y);refine go Tryz.func168 [(0,pB d),(1,.func (.func y) #[] #[])] rfl (aa b ac (aK (lL b [.c,.v (pB d),.v (qP d 1),.o (nV a) 0 1 1,.c] (af (kZ ?_)))));refine bS _ (CG.loop (fun U Γ V=>∃ (k:Nat)(B:Hp),U=s.size-k/\Γ=[(0,pB d),(1,.func (.func y) #[] #[]),(4,eS),(5,nV a)]/\SS wz H V B [⟨d,125,[.string s,nV k,iV M]⟩] [] [fun B=>Tab B]/\a<=k/\k<=s.size/\UpM [d] w h V B/\(∀ i,a<=i->i<k->p (aG s i)=true)) _ ⟨a,h,rfl,rfl,b.to _ _,nR _,ha,f,(fun i h1 K=>absurd h1 oM)⟩ ?_);rintro _ _ w1 ⟨k,K,X,rfl,b,F,C,f,u⟩;refine cQ (cQ (cR 23 [] mixed b am ?_));refine eV 0 10 (pB d) (eV 1 11 (pB d) (eV 2 12 (qP d 1) (eO 3 13 [(0,1,1)] (nV k) b (eV 4 14 (pB d) (eV 5 15 (pB d) (eV 6 16 (pB d) (eO 7 17 [(0,0,1)] (.string s) b (eV 8 18 (nV s.size) ?_))))))));cases l:(decide ((k:Int)<(s.size:Int)))
 .
  have D:=oF l;refine eB 9 19 l (eV 10 20 qF (eG 11 21 (eG 12 22 (eG 13 23 (eG 14 24 (eG 15 25 (eG 16 26 (eG 17 27 (eG 18 28 (eG 19 29 (eG 20 30 (eG 21 31 (eV 22 32 qF (ig b (fun w5 h6 u7 b=>?_)))))))))))))));replace f:=f.trans (u7.m _);refine tN (cG (CG.exit ?_))
  show CG _ _ _ _ _ _ _ _
  refine cQ (cR 10 [] mixed b am ?_);refine eV 0 40 (pB d) (eV 1 41 (pB d) (eV 2 42 (pB d) (eO 3 43 [(0,0,1)] (.string s) b (eV 4 44 (nV a) (eV 5 45 (pB d) (eV 6 46 (pB d) (eV 7 47 (qP d 1) (eO 8 48 [(0,1,1)] (nV k) b (eV 9 49 (.string (s.extract a k)) ?_ (hv:=fun _=>uG (tx:=9) (x:=.tmp 43) (i:=.tmp 44) (e:=.tmp 48) (k:=.i64) (k2:=.i64) (s:=s) (n:=a) (m:=k) (j:=(a:Int)) (j2:=(k:Int)) kR kR kR kR kR oM oM oM oM _))))))))));refine ig b (fun w8 h9 L b=>?_);replace f:=f.trans (L.m _);refine tV 10 4 (.string (s.extract a k)) (tN (kX ?_));have z:rn p s a=k:=mD F C u (by first|exact .inl oM|exact .inr aM);exact b.retM f [] (.string (s.extract a k)) (by rw[z];exact ⟨rfl,b.own 0⟩)
 have D:=oT l;refine eB 9 19 l (eV 10 20 qT (eV 11 21 (.func (.func y) #[] #[]) (eV 12 22 (pB d) (eV 13 23 (pB d) (eV 14 24 (pB d) (eO 15 25 [(0,0,1)] (.string s) b (eV 16 26 (pB d) (eV 17 27 (pB d) (eV 18 28 (qP d 1) (eO 19 29 [(0,1,1)] (nV k) b (eV 20 30 (.int .u8 (aG s k:Nat)) ?_ (hv:=fun _=>dG (tx:=9) (x:=.tmp 25) (i:=.tmp 29) (k:=.i64) (s:=s) (n:=k) (j:=(k:Int)) kR kR kR kR oM oM _))))))))))));refine EO 21 31 b f (fun _ _ b=>Q ((aG s k)) (bX _ _) _ _ b.g) ?_ (hv:=fun _=>Eq.trans kR (I _ _));rintro _ _ _ _ _ f b rfl;cases W:(p ((aG s k)))
 .
  refine eV 22 32 qF (ig b (fun _ _ J b=>?_));replace f:=f.trans (J.m _);refine tN (cG (CG.exit ?_))
  show CG _ _ _ _ _ _ _ _
  refine cQ (cR 10 [] mixed b am ?_);refine eV 0 40 (pB d) (eV 1 41 (pB d) (eV 2 42 (pB d) (eO 3 43 [(0,0,1)] (.string s) b (eV 4 44 (nV a) (eV 5 45 (pB d) (eV 6 46 (pB d) (eV 7 47 (qP d 1) (eO 8 48 [(0,1,1)] (nV k) b (eV 9 49 (.string (s.extract a k)) ?_ (hv:=fun _=>uG (tx:=9) (x:=.tmp 43) (i:=.tmp 44) (e:=.tmp 48) (k:=.i64) (k2:=.i64) (s:=s) (n:=a) (m:=k) (j:=(a:Int)) (j2:=(k:Int)) kR kR kR kR kR oM oM oM oM _))))))))));refine ig b (fun _ _ S b=>?_);replace f:=f.trans (S.m _);refine tV 10 4 (.string (s.extract a k)) (tN (kX ?_));have z:rn p s a=k:=mD F C u (by first|exact .inl oM|exact .inr aM);exact b.retM f [] (.string (s.extract a k)) (by rw[z];exact ⟨rfl,b.own 0⟩)
 refine eV 22 32 qT (ig b (fun _ za O b=>?_));replace f:=f.trans (O.m _);refine tN (bY (cK (kZ (kQ (lL b [.c,.v (pB d),.v (qP d 1),.o (nV k) 0 1 1] (bA 37 ((k:Nat)+1) (k+1) ?_))))));refine lL b [.v (pB d),.v (qP d 1)] (kH 0 1 ([nV (k+1)]) b (fun _ pu b=>?_));replace f:=f.put pu (ul.2 rfl) b.g;refine lD ?_;intro a_ ka;refine ⟨_,_,?_,⟨k+1,za,rfl,rfl,b.to _ _,oM,oM,f,(fun i h1 K=>by rcases HX.1 K with B|rfl;exact u i h1 B;exact aM)⟩,ka.to _ kR⟩
 omega
theorem Es (op:Int)(e a:PTm)(w:World)(h:Hp)(g:G w h):CR 128 #[iV op,az e,az a] w h (fun v h1=>∃ b,v=az ⟨op,0,0,⟨#[]⟩,sB b,2,2⟩/\SlO 9 be aZ h1 (sB b) [e,a]):=by
 have i:=sS g;refine go Tryz.func128 [(0,iV op),(1,az e),(2,az a)] rfl (aD (lA 4 42 (be e) i (fun p w2 u i=>lA 5 42 (be a) i (fun x D C i=>lA 6 42 ca i (fun y z B i=>aK (lL i [.c,.o (az e) 2 0 9,.o (az a) 1 0 9] (lR 10 42 2 ([iV e.op,iV e.n,.bool (aw e.q.num),uV (lo (ab e.q.num)),.string (hi (ab e.q.num)),uV (lo (qd e.q)),.string (hi (qd e.q)),.string e.s,qS e.A e.m e.c,iV a.op,iV a.n,.bool (aw a.q.num),uV (lo (ab a.q.num)),.string (hi (ab a.q.num)),uV (lo (qd a.q)),.string (hi (qd a.q)),.string a.s,qS a.A a.m a.c]) i (fun j _ _ i=>?_))))))));replace i:=i.aS (SlO.of_flat (sz:=9) (f:=be) (d:=aZ) (b:=j) (o:=0) (l:=([e,a]:List PTm)) (fun _=>rfl) i.f.1);exact lL i [.v (.agg #[iV op,iV 0,qF,uV 0,eS,uV 0,eS,eS,qS (sB j) 2 2])] (lP 0 0 ([iV op,iV 0,qF,uV 0,eS,uV 0,eS,eS,qS (sB j) 2 2]) i (fun _ i=>ae i [(0,0,9)] (.agg #[iV op,iV 0,qF,uV 0,eS,uV 0,eS,eS,qS (sB j) 2 2]) (⟨_,rfl,i.f.1⟩)))
theorem vM (q:Rat)(w:World)(h:Hp)(g:G w h):CR 178 #[qv q] w h (fun v h1=>∃ p,v=az p/\PtH h1 p (lJ q)):=by
 have a:=sS g;exact go Tryz.func178 [(0,qv q)] rfl (aD (lA 1 39 (qc q) a (fun c w2 d a=>lA 2 42 ca a (fun e f b a=>aK (lL a [.o (qv q) 1 0 5,.v (az ⟨1,0,q,⟨#[]⟩,none,0,0⟩)] (lP 0 0 (be ⟨1,0,q,⟨#[]⟩,none,0,0⟩) a (fun i a=>ae a [(0,0,9)] (az ⟨1,0,q,⟨#[]⟩,none,0,0⟩) (⟨⟨1,0,q,⟨#[]⟩,none,0,0⟩,rfl,PtH.num⟩))))))))
end Go.Proofs.YtmdaaeffcfheoaaGreatDoor
