/- Laws of this claim, part 7. -/
import Derived.Test.YtbbhdbhkaacnnaaGreatDoorQm0
import Derived.Test.YtbbhdbhkaacnnaaGreatDoorQm1
import Derived.Test.YtbbhdbhkaacnnaaGreatDoorQm2
import Derived.Test.YtbbhdbhkaacnnaaGreatDoorQm3
import Derived.Test.YtbbhdbhkaacnnaaGreatDoorQm4
import Derived.Test.YtbbhdbhkaacnnaaGreatDoorQm5
set_option maxRecDepth 100000
set_option maxHeartbeats 4000000
namespace Go.Proofs.YtbbhdbhkaacnnaaGreatDoor
open _root_.Array renaming replicate -> pa, size_replicate -> Kz
open Bool renaming and_eq_true -> hN, noConfusion -> Ki
open Int renaming mul_nonneg -> KE
open List renaming getD_eq_getElem?_getD -> B1, length_append -> s6, length_replicate -> KB, length_set -> Jr, mem_cons -> gq, mem_cons_of_mem -> JP, mem_cons_self -> JO, mem_singleton -> o0, replicate -> um, toArray -> JY
open Nat renaming add_zero -> sw, div_div_eq_div_mul -> H1, div_le_self -> zF, div_one -> KA, eq_zero_or_pos -> yz, le_mul_of_pos_left -> J6, le_mul_of_pos_right -> KC, le_of_lt -> JM, le_refl -> eb, le_trans -> ed, lt_of_le_of_lt -> zz, lt_of_lt_of_le -> ep, lt_or_ge -> co, lt_succ_iff_lt_or_eq -> Kf, lt_succ_self -> Ky, mod_lt -> va, not_lt_zero -> Ke, pow_le_pow_right -> A4, pow_pos -> F2, pow_succ -> z1, pow_zero -> JG, strongRecOn -> g2, succ_le_succ -> KD, zero_add -> tv, zero_le -> JF
open Rat renaming num_eq_zero -> Kd
open Go.RowKit
open Go.RowKit Go.Shelf
open Go.RowKit Go.WideMaps
section
variable {nf bf:ByteArray->Option Rat}(hnf:tE nf)(hnp:wA)(hbf:FD bf)(hnfe:Ig nf)(hnpe:HF)(hbfe:HG bf)
include hnf hnp hbf hnfe hnpe hbfe
def GL (nf bf:ByteArray->Option Rat)(n:Nat):Prop:=p3 nf bf 9 n .sum/\p3 nf bf 22 n .prod/\p3 nf bf 41 n .sign/\p3 nf bf 71 n .pow/\p3 nf bf 100 n .atom/\He nf bf n
theorem GK (n:Nat):GL nf bf n:=by
  induction n using g2 with
  | ind n ih =>
    cases n with
    | zero=>exact ⟨fun _ _ _ _ _ _ _ h=>(by cases h),fun _ _ _ _ _ _ _ h=>(by cases h),fun _ _ _ _ _ _ _ h=>(by cases h),fun _ _ _ _ _ _ _ h=>(by cases h),fun _ _ _ _ _ _ _ h=>(by cases h),fun _ _ _ _ _ _ _ _ _ h=>(by cases h)⟩
    | succ n =>
      have i:=ih n (Ky n);have o:=fun m=>Ci (nf:=nf) hnf hnp hbf m
      refine ⟨?_,?_,?_,?_,?_,?_⟩
      . intro j s h1 a k l b u w h g p f d
        rcases oS (lv:=false) u with he|⟨t,c,e1,e2⟩
        . exact E8 n i.2.1 j s h1 a k l b he w h g p f d
        . exact EX n (fun m _=>(o m).2.1) (fun m y=>(ih m oM).2.1) j s h1 a k l b t c e1 e2 w h g p f d
      . intro j s h1 a k l b u w h g p f d
        rcases oS (lv:=true) u with he|⟨t,c,e1,e2⟩
        . exact qA n i.2.2.1 j s h1 a k l b he w h g p f d
        . exact qo n (fun m _=>(o m).2.2.1) (fun m y=>(ih m oM).2.2.1) j s h1 a k l b t c e1 e2 w h g p f d
      . exact fun j s h1 a k l b u w h g p f d=>vD n i.2.2.1 i.2.2.2.1 j s h1 a k l b u w h g p f d
      . intro j s h1 a k l b u w h g p f d
        rcases wZ u with he|⟨v,e,e1,e2,e3⟩
        . exact xE n i.2.2.2.2.1 j s h1 a k l b he w h g p f d
        . exact x4 n hnpe (o n).2.2.2.2.1 j s h1 a k l b v e e1 e2 e3 w h g p f d
      . exact fun j s h1 a k l b u w h g p f d=>Fn n hnfe hbfe i.2.2.2.2.2 (o n).1 i.1 j s h1 a k l b u w h g p f d
      . exact fun op x j s h1 a k l b u w h g p f d=>Fu n op x (o n).1 i.1 j s h1 a k l b u w h g p f d
end
open Go.Shelf Go.RowKit Go.Sort Go.Lib
theorem qK (w:World)(T:TypeId)(a:Nat)(e:a<=24):Holds (fun (b:UInt8)=>Value.int .u8 (b.toNat:Int)) (w.alloc (.cells Lib.zeros24 T)) w.heap.size 0 (pa a (0:UInt8)):=fun j c=>by
 have d:j<a:=by simpa using c
 refine ⟨?_,World.frozen?_alloc_new _ _ _ _⟩;rw[World.cell?_alloc_new,Lib.zeros24_at _ oM,getElem!_pos _ j c]
 simp
theorem wh (w:World)(o:Obj)(c:Array UInt8)(k:Nat):∃ d,(putRow (fun (b:UInt8)=>Value.int .u8 (b.toNat:Int)) (w.alloc o) w.heap.size 0 c).drewN k=Sort.grow (w.drewN k) d:=by
 rw[alloc_eq_grow];obtain ⟨a,_,e⟩:=putRow_grow_new (fun (b:UInt8)=>Value.int .u8 (b.toNat:Int)) w #[o] w.heap.size 0 c (eb _);exact ⟨a,by rw[e];rfl⟩
theorem EL (u : Nat) (h100 : 100 <= u) (hu64 : u < 18446744073709551616) (w : World) (htab : Lib.TabIs Tryz.prog w "internal/strconv.uint64pow10" .u64 Lib.pow10Tab):Calls Tryz.prog 138 #[uV u,iV 10] w fun e w'=>e=.returned (.string ⟨(Lib.decDigits u).toArray⟩)/\∃ k os,w'=Sort.grow (w.drewN k) os:=by
  have t24:=Tryz.underlying179;have hu1:1<=u:=by omega
  have hnd20:Lib.nDigits u<=20:=by have:=Lib.numDigits_eq u hu1 hu64;split at this<;>omega
  have hal:Tryz.prog.arrayLen 179=24:=by simp[Program.arrayLen,t24]
  have hsl1:∀ W,(Instr.sliceAt 179 (.pointer (some ⟨w.heap.size,0,none⟩)) none (some (iV (Lib.nDigits u:Int))) none).run Tryz.prog W=.ok (qS (some ⟨w.heap.size,0,none⟩) (Lib.nDigits u) 24) W:=fun W=>by
    rw[run_sliceAt_array_h W 179 ⟨w.heap.size,0,none⟩ (by simp[Program.arrayLen,Program.elem,t24]) .i64 (Lib.nDigits u:Int) oM (by rw[hal];omega)]
    go_simp
    first|done|omega
  have hH0:=qK w 179 (Lib.nDigits u) oM;have hfmt:=Tryz.internal_strconv_formatBase10 w.heap.size 0 24 u (pa (Lib.nDigits u) 0) (w.alloc (.cells Lib.zeros24 179)) hH0 (by rw[Kz];exact Lib.lt_pow_nDigits u) hu64 (by rw[Kz];omega);rw[Kz] at hfmt
  have HH0:=Lib.hid hH0
  clear hH0 hal t24
  go_enter Tryz.func138,Tryz.ntmps138
  go_wp2_with (first
    | (go_at_call 150;refine (Tryz.internal_strconv_numDigits u hu1 hu64 _ (Lib.tabIs_alloc htab _)).mono ?_;rintro e w' ⟨rfl,rfl⟩))
  go_at_call 151
  refine hfmt.mono ?_;rintro e w' ⟨rfl,k,v',dk,rfl,hF⟩
  have hcv:(convert 82 9 (qS (some ⟨w.heap.size,0,none⟩) (Lib.nDigits u) 24)).run Tryz.prog ((putRow (fun (b:UInt8)=>Value.int .u8 (b.toNat:Int)) (w.alloc (.cells Lib.zeros24 179)) w.heap.size 0 dk).drewN k)=.ok (.string ⟨(Lib.decDigits u).toArray⟩) ((putRow (fun (b:UInt8)=>Value.int .u8 (b.toNat:Int)) (w.alloc (.cells Lib.zeros24 179)) w.heap.size 0 dk).drewN k):=by
    have h:=run_convert_bytes_back (P:=Tryz.prog) ((putRow (fun (b:UInt8)=>Value.int .u8 (b.toNat:Int)) (w.alloc (.cells Lib.zeros24 179)) w.heap.size 0 dk).drewN k) 82 9 5 ⟨w.heap.size,0,none⟩ 24 (Lib.decDigits u) Tryz.underlying82 Tryz.underlying5 Tryz.underlying9 (fun j hj=>by
      rw[Lib.row_is_numeral hF j hj,Lib.add_plain,World.cell?_drewN];exact cell?_putRow (fun (b:UInt8)=>Value.int .u8 (b.toNat:Int)) _ w.heap.size 0 _ dk HH0.out (by rw[hF.size,Kz]) j (by rw[hF.size];rw[Lib.decDigits_length] at hj;exact hj))
    rw[Lib.decDigits_length] at h
    exact h
  go_wp2
  go_ret
  obtain ⟨os,eo⟩:=wh w (.cells Lib.zeros24 179) dk k;exact ⟨rfl,k,os,eo⟩
theorem Dr (d:Nat)(M:d<=24)(p:PTm)(t:Tm)(S:WfT (fun s=>cD s=true) d t)(U:d8 d t<=1000)(y:rW d t)(Q:(gC d t 0).length<=100000000000)(w:World)(h:Hp)(g:G w h)(O:TmH d h p t):CV 17 #[a8 p] w h (.tuple #[.string ⟨(gC d t 0).toArray⟩,iV 0]):=by
 have a:=((sS g).add (K:=fun j=>TmH d j p t) O);refine go Tryz.func17 [(0,a8 p)] rfl (aG (lA 1 31 (bv p) a (fun V w2 X a=>lL a aF (ai (aa a [.o (a8 p) 0 0 9] (aq 6 a ((by have F:=sN cD fJ wu (fun s j=>ox j) BJ d p t M _ _ a.g a.f.1 S;rw[if_neg oM] at F;exact F)) (fun i Y a=>lL a [.v qF] (ah (cK (aG ?_))))))))));have l:=a;refine HH 4 84 [.pointer none,sZ] a (fun H k D C=>?_);obtain ⟨I,a,L⟩:=l.liftJ k
 have B:J8 5 i.heap.size i.heap.size I:=fun c o J e=>by
  rcases co c H.heap.size with h1|h1
  ·rw[L c J h1] at e;injection e with e;exact .inl e.symm
  ·rw[Array.getElem?_eq_none (by have:=a.g.size;omega)] at e;cases e
 have z:Lib.IsBuilderF 84 5 i.heap.size i.heap.size (Lib.byteCells []) H:=.inl ⟨nR _,_,C,World.ownsRowF_nil _ _ _ _,by simp[Value.ownBlock]⟩;refine aE (lL a [.o (a8 p) 0 0 9] (Au 9 l k ((uH d i.heap.size i.heap.size [] p t 0 _ _ a.g D B z a.f.1 y (by simpa using Q)).mono fun _ _ j=>⟨j.1,j.2.1,j.2.2.1⟩) (fun Z W a b x=>?_)))
 clear k
 have k:=b;clear b;have u:Lib.IsBuilderF 84 5 i.heap.size i.heap.size (Lib.byteCells (gC d t 0)) _:=x;refine aE (Au 10 l k ((Any.Builder_String_any_f Tryz.lays169 Tryz.Builder_Extra_169 i.heap.size i.heap.size (gC d t 0) _ u k.size).mono fun _ _ j=>⟨j.1,True.intro,j.2.2⟩) (fun _ _ a b x=>?_))
 clear k
 have k:=b;clear b;exact lL a aF (af a [] (.tuple #[.string (⟨(gC d t 0).toArray⟩),iV 0]) rfl)
theorem xF {l:List Nat}{k i x:Nat}(hi:i<k):win (l.set i x) 0 k=(win l 0 k).set i x:=by
 have:=i8 (l:=l) (o:=0) (x:=x) hi
 rwa [tv] at this
theorem xY {l:List Nat}{k i:Nat}(hi:i<k):(win l 0 k).getD i 0=l.getD i 0:=by rw[nj hi,tv]
theorem uZ {w:World}{k:Nat}{a:Array Obj}:Ext w (Sort.grow (w.drewN k) a):=⟨rfl,rfl,rfl,by show w.heap.size<=(w.heap++a).size;simp,fun i hi=>by show (w.heap++a)[i]?=_;rw[Array.getElem?_append_left hi]⟩
theorem Tab.pow {w : World}{h : Hp}(t : Tab h)(g : G w h) : Lib.TabIs Tryz.prog w "internal/strconv.uint64pow10" .u64 Lib.pow10Tab := by
  obtain ⟨t1,g1,e⟩:=t.2;have e1 : Tryz.prog.globalNamed "internal/strconv.uint64pow10" = some 3 := by kernel_rfl
  unfold Lib.TabIs World.var?
  rw[e1]
  have e2:w.heap[3]?=some (.cells (Lib.pow10Tab.map fun z=>Value.int .u64 z).toArray t1 g1):=by
    rcases g.blk 3 with h1|h1
    . rw[<-h1];exact e
    . rw[e] at h1
      injection h1 with h1
      unfold junk at h1
      injection h1 with h1
      have e3:=congrArg Array.size h1
      simp[Lib.pow10Tab] at e3
  simp[e2]
theorem FV (n:Nat)(b:n<18446744073709551616)(w:World)(h:Hp)(g:G w h)(a:Tab h):Calls Tryz.prog 138 #[mV n,iV 10] w (Ret w h (fun v _=>v=.string (fN n))):=by
 rcases co n 100 with h1|h1
 ·exact vz n h1 w h g
 ·exact Ret.of_ext g ((EL n h1 b w (a.pow g)).mono fun e w' ⟨d,k,f,c⟩=>⟨d,by rw[c];exact uZ⟩)
theorem C0 (n:Nat)(d:n<18446744073709551616)(w:World)(h:Hp)(g:G w h)(b:Tab h):CV 112 #[mV n,iV 10] w h (.string (fN n)):=by
 have a:=((sS g).add (K:=fun c=>Tab c) b);exact go Tryz.func112 [(0,mV n),(1,iV 10)] rfl (aa a ac (aE (lL a aF (aq 7 a (FV n d _ _ a.g a.f.1) (fun w1 e a=>lL a ac (af a [] (.string (fN n)) rfl))))))
theorem Cz (z:Int)(n:Nat)(hz:z=(n:Nat))(b:n<18446744073709551616)(w:World)(h:Hp)(g:G w h)(a:Tab h):Calls Tryz.prog 112 #[uV z,iV 10] w (Ret w h (fun v _=>v=.string (fN n))):=by
 subst hz;exact C0 n b w h g a
theorem Eu (n:Nat)(h0:0<n)(i:n<18446744073709551616)(w:World)(h:Hp)(g:G w h)(x:Tab h):CV 85 #[nv n] w h (.string (fN n)):=by
 have a:=((sS g).add (K:=fun z=>Tab z) x);have b:=gZ i;have e:=congrArg List.length (ik h0 i)
 simp only[List.length_singleton] at e
 refine go Tryz.func85 [(0,nv n)] rfl (aG (lA 1 24 (nc n) a (fun y w2 F a=>lL a ac (aE (lL a [.o (nv n) 0 0 2] (lC 10 a (fe n oM oM _ _ a.g) ?_))))));rintro _ C H a ⟨D,rfl,k,u,d⟩;replace a:=a.aS d;refine lL a ac (ai (aa a [.c,.v (nV ((wds n).length))] ?_));have ⟨j,l⟩:=dT (p:=(((wds n).length:Nat):Int)<=(1:Int)) oM;exact lB 13 j (ak (aa a [.v (pB y),.o (mV (n%18446744073709551616)) 0 0 1] (aq 16 a (Cz _ n b i _ _ a.g a.f.2.1) (fun B I a=>lL a ac (af a [] (.string (fN n)) rfl)))))
theorem D3 (n:Nat)(i:n<18446744073709551616)(b:(0:Int)=(n:Nat))(w:World)(h:Hp)(g:G w h)(d:Tab h):CV 85 #[nv 0] w h (.string (fN n)):=by
 have a:=((sS g).add (K:=fun e=>Tab e) d);exact go Tryz.func85 [(0,nv 0)] rfl (aG (lA 1 24 ([uV 0,eS]) a (fun j w2 x a=>lL a ac (aE (lL a [.o (.agg #[uV 0,eS]) 0 0 2] (aq 10 a (jA _ _ a.g) (fun p u a=>lL a ac (ai (aa a [.c,.v (iV 0),.v qT] (ak (aa a [.v (pB j),.o (uV 0) 0 0 1] (aq 16 a (Cz _ n b i _ _ a.g a.f.1) (fun l k a=>lL a ac (af a [] (.string (fN n)) rfl))))))))))))))
theorem Hh (rb:Nat)(l:List Nat)(k c d x:Nat)(hd:0<d)(hdB:d<18446744073709551616)(hW:Wd l)(hl:l.length<=1000000000)(hk:k<=l.length)(hc:k<=c)(M:win l 0 k=wds x)(w:World)(h:Hp)(g:G w h)(ho:Own w rb 22 (l.flatMap ar))(hj:h[rb]?=some junk):Calls Tryz.prog 113 #[.slice (sB rb) k c,mV d] w (bV rb w h fun v w' _=>∃ z:List Nat,∃ C:Nat,v=.tuple #[.slice (sB rb) C c,mV (x%d)]/\z.length=l.length/\Wd z/\C<=z.length/\C<=c/\win z 0 C=wds (x/d)/\Own w' rb 22 (z.flatMap ar)):=by
 have e:UpM [rb] w h w h:=UpM.refl g;obtain ⟨wz,hz,a⟩:=SS.at_ g ho hj;have hll:l.length=l.length:=rfl;refine go Tryz.func113 [(0,qS (sB rb) k c),(1,mV d)] rfl (aa a aF (aE (lL a ac (ai (aa a [.c,.v (nV k)] (lV 10 (iV ((k:Int)-1)) ?_ (hr:=rS (((k:Nat)-1)) kR ((dQ oM oM).trans oM))))))));refine lL a ac (bx ?_);refine bG _ (CG.loop (fun S Γ Y=>∃ (m:Nat)(z:List Nat)(r:Nat)(h_:Hp),S=m/\Γ=[(0,qS (sB rb) k c),(1,mV d),(4,sZ),(5,uV 0),(7,iV ((m:Int)-1)),(6,mV r)]/\SS wz hz Y h_ [⟨rb,22,(z).flatMap ar⟩] [] []/\m<=k/\z.length=l.length/\Wd z/\x=d*(18446744073709551616^m*am 18446744073709551616 ((win z 0 k).drop m))+(18446744073709551616^m*r+am 18446744073709551616 ((win z 0 k).take m))/\r<d/\UpM [rb] w h Y h_) _ ⟨k,l,0,h,rfl,rfl,a.to _ _,nR _,rfl,hW,(by rw[M,List.drop_eq_nil_of_le (by rw[<-M,bA oM];exact nR _),List.take_of_length_le (by rw[<-M,bA oM];exact nR _)];have J:am 18446744073709551616 (wds x)=x:=aZ x;rw[J];simp[am]),hd,e⟩ ?_);rintro _ _ w1 ⟨m,z,r,h2,hm3,rfl,a,hm,p,D,i,F,e⟩;refine cQ (aa a ac ?_);cases j:(decide ((0:Int)<=((m:Int)-1:Int)))
 .
  have y:=oF j;refine lB 12 j (ah (CG.exit ?_))
  show CG _ _ _ _ _ _ _ _
  refine aa a ac (vC 29 0 a (fun _ g_ f_ H=>vr (sB rb) c (win z 0 k) k (bA oM) (by rw[bA oM];omega) (by rw[bA oM];omega) _ _ g_ (SlO.win (f:=ar) (d:=0) (b:=rb) (l:=z) (fun _=>rfl) H 0 k)) ?_);rintro _ w5 h6 Z a rfl;replace e:=e.trans (Z.m _);refine lL a dx (lN (kX ?_));have L:m=0:=by omega
  rw[L] at i
  have K:(win z 0 k).length=k:=bA oM;have hE:x=d*aA (win z 0 k)+r:=by simp only[JG,Nat.one_mul,List.drop_zero,List.take_zero,am,sw] at i;exact i
  obtain ⟨Q,O⟩:=oy hE F;have o:=lc (D.win 0 k);rw[Q,K] at o
  have I:=fX (win z 0 k) k;exact a.retM e [] (.tuple #[qS (sB rb) (tl (win z 0 k) k) c,mV r]) ⟨z,tl (win z 0 k) k,by rw[O],p,D,by omega,by omega,(by rw[o];exact (lj I).symm),a.own 0⟩
 have y:=oT j;refine lB 12 j (ak (cK (cQ (kZ (kQ (lL a m5 (lX 21 (sB rb) k c 1 ((m:Int)-1) (m-1) rfl ?_)))))));have hzg:=D.get (m-1);refine lQ 22 0 z ar 1 0 (m-1) (mV ((z).getD (m-1) 0)) a oM (lL a ac (ec 24 (qV r ((z).getD (m-1) 0) d oM wM wM _ _ a.g) ?_));rintro _ _ zb u ⟨B,X,rfl,W,U,V⟩;replace e:=e.trans (u.m _);replace a:=a.step u;refine lL a [.c,.v (mV B),.v (mV X)] (lX 27 (sB rb) k c 1 ((m:Int)-1) (m-1) rfl ?_);refine F6 0 z ar 1 (m-1) B a oM (fun _ pu a=>?_);replace e:=e.put pu (o0.2 rfl) a.g;have za:((z).set (m-1) B).length=l.length:=by rw[Jr];exact p
 replace a:=a.to [⟨rb,22,((z).set (m-1) B).flatMap ar⟩] [];refine lL a ac (lN (kQ (lL a ac (lV 14 (iV (((m-1:Nat):Int)-1)) ?_ (hr:=rS ((((m:Int)-1)-1)) kR ((dQ oM oM).trans oM))))));refine lL a ac (lD ?_);intro a_ ka;refine ⟨_,_,?_,⟨m-1,(z).set (m-1) B,X,zb,rfl,rfl,a.to _ _,oM,za,(D.set _ oM),(by rw[xF oM];exact rN (by rw[bA oM];omega) (by rw[show m-1+1=m by omega];exact i) (by rw[xY oM];omega)),oM,e⟩,ka.to _ kR⟩
 omega
theorem Ret.keptB {TB T8:TypeId}{K b:Nat}{bs:List Value}{f:FuncId}{args:Array Value}{V:Value}{w:World}{h:Hp}(d:K<=w.heap.size)(a:Lib.IsBuilderF TB T8 K b bs w)(c:Calls Tryz.prog f args w (Ret w h fun v _=>v=V)):Calls Tryz.prog f args w fun e w'=>e=.returned V/\(Lib.IsBuilderF TB T8 K b bs w'/\Below K w w') :=
 c.mono fun e w' ⟨v,j,i,u,hv⟩=>⟨hv▸i,jZ a u.ext,Below.mono u.ext d⟩
theorem wY:∀ c,Lib.repeatL [48] c=um c 48
 | 0=>rfl
 | c+1=>by show [48]++Lib.repeatL [48] c=_;rw[wY c];rfl
theorem GO (c:Nat):Lib.repeatL (⟨#[48]⟩:ByteArray).data.toList c=um c 48:=wY c
theorem uP {n m:Nat}(b:Lib.nDigits n<=1000)(h:n/10000000000000000000^m≠0):m<1000:=by
 have h1:10000000000000000000^m<=n:=by
  rcases co n (10000000000000000000^m) with a|a
  ·exact absurd (Nat.div_eq_of_lt a) h
  ·exact a
 have a:10^m<=10000000000000000000^m:=Nat.pow_le_pow_left kD m;have c:=Lib.lt_pow_nDigits n;exact ep ((Nat.pow_lt_pow_iff_right (show 1<10 by decide)).1 (zz (ed a h1) c)) b
theorem FA {n j:Nat}(h:0<n/10000000000000000000^j):n/10000000000000000000^(j+1)<n/10000000000000000000^j:=by
 rw[z1,<-H1];omega
theorem Ef (n m:Nat):Lib.nDigits (n/m)<=Lib.nDigits n:=fi _ _ (Lib.nDigits_pos n) (zz (zF n m) (Lib.lt_pow_nDigits n))
theorem vk {f:Nat->Nat}{j i:Nat}(h:i<j):((List.range j).map f).getD i 0=f i:=by
 rw[B1,List.getElem?_map,List.getElem?_range h];rfl
theorem EQ {n m:Nat}(c:0<m)(h:n/10000000000000000000^m≠0):dD (n/10000000000000000000^(m-1))=dD (n/10000000000000000000^m)++um (19-Lib.nDigits (n/10000000000000000000^(m-1)%10000000000000000000)) 48++Lib.decDigits (n/10000000000000000000^(m-1)%10000000000000000000):=by
 have e:n/10000000000000000000^m=n/10000000000000000000^(m-1)/10000000000000000000:=by rw[H1,<-z1,show (m-1).succ=m by omega]
 rw[e] at h ⊢
 generalize n/10000000000000000000^(m-1)=y at *
 have b:=sI 19 (y%10000000000000000000) kD (va _ kD);have a:=vy 19 (y/10000000000000000000) (y%10000000000000000000) h (va _ kD);rw[show (10:Nat)^19=10000000000000000000 from rfl,Nat.div_add_mod'] at a
 rw[a,b,List.append_assoc]
theorem EM {n j:Nat}(a:0<j)(h0:n/10000000000000000000^(j-1+1)=0)(h:n/10000000000000000000^(j-1)≠0):dD (n/10000000000000000000^(j-1))=dD 0++Lib.decDigits (n/10000000000000000000^(j-1)%10000000000000000000):=by
 rw[z1,<-H1] at h0
 generalize n/10000000000000000000^(j-1)=y at *
 rw[Nat.mod_eq_of_lt oM,lk h];rfl
theorem Dz (n:Nat)(hn:18446744073709551616<=n)(hnl:(wds n).length<=1000000000)(W:Lib.nDigits n<=1000)(w:World)(h:Hp)(g:G w h)(tb:Tab h):CV 85 #[nv n] w h (.string (fN n)):=by
 have a:=((sS g).add (K:=fun b=>Tab b) tb);have hwb:=cC hn;refine go Tryz.func85 [(0,nv n)] rfl (aG (lA 1 24 (nc n) a (fun b1 w2 h3 a=>lL a ac (aE (lL a [.o (nv n) 0 0 2] (ec 10 (fe n oM oM _ _ a.g) ?_))))));rintro _ w4 h5 u6 ⟨C,rfl,Y,Z,bw⟩;obtain ⟨h7,a,-,-⟩:=a.take u6 Y Z;replace a:=a.to [⟨C,22,(wds n).flatMap ar⟩,⟨b1,24,nc n⟩] [];refine lL a ac (ai (aa a [.c,.v (nV ((wds n).length))] ?_));have hb8:(decide ((((wds n).length:Nat):Int)<=(1:Int)))=false:=decide_eq_false oM;refine lB 13 hb8 (ah (cK (aa a ac (ai (kZ ?_)))));replace a:=a.nil 22 1;refine bG _ (CG.loop (fun V Γ w_=>∃ (j:Nat)(x:Z9)(z:Nat)(P:List Nat)(L:List Nat)(k:Nat)(b:Hp),V=n/10000000000000000000^j/\Γ=[(2,eS),(3,qS (sB C) k ((wds n).length)),(4,qS x ((P).length) z)]/\SS w h w_ b [⟨C,22,(L).flatMap ar⟩,⟨b1,24,nc n⟩] [⟨22,1,x,z,(P).length,(P).flatMap ar⟩] [fun b=>Tab b]/\L.length=(wds n).length/\Wd L/\k<=L.length/\k<=(wds n).length/\win L 0 k=wds (n/10000000000000000000^j)/\(P=(List.range j).map fun i=>n/10000000000000000000^i%10000000000000000000)/\(∀ m,m<j->n/10000000000000000000^m≠0)) _ ⟨0,none,0,[],wds n,(wds n).length,h7,rfl,rfl,a.to _ _,rfl,Wd.wds n,nR _,nR _,(by rw[JG,KA];exact nG _ _ (nR _)),rfl,(fun m b=>absurd b (Ke m))⟩ ?_);rintro _ _ y ⟨j,x,z,P,L,k,_,b0,rfl,a,hLl,hWL,hk,hkc,hL,hP,F⟩;have hj_:j<=1000:=by rcases yz j with b|b;omega;have:=uP W (F (j-1) oM);omega
 have hPl:P.length=j:=by rw[hP];simp
 have bq:k=(wds (n/10000000000000000000^j)).length:=by rw[<-hL,bA oM]
 have bm:=@i5 (n/10000000000000000000^j);have bd:=FA (n:=n) (j:=j);refine cQ (aa a [.c,.v (nV k)] ?_);cases za:(decide ((0:Int)<(k:Int)))
 .
  have zd:=oF za;refine lB 19 za (ah (CG.exit ?_))
  show CG _ _ _ _ _ _ _ _
  refine aG ?_;obtain ⟨_,a,b3⟩:=a.pubr 0 (A:=x) (c:=z) (l:=P) (f:=ar) (ty:=22) (sz:=1) 0 (fun _=>rfl);have b2:k=0:=by omega
  have D:(n/10000000000000000000^j)=0:=by omega
  have bk:=uP W (F (j-1) (by have:=D;rcases yz j with b|b;(rw[b,JG,KA] at this;omega);omega));have B:=a;refine HH 6 84 [.pointer none,sZ] a (fun zg p hxs hbk=>?_);obtain ⟨zi,a,-⟩:=B.liftJ p;have e:Lib.IsBuilderF 84 5 y.heap.size y.heap.size (Lib.byteCells []) zg:=.inl ⟨nR _,_,hbk,World.ownsRowF_nil _ _ _ _,by simp[Value.ownBlock]⟩;refine ai (aa a [.c,.v (nV ((P).length))] (lV 31 (iV ((j:Int)-1)) ?_ (hr:=rS ((((P).length:Nat)-1)) kR ((dQ oM oM).trans oM))));refine lL a ac (bx ?_);refine bG _ (CG.loop (fun V Γ w_=>∃ (m:Nat)(l:List UInt8)(b:Hp),V=m/\Γ=[(2,eS),(4,qS x ((P).length) z),(6,.pointer (some ⟨y.heap.size,0,none⟩)),(7,iV ((m:Int)-1))]/\SS w h w_ b [⟨C,22,(L).flatMap ar⟩,⟨b1,24,nc n⟩] [] [fun b=>SlO 1 ar 0 b x (P),fun b=>Tab b]/\m<=j/\Ext y w_/\Lib.IsBuilderF 84 5 y.heap.size y.heap.size (Lib.byteCells (l)) w_/\l=dD (n/10000000000000000000^m)) _ ⟨j,[],zi,rfl,rfl,a.to _ _,nR _,p,e,(by rw[D];rfl)⟩ ?_);rintro _ _ _ ⟨m,l,_,br,rfl,a,hm,p,e,hl⟩;have bb:=va (n/10000000000000000000^(m-1)) (show 0<10000000000000000000 by decide);have bp:=fi 19 (n/10000000000000000000^(m-1)%10000000000000000000) kD bb;have bl:=eu (n/10000000000000000000^(m-1)%10000000000000000000);have bt:l.length<=1000:=by rw[hl];exact ed xe (ed (Ef _ _) W)
  have hPg:0<m->P.getD (m-1) 0=(n/10000000000000000000^(m-1)%10000000000000000000):=fun b=>by rw[hP];exact vk oM
  refine cQ (aa a ac ?_);cases zb:(decide ((0:Int)<=((m:Int)-1:Int)))
  .
   have ze:=oF zb;refine lB 33 zb (ah (CG.exit ?_))
   show CG _ _ _ _ _ _ _ _
   exact aG (Au 53 B p ((Any.Builder_String_any_f Tryz.lays169 Tryz.Builder_Extra_169 y.heap.size y.heap.size (l) _ e p.size).mono fun _ _ b=>⟨b.1,True.intro,b.2.2⟩) (fun _ _ a d u=>lL a ac (af a [] (.string (⟨(l).toArray⟩)) (by rw[hl,show m=0 by omega,JG,KA,lk oM];rfl))))
  have ze:=oT zb;refine lB 33 zb (ak (cK (cQ (kZ (aa a aF (lX 38 x ((P).length) z 1 ((m:Int)-1) (m-1) ((a.f.1).ok oM) ?_))))));refine II 39 (mV (P.getD (m-1) 0)) a ((a.f.1).el (m-1) oM) (by rw[hPg oM]) (Au 40 B p (Ret.keptB p.size e (C0 (n/10000000000000000000^(m-1)%10000000000000000000) (by have:=va (n/10000000000000000000^(m-1)) (show 0<10000000000000000000 by decide);omega) _ _ a.g a.f.2.1)) (fun _ _ a d u=>?_))
  clear p
  have p:=d;clear d;have e:Lib.IsBuilderF 84 5 y.heap.size y.heap.size (Lib.byteCells (l)) _:=u;refine lL a ac (ai (aa a [.c,.c,.v (nV ((P).length))] (lI 44 (((P).length:Nat)-1) ?_)));cases zc:(decide (((m:Int)-1:Int)<(((P).length:Nat)-1:Int)))
  .
   have zf:=oF zc;refine lB 45 zc (ah (cK (kQ (lL a ac (Au 52 B p ((At _ _ l (fN (n/10000000000000000000^(m-1)%10000000000000000000)) _ e p.size (by show _+(Lib.decDigits _).length<=_;rw[Lib.decDigits_length];(try simp only[s6,KB]);omega)).mono fun _ _ b=>⟨b.1,b.2.1,b.2.2.1⟩) (fun _ zj a d u=>?_))))))
   clear p
   have p:=d;clear d;have e:Lib.IsBuilderF 84 5 y.heap.size y.heap.size (Lib.byteCells (l++(Lib.decDigits (n/10000000000000000000^(m-1)%10000000000000000000)))) _:=u;refine lN (kQ (lL a ac (lV 35 (iV (((m-1:Nat):Int)-1)) ?_ (hr:=rS ((((m:Int)-1)-1)) kR ((dQ oM oM).trans oM)))));refine lL a ac (lD ?_);intro a_ X;refine ⟨_,_,?_,⟨m-1,l++(Lib.decDigits (n/10000000000000000000^(m-1)%10000000000000000000)),zj,rfl,rfl,a.to _ _,oM,p,e,(by rw[hl,show m=j by omega,D];exact (EM oM (by rw[show j-1+1=j by omega];exact D) (F (j-1) oM)).symm)⟩,X.to _ kR⟩
   omega
  have zf:=oT zc;refine lB 45 zc (ak (kQ (lL a [.c,.v (nV ((fN (n/10000000000000000000^(m-1)%10000000000000000000)).size))] (bg 48 (19-((fN (n/10000000000000000000^(m-1)%10000000000000000000)).size:Nat)) (19-Lib.nDigits (n/10000000000000000000^(m-1)%10000000000000000000)) ?_))));refine Au 49 B p ((Tryz.strings_Repeat ⟨#[48]⟩ (19-Lib.nDigits (n/10000000000000000000^(m-1)%10000000000000000000)) _ oM (by show 1*_<=_;omega)).mono fun _ _ b=>⟨by rw[b.1,GO],jZ e b.2,Below.mono b.2 p.size⟩) (fun _ _ a d u=>?_)
  clear p
  have p:=d;clear d;have e:Lib.IsBuilderF 84 5 y.heap.size y.heap.size (Lib.byteCells (l)) _:=u;refine Au 50 B p ((At _ _ l (⟨(um (19-Lib.nDigits (n/10000000000000000000^(m-1)%10000000000000000000)) 48).toArray⟩:ByteArray) _ e p.size (by show l.length+(um _ _).length<=_;rw[KB];omega)).mono fun _ _ b=>⟨b.1,b.2.1,b.2.2.1⟩) (fun _ _ a d u=>?_)
  clear p
  have p:=d;clear d;have e:Lib.IsBuilderF 84 5 y.heap.size y.heap.size (Lib.byteCells (l++(um (19-Lib.nDigits (n/10000000000000000000^(m-1)%10000000000000000000)) 48))) _:=u;refine lN (kQ (lL a ac (Au 52 B p ((At _ _ (l++(um (19-Lib.nDigits (n/10000000000000000000^(m-1)%10000000000000000000)) 48)) (fN (n/10000000000000000000^(m-1)%10000000000000000000)) _ e p.size (by show _+(Lib.decDigits _).length<=_;rw[Lib.decDigits_length];(try simp only[s6,KB]);omega)).mono fun _ _ b=>⟨b.1,b.2.1,b.2.2.1⟩) (fun _ zk a d u=>?_))))
  clear p
  have p:=d;clear d;have e:Lib.IsBuilderF 84 5 y.heap.size y.heap.size (Lib.byteCells ((l++(um (19-Lib.nDigits (n/10000000000000000000^(m-1)%10000000000000000000)) 48))++(Lib.decDigits (n/10000000000000000000^(m-1)%10000000000000000000)))) _:=u;refine lN (kQ (lL a ac (lV 35 (iV (((m-1:Nat):Int)-1)) ?_ (hr:=rS ((((m:Int)-1)-1)) kR ((dQ oM oM).trans oM)))));refine lL a ac (lD ?_);intro a_ X;refine ⟨_,_,?_,⟨m-1,(l++(um (19-Lib.nDigits (n/10000000000000000000^(m-1)%10000000000000000000)) 48))++(Lib.decDigits (n/10000000000000000000^(m-1)%10000000000000000000)),zk,rfl,rfl,a.to _ _,oM,p,e,(by rw[hl];exact (EQ oM (F m oM)).symm)⟩,X.to _ kR⟩
  omega
 have zd:=oT za;refine lB 19 za (ak (cK (kZ (aa a ac (aE (lL a ac (bn 22 (Hh C L k (wds n).length 10000000000000000000 (n/10000000000000000000^j) kD kD hWL oM oM hkc hL _ _ a.g (a.own 0) (a.jk 0)) ?_)))))));rintro _ _ _ u46 ⟨J,M,rfl,I,S,U,H,Q,O⟩;replace a:=(a.stepM 0 u46 O).to [⟨C,22,(J).flatMap ar⟩,⟨b1,24,nc n⟩] [⟨22,1,x,z,(P).length,(P).flatMap ar⟩];refine lL a [.c,.v (qS (sB C) M ((wds n).length)),.v (mV ((n/10000000000000000000^j)%10000000000000000000)),.c,.c] (lN (kQ (lL a aF (lR 27 22 1 ([mV ((n/10000000000000000000^j)%10000000000000000000)]) a (fun zl _ _ a=>lY 28 0 22 1 z x P ar ((n/10000000000000000000^j)%10000000000000000000) 8 zl (uV 0) a a.f.1 (fun zm zn _ zo a=>lL a ac (lD ?_)))))));intro a_ X;replace a:=a.tl;refine ⟨_,_,?_,⟨j+1,zm,zn,P++[((n/10000000000000000000^j)%10000000000000000000)],J,M,zo,rfl,rfl,a.to _ _,(by rw[I];exact hLl),S,U,H,(by rw[Q,z1,H1]),(by rw[hP,List.range_succ,List.map_append];rfl),(fun m b=>by rcases Kf.1 b with b|rfl;exact F m b;omega)⟩,X.to _ kR⟩
 omega
theorem xI (n:Nat)(c:(wds n).length<=1000000000)(b:Lib.nDigits n<=1000)(w:World)(h:Hp)(g:G w h)(a:Tab h):Calls Tryz.prog 85 #[nv n] w (Ret w h (fun v _=>v=.string (fN n))):=by
 rcases co n 18446744073709551616 with h1|h1
 ·rcases yz n with rfl|h0
  ·exact D3 0 h1 rfl w h g a
  ·exact Eu n h0 h1 w h g a
 ·exact Dz n h1 c b w h g a
theorem DH (m n:Nat)(e:m=n)(c:(wds n).length<=1000000000)(a:Lib.nDigits n<=1000)(w:World)(h:Hp)(g:G w h)(b:Tab h):Calls Tryz.prog 85 #[nv m] w (Ret w h (fun v _=>v=.string (fN n))):=by
 subst e;exact xI m c a w h g b
theorem Do (z:Int)(k:(wds (ab z)).length<=1000000000)(i:Lib.nDigits (ab z)<=1000)(w:World)(h:Hp)(g:G w h)(l:Tab h):CV 84 #[iv z] w h (.string (iS z)):=by
 have c:=((sS g).add (K:=fun p=>Tab p) l);refine go Tryz.func84 [(0,iv z)] rfl (aG (lA 1 26 (ic z) c (fun j w2 C c=>lL c ac (ai (aa c [.v (pB j),.o (.bool (au z)) 0 0 1] (lN ?_))))));cases d:(au z)
 .
  try rw[d] at c
  try rw[d]
  exact cV (cK (aa c [.v (qP j 1),.o (nv (ab z)) 0 1 2] (aq 11 c (xI (ab z) k i _ _ c.g c.f.1) (fun y x c=>lL c ac (af c [] (.string (fN (ab z))) (by have e:¬z<0:=oF (show decide (z<0)=false by assumption);unfold iS;rw[if_neg e]<;>rfl))))))
 try rw[d] at c
 try rw[d]
 refine ci (aa c [.v (qP j 1),.o (nv (ab z)) 0 1 2] (aq 7 c (xI (ab z) k i _ _ c.g c.f.1) (fun u B c=>lV 8 (.string ((⟨#[45]⟩:ByteArray)++(fN (ab z)))) ?_ (hr:=d7 (a:=⟨#[45]⟩) (b:=(fN (ab z))) kR (by rw[eu];show 1+_<=_;omega)))));exact lL c ac (af c [] (.string ((⟨#[45]⟩:ByteArray)++(fN (ab z)))) (by have e :  z<0:=oT (show decide (z<0)=true by assumption);unfold iS;rw[if_pos e]<;>rfl))
theorem CO (q:Rat)(k:LQ 100000000 q)(d:Lib.nDigits (ab q.num)<=1000)(e:Lib.nDigits q.den<=1000)(w:World)(h:Hp)(g:G w h)(y:Tab h):CV 52 #[qv q] w h (.string (ug q)):=by
 have c:=((sS g).add (K:=fun z=>Tab z) y);have B:=k.qd;have u:=oU q.num;have x:=k.1;have p:=k.2;refine go Tryz.func52 [(0,qv q)] rfl (aG (lA 1 28 (qc q) c (fun l w2 H c=>lL c ac (ai (aa c [.o (qv q) 0 0 5] (aq 4 c (ie q k _ _ c.g) (fun D I c=>?_)))))));cases j:(decide (q.den=1))
 .
  have i:=oF j;refine ah (cK (cQ (cR 8 [] mixed c aw ?_)));refine eV 0 8 (pB l) (eO 1 9 [(0,0,3)] (iv q.num) c (eV 4 12 (qP l 3) (eO 5 13 [(0,3,2)] (nv (qd q)) c (aK 2 10 c (fun _ _ c=>Do q.num oM d _ _ c.g c.f.1) (fun C J c=>eV 3 11 (.string (((iS q.num):ByteArray)++(⟨#[47]⟩))) ?_ (hv:=fun _=>d7 (a:=(iS q.num)) (b:=⟨#[47]⟩) kR (by show _+1<=_;omega)))))));refine aK 6 14 c (fun _ _ c=>DH (qd q) q.den (if_neg aM) oM e _ _ c.g c.f.1) (fun F _ c=>eV 7 15 (.string ((((iS q.num):ByteArray)++(⟨#[47]⟩):ByteArray)++(fN q.den))) ?_ (hv:=fun _=>d7 (a:=((iS q.num):ByteArray)++(⟨#[47]⟩)) (b:=(fN q.den)) kR (by rw[ByteArray.size_append,eu];show _+1+_<=_;omega)));exact cG c (fun _ _ c=>tV 8 2 (.string ((((iS q.num):ByteArray)++(⟨#[47]⟩):ByteArray)++(fN q.den))) (tN (kX (c.ret [] (.string ((((iS q.num):ByteArray)++(⟨#[47]⟩):ByteArray)++(fN q.den))) (by unfold ug;first|rw[if_pos aM]|rw[if_neg aM])))))
 have i:=oT j;exact ak (aa c [.v (pB l),.o (iv q.num) 0 0 3] (aq 7 c (Do q.num oM d _ _ c.g c.f.1) (fun _ _ c=>lL c ac (af c [] (.string (iS q.num)) (by unfold ug;first|rw[if_pos aM]|rw[if_neg aM])))))
theorem GG (x:ByteArray)(o:Nat)(hi:Lib.indexByte x.data.toList 93=(o:Int))(w:World)(h:Hp)(g:G w h):CV 162 #[.string x,.int .u8 93] w h (nV o):=by
 have q:=Ret.of_same g (Tryz.strings_IndexByte x 93 w);rw[show (93:Int).toNat.toUInt8=93 from rfl,hi] at q;exact q
theorem Ip (x:ByteArray)(hi:Lib.indexByte x.data.toList 93 = -1)(w:World)(h:Hp)(g:G w h):CV 162 #[.string x,.int .u8 93] w h (iV (-1)):=by
 have q:=Ret.of_same g (Tryz.strings_IndexByte x 93 w);rw[show (93:Int).toNat.toUInt8=93 from rfl,hi] at q;exact q
theorem BG {s:ByteArray}{a:Nat}(ha:a<=s.size)(h:rn cg s a=s.size):Lib.indexByte (s.extract a s.size).data.toList 93 = -1 :=
 nW _ fun b f e=>by
  obtain ⟨i,hi,c⟩:=sf f;rw[ByteArray.size_extract] at hi
  have h1:=xn (p:=cg) (s:=s) (a:=a) (i:=a+i) oM oM;rw[dd] at c
  have d:aj s (a+i)≠93:=oT h1;exact d (by rw[c,e];rfl)
theorem pf {n:Int}{d:Nat}(c:0<d):ab (mkRat n d).num<=ab n/\(mkRat n d).den<=d:=by
 obtain ⟨h1,b,e,f⟩:=ig n d c;refine ⟨?_,by rw[b];exact zF _ _⟩;have a:((Nat.gcd n.natAbs d:Nat):Int)∣n:=e;rw[h1];show (n/((Nat.gcd n.natAbs d:Nat):Int)).natAbs<=n.natAbs
 rw[Int.natAbs_ediv_of_dvd a];exact zF _ _
theorem nH {x:ByteArray}{q:Rat}(h:cF x=some q):ab q.num<10^200*10^200/\q.den<=10^200:=by
  have c:10^200<=10^200*10^200:=KC _ (F2 kD)
  unfold cF at h
  split at h
  . unfold iF at h
    cases hz:en (x.extract 0 (rn (cb 47) x 0)) with
    | none=>rw[hz] at h;cases h
    | some z =>
      rw[hz] at h
      cases a:bY (x.extract (rn (cb 47) x 0+1) x.size) with
      | none=>rw[a] at h;cases h
      | some k =>
        rw[a] at h
        dsimp only at h
        split at h
        . cases h
        . rename_i h0
          injection h with h;subst h
          have h1:=pf (n:=z) (d:=k) (Nat.pos_of_ne_zero h0);have e:=jo hz;have f:=cv a;exact ⟨zz h1.1 (ep e c),ed h1.2 (JM f)⟩
  . split at h
    . generalize x.extract 0 (rn (cb 46) x 0)=u at h
      generalize x.extract (rn (cb 46) x 0+1) x.size=y at h
      cases a:bY (if aj u 0=45 then u.extract 1 u.size else u) with
      | none=>rw[iJ rfl a] at h;cases h
      | some k =>
        by_cases hd:1<=y.size/\y.size<=200/\(∀ i,i<y.size->bM (aj y i)=true)
        . have b:∀ i,i<y.size->48<=aj y i/\aj y i<=57:=fun i hi=>oT (hd.2.2 i hi)
          rw[g8 rfl rfl a oM hd.2.1 b] at h
          injection h with h;subst h
          have h1:=pf (n:=bE (decide (aj u 0=45)) (k*10^y.size+dv y y.size)) (d:=10^y.size) (F2 kD);rw[cd] at h1
          exact ⟨zz h1.1 (jK (cv a) hd.2.1 (fR y.size b)),ed h1.2 (A4 kD hd.2.1)⟩
        . unfold fK at h
          rw[a] at h
          dsimp only at h
          rw[if_neg hd] at h;cases h
    . cases hz:en x with
      | none=>rw[hz] at h;cases h
      | some z =>
        rw[hz] at h;injection h with h;subst h
        rw[Rat.num_intCast,Rat.den_intCast];exact ⟨ep (jo hz) c,Nat.one_le_pow _ _ kD⟩
theorem kB {x:ByteArray}{q:Rat}(h:cF x=some q):LQ 3000 q:=by
 obtain ⟨h1,a⟩:=nH h;exact ⟨fL (JM h1),fL (ed a (KC _ (F2 kD)))⟩
theorem it {x:ByteArray}{q:Rat}(h:cF x=some q):Lib.nDigits (ab q.num)<=1000/\Lib.nDigits q.den<=1000:=by
 obtain ⟨h1,a⟩:=nH h;rw[<-Nat.pow_add] at h1
 exact ⟨ed (fi (200+200) _ kD h1) kD,ed (fi 201 _ kD (zz a (Nat.pow_lt_pow_right kD kD))) kD⟩
theorem p6  (y:Nat)(s:ByteArray)(hsz:s.size<=1000000)(a:Nat)(ha:a<=s.size)(X:Int)(q:Rat)(h91:aj s a=91)(F:rn cg s (a+1)≠s.size)(H:∀ (w:World) (h:Hp),G w h->Tab h->CV 123 #[.string (s.extract (a+1) (rn cg s (a+1)))] w h (.tuple #[qv q,.bool true]))(L:∀ (w:World) (h:Hp),G w h->Tab h->CV 52 #[qv q] w h (.string (s.extract (a+1) (rn cg s (a+1)))))(w:World)(h:Hp)(g:G w h)(ho:Own w y 56 [.string s,nV a,iV X])(hj:h[y]?=some junk)(tb:Tab h):Calls Tryz.prog 126 #[pB y] w (bV y w h (vL y s (dm q) (rn cg s (a+1)+1) X)):=by
 have d:UpM [y] w h w h:=UpM.refl g;obtain ⟨wz,bb,b⟩:=SS.at_ g ho hj;have hin:=cp (s:=s) (a:=a) oM;have Z:=fV cg s (a+1);have S:=dC (p:=cg) (s:=s) (a:=a+1) oM;have C:=Af (s:=s) (a:=a+1) oM F
 generalize hr:rn cg s (a+1)=r at F Z S C H L ⊢
 replace b:=(b.add (K:=fun Y=>Tab Y) tb);refine go Tryz.func126 [(0,pB y)] rfl (aa b ac (aE (lL b [.c,.v (pB y),.v (qP y 1),.o (nV a) 0 1 1,.c] (aE (lL b [.c,.v (pB y),.v (pB y),.o (.string s) 0 0 1,.c] (bg 18 ((a:Nat)+1) (a+1) ?_))))));refine lV 19 (.string (s.extract (a+1) s.size)) ?_ (hr:=fv (tx:=9) (x:=.tmp 16) (i:=.tmp 18) (k:=.i64) (s:=s) (n:=(a+1)) (j:=((a+1:Nat):Int)) kR kR kR kR oM oM _);refine ec 20 (GG (s.extract (a+1) s.size) (r-(a+1)) C _ _ b.g) ?_;rintro _ w1 h2 u3 rfl;replace d:=d.trans (u3.m _);replace b:=b.step u3;refine lL b ac (ai (aa b ac ?_));have W:(decide (((r-(a+1):Nat):Int)<(0:Int)))=false:=decide_eq_false oM;refine lB 22 W (ah (cK (aa b [.c,.v (pB y),.v (pB y),.o (.string s) 0 0 1,.c] (bg 31 ((a:Nat)+1) (a+1) ?_))));refine lL b ac (bg 33 ((a:Nat)+1) (a+1) ?_);refine lL b ac (bg 35 ((a+1:Nat)+(r-(a+1):Nat)) r ?_);refine lV 36 (.string (s.extract (a+1) r)) ?_ (hr:=fj (tx:=9) (x:=.tmp 29) (i:=.tmp 31) (e:=.tmp 35) (k:=.i64) (k2:=.i64) (s:=s) (n:=(a+1)) (m:=r) (j:=((a+1:Nat):Int)) (j2:=(r:Int)) kR kR kR kR kR oM oM oM oM _);refine lL b ac (aE (lL b ac (ec 39 (H _ _ b.g b.f.1) ?_)));rintro _ w5 h6 u7 rfl;replace d:=d.trans (u7.m _);replace b:=b.step u7;refine lL b [.c,.v (qv q),.v qT] (fr 6 28 a1 b (fun b8 w9 _ Q u b=>?_));replace u:=ed d.gr.size u;replace d:=d.trans (Q.m _);refine ce 0 0 (qc q) b (fun _ J b=>?_);replace d:=d.put2 J u g b.g;refine lL b ac (ai (aa b [.c,.v qF,.c,.o (qv q) 0 0 5] (ec 46 (L _ _ b.g b.f.1) ?_)));rintro _ _ _ M rfl;replace d:=d.trans (M.m _);replace b:=b.step M;refine lL b ac (lV 48 qF ?_ (hr:=rb kR (wO (s.extract (a+1) r))));refine lL b [.v qF] (lN (bG [(0,pB y),(2,.pointer none),(3,nV a),(4,nV (r-(a+1))),(6,pB b8),(49,qF)] ?_));refine cV (cK (aa b aF (bg 55 ((a:Nat)+1) (a+1) ?_)));refine lL b ac (bg 57 ((a+1:Nat)+(r-(a+1):Nat)) r ?_);refine bg 58 ((r:Nat)+1) (r+1) (lL b [.v (pB y),.v (qP y 1)] (ce 1 1 ([nV (r+1)]) b (fun _ J b=>?_)));replace d:=d.put J (o0.2 rfl) b.g;refine aE (lL b [.o (qv q) 0 0 5] (ec 62 (sL q _ _ b.g) ?_));rintro _ _ _ I ⟨z,rfl,B⟩;replace d:=d.trans (I.m _);replace b:=b.step I;replace b:=(b.add (K:=fun Y=>PtH Y z (dm q)) B);refine fr 8 31 a2 b (fun U _ _ V l b=>?_);replace l:=ed d.gr.size l;replace d:=d.trans (V.m _);refine ce 0 0 (bv z) b (fun _ J b=>?_);replace d:=d.put2 J l g b.g;refine aE (lL b ac (lN (kX ?_)));obtain ⟨zb,b,d,O⟩:=b.pubM d 0 l;replace b:=b.to [⟨b8,28,qc q⟩,⟨y,56,[.string s,nV (r+1),iV X]⟩] [];have D:Seg zb U 0 (bv z):=O;replace b:=b.a_Seg D;exact b.retM d [] (pB U) (by exact ⟨U,z,rfl,by first|assumption|omega,b.own 1,b.f.1,b.f.2.1⟩)
theorem qW  (u:Nat)(s:ByteArray)(C:s.size<=1000000)(a:Nat)(ha:a<=s.size)(X:Int)(b:Nat)(W:aj s a=91/\b=a/\(rn cg s (a+1)=s.size\/jQ (s.extract (a+1) (rn cg s (a+1)))=none))(w:World)(h:Hp)(g:G w h)(ho:Own w u 56 [.string s,nV a,iV X])(hj:h[u]?=some junk)(tb:Tab h):Calls Tryz.prog 126 #[pB u] w (bV u w h (qh u s b)):=by
 have l:UpM [u] w h w h:=UpM.refl g;obtain ⟨wz,bb,d⟩:=SS.at_ g ho hj;obtain ⟨_,B,hbd⟩:=W;have hin:=cp (s:=s) (a:=a) oM;have hge:=fV cg s (a+1);have hle:=dC (p:=cg) (s:=s) (a:=a+1) oM;replace d:=(d.add (K:=fun h_=>Tab h_) tb);refine go Tryz.func126 [(0,pB u)] rfl (aa d ac (aE (lL d [.c,.v (pB u),.v (qP u 1),.o (nV a) 0 1 1,.c] (aE (lL d [.c,.v (pB u),.v (pB u),.o (.string s) 0 0 1,.c] (bg 18 ((a:Nat)+1) (a+1) ?_))))));refine lV 19 (.string (s.extract (a+1) s.size)) ?_ (hr:=fv (tx:=9) (x:=.tmp 16) (i:=.tmp 18) (k:=.i64) (s:=s) (n:=(a+1)) (j:=((a+1:Nat):Int)) kR kR kR kR oM oM _)
 rcases Decidable.em (rn cg s (a+1)=s.size) with hnb|hnb
 .
  refine ec 20 (Ip (s.extract (a+1) s.size) (BG oM hnb) _ _ d.g) ?_;rintro _ w1 h2 u3 rfl;replace l:=l.trans (u3.m _);replace d:=d.step u3;refine lL d ac (ai (aa d [.c,.v qT] (ak (aa d aF (bn 25 (ee u s C a ha X a oM _ _ d.g (d.own 0) (d.jk 0) d.f.1) ?_)))));rintro _ w5 h6 u7 ⟨rfl,Y⟩;replace d:=(d.stepM 0 u7 Y).to [⟨u,56,[.string s,nV a,nV a]⟩] [];replace l:=l.trans u7;exact lL d ac (lN (kX (d.retM l [] (.pointer none) (by rw[B];exact ⟨a,rfl,by omega,d.own 0⟩))))
 have S:=hbd.resolve_left hnb;have O:=Af (s:=s) (a:=a+1) oM hnb
 generalize hr:rn cg s (a+1)=r at hnb hge hle O S
 refine ec 20 (GG (s.extract (a+1) s.size) (r-(a+1)) O _ _ d.g) ?_;rintro _ w8 h9 I rfl;replace l:=l.trans (I.m _);replace d:=d.step I;refine lL d ac (ai (aa d ac ?_));cases za:(decide (((r-(a+1):Nat):Int)<(0:Int)))
 .
  have zd:=oF za;refine lB 22 za (ah (cK (aa d [.c,.v (pB u),.v (pB u),.o (.string s) 0 0 1,.c] (bg 31 ((a:Nat)+1) (a+1) ?_))));refine lL d ac (bg 33 ((a:Nat)+1) (a+1) ?_);refine lL d ac (bg 35 ((a+1:Nat)+(r-(a+1):Nat)) r ?_);refine lV 36 (.string (s.extract (a+1) r)) ?_ (hr:=fj (tx:=9) (x:=.tmp 29) (i:=.tmp 31) (e:=.tmp 35) (k:=.i64) (k2:=.i64) (s:=s) (n:=(a+1)) (m:=r) (j:=((a+1:Nat):Int)) (j2:=(r:Int)) kR kR kR kR kR oM oM oM oM _);refine lL d ac (aE (lL d ac ?_))
  rcases hq:cF (s.extract (a+1) r) with _|q
  .
   refine ec 39 ((by have U:=nO (s.extract (a+1) r) (by rw[ByteArray.size_extract];omega) _ _ d.g (d.f.1);rw[hq] at U;exact U)) ?_;rintro _ _ _ Z rfl;replace l:=l.trans (Z.m _);replace d:=d.step Z;refine lL d [.c,.v (qv 0),.v qF] (fr 6 28 a1 d (fun zf _ _ u18 z d=>?_));replace z:=ed l.gr.size z;replace l:=l.trans (u18.m _);refine ce 0 0 (qc 0) d (fun _ pu d=>?_);replace l:=l.put2 pu z g d.g;refine lL d ac (ai (aa d [.c,.v qT,.c] (lG 45 ?_)));refine lG 46 (lG 47 (lG 48 (lL d [.v qT] (lN (bG [(0,pB u),(2,.pointer none),(3,nV a),(4,nV (r-(a+1))),(6,pB zf),(49,qT)] ?_)))));refine ci (aa d aF (bn 52 (ee u s C a ha X a oM _ _ d.g (d.own 1) (d.jk 1) d.f.1) ?_));rintro _ _ _ J ⟨rfl,F⟩;replace d:=(d.stepM 1 J F).to [⟨zf,28,qc 0⟩,⟨u,56,[.string s,nV a,nV a]⟩] [];replace l:=l.trans J;exact lL d ac (lN (kX (d.retM l [] (.pointer none) (by rw[B];exact ⟨a,rfl,by omega,d.own 1⟩))))
  refine ec 39 ((by have U:=nO (s.extract (a+1) r) (by rw[ByteArray.size_extract];omega) _ _ d.g (d.f.1);rw[hq] at U;exact U)) ?_;rintro _ _ _ L rfl;replace l:=l.trans (L.m _);replace d:=d.step L;refine lL d [.c,.v (qv q),.v qT] (fr 6 28 a1 d (fun zc _ _ u30 y d=>?_));replace y:=ed l.gr.size y;replace l:=l.trans (u30.m _);refine ce 0 0 (qc q) d (fun _ pu d=>?_);replace l:=l.put2 pu y g d.g;refine lL d ac (ai (aa d [.c,.v qF,.c,.o (qv q) 0 0 5] (ec 46 (CO q ((kB hq).mono kD) (it hq).1 (it hq).2 _ _ d.g d.f.1) ?_)));rintro _ _ _ M rfl;replace l:=l.trans (M.m _);replace d:=d.step M;refine lL d ac ?_;cases zb:(j7 (ug q) (s.extract (a+1) r))
  .
   have ze:=ko zb;refine lB 48 zb (lL d [.v qF] (lN (bG [(0,pB u),(2,.pointer none),(3,nV a),(4,nV (r-(a+1))),(6,pB zc),(49,qF)] ?_)));refine cV (cK (aG ?_));exact absurd (show jQ (s.extract (a+1) r)=some q by unfold jQ;rw[hq];exact if_pos aM) (by rw[S];exact fun h_=>(nomatch h_))
  have ze:=kG zb;refine lB 48 zb (lL d [.v qT] (lN (bG [(0,pB u),(2,.pointer none),(3,nV a),(4,nV (r-(a+1))),(6,pB zc),(49,qT)] ?_)));refine ci (aa d aF (bn 52 (ee u s C a ha X a oM _ _ d.g (d.own 1) (d.jk 1) d.f.1) ?_));rintro _ _ _ Q ⟨rfl,D⟩;replace d:=(d.stepM 1 Q D).to [⟨zc,28,qc q⟩,⟨u,56,[.string s,nV a,nV a]⟩] [];replace l:=l.trans Q;exact lL d ac (lN (kX (d.retM l [] (.pointer none) (by rw[B];exact ⟨a,rfl,by omega,d.own 1⟩))))
 have zd:=oT za;refine lB 22 za (ak (aa d aF (bn 25 (ee u s C a ha X a oM _ _ d.g (d.own 0) (d.jk 0) d.f.1) ?_)));rintro _ _ _ V ⟨rfl,H⟩;replace d:=(d.stepM 0 V H).to [⟨u,56,[.string s,nV a,nV a]⟩] [];replace l:=l.trans V;exact lL d ac (lN (kX (d.retM l [] (.pointer none) (by rw[B];exact ⟨a,rfl,by omega,d.own 0⟩))))
theorem o8 {x:ByteArray}{q:Rat}(h:jQ x=some q):cF x=some q/\ug q=x:=by
 unfold jQ at h
 split at h
 ·rename_i r hr
  split at h
  ·rename_i e;injection h with h;subst h;exact ⟨hr,e⟩
  ·cases h
 ·cases h
theorem mt {x:ByteArray}{z:Int}(h:en x=some z):x.size<=201:=by
 by_cases c:aj x 0=45
 ·cases a:bY (x.extract 1 x.size) with
  | none=>rw[dP c (.inl a)] at h;cases h
  | some k=>have:=(dB a).1;rw[ByteArray.size_extract] at this;omega
 ·rw[dy c] at h
  cases a:bY x with
  | none=>rw[a] at h;cases h
  | some k=>have:=(dB a).1;omega
theorem ue {x:ByteArray}{q:Rat}(h:cF x=some q):x.size<=1000000:=by
  unfold cF at h
  split at h
  . unfold iF at h
    cases hz:en (x.extract 0 (rn (cb 47) x 0)) with
    | none=>rw[hz] at h;cases h
    | some z =>
      rw[hz] at h
      cases a:bY (x.extract (rn (cb 47) x 0+1) x.size) with
      | none=>rw[a] at h;cases h
      | some k =>
        have h1:=mt hz;have b:=(dB a).1;rw[ByteArray.size_extract] at h1 b;omega
  . split at h
    . cases a:bY (if aj (x.extract 0 (rn (cb 46) x 0)) 0=45 then (x.extract 0 (rn (cb 46) x 0)).extract 1 (x.extract 0 (rn (cb 46) x 0)).size else (x.extract 0 (rn (cb 46) x 0))) with
      | none=>rw[iJ rfl a] at h;cases h
      | some k =>
        rcases co 200 (x.extract (rn (cb 46) x 0+1) x.size).size with h3|h3
        . rw[fl rfl a (.inr h3)] at h;cases h
        . have b:=(dB a).1
          have c:(x.extract 0 (rn (cb 46) x 0)).size<=201:=by
            split at b
            . rw[ByteArray.size_extract] at b;omega
            . omega
          rw[ByteArray.size_extract] at h3 c;omega
    . cases hz:en x with
      | none=>rw[hz] at h;cases h
      | some z=>have:=mt hz;omega
theorem Hr:tE cF:=fun x q a w h g c=>by
 have b:=nO x (ue a) w h g c;rw[a] at b;exact b
theorem HU:Ig cF:=fun x c d w h g b=>by
 have a:=nO x c w h g b;rw[d] at a;exact a
theorem Hw:wA:=fun x k hs hx w h g=>by
 have q_:=dY x oM w h g;rw[Dy hx hs] at q_;exact q_
theorem HJ:HF:=fun x hs hx w h g=>by
 have q_:=dY x oM w h g;rw[BY hx] at q_;exact q_
theorem H4:FD jQ:=fun e s h1 a j l q p o k w h g f d b=>by
 obtain ⟨c,i⟩:=o8 k;exact p6 e s h1 a j l q p o (fun w h g b=>Hr _ _ c w h g b) (fun w h g b=>by rw[<-i];exact CO q ((kB c).mono kD) (it c).1 (it c).2 w h g b) w h g f d b
theorem H0:HG jQ:=fun f s h1 a i k b j w h g e d c=>qW f s h1 a i k b j w h g e d c
section
variable {nf bf:ByteArray->Option Rat}{s:ByteArray}{n p k a:Nat}{r:PR}{t:Tm}{q:Rat}
def qN (s:ByteArray)(t:Tm)(b:Nat):Option PR:=if aj s (sk s b)=41 then some (.ok t (sk s b+1)) else some (.err (sk s b))
theorem ER {b:Nat}(h:qN s t b=some r)(c:aj s (sk s b)=41):r=.ok t (sk s b+1):=by
 unfold qN at h;rw[if_pos c] at h;injection h with h;exact h.symm
theorem Fh {b:Nat}(h:qN s t b=some r)(c:aj s (sk s b)≠41):r=.err (sk s b):=by
 unfold qN at h;rw[if_neg c] at h;injection h with h;exact h.symm
def pI (nf bf:ByteArray->Option Rat)(s:ByteArray)(n p:Nat):Option PR :=
    if cH (aj s p)=true then match nf (s.extract p (rn cH s p)) with
      | some q=>some (.ok (dm q) (rn cH s p))
      | none=>some (.err p)
    else if dL (aj s p)\/aj s p=95 then uw nf bf s n p
    else if aj s p=91 then
      if rn cg s (p+1)=s.size then some (.err p) else match bf (s.extract (p+1) (rn cg s (p+1))) with
      | some q=>some (.ok (dm q) (rn cg s (p+1)+1))
      | none=>some (.err p)
    else if aj s p=40 then fW (bj nf bf s n .sum (p+1)) (qN s)
    else some (.err p)
theorem AN (h:bj nf bf s (n+1) .atom a=some r):pI nf bf s n (sk s a)=some r:=by
  rw[<-h];unfold bj pI uw qN
  generalize sk s a=p
  by_cases c0:cH (aj s p)=true
  . rw[if_pos c0,if_pos c0];cases nf (s.extract p (rn cH s p))<;>rfl
  . rw[if_neg c0,if_neg c0]
    by_cases c1:dL (aj s p)\/aj s p=95
    . rw[if_pos c1,if_pos c1]
    . rw[if_neg c1,if_neg c1]
      by_cases c2:aj s p=91
      . rw[if_pos c2,if_pos c2]
        by_cases c3:rn cg s (p+1)=s.size
        . rw[if_pos c3,if_pos c3]
        . rw[if_neg c3,if_neg c3];cases bf (s.extract (p+1) (rn cg s (p+1)))<;>rfl
      . rw[if_neg c2,if_neg c2]
theorem ru {c:Nat}(h:c=91):¬cH c=true/\¬(dL c\/c=95):=by
 subst h;exact ⟨by decide,by unfold dL;omega⟩
theorem Df {c:Nat}(h:c=40):¬cH c=true/\¬(dL c\/c=95):=by
 subst h;exact ⟨by decide,by unfold dL;omega⟩
theorem Is {c:Nat}(h:dL c\/c=95):¬cH c=true:=fun e=>by
 have:=oT e
 unfold dL at h;omega
theorem B7 (h:pI nf bf s n p=some r)(c:aj s p=40):fW (bj nf bf s n .sum (p+1)) (qN s)=some r:=by
 unfold pI at h;rw[if_neg (Df c).1,if_neg (Df c).2,if_neg oM,if_pos c] at h;exact h
theorem nI (a:rn cg s (p+1)=k)(h:pI nf bf s n p=some r)(c:aj s p=91)(d:k=s.size\/bf (s.extract (p+1) k)=none):r=.err p:=by
 unfold pI at h;rw[if_neg (ru c).1,if_neg (ru c).2,if_pos c,a] at h
 by_cases e:k=s.size
 ·rw[if_pos e] at h;injection h with h;exact h.symm
 ·rw[if_neg e,d.resolve_left e] at h;injection h with h;exact h.symm
theorem sE (a:rn cg s (p+1)=k)(h:pI nf bf s n p=some r)(c:aj s p=91)(d:bf (s.extract (p+1) k)=none):r=.err p:=nI a h c (.inr d)
theorem BN (a:rn cg s (p+1)=k)(h:pI nf bf s n p=some r)(c:aj s p=91)(e:k≠s.size)(d:bf (s.extract (p+1) k)=some q):r=.ok (dm q) (k+1):=by
 unfold pI at h;rw[if_neg (ru c).1,if_neg (ru c).2,if_pos c,a,if_neg e,d] at h;injection h with h;exact h.symm
theorem pm (a:rn cH s p=k)(h:pI nf bf s n p=some r)(c:cH (aj s p)=true)(d:nf (s.extract p k)=none):r=.err p:=by
 unfold pI at h;rw[if_pos c,a,d] at h;injection h with h;exact h.symm
theorem o9 (a:rn cH s p=k)(h:pI nf bf s n p=some r)(c:cH (aj s p)=true)(d:nf (s.extract p k)=some q):r=.ok (dm q) k:=by
 unfold pI at h;rw[if_pos c,a,d] at h;injection h with h;exact h.symm
theorem BT (h:pI nf bf s n p=some r)(c:dL (aj s p)):uw nf bf s n p=some r:=by
 unfold pI at h;rw[if_neg (Is (.inl c)),if_pos (.inl c)] at h;exact h
theorem AP {e:Nat}(h1:p<e)(a:e<=s.size):aj (s.extract p e) 0=aj s p:=by
 unfold aj
 rw[B1,B1,show (s.extract p e).data.toList=(s.data.toList.take e).drop p by simp[List.drop_take],List.getElem?_drop,List.getElem?_take_of_lt oM,sw]
theorem D4 (c:aj s p=95):uw nf bf s n p=some (.err p):=by
 have d:=cp (s:=s) (a:=p) oM;have h1:=i6 (p:=bF) d (decide_eq_true (by unfold kh;omega));have i:=dC (p:=bF) (JM d);have b:aj (s.extract p (rn bF s p)) 0=95:=by rw[AP oM i];exact c
 unfold uw
 generalize s.extract p (rn bF s p)=x at b
 have h:ag x=0:=by
  unfold ag
  rw[if_neg (fun e=>by rw[e] at b;revert b;decide),if_neg (fun e=>by rw[e] at b;revert b;decide),if_neg (fun e=>by rw[e] at b;revert b;decide),if_neg (fun e=>by rw[e] at b;revert b;decide),if_neg (fun e=>by rw[e] at b;revert b;decide)]
 have f:cD x=false:=decide_eq_false fun e=>by have:=e.2.2.1;rw[b] at this;unfold dL at this;omega
 rw[if_neg (by unfold bU;rw[h];decide),if_neg (by rw[f];decide)]
theorem EH (h:pI nf bf s n p=some r)(c0:cH (aj s p)=false)(c1:¬dL (aj s p))(c2:aj s p≠91)(a:aj s p≠40):r=.err p:=by
 unfold pI at h;rw[if_neg (by rw[c0];decide)] at h
 by_cases c:aj s p=95
 ·rw[if_pos (.inr c),D4 c] at h;injection h with h;exact h.symm
 ·rw[if_neg (fun e=>e.elim c1 c),if_neg c2,if_neg a] at h;injection h with h;exact h.symm
end
theorem uT {x:ByteArray}(h:cF x=none):jQ x=none:=by unfold jQ;rw[h]
theorem uD {x:ByteArray}{q:Rat}(h:cF x=some q)(e:ug q≠x):jQ x=none:=by unfold jQ;rw[h];exact if_neg e
theorem Gq {x:ByteArray}{q:Rat}(h:cF x=some q)(e:ug q=x):jQ x=some q:=by unfold jQ;rw[h];exact if_pos e
theorem n7 {x:ByteArray}{q:Rat}(h:cF x=some q):(lim (ab q.num)).length<=60/\(lim q.den).length<=60:=by
 obtain ⟨h1,b⟩:=nH h;have a:10^200*10^200<=10^200*10^201:=Nat.mul_le_mul_left _ (A4 kD kD);exact ⟨dN (ed (JM h1) a),dN (ed (ed b (KC _ (F2 kD))) a)⟩
theorem Dw (q:Rat)(A:Z9)(c:Nat)(a:(lim (ab q.num)).length<=c)(D:Z9)(d:Nat)(j:(lim q.den).length<=d)(w:World)(h:Hp)(g:G w h)(k:S3 A (lim (ab q.num)) h)(b:S3 D (lim q.den) h):CR 134 #[.agg #[.bool (au q.num),.slice A (lim (ab q.num)).length c,.slice D (lim q.den).length d]] w h (fun v h1=>∃ r,v=aY r/\RtH h1 r (dm q)) :=
 (Im (d:=0) _ _ _ _ _ _ _ w h g ⟨true,⟨A,c,D,d,rfl,a,j,k,b⟩,fun o=>by cases o⟩).mono fun e w' ⟨v,f,i,u,r,p,l⟩=>⟨v,f,i,u,r,p,_,l⟩
section
variable (n:Nat)
theorem GR  (ihs:∀ m,m<=n->RC cF jQ 13 m .sum)(rb:Nat)(s:ByteArray)(C:s.size<=1000000)(a:Nat)(ha:a<=s.size)(r:PR)(O:bj cF jQ s (n+1) .atom a=some r)(w:World)(h:Hp)(g:G w h)(ho:Own w rb 64 [.string s,nV a,iV (-1)])(hj:h[rb]?=some junk)(tb:Tab h):Calls Tryz.prog 106 #[pB rb] w (bV rb w h (Fx rb s r)):=by
 have d:UpM [rb] w h w h:=UpM.refl g;obtain ⟨wz,L,b⟩:=SS.at_ g ho hj;replace b:=(b.add (K:=fun u=>Tab u) tb);refine go Tryz.func106 [(0,pB rb)] rfl (aG (fr 2 45 (ax ⟨0,0,false,none,0,0,none,0,0,⟨#[]⟩,none,0,0⟩) b (fun z w2 h3 u4 p b=>?_)));replace p:=ed d.gr.size p;replace d:=d.trans (u4.m _);refine ai (aa b [.c,.v (pB rb),.v (qP rb 2),.o (iV (-1)) 1 2 1,.v qF] (ah (cK (aa b ac ?_))));have dp:=bD (s:=s) (a:=a) oM;obtain ⟨l,hbp⟩:∃ l,sk s a=l:=⟨_,rfl⟩;refine bn 17 (mr rb s C a ha _ _ b.g (b.own 1) (b.jk 1) b.f.1) ?_;rintro _ w6 h7 u8 ⟨rfl,cz⟩;rw[hbp] at cz dp
 rw[hbp];replace b:=(b.stepM 1 u8 cz).to [⟨z,45,ax ⟨0,0,false,none,0,0,none,0,0,⟨#[]⟩,none,0,0⟩⟩,⟨rb,64,[.string s,nV l,iV (-1)]⟩] [];replace d:=d.trans u8;have hl:sk s l=l:=by rw[<-hbp,pH]
 replace O:=(AN O);rw[hbp] at O
 refine lL b ac (aE (lL b [.c,.v (pB rb),.v (qP rb 1),.o (nV l) 1 1 1,.c] (ai (kZ (aa b ac ?_)))));have h5:=bD (s:=s) (a:=l) oM;refine bn 24 (m9 rb s C l oM 40 kD hl _ _ b.g (b.own 1) (b.jk 1) b.f.1) ?_;rintro _ _ Zg u12 (⟨rfl,bw,k3,bt⟩|⟨rfl,bw,bt⟩)
 .
  replace b:=(b.stepM 1 u12 bt).to [⟨z,45,ax ⟨0,0,false,none,0,0,none,0,0,⟨#[]⟩,none,0,0⟩⟩,⟨rb,64,[.string s,nV (l+1),iV (-1)]⟩] [];replace d:=d.trans u12;replace O:=B7 O bw;refine lL b ac (ak (aa b ac ?_))
  rcases cJ O with ⟨be,he,hre⟩|⟨t1,y1,hq1,hr1⟩
  .
   refine bn 26 (ihs n (nR _) rb s C (l+1) oM (.err be) he _ _ b.g (b.own 1) (b.jk 1) b.f.1) ?_;rintro _ _ _ u16 ⟨S,rfl,d2⟩;replace b:=(b.stepM 1 u16 d2).to [⟨z,45,ax ⟨0,0,false,none,0,0,none,0,0,⟨#[]⟩,none,0,0⟩⟩,⟨rb,64,[.string s,nV s.size,nV be]⟩] [];replace d:=d.trans u16;refine fr 5 45 (ax ⟨0,0,false,none,0,0,none,0,0,⟨#[]⟩,none,0,0⟩) b (fun Zi _ _ u20 I b=>?_);replace I:=ed d.gr.size I;replace d:=d.trans (u20.m _);refine ce 0 0 (ax S) b (fun _ y b=>?_);replace d:=d.put2 y I g b.g;refine aE (lL b ac (bn 28 (gd rb s C be 41 _ _ b.g (b.own 2) (b.jk 2) b.f.1) ?_));rintro _ _ _ u25 ⟨rfl,dk⟩;replace b:=(b.stepM 2 u25 dk).to [⟨Zi,45,ax S⟩,⟨z,45,ax ⟨0,0,false,none,0,0,none,0,0,⟨#[]⟩,none,0,0⟩⟩,⟨rb,64,[.string s,nV s.size,nV be]⟩] [];replace d:=d.trans u25;refine aE (lL b [.o (aY S) 0 0 7] (ce 1 0 (ax S) b (fun _ y b=>?_)));replace d:=d.put2 y p g b.g;exact lN (kX (b.retM d [(1,0,7)] (aY S) ((by rw[hre];exact ⟨_,rfl,b.own 2⟩))))
  refine bn 26 (ihs n (nR _) rb s C (l+1) oM (.ok t1 y1) hq1 _ _ b.g (b.own 1) (b.jk 1) b.f.1) ?_;rintro _ _ _ u30 ⟨B,rfl,h9,ds,d1⟩;replace b:=(b.stepM 1 u30 ds).to [⟨z,45,ax ⟨0,0,false,none,0,0,none,0,0,⟨#[]⟩,none,0,0⟩⟩,⟨rb,64,[.string s,nV y1,iV (-1)]⟩] [];replace d:=d.trans u30;replace b:=(b.add (K:=fun u=>RtH u B t1) d1);refine fr 5 45 (ax ⟨0,0,false,none,0,0,none,0,0,⟨#[]⟩,none,0,0⟩) b (fun yQ _ _ u34 H b=>?_);replace H:=ed d.gr.size H;replace d:=d.trans (u34.m _);refine ce 0 0 (ax B) b (fun _ y b=>?_);replace d:=d.put2 y H g b.g;refine aE (lL b ac ?_);have hw:=bD (s:=s) (a:=y1) oM;refine bn 28 (pp rb s C y1 oM 41 kD _ _ b.g (b.own 2) (b.jk 2) b.f.2.1) ?_;rintro _ _ _ u39 (⟨rfl,X,h8,Z⟩|⟨rfl,X,Z⟩)
  .
   replace b:=(b.stepM 2 u39 Z).to [⟨yQ,45,ax B⟩,⟨z,45,ax ⟨0,0,false,none,0,0,none,0,0,⟨#[]⟩,none,0,0⟩⟩,⟨rb,64,[.string s,nV (sk s y1+1),iV (-1)]⟩] [];replace d:=d.trans u39;have hre:=ER hr1 X;refine aE (lL b [.o (aY B) 0 0 7] (ce 1 0 (ax B) b (fun _ y b=>?_)));replace d:=d.put2 y p g b.g;exact lN (kX (b.retM d [(1,0,7)] (aY B) ((by rw[hre];exact ⟨_,rfl,by omega,b.own 2,b.f.1⟩))))
  replace b:=(b.stepM 2 u39 Z).to [⟨yQ,45,ax B⟩,⟨z,45,ax ⟨0,0,false,none,0,0,none,0,0,⟨#[]⟩,none,0,0⟩⟩,⟨rb,64,[.string s,nV s.size,nV (sk s y1)]⟩] [];replace d:=d.trans u39;have hre:=Fh hr1 X;refine aE (lL b [.o (aY B) 0 0 7] (ce 1 0 (ax B) b (fun _ y b=>?_)));replace d:=d.put2 y p g b.g;exact lN (kX (b.retM d [(1,0,7)] (aY B) ((by rw[hre];exact ⟨_,rfl,b.own 2⟩))))
 replace b:=(b.stepM 1 u12 bt).to [⟨z,45,ax ⟨0,0,false,none,0,0,none,0,0,⟨#[]⟩,none,0,0⟩⟩,⟨rb,64,[.string s,nV l,iV (-1)]⟩] [];replace d:=d.trans u12;have f3:=bw;refine lL b ac (ah (aa b ac ?_));cases zI:(((aj s l:Nat):Int) == (91:Int))
 .
  have yr:=ao zI;refine lB 32 zI (lL b ac (ah (aa b ac (ec 121 (gj ((aj s l)) (bh _ _) _ _ b.g) ?_))));rintro _ _ yR u45 rfl;replace d:=d.trans (u45.m _);replace b:=b.step u45;cases ye:(decide (48<=(aj s l)/\(aj s l)<=57))
  .
   have ys:=oF ye;refine lL b aF ?_;cases zJ:(((aj s l:Nat):Int) == (46:Int))
   .
    have yt:=ao zJ;refine lB 124 zJ (lL b [.v qF,.c] (ah (aa b ac (ec 190 (i9 ((aj s l)) (bh _ _) _ _ b.g) ?_))));rintro _ _ _ u50 rfl;replace d:=d.trans (u50.m _);replace b:=b.step u50;cases yf:(decide (dL ((aj s l))))
    .
     have yu:=oF yf;refine lL b ac (ah (cK (aa b aF (bn 196 (fd rb s C l oM l _ _ b.g (b.own 1) (b.jk 1) b.f.1) ?_))));rintro _ _ _ u56 ⟨rfl,fm⟩;replace b:=(b.stepM 1 u56 fm).to [⟨z,45,ax ⟨0,0,false,none,0,0,none,0,0,⟨#[]⟩,none,0,0⟩⟩,⟨rb,64,[.string s,nV s.size,nV l]⟩] [];replace d:=d.trans u56;refine ce 0 0 (ax (⟨0,0,false,none,0,0,none,0,0,⟨#[]⟩,none,0,0⟩:RTm)) b (fun _ y b=>?_);replace d:=d.put2 y p g b.g;exact lN (kX (b.retM d [(0,0,7)] (aY (⟨0,0,false,none,0,0,none,0,0,⟨#[]⟩,none,0,0⟩:RTm)) ((by rw[EH O (decide_eq_false oM) aM oM f3];exact ⟨_,rfl,b.own 1⟩))))
    have yu:=oT yf;refine lL b ac (ak (aa b aF ?_));have hN_:=BT O aM
    rcases pU r with ⟨be,rfl⟩|⟨t1,y1,rfl⟩
    .
     refine bn 193 (xS n ihs rb s C l oM (.err be) hN_ _ _ b.g (b.own 1) (b.jk 1) b.f.1) ?_;rintro _ _ _ u61 ⟨c8,rfl,fn⟩;replace b:=(b.stepM 1 u61 fn).to [⟨z,45,ax ⟨0,0,false,none,0,0,none,0,0,⟨#[]⟩,none,0,0⟩⟩,⟨rb,64,[.string s,nV s.size,nV be]⟩] [];replace d:=d.trans u61;refine ce 0 0 (ax c8) b (fun _ y b=>?_);replace d:=d.put2 y p g b.g;exact lN (kX (b.retM d [(0,0,7)] (aY c8) (⟨_,rfl,b.own 1⟩)))
    refine bn 193 (xS n ihs rb s C l oM (.ok t1 y1) hN_ _ _ b.g (b.own 1) (b.jk 1) b.f.1) ?_;rintro _ _ _ u66 ⟨b0,rfl,kq,dn,d0⟩;replace b:=(b.stepM 1 u66 dn).to [⟨z,45,ax ⟨0,0,false,none,0,0,none,0,0,⟨#[]⟩,none,0,0⟩⟩,⟨rb,64,[.string s,nV y1,iV (-1)]⟩] [];replace d:=d.trans u66;replace b:=(b.add (K:=fun u=>RtH u b0 t1) d0);refine ce 0 0 (ax b0) b (fun _ y b=>?_);replace d:=d.put2 y p g b.g;exact lN (kX (b.retM d [(0,0,7)] (aY b0) (⟨_,rfl,by omega,b.own 1,b.f.1⟩)))
   have yt:=eq_of_beq zJ;refine lB 124 zJ (lL b [.v qT,.c] (ak (cQ (kZ ?_))));refine bG _ (CG.loop (fun μ_ Γ Q=>∃ (k:Nat)(u:Hp),μ_=s.size-k/\Γ=[(0,pB rb),(2,pB z),(4,nV l)]/\SS wz L Q u [⟨z,45,ax ⟨0,0,false,none,0,0,none,0,0,⟨#[]⟩,none,0,0⟩⟩,⟨rb,64,[.string s,nV k,iV (-1)]⟩] [] [fun u=>Tab u]/\l<=k/\k<=s.size/\UpM [rb] w h Q u/\(∀ i,l<=i->i<k->cH (aj s i)=true)) _ ⟨l,yR,rfl,rfl,b.to _ _,nR _,oM,d,(fun i h1 h2=>absurd h1 oM)⟩ ?_);rintro _ _ _ ⟨k,_,k5,rfl,b,hk1,hk2,d,U⟩;refine cQ (CG.join (fun Γ Q=>∃ (za:Bool)(u:Hp),Γ=[(0,pB rb),(2,pB z),(4,nV l),(159,.bool za)]/\SS wz L Q u [⟨z,45,ax ⟨0,0,false,none,0,0,none,0,0,⟨#[]⟩,none,0,0⟩⟩,⟨rb,64,[.string s,nV k,iV (-1)]⟩] [] [fun u=>Tab u]/\(za=true->cH (aj s k)=true/\k<s.size)/\(za=false->k=s.size\/cH (aj s k)=false)/\UpM [rb] w h Q u) ?_ ?_)
   .
    refine cR 34 [] mixed b aw (eV 0 126 (pB rb) (eV 1 127 (pB rb) (eV 2 128 (qP rb 1) (eO 3 129 [(1,1,1)] (nV k) b (eV 4 130 (pB rb) (eV 5 131 (pB rb) (eV 6 132 (pB rb) (eO 7 133 [(1,0,1)] (.string s) b (eV 8 134 (nV s.size) ?_)))))))));cases zK:(decide ((k:Int)<(s.size:Int)))
    .
     have yv:=oF zK;refine eB 9 135 zK (eV 10 136 qF (eG 11 137 (eG 12 138 (eG 13 139 (eG 14 140 (eG 15 141 (eG 16 142 (eG 17 143 (eG 18 144 (eG 19 145 (eG 20 146 (eG 21 147 (eG 22 148 (eG 23 149 (eG 24 150 (eG 25 151 (eG 26 152 (eG 27 153 (eG 28 154 (eG 29 155 (eG 30 156 (eG 31 157 (eG 32 158 (eV 33 159 qF (bL b (fun _ Zj u74 b=>?_))))))))))))))))))))))))));replace d:=d.trans (u74.m _);refine tD ?_;intro a_ D;exact ⟨_,⟨false,Zj,rfl,b.to _ _,(fun u=>absurd u kD),(fun _=>by first|exact .inl oM|exact .inr (decide_eq_false oM)),d⟩,D.to _ kR⟩
    have yv:=oT zK;refine eB 9 135 zK (eV 10 136 qT (eV 11 137 (pB rb) (eV 12 138 (pB rb) (eV 13 139 (pB rb) (eO 14 140 [(1,0,1)] (.string s) b (eV 15 141 (pB rb) (eV 16 142 (pB rb) (eV 17 143 (qP rb 1) (eO 18 144 [(1,1,1)] (nV k) b (eV 19 145 (.int .u8 (aj s k:Nat)) ?_ (hv:=fun _=>aR (tx:=9) (x:=.tmp 140) (i:=.tmp 144) (k:=.i64) (s:=s) (n:=k) (j:=(k:Int)) kR kR kR kR oM oM _)))))))))));refine io 20 146 b d (fun _ _ b=>gj ((aj s k)) (bh _ _) _ _ b.g) ?_;rintro _ _ _ _ _ d b rfl;cases yg:(decide (48<=(aj s k)/\(aj s k)<=57))
    .
     have yw:=oF yg;refine eV 21 147 qF (eV 22 148 (pB rb) (eV 23 149 (pB rb) (eV 24 150 (pB rb) (eO 25 151 [(1,0,1)] (.string s) b (eV 26 152 (pB rb) (eV 27 153 (pB rb) (eV 28 154 (qP rb 1) (eO 29 155 [(1,1,1)] (nV k) b (eV 30 156 (.int .u8 (aj s k:Nat)) ?_ (hv:=fun _=>aR (tx:=9) (x:=.tmp 151) (i:=.tmp 155) (k:=.i64) (s:=s) (n:=k) (j:=(k:Int)) kR kR kR kR oM oM _))))))))));cases zL:(((aj s k:Nat):Int) == (46:Int))
     .
      have yx:=ao zL;refine eB 31 157 zL (eV 32 158 qF (eV 33 159 qF (bL b (fun _ Zk u84 b=>?_))));replace d:=d.trans (u84.m _);refine tD ?_;intro a_ D;exact ⟨_,⟨false,Zk,rfl,b.to _ _,(fun u=>absurd u kD),(fun _=>by first|exact .inl oM|exact .inr (decide_eq_false oM)),d⟩,D.to _ kR⟩
     have yx:=eq_of_beq zL;refine eB 31 157 zL (eV 32 158 qT (eV 33 159 qT (bL b (fun _ Zl u90 b=>?_))));replace d:=d.trans (u90.m _);refine tD ?_;intro a_ D;exact ⟨_,⟨true,Zl,rfl,b.to _ _,(fun _=>⟨decide_eq_true oM,by omega⟩),(fun u=>absurd u kD),d⟩,D.to _ kR⟩
    have yw:=oT yg;refine eV 21 147 qT (eG 22 148 (eG 23 149 (eG 24 150 (eG 25 151 (eG 26 152 (eG 27 153 (eG 28 154 (eG 29 155 (eG 30 156 (eG 31 157 (eV 32 158 qT (eV 33 159 qT (bL b (fun _ Zm u96 b=>?_))))))))))))));replace d:=d.trans (u96.m _);refine tD ?_;intro a_ D;exact ⟨_,⟨true,Zm,rfl,b.to _ _,(fun _=>⟨decide_eq_true oM,by omega⟩),(fun u=>absurd u kD),d⟩,D.to _ kR⟩
   rintro _ _ ⟨za,yS,rfl,b,zf,bb,d⟩;cases zg:(za)
   .
    try rw[zg] at b
    try rw[zg]
    refine cV (CG.exit ?_)
    show CG _ _ _ _ _ _ _ _
    refine cQ ?_;have J:rn cH s l=k:=dX hk1 hk2 U (bb aM);have M:=b;have F:=d.gr.size;refine cR 15 [⟨14,8,.cells (JY [qF,sZ,sZ]) 42 (0,0)⟩] mixed b (dZ (kW kR (fun _ _=>by kernel_rfl)) aw) (eV 0 168 (pB rb) (eV 1 169 (pB rb) (eV 2 170 (pB rb) (eO 3 171 [(1,0,1)] (.string s) b (eV 4 172 (nV l) (eV 5 173 (pB rb) (eV 6 174 (pB rb) (eV 7 175 (qP rb 1) (eO 8 176 [(1,1,1)] (nV k) b (eV 9 177 (.string (s.extract l k)) ?_ (hv:=fun _=>fj (tx:=9) (x:=.tmp 171) (i:=.tmp 172) (e:=.tmp 176) (k:=.i64) (k2:=.i64) (s:=s) (n:=l) (m:=k) (j:=(l:Int)) (j2:=(k:Int)) kR kR kR kR kR oM oM oM oM _)))))))))))
    rcases hz:cF (s.extract l k) with _|q
    .
     refine io 10 178 b d (fun _ _ b=>n8 (s.extract l k) (by rw[ByteArray.size_extract];omega) hz _ _ b.g) ?_;rintro _ _ _ _ _ d b ⟨_,rfl,zM,zN,zP,zQ,rfl,hx,hy,yA,yB⟩;replace b:=b.aP yA yB;refine eV 11 167 (.tuple #[rG (0:Rat) zM zN zP zQ,qF]) (eV 12 179 (rG (0:Rat) zM zN zP zQ) (eV 13 180 qF (mg [] M b d F 42 [qF,sZ,sZ] (fun _ _ yT d bq b=>km 15 0 0 (gF (0:Rat) zM zN zP zQ) b (fun _ y b=>?_)))));replace d:=d.put2 y bq g b.g;refine tV 16 9 qF (tN (cQ (aa b [.c,.v qT] (ak (aa b aF (bn 185 (fd rb s C k oM l _ _ b.g (b.own 2) (b.jk 2) b.f.r.1) ?_))))));rintro _ _ _ dc ⟨rfl,b3⟩;replace b:=(b.stepM 2 dc b3).to [⟨yT,42,gF (0:Rat) zM zN zP zQ⟩,⟨z,45,ax ⟨0,0,false,none,0,0,none,0,0,⟨#[]⟩,none,0,0⟩⟩,⟨rb,64,[.string s,nV s.size,nV l]⟩] [];replace d:=d.trans dc;refine ce 1 0 (ax (⟨0,0,false,none,0,0,none,0,0,⟨#[]⟩,none,0,0⟩:RTm)) b (fun _ y b=>?_);replace d:=d.put2 y p g b.g;exact lN (kX (b.retM d [(1,0,7)] (aY (⟨0,0,false,none,0,0,none,0,0,⟨#[]⟩,none,0,0⟩:RTm)) ((by rw[pm J O (decide_eq_true oM) hz];exact ⟨_,rfl,b.own 2⟩))))
    have hzl:=n7 hz;refine io 10 178 b d (fun _ _ b=>np (s.extract l k) q (by rw[ByteArray.size_extract];omega) hz _ _ b.g) ?_;rintro _ _ _ _ _ d b ⟨_,rfl,zr,zs,zt,zu,rfl,yC,yD,yE,yF⟩;replace b:=b.aP yE yF;refine eV 11 167 (.tuple #[rG q zr zs zt zu,qT]) (eV 12 179 (rG q zr zs zt zu) (eV 13 180 qT (mg [] M b d F 42 [qF,sZ,sZ] (fun _ _ k1 d bl b=>km 15 0 0 (gF q zr zs zt zu) b (fun _ y b=>?_)))));replace d:=d.put2 y bl g b.g;refine tV 16 9 qT (tN (cQ (aa b [.c,.v qF] (ah (cK (aa b [.o (rG q zr zs zt zu) 0 0 3] (ec 187 (Dw q zr zs yC zt zu yD _ _ b.g b.f.2.1 b.f.1) ?_)))))));rintro _ _ _ cy ⟨V,rfl,cm⟩;replace d:=d.trans (cy.m _);replace b:=b.step cy;replace b:=(b.add (K:=fun u=>RtH u V (dm q)) cm);refine ce 1 0 (ax V) b (fun _ y b=>?_);replace d:=d.put2 y p g b.g;exact lN (kX (b.retM d [(1,0,7)] (aY V) ((by rw[o9 J O (decide_eq_true oM) hz];exact ⟨_,rfl,by omega,b.own 2,b.f.1⟩))))
   try rw[zg] at b
   try rw[zg]
   refine ci (cK (kZ (kQ (lL b [.c,.v (pB rb),.v (qP rb 1),.o (nV k) 1 1 1] (bg 164 ((k:Nat)+1) (k+1) ?_)))));refine lL b [.v (pB rb),.v (qP rb 1)] (ce 1 1 ([nV (k+1)]) b (fun _ y b=>?_));replace d:=d.put y (o0.2 rfl) b.g;refine lD ?_;have cr:=(zf aM).2;intro a_ D;refine ⟨_,_,?_,⟨k+1,yS,rfl,rfl,b.to _ _,oM,oM,d,(fun i h1 h2=>by rcases Kf.1 h2 with u|rfl;exact U i h1 u;exact (zf aM).1)⟩,D.to _ kR⟩
   omega
  have ys:=oT ye;refine lL b ac (lG 123 ?_);refine lG 124 (lL b [.v qT,.c] (ak (cQ (kZ ?_))));refine bG _ (CG.loop (fun μ_ Γ Q=>∃ (k:Nat)(u:Hp),μ_=s.size-k/\Γ=[(0,pB rb),(2,pB z),(4,nV l)]/\SS wz L Q u [⟨z,45,ax ⟨0,0,false,none,0,0,none,0,0,⟨#[]⟩,none,0,0⟩⟩,⟨rb,64,[.string s,nV k,iV (-1)]⟩] [] [fun u=>Tab u]/\l<=k/\k<=s.size/\UpM [rb] w h Q u/\(∀ i,l<=i->i<k->cH (aj s i)=true)) _ ⟨l,yR,rfl,rfl,b.to _ _,nR _,oM,d,(fun i h1 h2=>absurd h1 oM)⟩ ?_);rintro _ _ _ ⟨k,_,j8,rfl,b,hk1,hk2,d,U⟩;refine cQ (CG.join (fun Γ Q=>∃ (za:Bool)(u:Hp),Γ=[(0,pB rb),(2,pB z),(4,nV l),(159,.bool za)]/\SS wz L Q u [⟨z,45,ax ⟨0,0,false,none,0,0,none,0,0,⟨#[]⟩,none,0,0⟩⟩,⟨rb,64,[.string s,nV k,iV (-1)]⟩] [] [fun u=>Tab u]/\(za=true->cH (aj s k)=true/\k<s.size)/\(za=false->k=s.size\/cH (aj s k)=false)/\UpM [rb] w h Q u) ?_ ?_)
  .
   refine cR 34 [] mixed b aw (eV 0 126 (pB rb) (eV 1 127 (pB rb) (eV 2 128 (qP rb 1) (eO 3 129 [(1,1,1)] (nV k) b (eV 4 130 (pB rb) (eV 5 131 (pB rb) (eV 6 132 (pB rb) (eO 7 133 [(1,0,1)] (.string s) b (eV 8 134 (nV s.size) ?_)))))))));cases zi:(decide ((k:Int)<(s.size:Int)))
   .
    have yi:=oF zi;refine eB 9 135 zi (eV 10 136 qF (eG 11 137 (eG 12 138 (eG 13 139 (eG 14 140 (eG 15 141 (eG 16 142 (eG 17 143 (eG 18 144 (eG 19 145 (eG 20 146 (eG 21 147 (eG 22 148 (eG 23 149 (eG 24 150 (eG 25 151 (eG 26 152 (eG 27 153 (eG 28 154 (eG 29 155 (eG 30 156 (eG 31 157 (eG 32 158 (eV 33 159 qF (bL b (fun _ yU ht b=>?_))))))))))))))))))))))))));replace d:=d.trans (ht.m _);refine tD ?_;intro a_ D;exact ⟨_,⟨false,yU,rfl,b.to _ _,(fun u=>absurd u kD),(fun _=>by first|exact .inl oM|exact .inr (decide_eq_false oM)),d⟩,D.to _ kR⟩
   have yi:=oT zi;refine eB 9 135 zi (eV 10 136 qT (eV 11 137 (pB rb) (eV 12 138 (pB rb) (eV 13 139 (pB rb) (eO 14 140 [(1,0,1)] (.string s) b (eV 15 141 (pB rb) (eV 16 142 (pB rb) (eV 17 143 (qP rb 1) (eO 18 144 [(1,1,1)] (nV k) b (eV 19 145 (.int .u8 (aj s k:Nat)) ?_ (hv:=fun _=>aR (tx:=9) (x:=.tmp 140) (i:=.tmp 144) (k:=.i64) (s:=s) (n:=k) (j:=(k:Int)) kR kR kR kR oM oM _)))))))))));refine io 20 146 b d (fun _ _ b=>gj ((aj s k)) (bh _ _) _ _ b.g) ?_;rintro _ _ _ _ _ d b rfl;cases yb:(decide (48<=(aj s k)/\(aj s k)<=57))
   .
    have yj:=oF yb;refine eV 21 147 qF (eV 22 148 (pB rb) (eV 23 149 (pB rb) (eV 24 150 (pB rb) (eO 25 151 [(1,0,1)] (.string s) b (eV 26 152 (pB rb) (eV 27 153 (pB rb) (eV 28 154 (qP rb 1) (eO 29 155 [(1,1,1)] (nV k) b (eV 30 156 (.int .u8 (aj s k:Nat)) ?_ (hv:=fun _=>aR (tx:=9) (x:=.tmp 151) (i:=.tmp 155) (k:=.i64) (s:=s) (n:=k) (j:=(k:Int)) kR kR kR kR oM oM _))))))))));cases zj:(((aj s k:Nat):Int) == (46:Int))
    .
     have yk:=ao zj;refine eB 31 157 zj (eV 32 158 qF (eV 33 159 qF (bL b (fun _ yV f1 b=>?_))));replace d:=d.trans (f1.m _);refine tD ?_;intro a_ D;exact ⟨_,⟨false,yV,rfl,b.to _ _,(fun u=>absurd u kD),(fun _=>by first|exact .inl oM|exact .inr (decide_eq_false oM)),d⟩,D.to _ kR⟩
    have yk:=eq_of_beq zj;refine eB 31 157 zj (eV 32 158 qT (eV 33 159 qT (bL b (fun _ yW hn b=>?_))));replace d:=d.trans (hn.m _);refine tD ?_;intro a_ D;exact ⟨_,⟨true,yW,rfl,b.to _ _,(fun _=>⟨decide_eq_true oM,by omega⟩),(fun u=>absurd u kD),d⟩,D.to _ kR⟩
   have yj:=oT yb;refine eV 21 147 qT (eG 22 148 (eG 23 149 (eG 24 150 (eG 25 151 (eG 26 152 (eG 27 153 (eG 28 154 (eG 29 155 (eG 30 156 (eG 31 157 (eV 32 158 qT (eV 33 159 qT (bL b (fun _ yX fp b=>?_))))))))))))));replace d:=d.trans (fp.m _);refine tD ?_;intro a_ D;exact ⟨_,⟨true,yX,rfl,b.to _ _,(fun _=>⟨decide_eq_true oM,by omega⟩),(fun u=>absurd u kD),d⟩,D.to _ kR⟩
  rintro _ _ ⟨za,Za,rfl,b,zf,bb,d⟩;cases zk:(za)
  .
   try rw[zk] at b
   try rw[zk]
   refine cV (CG.exit ?_)
   show CG _ _ _ _ _ _ _ _
   refine cQ ?_;have J:rn cH s l=k:=dX hk1 hk2 U (bb aM);have M:=b;have F:=d.gr.size;refine cR 15 [⟨14,8,.cells (JY [qF,sZ,sZ]) 42 (0,0)⟩] mixed b (dZ (kW kR (fun _ _=>by kernel_rfl)) aw) (eV 0 168 (pB rb) (eV 1 169 (pB rb) (eV 2 170 (pB rb) (eO 3 171 [(1,0,1)] (.string s) b (eV 4 172 (nV l) (eV 5 173 (pB rb) (eV 6 174 (pB rb) (eV 7 175 (qP rb 1) (eO 8 176 [(1,1,1)] (nV k) b (eV 9 177 (.string (s.extract l k)) ?_ (hv:=fun _=>fj (tx:=9) (x:=.tmp 171) (i:=.tmp 172) (e:=.tmp 176) (k:=.i64) (k2:=.i64) (s:=s) (n:=l) (m:=k) (j:=(l:Int)) (j2:=(k:Int)) kR kR kR kR kR oM oM oM oM _)))))))))))
   rcases hz:cF (s.extract l k) with _|q
   .
    refine io 10 178 b d (fun _ _ b=>n8 (s.extract l k) (by rw[ByteArray.size_extract];omega) hz _ _ b.g) ?_;rintro _ _ _ _ _ d b ⟨_,rfl,zR,zS,zU,zW,rfl,kt,j1,yG,yH⟩;replace b:=b.aP yG yH;refine eV 11 167 (.tuple #[rG (0:Rat) zR zS zU zW,qF]) (eV 12 179 (rG (0:Rat) zR zS zU zW) (eV 13 180 qF (mg [] M b d F 42 [qF,sZ,sZ] (fun _ _ Zb d br b=>km 15 0 0 (gF (0:Rat) zR zS zU zW) b (fun _ y b=>?_)))));replace d:=d.put2 y br g b.g;refine tV 16 9 qF (tN (cQ (aa b [.c,.v qT] (ak (aa b aF (bn 185 (fd rb s C k oM l _ _ b.g (b.own 2) (b.jk 2) b.f.r.1) ?_))))));rintro _ _ _ c5 ⟨rfl,b4⟩;replace b:=(b.stepM 2 c5 b4).to [⟨Zb,42,gF (0:Rat) zR zS zU zW⟩,⟨z,45,ax ⟨0,0,false,none,0,0,none,0,0,⟨#[]⟩,none,0,0⟩⟩,⟨rb,64,[.string s,nV s.size,nV l]⟩] [];replace d:=d.trans c5;refine ce 1 0 (ax (⟨0,0,false,none,0,0,none,0,0,⟨#[]⟩,none,0,0⟩:RTm)) b (fun _ y b=>?_);replace d:=d.put2 y p g b.g;exact lN (kX (b.retM d [(1,0,7)] (aY (⟨0,0,false,none,0,0,none,0,0,⟨#[]⟩,none,0,0⟩:RTm)) ((by rw[pm J O (decide_eq_true oM) hz];exact ⟨_,rfl,b.own 2⟩))))
   have hzl:=n7 hz;refine io 10 178 b d (fun _ _ b=>np (s.extract l k) q (by rw[ByteArray.size_extract];omega) hz _ _ b.g) ?_;rintro _ _ _ _ _ d b ⟨_,rfl,zv,zw,zx,zA,rfl,yI,yJ,yK,yL⟩;replace b:=b.aP yK yL;refine eV 11 167 (.tuple #[rG q zv zw zx zA,qT]) (eV 12 179 (rG q zv zw zx zA) (eV 13 180 qT (mg [] M b d F 42 [qF,sZ,sZ] (fun _ _ k4 d bm b=>km 15 0 0 (gF q zv zw zx zA) b (fun _ y b=>?_)))));replace d:=d.put2 y bm g b.g;refine tV 16 9 qT (tN (cQ (aa b [.c,.v qF] (ah (cK (aa b [.o (rG q zv zw zx zA) 0 0 3] (ec 187 (Dw q zv zw yI zx zA yJ _ _ b.g b.f.2.1 b.f.1) ?_)))))));rintro _ _ _ cq ⟨Y,rfl,b5⟩;replace d:=d.trans (cq.m _);replace b:=b.step cq;replace b:=(b.add (K:=fun u=>RtH u Y (dm q)) b5);refine ce 1 0 (ax Y) b (fun _ y b=>?_);replace d:=d.put2 y p g b.g;exact lN (kX (b.retM d [(1,0,7)] (aY Y) ((by rw[o9 J O (decide_eq_true oM) hz];exact ⟨_,rfl,by omega,b.own 2,b.f.1⟩))))
  try rw[zk] at b
  try rw[zk]
  refine ci (cK (kZ (kQ (lL b [.c,.v (pB rb),.v (qP rb 1),.o (nV k) 1 1 1] (bg 164 ((k:Nat)+1) (k+1) ?_)))));refine lL b [.v (pB rb),.v (qP rb 1)] (ce 1 1 ([nV (k+1)]) b (fun _ y b=>?_));replace d:=d.put y (o0.2 rfl) b.g;refine lD ?_;have cr:=(zf aM).2;intro a_ D;refine ⟨_,_,?_,⟨k+1,Za,rfl,rfl,b.to _ _,oM,oM,d,(fun i h1 h2=>by rcases Kf.1 h2 with u|rfl;exact U i h1 u;exact (zf aM).1)⟩,D.to _ kR⟩
  omega
 have yr:=eq_of_beq zI;refine lB 32 zI (lL b ac (ak (cQ (kZ ?_))));refine bG _ (CG.loop (fun μ_ Γ Q=>∃ (k:Nat)(u:Hp),μ_=s.size-k/\Γ=[(0,pB rb),(2,pB z),(4,nV l)]/\SS wz L Q u [⟨z,45,ax ⟨0,0,false,none,0,0,none,0,0,⟨#[]⟩,none,0,0⟩⟩,⟨rb,64,[.string s,nV k,iV (-1)]⟩] [] [fun u=>Tab u]/\l<=k/\k<=s.size/\UpM [rb] w h Q u/\(∀ i,l<=i->i<k->cg (aj s i)=true)) _ ⟨l,Zg,rfl,rfl,b.to _ _,nR _,oM,d,(fun i h1 h2=>absurd h1 oM)⟩ ?_);rintro _ _ _ ⟨k,_,h6,rfl,b,hk1,hk2,d,U⟩;refine cQ (CG.join (fun Γ Q=>∃ (ya:Bool)(u:Hp),Γ=[(0,pB rb),(2,pB z),(4,nV l),(54,.bool ya)]/\SS wz L Q u [⟨z,45,ax ⟨0,0,false,none,0,0,none,0,0,⟨#[]⟩,none,0,0⟩⟩,⟨rb,64,[.string s,nV k,iV (-1)]⟩] [] [fun u=>Tab u]/\(ya=true->cg (aj s k)=true/\k<s.size)/\(ya=false->k=s.size\/cg (aj s k)=false)/\UpM [rb] w h Q u) ?_ ?_)
 .
  refine cR 22 [] mixed b aw (eV 0 33 (pB rb) (eV 1 34 (pB rb) (eV 2 35 (qP rb 1) (eO 3 36 [(1,1,1)] (nV k) b (eV 4 37 (pB rb) (eV 5 38 (pB rb) (eV 6 39 (pB rb) (eO 7 40 [(1,0,1)] (.string s) b (eV 8 41 (nV s.size) ?_)))))))));cases zl:(decide ((k:Int)<(s.size:Int)))
  .
   have yl:=oF zl;refine eB 9 42 zl (eV 10 43 qF (eG 11 44 (eG 12 45 (eG 13 46 (eG 14 47 (eG 15 48 (eG 16 49 (eG 17 50 (eG 18 51 (eG 19 52 (eG 20 53 (eV 21 54 qF (bL b (fun _ Zc hm b=>?_))))))))))))));replace d:=d.trans (hm.m _);refine tD ?_;intro a_ D;exact ⟨_,⟨false,Zc,rfl,b.to _ _,(fun u=>absurd u kD),(fun _=>by first|exact .inl oM|exact .inr (decide_eq_false oM)),d⟩,D.to _ kR⟩
  have yl:=oT zl;refine eB 9 42 zl (eV 10 43 qT (eV 11 44 (pB rb) (eV 12 45 (pB rb) (eV 13 46 (pB rb) (eO 14 47 [(1,0,1)] (.string s) b (eV 15 48 (pB rb) (eV 16 49 (pB rb) (eV 17 50 (qP rb 1) (eO 18 51 [(1,1,1)] (nV k) b (eV 19 52 (.int .u8 (aj s k:Nat)) ?_ (hv:=fun _=>aR (tx:=9) (x:=.tmp 47) (i:=.tmp 51) (k:=.i64) (s:=s) (n:=k) (j:=(k:Int)) kR kR kR kR oM oM _)))))))))));cases zm:(((aj s k:Nat):Int) != (93:Int))
  .
   have ym:=az zm;refine eB 20 53 zm (eV 21 54 qF (bL b (fun _ Zd hh b=>?_)));replace d:=d.trans (hh.m _);refine tD ?_;intro a_ D;exact ⟨_,⟨false,Zd,rfl,b.to _ _,(fun u=>absurd u kD),(fun _=>by first|exact .inl oM|exact .inr (decide_eq_false oM)),d⟩,D.to _ kR⟩
  have ym:=a7 zm;refine eB 20 53 zm (eV 21 54 qT (bL b (fun _ Ze hb b=>?_)));replace d:=d.trans (hb.m _);refine tD ?_;intro a_ D;exact ⟨_,⟨true,Ze,rfl,b.to _ _,(fun _=>⟨decide_eq_true oM,by omega⟩),(fun u=>absurd u kD),d⟩,D.to _ kR⟩
 rintro _ _ ⟨ya,Zf,rfl,b,yn,c6,d⟩;cases zn:(ya)
 .
  try rw[zn] at b
  try rw[zn]
  refine cV (CG.exit ?_)
  show CG _ _ _ _ _ _ _ _
  refine cQ ?_;have lq:=cp (s:=s) (a:=l) oM
  have hkp:l+1<=k:=by
    rcases Nat.eq_or_lt_of_le hk1 with u|u
    ·subst u;rcases c6 aM with u|u;omega;have:=oF u;omega
    ·exact u
  have J:rn cg s (l+1)=k:=dX hkp hk2 (fun i h1 h2=>U i oM h2) (c6 aM);have M:=b;have F:=d.gr.size;refine cR 16 [⟨15,6,.cells (JY [qF,sZ,sZ]) 42 (0,0)⟩] mixed b (dZ (kW kR (fun _ _=>by kernel_rfl)) aw) (eV 0 63 (pB rb) (eV 1 64 (pB rb) (eV 2 65 (pB rb) (eO 3 66 [(1,0,1)] (.string s) b (eV 4 67 (nV l) (iR 5 68 ((l:Nat)+1) (l+1) (eV 6 69 (pB rb) (eV 7 70 (pB rb) (eV 8 71 (qP rb 1) (eO 9 72 [(1,1,1)] (nV k) b (eV 10 73 (.string (s.extract (l+1) k)) ?_ (hv:=fun _=>fj (tx:=9) (x:=.tmp 66) (i:=.tmp 68) (e:=.tmp 72) (k:=.i64) (k2:=.i64) (s:=s) (n:=(l+1)) (m:=k) (j:=((l+1:Nat):Int)) (j2:=(k:Int)) kR kR kR kR kR oM oM oM oM _))))))))))))
  rcases hz:cF (s.extract (l+1) k) with _|q
  .
   refine io 11 74 b d (fun _ _ b=>n8 (s.extract (l+1) k) (by rw[ByteArray.size_extract];omega) hz _ _ b.g) ?_;rintro _ _ _ _ _ d b ⟨_,rfl,zB,zD,zE,zG,rfl,kx,h4,yM,yN⟩;replace b:=b.aP yM yN;refine eV 12 62 (.tuple #[rG (0:Rat) zB zD zE zG,qF]) (eV 13 75 (rG (0:Rat) zB zD zE zG) (eV 14 76 qF (mg [] M b d F 42 [qF,sZ,sZ] (fun _ _ zX d bk b=>km 16 0 0 (gF (0:Rat) zB zD zE zG) b (fun _ y b=>?_)))));replace d:=d.put2 y bk g b.g;refine tV 17 7 qF (tN (cQ (cQ (cR 30 [] mixed b aw ?_))));refine eV 0 77 (pB rb) (eV 1 78 (pB rb) (eV 2 79 (qP rb 1) (eO 3 80 [(2,1,1)] (nV k) b (eV 4 81 (pB rb) (eV 5 82 (pB rb) (eV 6 83 (pB rb) (eO 7 84 [(2,0,1)] (.string s) b (eV 8 85 (nV s.size) ?_))))))));cases zo:((k:Int) == (s.size:Int))
   .
    have yo:=ao zo;refine eB 9 86 zo (eV 10 87 qF (eV 11 88 qF (eV 12 89 qT (eV 13 90 qT (eV 14 91 qT (eG 15 92 (eG 16 93 (eG 17 94 (eG 18 95 (eG 19 96 (eG 20 97 (eG 21 98 (eG 22 99 (eG 23 100 (eG 24 101 (eG 25 102 (eG 26 103 (eG 27 104 (eG 28 105 (eV 29 106 qT (bL b (fun _ _ fz b=>?_))))))))))))))))))))));replace d:=d.trans (fz.m _);refine tN (bG [(0,pB rb),(2,pB z),(4,nV l),(6,pB zX),(106,qT)] ?_);refine ci (aa b aF (bn 109 (fd rb s C k oM l _ _ b.g (b.own 2) (b.jk 2) b.f.r.1) ?_));rintro _ _ _ c7 ⟨rfl,b2⟩;replace b:=(b.stepM 2 c7 b2).to [⟨zX,42,gF (0:Rat) zB zD zE zG⟩,⟨z,45,ax ⟨0,0,false,none,0,0,none,0,0,⟨#[]⟩,none,0,0⟩⟩,⟨rb,64,[.string s,nV s.size,nV l]⟩] [];replace d:=d.trans c7;refine ce 1 0 (ax (⟨0,0,false,none,0,0,none,0,0,⟨#[]⟩,none,0,0⟩:RTm)) b (fun _ y b=>?_);replace d:=d.put2 y p g b.g;exact lN (kX (b.retM d [(1,0,7)] (aY (⟨0,0,false,none,0,0,none,0,0,⟨#[]⟩,none,0,0⟩:RTm)) ((by rw[sE J O oM (uT hz)];exact ⟨_,rfl,b.own 2⟩))))
   have yo:=eq_of_beq zo;refine eB 9 86 zo (eV 10 87 qT (eG 11 88 (eG 12 89 (eV 13 90 qT (eV 14 91 qT (eG 15 92 (eG 16 93 (eG 17 94 (eG 18 95 (eG 19 96 (eG 20 97 (eG 21 98 (eG 22 99 (eG 23 100 (eG 24 101 (eG 25 102 (eG 26 103 (eG 27 104 (eG 28 105 (eV 29 106 qT (bL b (fun _ _ hp b=>?_))))))))))))))))))))));replace d:=d.trans (hp.m _);refine tN (bG [(0,pB rb),(2,pB z),(4,nV l),(6,pB zX),(106,qT)] ?_);refine ci (aa b aF (bn 109 (fd rb s C k oM l _ _ b.g (b.own 2) (b.jk 2) b.f.r.1) ?_));rintro _ _ _ df ⟨rfl,b7⟩;replace b:=(b.stepM 2 df b7).to [⟨zX,42,gF (0:Rat) zB zD zE zG⟩,⟨z,45,ax ⟨0,0,false,none,0,0,none,0,0,⟨#[]⟩,none,0,0⟩⟩,⟨rb,64,[.string s,nV s.size,nV l]⟩] [];replace d:=d.trans df;refine ce 1 0 (ax (⟨0,0,false,none,0,0,none,0,0,⟨#[]⟩,none,0,0⟩:RTm)) b (fun _ y b=>?_);replace d:=d.put2 y p g b.g;exact lN (kX (b.retM d [(1,0,7)] (aY (⟨0,0,false,none,0,0,none,0,0,⟨#[]⟩,none,0,0⟩:RTm)) ((by rw[sE J O oM (uT hz)];exact ⟨_,rfl,b.own 2⟩))))
  have hzl:=n7 hz;refine io 11 74 b d (fun _ _ b=>np (s.extract (l+1) k) q (by rw[ByteArray.size_extract];omega) hz _ _ b.g) ?_;rintro _ _ _ _ _ d b ⟨_,rfl,zb,zc,zd,ze,rfl,yc,yd,yO,yP⟩;replace b:=b.aP yO yP;refine eV 12 62 (.tuple #[rG q zb zc zd ze,qT]) (eV 13 75 (rG q zb zc zd ze) (eV 14 76 qT (mg [] M b d F 42 [qF,sZ,sZ] (fun _ _ zH d bd b=>km 16 0 0 (gF q zb zc zd ze) b (fun _ y b=>?_)))));replace d:=d.put2 y bd g b.g;refine tV 17 7 qT (tN (cQ (cQ (cR 30 [] mixed b aw ?_))));refine eV 0 77 (pB rb) (eV 1 78 (pB rb) (eV 2 79 (qP rb 1) (eO 3 80 [(2,1,1)] (nV k) b (eV 4 81 (pB rb) (eV 5 82 (pB rb) (eV 6 83 (pB rb) (eO 7 84 [(2,0,1)] (.string s) b (eV 8 85 (nV s.size) ?_))))))));cases zp:((k:Int) == (s.size:Int))
  .
   have yp:=ao zp;refine eB 9 86 zp (eV 10 87 qF (eV 11 88 qT (eV 12 89 qF (eV 13 90 qF (eV 14 91 qF (eO 15 92 [(0,0,3)] (rG q zb zc zd ze) b (eV 17 94 (pB rb) (eV 18 95 (pB rb) (eV 19 96 (pB rb) (eO 20 97 [(2,0,1)] (.string s) b (eV 21 98 (nV l) (iR 22 99 ((l:Nat)+1) (l+1) (eV 23 100 (pB rb) (eV 24 101 (pB rb) (eV 25 102 (qP rb 1) (eO 26 103 [(2,1,1)] (nV k) b (eV 27 104 (.string (s.extract (l+1) k)) ?_ (hv:=fun _=>fj (tx:=9) (x:=.tmp 97) (i:=.tmp 99) (e:=.tmp 103) (k:=.i64) (k2:=.i64) (s:=s) (n:=(l+1)) (m:=k) (j:=((l+1:Nat):Int)) (j2:=(k:Int)) kR kR kR kR kR oM oM oM oM _))))))))))))))))));refine io 16 93 b d (fun _ _ b=>Gg q zb zc yc zd ze yd (ed hzl.1 kD) (ed hzl.2 kD) (it hz).1 (it hz).2 _ _ b.g b.f.2.1 b.f.1) ?_;rintro _ _ _ _ _ d b rfl;cases zq:(j7 (ug q) (s.extract (l+1) k))
   .
    have yq:=ko zq;refine eB 28 105 zq (eV 29 106 qF (bL b (fun _ _ hk b=>?_)));replace d:=d.trans (hk.m _);refine tN (bG [(0,pB rb),(2,pB z),(4,nV l),(6,pB zH),(106,qF)] ?_);refine cV (cK (aa b [.c,.v (pB rb),.v (qP rb 1),.o (nV k) 2 1 1] (bg 114 ((k:Nat)+1) (k+1) ?_)));refine lL b [.v (pB rb),.v (qP rb 1)] (ce 2 1 ([nV (k+1)]) b (fun _ y b=>?_));replace d:=d.put y (o0.2 rfl) b.g;refine aE (lL b [.o (rG q zb zc zd ze) 0 0 3] (ec 118 (Dw q zb zc yc zd ze yd _ _ b.g b.f.2.1 b.f.1) ?_));rintro _ _ _ c4 ⟨W,rfl,ch⟩;replace d:=d.trans (c4.m _);replace b:=b.step c4;replace b:=(b.add (K:=fun u=>RtH u W (dm q)) ch);refine ce 1 0 (ax W) b (fun _ y b=>?_);replace d:=d.put2 y p g b.g;exact lN (kX (b.retM d [(1,0,7)] (aY W) ((by rw[BN J O oM oM (Gq hz aM)];exact ⟨_,rfl,by omega,b.own 2,b.f.1⟩))))
   have yq:=kG zq;refine eB 28 105 zq (eV 29 106 qT (bL b (fun _ _ hd b=>?_)));replace d:=d.trans (hd.m _);refine tN (bG [(0,pB rb),(2,pB z),(4,nV l),(6,pB zH),(106,qT)] ?_);refine ci (aa b aF (bn 109 (fd rb s C k oM l _ _ b.g (b.own 2) (b.jk 2) b.f.r.1) ?_));rintro _ _ _ cx ⟨rfl,b6⟩;replace b:=(b.stepM 2 cx b6).to [⟨zH,42,gF q zb zc zd ze⟩,⟨z,45,ax ⟨0,0,false,none,0,0,none,0,0,⟨#[]⟩,none,0,0⟩⟩,⟨rb,64,[.string s,nV s.size,nV l]⟩] [];replace d:=d.trans cx;refine ce 1 0 (ax (⟨0,0,false,none,0,0,none,0,0,⟨#[]⟩,none,0,0⟩:RTm)) b (fun _ y b=>?_);replace d:=d.put2 y p g b.g;exact lN (kX (b.retM d [(1,0,7)] (aY (⟨0,0,false,none,0,0,none,0,0,⟨#[]⟩,none,0,0⟩:RTm)) ((by rw[nI J O oM (by first|exact .inl oM|exact .inr (uD hz aM))];exact ⟨_,rfl,b.own 2⟩))))
  have yp:=eq_of_beq zp;refine eB 9 86 zp (eV 10 87 qT (eG 11 88 (eG 12 89 (eV 13 90 qT (eV 14 91 qT (eG 15 92 (eG 16 93 (eG 17 94 (eG 18 95 (eG 19 96 (eG 20 97 (eG 21 98 (eG 22 99 (eG 23 100 (eG 24 101 (eG 25 102 (eG 26 103 (eG 27 104 (eG 28 105 (eV 29 106 qT (bL b (fun _ _ hc b=>?_))))))))))))))))))))));replace d:=d.trans (hc.m _);refine tN (bG [(0,pB rb),(2,pB z),(4,nV l),(6,pB zH),(106,qT)] ?_);refine ci (aa b aF (bn 109 (fd rb s C k oM l _ _ b.g (b.own 2) (b.jk 2) b.f.r.1) ?_));rintro _ _ _ c3 ⟨rfl,b9⟩;replace b:=(b.stepM 2 c3 b9).to [⟨zH,42,gF q zb zc zd ze⟩,⟨z,45,ax ⟨0,0,false,none,0,0,none,0,0,⟨#[]⟩,none,0,0⟩⟩,⟨rb,64,[.string s,nV s.size,nV l]⟩] [];replace d:=d.trans c3;refine ce 1 0 (ax (⟨0,0,false,none,0,0,none,0,0,⟨#[]⟩,none,0,0⟩:RTm)) b (fun _ y b=>?_);replace d:=d.put2 y p g b.g;exact lN (kX (b.retM d [(1,0,7)] (aY (⟨0,0,false,none,0,0,none,0,0,⟨#[]⟩,none,0,0⟩:RTm)) ((by rw[nI J O oM (by first|exact .inl oM|exact .inr (uD hz aM))];exact ⟨_,rfl,b.own 2⟩))))
 try rw[zn] at b
 try rw[zn]
 refine ci (cK (kZ (kQ (lL b [.c,.v (pB rb),.v (qP rb 1),.o (nV k) 1 1 1] (bg 59 ((k:Nat)+1) (k+1) ?_)))));refine lL b [.v (pB rb),.v (qP rb 1)] (ce 1 1 ([nV (k+1)]) b (fun _ y b=>?_));replace d:=d.put y (o0.2 rfl) b.g;refine lD ?_;have cr:=(yn aM).2;intro a_ D;refine ⟨_,_,?_,⟨k+1,Zf,rfl,rfl,b.to _ _,oM,oM,d,(fun i h1 h2=>by rcases Kf.1 h2 with u|rfl;exact U i h1 u;exact (yn aM).1)⟩,D.to _ kR⟩
 omega
end
def gt (f:Nat->Nat):Nat->Nat
  | 0=>0
  | n+1=>max (gt f n) (f n)
def eU:Nat->Tm->Nat
  | 0,_=>0
  | d+1,t=>gt (fun i=>eU d (t.ks.getD i cc)) t.ks.length+1
theorem ku {f:Nat->Nat}{b:Nat}:∀ n,(∀ i,i<n->f i<=b)->gt f n<=b
 | 0,_=>JF _
 | n+1,h=>Nat.max_le.2 ⟨ku n (fun i hi=>h i oM),h n (Ky n)⟩
theorem oq:∀ (d:Nat) (t:Tm),eU d t<=d
 | 0,_=>eb _
 | d+1,t=>KD (ku _ (fun i _=>oq d _))
section
variable {nf bf:ByteArray->Option Rat}{s:ByteArray}(hnf:∀ x q,nf x=some q->LQ 3000 q)(hbf:∀ x q,bf x=some q->LQ 3000 q)
theorem x5:fJ ⟨#[]⟩:=by unfold fJ;decide
theorem Ei {x:ByteArray}(h:cD x=true):fJ x:=by
 have:=oT h
 unfold fJ;omega
theorem sK {d:Nat}{q:Rat}(h:LQ 3000 q):SmT fJ (d+1) (dm q):=⟨JF _,⟨by show (-1000:Int)<=1;decide,by show (1:Int)<=1000;decide⟩,⟨by show (-1000:Int)<=0;decide,by show (0:Int)<=1000;decide⟩,h,x5,fun i hi=>absurd hi (Ke i)⟩
theorem x8:LQ 3000 (0:Rat):=⟨by decide,by decide⟩
theorem AK {d:Nat}{x:ByteArray}(h:cD x=true):SmT fJ (d+1) (dE x):=⟨JF _,⟨by show (-1000:Int)<=2;decide,by show (2:Int)<=1000;decide⟩,⟨by show (-1000:Int)<=0;decide,by show (0:Int)<=1000;decide⟩,x8,Ei h,fun i hi=>absurd hi (Ke i)⟩
theorem og {d:Nat}{op m:Int}{t:Tm}(a : -1000<=op/\op<=1000)(b : -1000<=m/\m<=1000)(h:SmT fJ d t):SmT fJ (d+1) (.mk op m 0 ⟨#[]⟩ [t]):=⟨by show 1<=3;decide,a,b,x8,x5,fun i hi=>by
 have:i=0:=by have:i<1:=hi;omega
 subst this;exact h⟩
theorem nZ {d:Nat}{op:Int}{t u:Tm}(a : -1000<=op/\op<=1000)(h:SmT fJ d t)(b:SmT fJ d u):SmT fJ (d+1) (bz op t u):=⟨by show 2<=3;decide,a,⟨by show (-1000:Int)<=0;decide,by show (0:Int)<=1000;decide⟩,x8,x5,fun i hi=>by
 have:i=0\/i=1:=by have:i<2:=hi;omega
 rcases this with rfl|rfl
 ·exact h
 ·exact b⟩
def FF (d:Nat)(k:PKd)(t:Tm):Prop:=match k with
  | .more _ u=>∀ e,SmT fJ e u->SmT fJ (e+d) t
  | .call op=>9<=op/\op<=13->SmT fJ d t
  | _=>SmT fJ d t
include hnf hbf in
theorem vB:∀ (n:Nat) (k:PKd) (a:Nat) (t:Tm) (b:Nat),a<=s.size->bj nf bf s n k a=some (.ok t b)->FF (b-a) k t
  | 0,_,_,_,_,_,h=>by cases h
  | n + 1, k, a,t,b,ha,h=>by
    have h1:=eE s a;have K:=bD ha;have B:=cp (s:=s) (a:=sk s a);have z:=vB n;have y:=om (nf:=nf) (bf:=bf) (s:=s) n;cases k with
    | sum =>
      obtain ⟨u,c,i,x⟩:=iz (lv:=false) h;have j:=y _ _ _ _ ha i;have H:=y _ _ _ _ j.2 x;have j2:FF (b-c) (.more false u) t:=z _ _ _ _ j.2 x;exact (j2 _ (show SmT fJ (c-a) u from z .prod _ _ _ ha i)).mono oM
    | prod =>
      obtain ⟨u,c,i,x⟩:=iz (lv:=true) h;have j:=y _ _ _ _ ha i;have H:=y _ _ _ _ j.2 x;have j2:FF (b-c) (.more true u) t:=z _ _ _ _ j.2 x;exact (j2 _ (show SmT fJ (c-a) u from z .sign _ _ _ ha i)).mono oM
    | more lv u =>
      intro e J;have k1:c1 lv≠0:=by cases lv<;>decide
      have k2:c2 lv≠0:=by cases lv<;>decide
      have Z : -1000<=kn lv/\kn lv<=1000:=by cases lv<;>decide
      have V : -1000<=ja lv/\ja lv<=1000:=by cases lv<;>decide
      have l:∀ {v:Tm} {c d:Nat},FF c (part lv) v->c<=d->SmT fJ d v:=fun hv D=>by
        cases lv
        . exact SmT.mono (show SmT fJ _ _ from hv) D
        . exact SmT.mono (show SmT fJ _ _ from hv) D
      by_cases x1:aj s (sk s a)=c1 lv
      . obtain ⟨v,c,i,x⟩:=jN h x1
        have:=B oM;have j:=y _ _ _ _ (show sk s a+1<=s.size by omega) i;have H:=y _ _ _ _ j.2 x;have o:=z _ _ _ _ (show sk s a+1<=s.size by omega) i;have j2:FF (b-c) (.more lv (bz (kn lv) u v)) t:=z _ _ _ _ j.2 x;exact (j2 (e+(c-a-1)+1) (nZ Z (J.mono oM) (l o oM))).mono oM
      . by_cases x2:aj s (sk s a)=c2 lv
        . obtain ⟨v,c,i,x⟩:=jE h x1 x2
          have:=B oM;have j:=y _ _ _ _ (show sk s a+1<=s.size by omega) i;have H:=y _ _ _ _ j.2 x;have o:=z _ _ _ _ (show sk s a+1<=s.size by omega) i;have j2:FF (b-c) (.more lv (bz (ja lv) u v)) t:=z _ _ _ _ j.2 x;exact (j2 (e+(c-a-1)+1) (nZ V (J.mono oM) (l o oM))).mono oM
        . obtain ⟨rfl,_⟩:=jz h x1 x2
          exact J.mono oM
    | sign =>
      by_cases x1:aj s (sk s a)=45
      . obtain ⟨v,i,rfl⟩:=n5 h x1
        have:=B oM;have j:=y _ _ _ _ (show sk s a+1<=s.size by omega) i;have o:SmT fJ (b-(sk s a+1)) v:=z .sign _ _ _ oM i;exact (og kD kD o).mono oM
      . have j:=y _ _ _ _ K (iB h x1)
        have o:SmT fJ (b-sk s a) t:=z .pow _ _ _ K (iB h x1);exact o.mono oM
    | pow =>
      obtain ⟨v,e,i,x,F⟩:=n4 h;have j:=y _ _ _ _ ha i;have o:SmT fJ (e-a) v:=z .atom _ _ _ ha i;have e1:=eE s e
      by_cases x1:aj s (sk s e)=94
      . have:=cp (s:=s) (a:=sk s e) oM
        have q:=se oM (F x1);obtain ⟨k,U,hb,hl,rfl⟩:=n0 (F x1);have X:k<=999:=jp U (by rw[ByteArray.size_extract];omega);exact SmT.mono (d:=(e-a)+1) (og kD (by split<;>omega) o) oM
      . obtain ⟨rfl,rfl⟩:=x x1
        exact o.mono oM
    | atom =>
      cases c0:cH (aj s (sk s a)) with
      | true =>
        obtain ⟨q,I,rfl,rfl⟩:=nC h c0;have C:=B (by intro h0;rw[h0] at c0;exact absurd c0 kD);have:=i6 (p:=cH) C c0;exact SmT.mono (d:=0+1) (sK (hnf _ _ I)) oM
      | false =>
        by_cases cL:dL (aj s (sk s a))\/aj s (sk s a)=95
        . have C:sk s a<s.size:=B (by
            rcases cL with cL|cL
            . unfold dL at cL;omega
            . omega)
          have hr:sk s a+1<=rn bF s (sk s a):=i6 C (decide_eq_true (by
            unfold kh
            rcases cL with cL|cL
            . exact .inl cL
            . exact .inr (.inr cL)))
          have M:=dC (p:=bF) K;cases d:bU (s.extract (sk s a) (rn bF s (sk s a))) with
          | true =>
            have g:=qL h c0 cL d;have j:=y _ _ _ _ M g;have o:=z _ _ _ _ M g
            have S:9<=ag (s.extract (sk s a) (rn bF s (sk s a)))/\ag (s.extract (sk s a) (rn bF s (sk s a)))<=13:=by
              have D:=oT d
              revert D
              unfold ag
              repeat' split
              all_goals intro D;first|(constructor<;>decide)|exact absurd rfl D
            exact SmT.mono (show SmT fJ _ t from o S) oM
          | false =>
            obtain ⟨Y,rfl,rfl⟩:=nQ h c0 cL d;exact SmT.mono (d:=0+1) (AK Y) oM
        . by_cases c9:aj s (sk s a)=91
          . obtain ⟨q1,q,I,rfl,rfl⟩:=p4 h c0 cL c9
            have:=B oM;have:=fV cg s (sk s a+1);exact SmT.mono (d:=0+1) (sK (hbf _ _ I)) oM
          . by_cases L:aj s (sk s a)=40
            . obtain ⟨e,i,x,F⟩:=nk h c0 cL c9 L
              have:=B oM;have j:=y _ _ _ _ (show sk s a+1<=s.size by omega) i;have:=eE s e;have o:SmT fJ (e-(sk s a+1)) t:=z .sum _ _ _ oM i;exact o.mono oM
            . exact (qk h c0 cL c9 L).elim
    | call op =>
      intro Q;obtain ⟨L,u,e,i,x,F⟩:=mb h;have:=B oM;have j:=y _ _ _ _ (show sk s a+1<=s.size by omega) i;have:=eE s e;have o:SmT fJ (e-(sk s a+1)) u:=z .sum _ _ _ oM i
      by_cases ho:op=12\/op=13
      . obtain ⟨d,v,f,O,g5,rfl,W⟩:=x ho
        have:=cp (s:=s) (a:=sk s e) oM;have H:=y _ _ _ _ (show sk s e+1<=s.size by omega) O;have:=eE s f;have j2:SmT fJ (f-(sk s e+1)) v:=z .sum _ _ _ oM O;exact SmT.mono (d:=(f-a-1)+1) (nZ oM (o.mono oM) (j2.mono oM)) oM
      . obtain ⟨d,rfl,W⟩:=F ho
        have:=cp (s:=s) (a:=sk s e) oM;exact SmT.mono (d:=(e-a-1)+1) (og oM kD (o.mono oM)) oM
end
theorem xw (f:Bool)(k:Z9)(l j:Nat)(i:Z9)(b o:Nat)(q:Rat)(w:World)(h:Hp)(g:G w h)(B:RZ h (f,.slice k l j,.slice i b o) q):Calls Tryz.prog 36 #[.agg #[.bool f,.slice k l j,.slice i b o]] w (Ret w h (fun v _=>v=.bool (decide (q.num=0)))):=by
 obtain ⟨a,⟨A,c,D,d,e,u,y,z,x⟩,hz⟩:=B;have F:(Value.agg #[.bool f,qS k l j,qS i b o])=.agg #[.bool (au q.num),qS A (lim (ab q.num)).length c,qS D (lim (if a then q.den else 0)).length d]:=e;rw[F];have p:=kO q.num A c (if a then q.den else 0) D d u y w h g z x
 have C:decide ((if a=true then q.den else 0)=0\/q.num=0)=decide (q.num=0):=by
  cases a
  ·rw[decide_eq_true (.inl rfl),decide_eq_true];rw[hz rfl];rfl
  ·have:=q.den_nz
   by_cases e:q.num=0
   ·rw[decide_eq_true (.inr e),decide_eq_true e]
   ·rw[decide_eq_false (fun h=>h.elim this e),decide_eq_false e]
 rw[C] at p
 exact p
theorem wI  (isb:ByteArray->Bool)(sm:ByteArray->Prop)(hIs:∀ s,sm s->∀ (w:World) (h:Hp),G w h->Calls Tryz.prog 48 #[.string s] w (Ret w h (fun v _=>∃ b,v=.bool b/\b=isb s)))(d:Nat)(ih:∀ (r:RTm) (t:Tm) (w:World) (h:Hp),G w h->RmH d h r t->SmT sm d t ->  Calls Tryz.prog 30 #[aY r] w (Ret w h (fun v _=>∃ V,v=.bool V/\(V=true↔WfT (fun s=>isb s=true) d t))))(op n:Int)(L:Bool)(I:Z9)(J H:Nat)(F:Z9)(D M:Nat)(q:Rat)(s:ByteArray)(A:Z9)(c:Nat)(x:List RTm)(ks:List Tm)(hc:x.length<=c)(hk3:ks.length<=3)(hop : -1000<=op/\op<=1000)(hn : -1000<=n/\n<=1000)(hq:LQ 3000 q)(hsm:sm s)(hW:∀ i,i<ks.length->SmT sm d (ks.getD i cc))(w:World)(h:Hp)(g:G w h)(hZ:RZ h (L,.slice I J H,.slice F D M) q)(hK:SlO 7 ax bZ h A x)(hKs:Rms d h x ks):CR 30 #[aY ⟨op,n,L,I,J,H,F,D,M,s,A,x.length,c⟩] w h (fun v _=>∃ V,v=.bool V/\(V=true↔WfT (fun s=>isb s=true) (d+1) (.mk op n q s ks))):=by
 have a:=((((sS g).add (K:=fun e=>RZ e (L,qS I J H,qS F D M) q) hZ).aS hK).add (K:=fun e=>Rms d e x ks) hKs);have hln:=(a.f.1).len;refine go Tryz.func30 [(0,aY ⟨op,n,L,I,J,H,F,D,M,s,A,x.length,c⟩)] rfl (aG (lA 1 45 (ax ⟨op,n,L,I,J,H,F,D,M,s,A,x.length,c⟩) a (fun l w2 h3 a=>lL a ac (aE (lL a [.v (pB l),.o (iV op) 0 0 1] (aq 7 a (Gp op _ _ a.g) (fun w4 h5 a=>?_)))))));refine lL a ac (ai (CG.join (fun Γ w_=>∃ (zo:Bool)(e:Hp),Γ=[(1,pB l),(2,qF),(68,.bool zo)]/\SS w h w_ e [⟨l,45,ax ⟨op,n,L,I,J,H,F,D,M,s,A,x.length,c⟩⟩] [] [fun e=>Rms d e x ks,fun e=>SlO 7 ax bZ e A x,fun e=>RZ e (L,qS I J H,qS F D M) q]/\(zo=true->¬((0<=fM op/\(ks.length:Int)=fM op)/\((op=2->isb s=true)/\(op≠2->s=⟨#[]⟩))/\(op=1\/q.num=0)/\(op=8\/n=0) /\ -12<=n/\n<=12))/\(zo=false->((0<=fM op/\(ks.length:Int)=fM op)/\((op=2->isb s=true)/\(op≠2->s=⟨#[]⟩))/\(op=1\/q.num=0)/\(op=8\/n=0) /\ -12<=n/\n<=12))) ?_ ?_))
 .
  refine kQ (lL a ac ?_);cases O:(decide ((fM op:Int)<(0:Int)))
  .
   have bd:=oF O;refine lB 9 O (lL a [.c,.v (qP l 6),.o (qS A x.length c) 0 6 1,.v (nV x.length),.c] ?_);cases Q:((x.length:Int) != (fM op:Int))
   .
    have W:=az Q;refine lB 15 Q (lL a [.v qF,.c,.v (pB l),.o (iV op) 0 0 1] ?_);cases S:((op:Int) == (2:Int))
    .
     have X:=ao S;refine lB 20 S (lL a ac (lG 22 ?_));refine lG 23 (lG 24 (lG 25 (lL a [.v qF,.v qF,.c,.v (pB l),.o (iV op) 0 0 1] ?_)));have Y:((op:Int) != (2:Int))=true:=xN oM;have b5:=a7 Y;refine lB 31 Y (lL a [.c,.v (qP l 5),.o (.string s) 0 5 1] ?_);cases zb:(j7 s (⟨#[]⟩))
     .
      have zw:=ko zb;refine lB 35 zb (lL a [.v qF,.v qF,.c,.v (pB l),.o (iV op) 0 0 1] ?_);cases zd:((op:Int) != (1:Int))
      .
       have zx:=az zd;refine lB 41 zd (lL a ac (lG 43 ?_));refine lG 44 (lG 45 (lG 46 (lL a [.v qF,.v qF,.c,.v (pB l),.o (iV op) 0 0 1] ?_)));have zp:((op:Int) != (8:Int))=true:=xN oM;have b2:=a7 zp;refine lB 52 zp (lL a [.c,.v (qP l 1),.o (iV n) 0 1 1] ?_);cases ze:((n:Int) != (0:Int))
       .
        have zB:=az ze;refine lB 56 ze (lL a [.v qF,.v qF,.c,.v (qP l 1),.o (iV n) 0 1 1] ?_);have ⟨zM,bw⟩:=dF (p:=(n:Int)<(-12:Int)) oM;refine lB 62 zM (lL a [.v qF,.c,.v (qP l 1),.o (iV n) 0 1 1] ?_);have ⟨zN,b4⟩:=dF (p:=(12:Int)<(n:Int)) oM;refine lB 67 zN (lL a [.v qF] (lD ?_));intro B j;exact ⟨_,⟨false,h5,rfl,a.to _ _,(fun e=>absurd e kD),(fun _=>⟨by omega,⟨fun e=>by first|exact u.symm.trans aM|exact absurd e oM,fun e=>by first|assumption|exact absurd e oM⟩,by omega,by omega⟩)⟩,j.to _ kR⟩
       have zB:=a7 ze;refine lB 56 ze (lL a [.v qT,.v qT,.c] (lG 60 ?_));refine lG 61 (lG 62 (lL a [.v qT,.c] (lG 65 ?_)));refine lG 66 (lG 67 (lL a [.v qT] (lD ?_)));intro B j;exact ⟨_,⟨true,h5,rfl,a.to _ _,(fun _ e=>by first|exact Ki ((e.2.1.1 oM).symm.trans (u.symm.trans aM))|exact absurd (e.2.1.2 oM) aM|(have y:=e.1;have z:=e.2.2;omega)),(fun e=>absurd e kD)⟩,j.to _ kR⟩
      have zx:=a7 zd;refine lB 41 zd (lL a [.c,.v (qP l 2),.o (.agg #[.bool L,qS I J H,qS F D M]) 0 2 3] (aq 45 a (xw L I J H F D M q _ _ a.g a.f.r.1) (fun _ U a=>?_)));cases zq:(decide (q.num=0))
      .
       have zD:=oF zq;refine lL a [.v qT,.v qT,.v qT,.c] (lG 50 ?_);refine lG 51 (lG 52 (lG 53 (lG 54 (lG 55 (lG 56 (lG 57 (lL a [.v qT,.c] (lG 60 ?_))))))));refine lG 61 (lG 62 (lL a [.v qT,.c] (lG 65 ?_)));refine lG 66 (lG 67 (lL a [.v qT] (lD ?_)));intro B j;exact ⟨_,⟨true,U,rfl,a.to _ _,(fun _ e=>by first|exact Ki ((e.2.1.1 oM).symm.trans (u.symm.trans aM))|exact absurd (e.2.1.2 oM) aM|(have y:=e.1;have z:=e.2.2;omega)),(fun e=>absurd e kD)⟩,j.to _ kR⟩
      have zD:=oT zq;refine lL a [.v qF,.v qF,.v qF,.c,.v (pB l),.o (iV op) 0 0 1] ?_;cases zf:((op:Int) != (8:Int))
      .
       have zE:=az zf;refine lB 52 zf (lL a ac (lG 54 ?_));refine lG 55 (lG 56 (lL a [.v qF,.v qF,.c,.v (qP l 1),.o (iV n) 0 1 1] ?_));cases zg:(decide ((n:Int)<(-12:Int)))
       .
        have zG:=oF zg;refine lB 62 zg (lL a [.v qF,.c,.v (qP l 1),.o (iV n) 0 1 1] ?_);cases zi:(decide ((12:Int)<(n:Int)))
        .
         have zH:=oF zi;refine lB 67 zi (lL a [.v qF] (lD ?_));intro B j;exact ⟨_,⟨false,U,rfl,a.to _ _,(fun e=>absurd e kD),(fun _=>⟨by omega,⟨fun e=>by first|exact u.symm.trans aM|exact absurd e oM,fun e=>by first|assumption|exact absurd e oM⟩,by omega,by omega⟩)⟩,j.to _ kR⟩
        have zH:=oT zi;refine lB 67 zi (lL a [.v qT] (lD ?_));intro B j;exact ⟨_,⟨true,U,rfl,a.to _ _,(fun _ e=>by first|exact Ki ((e.2.1.1 oM).symm.trans (u.symm.trans aM))|exact absurd (e.2.1.2 oM) aM|(have y:=e.1;have z:=e.2.2;omega)),(fun e=>absurd e kD)⟩,j.to _ kR⟩
       have zG:=oT zg;refine lB 62 zg (lL a [.v qT,.c] (lG 65 ?_));refine lG 66 (lG 67 (lL a [.v qT] (lD ?_)));intro B j;exact ⟨_,⟨true,U,rfl,a.to _ _,(fun _ e=>by first|exact Ki ((e.2.1.1 oM).symm.trans (u.symm.trans aM))|exact absurd (e.2.1.2 oM) aM|(have y:=e.1;have z:=e.2.2;omega)),(fun e=>absurd e kD)⟩,j.to _ kR⟩
      have zE:=a7 zf;refine lB 52 zf (lL a [.c,.v (qP l 1),.o (iV n) 0 1 1] ?_);cases zj:((n:Int) != (0:Int))
      .
       have zI:=az zj;refine lB 56 zj (lL a [.v qF,.v qF,.c,.v (qP l 1),.o (iV n) 0 1 1] ?_);have ⟨zP,b3⟩:=dF (p:=(n:Int)<(-12:Int)) oM;refine lB 62 zP (lL a [.v qF,.c,.v (qP l 1),.o (iV n) 0 1 1] ?_);have ⟨zQ,bm⟩:=dF (p:=(12:Int)<(n:Int)) oM;refine lB 67 zQ (lL a [.v qF] (lD ?_));intro B j;exact ⟨_,⟨false,U,rfl,a.to _ _,(fun e=>absurd e kD),(fun _=>⟨by omega,⟨fun e=>by first|exact u.symm.trans aM|exact absurd e oM,fun e=>by first|assumption|exact absurd e oM⟩,by omega,by omega⟩)⟩,j.to _ kR⟩
      have zI:=a7 zj;refine lB 56 zj (lL a [.v qT,.v qT,.c] (lG 60 ?_));refine lG 61 (lG 62 (lL a [.v qT,.c] (lG 65 ?_)));refine lG 66 (lG 67 (lL a [.v qT] (lD ?_)));intro B j;exact ⟨_,⟨true,U,rfl,a.to _ _,(fun _ e=>by first|exact Ki ((e.2.1.1 oM).symm.trans (u.symm.trans aM))|exact absurd (e.2.1.2 oM) aM|(have y:=e.1;have z:=e.2.2;omega)),(fun e=>absurd e kD)⟩,j.to _ kR⟩
     have zw:=kG zb;refine lB 35 zb (lL a [.v qT,.v qT,.c] (lG 39 ?_));refine lG 40 (lG 41 (lG 42 (lG 43 (lG 44 (lG 45 (lG 46 (lG 47 (lL a [.v qT,.c] (lG 50 ?_)))))))));refine lG 51 (lG 52 (lG 53 (lG 54 (lG 55 (lG 56 (lG 57 (lL a [.v qT,.c] (lG 60 ?_))))))));refine lG 61 (lG 62 (lL a [.v qT,.c] (lG 65 ?_)));refine lG 66 (lG 67 (lL a [.v qT] (lD ?_)));intro B j;exact ⟨_,⟨true,h5,rfl,a.to _ _,(fun _ e=>by first|exact Ki ((e.2.1.1 oM).symm.trans (u.symm.trans aM))|exact absurd (e.2.1.2 oM) aM|(have y:=e.1;have z:=e.2.2;omega)),(fun e=>absurd e kD)⟩,j.to _ kR⟩
    have X:=eq_of_beq S;refine lB 20 S (lL a [.c,.v (qP l 5),.o (.string s) 0 5 1] (lC 24 a (hIs s hsm _ _ a.g) ?_));rintro _ _ zW a ⟨bi,rfl,u⟩;cases b6:(bi)
    .
     refine lL a [.v qT,.v qT,.v qT,.c] (lG 29 ?_);refine lG 30 (lG 31 (lG 32 (lG 33 (lG 34 (lG 35 (lG 36 (lL a [.v qT,.c] (lG 39 ?_))))))));refine lG 40 (lG 41 (lG 42 (lG 43 (lG 44 (lG 45 (lG 46 (lG 47 (lL a [.v qT,.c] (lG 50 ?_)))))))));refine lG 51 (lG 52 (lG 53 (lG 54 (lG 55 (lG 56 (lG 57 (lL a [.v qT,.c] (lG 60 ?_))))))));refine lG 61 (lG 62 (lL a [.v qT,.c] (lG 65 ?_)));refine lG 66 (lG 67 (lL a [.v qT] (lD ?_)));intro B j;exact ⟨_,⟨true,zW,rfl,a.to _ _,(fun _ e=>by first|exact Ki ((e.2.1.1 oM).symm.trans (u.symm.trans aM))|exact absurd (e.2.1.2 oM) aM|(have y:=e.1;have z:=e.2.2;omega)),(fun e=>absurd e kD)⟩,j.to _ kR⟩
    refine lL a [.v qF,.v qF,.v qF,.c,.v (pB l),.o (iV op) 0 0 1] ?_;have zr:((op:Int) != (2:Int))=false:=mj oM;have bt:=az zr;refine lB 31 zr (lL a ac (lG 33 ?_));refine lG 34 (lG 35 (lL a [.v qF,.v qF,.c,.v (pB l),.o (iV op) 0 0 1] ?_));have zs:((op:Int) != (1:Int))=true:=xN oM;have br:=a7 zs;refine lB 41 zs (lL a [.c,.v (qP l 2),.o (.agg #[.bool L,qS I J H,qS F D M]) 0 2 3] (aq 45 a (xw L I J H F D M q _ _ a.g a.f.r.1) (fun _ zt a=>?_)));cases zu:(decide (q.num=0))
    .
     have zJ:=oF zu;refine lL a [.v qT,.v qT,.v qT,.c] (lG 50 ?_);refine lG 51 (lG 52 (lG 53 (lG 54 (lG 55 (lG 56 (lG 57 (lL a [.v qT,.c] (lG 60 ?_))))))));refine lG 61 (lG 62 (lL a [.v qT,.c] (lG 65 ?_)));refine lG 66 (lG 67 (lL a [.v qT] (lD ?_)));intro B j;exact ⟨_,⟨true,zt,rfl,a.to _ _,(fun _ e=>by first|exact Ki ((e.2.1.1 oM).symm.trans (u.symm.trans aM))|exact absurd (e.2.1.2 oM) aM|(have y:=e.1;have z:=e.2.2;omega)),(fun e=>absurd e kD)⟩,j.to _ kR⟩
    have zJ:=oT zu;refine lL a [.v qF,.v qF,.v qF,.c,.v (pB l),.o (iV op) 0 0 1] ?_;have zv:((op:Int) != (8:Int))=true:=xN oM;have b0:=a7 zv;refine lB 52 zv (lL a [.c,.v (qP l 1),.o (iV n) 0 1 1] ?_);cases zk:((n:Int) != (0:Int))
    .
     have zK:=az zk;refine lB 56 zk (lL a [.v qF,.v qF,.c,.v (qP l 1),.o (iV n) 0 1 1] ?_);have ⟨zR,bl⟩:=dF (p:=(n:Int)<(-12:Int)) oM;refine lB 62 zR (lL a [.v qF,.c,.v (qP l 1),.o (iV n) 0 1 1] ?_);have ⟨zS,bp⟩:=dF (p:=(12:Int)<(n:Int)) oM;refine lB 67 zS (lL a [.v qF] (lD ?_));intro B j;exact ⟨_,⟨false,zt,rfl,a.to _ _,(fun e=>absurd e kD),(fun _=>⟨by omega,⟨fun e=>by first|exact u.symm.trans aM|exact absurd e oM,fun e=>by first|assumption|exact absurd e oM⟩,by omega,by omega⟩)⟩,j.to _ kR⟩
    have zK:=a7 zk;refine lB 56 zk (lL a [.v qT,.v qT,.c] (lG 60 ?_));refine lG 61 (lG 62 (lL a [.v qT,.c] (lG 65 ?_)));refine lG 66 (lG 67 (lL a [.v qT] (lD ?_)));intro B j;exact ⟨_,⟨true,zt,rfl,a.to _ _,(fun _ e=>by first|exact Ki ((e.2.1.1 oM).symm.trans (u.symm.trans aM))|exact absurd (e.2.1.2 oM) aM|(have y:=e.1;have z:=e.2.2;omega)),(fun e=>absurd e kD)⟩,j.to _ kR⟩
   have W:=a7 Q;refine lB 15 Q (lL a [.v qT,.c] (lG 18 ?_));refine lG 19 (lG 20 (lG 21 (lG 22 (lG 23 (lG 24 (lG 25 (lG 26 (lL a [.v qT,.c] (lG 29 ?_)))))))));refine lG 30 (lG 31 (lG 32 (lG 33 (lG 34 (lG 35 (lG 36 (lL a [.v qT,.c] (lG 39 ?_))))))));refine lG 40 (lG 41 (lG 42 (lG 43 (lG 44 (lG 45 (lG 46 (lG 47 (lL a [.v qT,.c] (lG 50 ?_)))))))));refine lG 51 (lG 52 (lG 53 (lG 54 (lG 55 (lG 56 (lG 57 (lL a [.v qT,.c] (lG 60 ?_))))))));refine lG 61 (lG 62 (lL a [.v qT,.c] (lG 65 ?_)));refine lG 66 (lG 67 (lL a [.v qT] (lD ?_)));intro B j;exact ⟨_,⟨true,h5,rfl,a.to _ _,(fun _ e=>by first|exact Ki ((e.2.1.1 oM).symm.trans (u.symm.trans aM))|exact absurd (e.2.1.2 oM) aM|(have y:=e.1;have z:=e.2.2;omega)),(fun e=>absurd e kD)⟩,j.to _ kR⟩
  have bd:=oT O;refine lB 9 O (lL a ac (lG 11 ?_));refine lG 12 (lG 13 (lG 14 (lG 15 (lL a [.v qT,.c] (lG 18 ?_)))));refine lG 19 (lG 20 (lG 21 (lG 22 (lG 23 (lG 24 (lG 25 (lG 26 (lL a [.v qT,.c] (lG 29 ?_)))))))));refine lG 30 (lG 31 (lG 32 (lG 33 (lG 34 (lG 35 (lG 36 (lL a [.v qT,.c] (lG 39 ?_))))))));refine lG 40 (lG 41 (lG 42 (lG 43 (lG 44 (lG 45 (lG 46 (lG 47 (lL a [.v qT,.c] (lG 50 ?_)))))))));refine lG 51 (lG 52 (lG 53 (lG 54 (lG 55 (lG 56 (lG 57 (lL a [.v qT,.c] (lG 60 ?_))))))));refine lG 61 (lG 62 (lL a [.v qT,.c] (lG 65 ?_)));refine lG 66 (lG 67 (lL a [.v qT] (lD ?_)));intro B j;exact ⟨_,⟨true,h5,rfl,a.to _ _,(fun _ e=>by first|exact Ki ((e.2.1.1 oM).symm.trans (u.symm.trans aM))|exact absurd (e.2.1.2 oM) aM|(have y:=e.1;have z:=e.2.2;omega)),(fun e=>absurd e kD)⟩,j.to _ kR⟩
 rintro _ _ ⟨zo,zX,rfl,a,zU,C⟩;cases zl:(zo)
 .
  try rw[zl] at a
  try rw[zl]
  refine cV (cK (cQ (aa a ac (bx ?_))));refine bG _ (CG.loop (fun μ_ Γ w_=>∃ (k:Nat)(e:Hp),μ_=x.length-k/\Γ=[(1,pB l),(4,nV k)]/\SS w h w_ e [⟨l,45,ax ⟨op,n,L,I,J,H,F,D,M,s,A,x.length,c⟩⟩] [] [fun e=>Rms d e x ks,fun e=>SlO 7 ax bZ e A x,fun e=>RZ e (L,qS I J H,qS F D M) q]/\k<=x.length/\(∀ i,i<k->WfT (fun s=>isb s=true) d (ks.getD i cc))) _ ⟨0,zX,rfl,rfl,a.to _ _,JF _,(fun i hi=>absurd hi (Ke i))⟩ ?_);rintro _ _ _ ⟨k,_,b9,rfl,a,hk,Z⟩;refine cQ (aa a [.c,.v (qP l 6),.o (qS A x.length c) 0 6 1,.v (nV x.length)] ?_);cases zm:(decide ((k:Int)<(x.length:Int)))
  .
   have zL:=oF zm;refine lB 73 zm (ah (CG.exit ?_))
   show CG _ _ _ _ _ _ _ _
   exact aa a ac (af a [] qT (CK ⟨by have y:=(C aM).1;omega,(C aM).2.2.1,(C aM).2.1,(C aM).2.2.2⟩ hq (fun i hi=>Z i oM)))
  have zL:=oT zm;refine lB 73 zm (ak (cK (cQ (kZ (aa a [.v (qP l 6),.o (qS A x.length c) 0 6 1,.c] (lX 79 A x.length c 7 (k:Nat) k ((a.f.2.1).ok oM) ?_))))));refine lH 80 (aY (x.getD k bZ)) a ((a.f.2.1).el k oM) (lC 81 a (ih (x.getD k bZ) (ks.getD k cc) _ _ a.g ((a.f.1).at_ k oM) (hW k oM)) ?_);rintro _ _ ya a ⟨bk,rfl,hbk⟩;cases b7:(bk)
  .
   exact lL a [.v qT] (ak (aa a ac (af a [] qF (C2 (k:=k) oM aM hbk))))
  refine lL a [.v qF] (ah (cK (kQ (lL a ac (bg 75 ((k:Nat)+1) (k+1) ?_)))));refine lL a ac (lD ?_);intro B j;refine ⟨_,_,?_,⟨k+1,ya,rfl,rfl,a.to _ _,oM,(fun i hi=>by rcases Kf.1 hi with e|rfl;exact Z i e;exact hbk.1 aM)⟩,j.to _ kR⟩
  omega
 try rw[zl] at a
 try rw[zl]
 exact ci (aa a ac (af a [] qF (pQ (fun e=>zU aM ⟨by have y:=e.1;omega,e.2.2.1,e.2.1,e.2.2.2⟩))))
theorem o6 (isb:ByteArray->Bool)(sm:ByteArray->Prop)(a:∀ s,sm s->∀ (w:World) (h:Hp),G w h->Calls Tryz.prog 48 #[.string s] w (Ret w h (fun v _=>∃ b,v=.bool b/\b=isb s))):∀ (d:Nat) (r:RTm) (t:Tm) (w:World) (h:Hp),G w h->RmH d h r t->SmT sm d t ->  Calls Tryz.prog 30 #[aY r] w (Ret w h (fun v _=>∃ f,v=.bool f/\(f=true↔WfT (fun s=>isb s=true) d t)))
  | 0,_,_,_,_,_,x,_=>x.elim
  | d+1,r,t,w,h,g,x,wf=>by
    obtain ⟨op,n,b,D,F,y,k,i,H,q,s,A,c,o,ks,rfl,rfl,B,j,l,e⟩:=x.open;obtain ⟨J,I,z,u,p,C⟩:=wf;exact wI isb sm a d (fun r t w h=>o6 isb sm a d r t w h) op n b D F y k i H q s A c o ks j J I z u p C w h g B l e
theorem Dn {a n:Int}(h:0<=a/\a<=1073741824)(b : -1000<=n/\n<=1000) : -1073741824000<=a*n/\a*n<=1073741824000:=by
 have h1:(a*n).natAbs<=1073741824*1000:=by rw[Int.natAbs_mul];exact Nat.mul_le_mul oM oM
 omega
theorem oN {op n:Int}{s:Nat}:min (eD op n ((min s 1073741824:Nat):Int)) 1073741824=((min (oz op n*s) 1073741824:Nat):Int):=by
  unfold eD oz cY
  by_cases e11:op=11
  . rw[if_pos e11,if_pos e11];omega
  . rw[if_neg e11,if_neg e11]
    by_cases e8:op=8/\n≠0
    . rw[if_pos e8,if_pos e8.1]
      have e:(if n<0 then 0-n else n)=((if n.natAbs<=1 then 1 else n.natAbs:Nat):Int):=by have:=e8.2;split<;>split<;>omega
      rw[e]
      generalize hm:(if n.natAbs<=1 then 1 else n.natAbs)=m
      have a:1<=m:=by rw[<-hm];split<;>omega
      rw[<-Int.natCast_mul,Nat.mul_comm]
      rcases Nat.le_total s 1073741824 with h|h
      . rw[Nat.min_eq_left h];omega
      . rw[Nat.min_eq_right h]
        have c:=J6 1073741824 a;have b:=ed h (J6 s a)
        omega
    . rw[if_neg e8]
      by_cases e9:op=8
      . rw[if_pos e9]
        have:n=0:=by by_cases z:n=0;exact z;exact absurd ⟨e9,z⟩ e8
        rw[this,if_pos kD];omega
      . rw[if_neg e9];omega
theorem Cw (op n a:Int)(B:0<=a/\a<=1073741824)(M:op=8 -> -1000<=n/\n<=1000)(w:World)(h:Hp)(g:G w h):CV 49 #[iV op,iV n,iV a] w h (iV (min (eD op n a) 1073741824)):=by
 have b:=sS g;have d:min (a:Int) (1073741824:Int)=a:=by omega
 have I:=fun h8:op=8=>Dn B (M h8)
 have J:=fun h8:op=8=>Dn (n:=0-n) B (by have:=M h8;omega)
 rw[<-d] at I J
 have Q:n<=0->(min (a:Int) (1073741824:Int))*n<=0/\0<=(min (a:Int) (1073741824:Int))*(0-n):=fun K=>⟨Int.mul_nonpos_of_nonneg_of_nonpos oM K,KE oM oM⟩
 have O:0<=n->0<=(min (a:Int) (1073741824:Int))*n:=fun K=>KE oM K
 refine go Tryz.func49 [(0,iV op),(1,iV n),(2,iV a)] rfl (aa b ac (ai (kZ (aa b ac ?_))));cases f:((op:Int) == (11:Int))
 .
  have z:=ao f;refine lB 9 f (lL b ac (ah (aa b ac ?_)));cases k:((op:Int) == (8:Int))
  .
   have D:=ao k;refine lB 14 k (lL b ac (lG 16 ?_));refine lG 17 (lL b [.v qF,.c] (ah (cK (aa b ac (lV 34 (iV (min (a:Int) (1073741824:Int))) ?_ (hr:=aN (n:=(if (1073741824:Int)<(a:Int) then (1073741824:Int) else (a:Int))) kR (by simp only[eF])))))));exact lL b ac (af b [] (iV (min (a:Int) (1073741824:Int))) (congrArg (Value.int .i64) (by unfold eD;first|(rw[if_pos oM]<;>omega)|(rw[if_neg oM,if_pos oM,if_pos oM]<;>rw[d] at * <;> omega)|(rw[if_neg oM,if_pos oM,if_neg oM]<;>rw[d] at * <;> omega)|(rw[if_neg oM,if_neg oM]<;>omega))))
  have D:=eq_of_beq k;refine lB 14 k (lL b aF ?_);cases i:((n:Int) != (0:Int))
  .
   have x:=az i;refine lB 17 i (lL b [.v qF,.c] (ah (cK (aa b ac (lV 34 (iV (min (a:Int) (1073741824:Int))) ?_ (hr:=aN (n:=(if (1073741824:Int)<(a:Int) then (1073741824:Int) else (a:Int))) kR (by simp only[eF])))))));exact lL b ac (af b [] (iV (min (a:Int) (1073741824:Int))) (congrArg (Value.int .i64) (by unfold eD;first|(rw[if_pos oM]<;>omega)|(rw[if_neg oM,if_pos oM,if_pos oM]<;>rw[d] at * <;> omega)|(rw[if_neg oM,if_pos oM,if_neg oM]<;>rw[d] at * <;> omega)|(rw[if_neg oM,if_neg oM]<;>omega))))
  have x:=a7 i;refine lB 17 i (lL b [.v qT,.c] (ak (cQ (aa b ac ?_))));cases l:(decide ((n:Int)<(0:Int)))
  .
   have y:=oF l;refine lB 20 l (ah (cK (cQ (aa b ac ?_))));have ⟨H,L⟩:=dF (p:=(n:Int)<(0:Int)) oM;refine lB 24 H (lL b aF ?_);cases o:(decide ((1073741824:Int)<(n:Int)))
   .
    have u:=oF o;refine lB 27 o (lL b [.v qF] (ah (cK (kQ (lL b ac (lV 30 (iV (min (a:Int) (1073741824:Int))) ?_ (hr:=aN (n:=(if (1073741824:Int)<(a:Int) then (1073741824:Int) else (a:Int))) kR (by simp only[eF]))))))));refine lL b ac (lI 32 ((min (a:Int) (1073741824:Int))*n) ?_);refine lL b ac (aE (lL b ac (lV 34 (iV (min ((min (a:Int) (1073741824:Int))*n:Int) (1073741824:Int))) ?_ (hr:=aN (n:=(if (1073741824:Int)<((min (a:Int) (1073741824:Int))*n:Int) then (1073741824:Int) else ((min (a:Int) (1073741824:Int))*n:Int))) kR (by simp only[eF])))));exact lL b ac (af b [] (iV (min ((min (a:Int) (1073741824:Int))*n:Int) (1073741824:Int))) (congrArg (Value.int .i64) (by unfold eD;first|(rw[if_pos oM]<;>omega)|(rw[if_neg oM,if_pos oM,if_pos oM]<;>rw[d] at * <;> omega)|(rw[if_neg oM,if_pos oM,if_neg oM]<;>rw[d] at * <;> omega)|(rw[if_neg oM,if_neg oM]<;>omega))))
   have u:=oT o;refine lB 27 o (lL b [.v qT] (ak (kQ (lL b ac (lN (kQ (lL b ac (lV 30 (iV (min (a:Int) (1073741824:Int))) ?_ (hr:=aN (n:=(if (1073741824:Int)<(a:Int) then (1073741824:Int) else (a:Int))) kR (by simp only[eF]))))))))));refine lL b ac (lI 32 ((min (a:Int) (1073741824:Int))*1073741824) ?_);refine lL b ac (aE (lL b ac (lV 34 (iV (min ((min (a:Int) (1073741824:Int))*1073741824:Int) (1073741824:Int))) ?_ (hr:=aN (n:=(if (1073741824:Int)<((min (a:Int) (1073741824:Int))*1073741824:Int) then (1073741824:Int) else ((min (a:Int) (1073741824:Int))*1073741824:Int))) kR (by simp only[eF])))));exact lL b ac (af b [] (iV (min ((min (a:Int) (1073741824:Int))*1073741824:Int) (1073741824:Int))) (congrArg (Value.int .i64) (by unfold eD;first|(rw[if_pos oM]<;>omega)|(rw[if_neg oM,if_pos oM,if_pos oM]<;>rw[d] at * <;> omega)|(rw[if_neg oM,if_pos oM,if_neg oM]<;>rw[d] at * <;> omega)|(rw[if_neg oM,if_neg oM]<;>omega))))
  have y:=oT l;refine lB 20 l (ak (kQ (lL b ac (lI 22 (0-n) ?_))));refine lL b ac (ai (aa b ac ?_));cases e:(decide ((0-n:Int)<(0:Int)))
  .
   have C:=oF e;refine lB 24 e (lL b aF ?_);cases j:(decide ((1073741824:Int)<(0-n:Int)))
   .
    have F:=oF j;refine lB 27 j (lL b [.v qF] (ah (cK (kQ (lL b ac (lV 30 (iV (min (a:Int) (1073741824:Int))) ?_ (hr:=aN (n:=(if (1073741824:Int)<(a:Int) then (1073741824:Int) else (a:Int))) kR (by simp only[eF]))))))));refine lL b ac (lI 32 ((min (a:Int) (1073741824:Int))*(0-n)) ?_);refine lL b ac (aE (lL b ac (lV 34 (iV (min ((min (a:Int) (1073741824:Int))*(0-n):Int) (1073741824:Int))) ?_ (hr:=aN (n:=(if (1073741824:Int)<((min (a:Int) (1073741824:Int))*(0-n):Int) then (1073741824:Int) else ((min (a:Int) (1073741824:Int))*(0-n):Int))) kR (by simp only[eF])))));exact lL b ac (af b [] (iV (min ((min (a:Int) (1073741824:Int))*(0-n):Int) (1073741824:Int))) (congrArg (Value.int .i64) (by unfold eD;first|(rw[if_pos oM]<;>omega)|(rw[if_neg oM,if_pos oM,if_pos oM]<;>rw[d] at * <;> omega)|(rw[if_neg oM,if_pos oM,if_neg oM]<;>rw[d] at * <;> omega)|(rw[if_neg oM,if_neg oM]<;>omega))))
   have F:=oT j;refine lB 27 j (lL b [.v qT] (ak (kQ (lL b ac (lN (kQ (lL b ac (lV 30 (iV (min (a:Int) (1073741824:Int))) ?_ (hr:=aN (n:=(if (1073741824:Int)<(a:Int) then (1073741824:Int) else (a:Int))) kR (by simp only[eF]))))))))));refine lL b ac (lI 32 ((min (a:Int) (1073741824:Int))*1073741824) ?_);refine lL b ac (aE (lL b ac (lV 34 (iV (min ((min (a:Int) (1073741824:Int))*1073741824:Int) (1073741824:Int))) ?_ (hr:=aN (n:=(if (1073741824:Int)<((min (a:Int) (1073741824:Int))*1073741824:Int) then (1073741824:Int) else ((min (a:Int) (1073741824:Int))*1073741824:Int))) kR (by simp only[eF])))));exact lL b ac (af b [] (iV (min ((min (a:Int) (1073741824:Int))*1073741824:Int) (1073741824:Int))) (congrArg (Value.int .i64) (by unfold eD;first|(rw[if_pos oM]<;>omega)|(rw[if_neg oM,if_pos oM,if_pos oM]<;>rw[d] at * <;> omega)|(rw[if_neg oM,if_pos oM,if_neg oM]<;>rw[d] at * <;> omega)|(rw[if_neg oM,if_neg oM]<;>omega))))
  have C:=oT e;refine lB 24 e (lL b ac (lG 26 ?_));refine lG 27 (lL b [.v qT] (ak (kQ (lL b ac (lN (kQ (lL b ac (lV 30 (iV (min (a:Int) (1073741824:Int))) ?_ (hr:=aN (n:=(if (1073741824:Int)<(a:Int) then (1073741824:Int) else (a:Int))) kR (by simp only[eF]))))))))));refine lL b ac (lI 32 ((min (a:Int) (1073741824:Int))*1073741824) ?_);refine lL b ac (aE (lL b ac (lV 34 (iV (min ((min (a:Int) (1073741824:Int))*1073741824:Int) (1073741824:Int))) ?_ (hr:=aN (n:=(if (1073741824:Int)<((min (a:Int) (1073741824:Int))*1073741824:Int) then (1073741824:Int) else ((min (a:Int) (1073741824:Int))*1073741824:Int))) kR (by simp only[eF])))));exact lL b ac (af b [] (iV (min ((min (a:Int) (1073741824:Int))*1073741824:Int) (1073741824:Int))) (congrArg (Value.int .i64) (by unfold eD;first|(rw[if_pos oM]<;>omega)|(rw[if_neg oM,if_pos oM,if_pos oM]<;>rw[d] at * <;> omega)|(rw[if_neg oM,if_pos oM,if_neg oM]<;>rw[d] at * <;> omega)|(rw[if_neg oM,if_neg oM]<;>omega))))
 have z:=eq_of_beq f;refine lB 9 f (lL b ac (ak (kQ (lL b ac (lI 11 (2*a) ?_)))));refine lL b ac (aE (lL b ac (lV 34 (iV (min (2*a:Int) (1073741824:Int))) ?_ (hr:=aN (n:=(if (1073741824:Int)<(2*a:Int) then (1073741824:Int) else (2*a:Int))) kR (by simp only[eF])))));exact lL b ac (af b [] (iV (min (2*a:Int) (1073741824:Int))) (congrArg (Value.int .i64) (by unfold eD;first|(rw[if_pos oM]<;>omega)|(rw[if_neg oM,if_pos oM,if_pos oM]<;>rw[d] at * <;> omega)|(rw[if_neg oM,if_pos oM,if_neg oM]<;>rw[d] at * <;> omega)|(rw[if_neg oM,if_neg oM]<;>omega))))
theorem vI  (sm:ByteArray->Prop)(d:Nat)(ih:∀ (r:RTm) (t:Tm) (w:World) (h:Hp),G w h->RmH d h r t->SmT sm d t ->  Calls Tryz.prog 31 #[aY r] w (Ret w h (fun v _=>v=iV ((min (d8 d t) 1073741824:Nat):Int))))(op n:Int)(y:Bool)(D:Z9)(F C:Nat)(z:Z9)(x H:Nat)(q:Rat)(s:ByteArray)(A:Z9)(c:Nat)(b:List RTm)(ks:List Tm)(hc:b.length<=c)(W:ks.length<=3)(S : -1000<=op/\op<=1000)(hn : -1000<=n/\n<=1000)(hq:LQ 3000 q)(hsm:sm s)(hW:∀ i,i<ks.length->SmT sm d (ks.getD i cc))(w:World)(h:Hp)(g:G w h)(Z:RZ h (y,.slice D F C,.slice z x H) q)(U:SlO 7 ax bZ h A b)(M:Rms d h b ks):CV 31 #[aY ⟨op,n,y,D,F,C,z,x,H,s,A,b.length,c⟩] w h (iV ((min (d8 (d+1) (.mk op n q s ks)) 1073741824:Nat):Int)):=by
 have a:=((((sS g).add (K:=fun e=>RZ e (y,qS D F C,qS z x H) q) Z).aS U).add (K:=fun e=>Rms d e b ks) M);have V:=(a.f.1).len;refine go Tryz.func31 [(0,aY ⟨op,n,y,D,F,C,z,x,H,s,A,b.length,c⟩)] rfl (aG (lA 1 45 (ax ⟨op,n,y,D,F,C,z,x,H,s,A,b.length,c⟩) a (fun B w2 h3 a=>lL a ac (ai (aa a [.v (qP B 6),.o (qS A b.length c) 0 6 1,.v (nV b.length)] ?_)))));cases l:((b.length:Int) == (0:Int))
 .
  have I:=ao l;refine lB 8 l (ah (cK (aa a ac (ai (aa a ac (bx ?_))))));refine bG _ (CG.loop (fun Q Γ w_=>∃ (k:Nat)(p:Nat)(e:Hp),Q=b.length-k/\Γ=[(1,pB B),(2,iV 0),(4,nV k),(3,nV p)]/\SS w h w_ e [⟨B,45,ax ⟨op,n,y,D,F,C,z,x,H,s,A,b.length,c⟩⟩] [] [fun e=>Rms d e b ks,fun e=>SlO 7 ax bZ e A b,fun e=>RZ e (y,qS D F C,qS z x H) q]/\k<=b.length/\p=min (f4 (fun i=>d8 d (ks.getD i cc)) k) 1073741824) _ ⟨0,0,h3,rfl,rfl,a.to _ _,JF _,rfl⟩ ?_);rintro _ _ w5 ⟨k,p,h6,Y,rfl,a,hk,u⟩;have hs1:(f4 (fun i=>d8 d (ks.getD i cc)) (k+1))=(f4 (fun i=>d8 d (ks.getD i cc)) k)+d8 d (ks.getD k cc):=rfl;refine cQ (aa a [.c,.v (qP B 6),.o (qS A b.length c) 0 6 1,.v (nV b.length)] ?_);cases j:(decide ((k:Int)<(b.length:Int)))
  .
   have J:=oF j;refine lB 13 j (ah (CG.exit ?_))
   show CG _ _ _ _ _ _ _ _
   refine aa a [.v (pB B),.o (iV op) 0 0 1,.v (qP B 1),.o (iV n) 0 1 1,.c] (aq 30 a (Cw op n (p:Nat) oM (fun _=>hn) _ _ a.g) (fun w9 _ a=>lL a ac (lN (kX ?_))));have L:k=ks.length:=by omega
   have O:=oL (d:=d) (op:=op) (n:=n) (q:=q) (s:=s) (ks:=ks) oM;rw[L] at u
   exact a.ret [] (iV (min (eD op n (p:Nat)) 1073741824)) (congrArg (Value.int .i64) (by rw[O,u];exact oN))
  have J:=oT j;refine lB 13 j (ak (cK (cQ (kZ (kQ (lL a [.c,.v (qP B 6),.o (qS A b.length c) 0 6 1,.c] (lX 20 A b.length c 7 (k:Nat) k ((a.f.2.1).ok oM) ?_)))))));refine lH 21 (aY (b.getD k bZ)) a ((a.f.2.1).el k oM) (aq 22 a (ih (b.getD k bZ) (ks.getD k cc) _ _ a.g ((a.f.1).at_ k oM) (hW k oM)) (fun _ X a=>lI 23 ((p:Nat)+((min (d8 d (ks.getD k cc)) 1073741824:Nat):Int)) (lV 24 (iV ((min (f4 (fun i=>d8 d (ks.getD i cc)) (k+1)) 1073741824:Nat):Int)) ?_ (hr:=aN (n:=if (1073741824:Int)<((p:Nat)+((min (d8 d (ks.getD k cc)) 1073741824:Nat):Int)) then (1073741824:Int) else ((p:Nat)+((min (d8 d (ks.getD k cc)) 1073741824:Nat):Int))) kR (by split<;>omega)))));refine lL a ac (lN (kQ (lL a ac (bg 15 ((k:Nat)+1) (k+1) ?_))));refine lL a ac (lD ?_);intro a_ ka;refine ⟨_,_,?_,⟨k+1,(min (f4 (fun i=>d8 d (ks.getD i cc)) (k+1)) 1073741824),X,rfl,rfl,a.to _ _,oM,rfl⟩,ka.to _ kR⟩
  omega
 have I:=eq_of_beq l;exact lB 8 l (ak (aa a ac (af a [] (iV 1) (congrArg (Value.int .i64) (by rw[CP oM];rfl)))))
theorem su (sm:ByteArray->Prop):∀ (d:Nat) (r:RTm) (t:Tm) (w:World) (h:Hp),G w h->RmH d h r t->SmT sm d t ->  Calls Tryz.prog 31 #[aY r] w (Ret w h (fun v _=>v=iV ((min (d8 d t) 1073741824:Nat):Int)))
  | 0,_,_,_,_,_,x,_=>x.elim
  | d+1,r,t,w,h,g,x,wf=>by
    obtain ⟨op,n,b,B,C,p,i,e,D,q,s,A,c,k,ks,rfl,rfl,y,f,j,a⟩:=x.open;obtain ⟨H,F,u,o,l,z⟩:=wf;exact vI sm d (fun r t w h=>su sm d r t w h) op n b B C p i e D q s A c k ks f H F u o l z w h g y j a
theorem kp {f:Nat->Nat}:∀ {n i:Nat},i<n->f i<=gt f n
  | n+1,i,h=>by
    rcases Kf.1 h with h1|rfl
    . exact ed (kp h1) (Nat.le_max_left _ _)
    . exact Nat.le_max_right _ _
theorem na {d:Nat}{t:Tm}{i:Nat}(h:i<t.ks.length):eU d (t.ks.getD i cc)+1<=eU (d+1) t:=KD (kp (f:=fun i=>eU d (t.ks.getD i cc)) h)
theorem n9 (d:Nat)(t:Tm):1<=eU (d+1) t:=KD (JF _)
theorem TmH.cutD {h:Hp}{d e:Nat}{p:PTm}{t:Tm}(x:TmH d h p t)(u:eU d t<=e):TmH e h p t:=by
  induction d generalizing e p t with
  | zero=>exact x.elim
  | succ d ih =>
    cases e with
    | zero=>have:=n9 d t;omega
    | succ e =>
      obtain ⟨h1,j,k,b,l,f,ps,a,o,c⟩:=x;exact ⟨h1,j,k,b,l,f,ps,a,o,fun i hi=>ih (c i hi) (by have:=na (d:=d) hi;omega)⟩
theorem RmH.cutD {h:Hp}{d e:Nat}{p:RTm}{t:Tm}(x:RmH d h p t)(u:eU d t<=e):RmH e h p t:=by
  induction d generalizing e p t with
  | zero=>exact x.elim
  | succ d ih =>
    cases e with
    | zero=>have:=n9 d t;omega
    | succ e =>
      obtain ⟨h1,j,k,b,l,f,ps,a,o,c⟩:=x;exact ⟨h1,j,k,b,l,f,ps,a,o,fun i hi=>ih (c i hi) (by have:=na (d:=d) hi;omega)⟩
theorem SmT.cutD {sm:ByteArray->Prop}{d e:Nat}{t:Tm}(x:SmT sm d t)(u:eU d t<=e):SmT sm e t:=by
  induction d generalizing e t with
  | zero=>exact x.elim
  | succ d ih =>
    cases e with
    | zero=>have:=n9 d t;omega
    | succ e =>
      obtain ⟨h1,c,h,f,b,a⟩:=x;exact ⟨h1,c,h,f,b,fun i hi=>ih (a i hi) (by have:=na (d:=d) hi;omega)⟩
theorem TmH.cutS {sm:ByteArray->Prop}{h:Hp}{e d:Nat}{p:PTm}{t:Tm}(x:TmH e h p t)(y:SmT sm d t):TmH d h p t:=by
  induction e generalizing d p t with
  | zero=>exact x.elim
  | succ e ih =>
    cases d with
    | zero=>exact y.elim
    | succ d =>
      obtain ⟨h1,j,l,b,o,f,ps,a,u,c⟩:=x;obtain ⟨_,_,_,_,_,k⟩:=y;exact ⟨h1,j,l,b,o,f,ps,a,u,fun i hi=>ih (c i hi) (k i hi)⟩
theorem RmH.cutS {sm:ByteArray->Prop}{h:Hp}{e d:Nat}{p:RTm}{t:Tm}(x:RmH e h p t)(y:SmT sm d t):RmH d h p t:=by
  induction e generalizing d p t with
  | zero=>exact x.elim
  | succ e ih =>
    cases d with
    | zero=>exact y.elim
    | succ d =>
      obtain ⟨h1,j,l,b,o,f,ps,a,u,c⟩:=x;obtain ⟨_,_,_,_,_,k⟩:=y;exact ⟨h1,j,l,b,o,f,ps,a,u,fun i hi=>ih (c i hi) (k i hi)⟩
def CkA (isb:ByteArray->Bool)(d:Nat)(t:Tm)(e:Int):Prop:=(24<eU d t/\e=19)\/(eU d t<=24/\((WfT (fun s=>isb s=true) 24 t/\e=(if 1000<d8 24 t then 18 else 0))\/(¬WfT (fun s=>isb s=true) 24 t/\e=2)))
theorem CkA.uniq {isb:ByteArray->Bool}{d:Nat}{t:Tm}{e f:Int}(x:CkA isb d t e)(y:CkA isb d t f):e=f:=by
 rcases x with ⟨a,b⟩|⟨a,⟨c,b⟩|⟨c,b⟩⟩<;>rcases y with ⟨a',b'⟩|⟨a',⟨c',b'⟩|⟨c',b'⟩⟩<;>first|omega|exact absurd c c'|exact absurd c' c|(rw[b,b'])
theorem CkA.ok {isb:ByteArray->Bool}{d:Nat}{t:Tm}(x:CkA isb d t 0):eU d t<=24/\WfT (fun s=>isb s=true) 24 t/\d8 24 t<=1000:=by
 rcases x with ⟨a,b⟩|⟨a,⟨c,b⟩|⟨c,b⟩⟩
 ·omega
 ·refine ⟨a,c,?_⟩
  split at b<;>omega
 ·omega
theorem ur  (sm:ByteArray->Prop)(d:Nat)(ih:∀ (p:PTm) (t:Tm) (a:Int) (w:World) (h:Hp),G w h->TmH d h p t->SmT sm d t->0<=a->a<=1000->Calls Tryz.prog 23 #[a8 p,iV a] w (Ret w h (fun v _=>v=.bool (decide (a<(eU d t:Nat))))))(op n:Int)(q:Rat)(s:ByteArray)(A:Z9)(c:Nat)(ps:List PTm)(ks:List Tm)(hc:ps.length<=c)(Y:ps.length<=3)(U:ks.length<=3)(L : -1000<=op/\op<=1000)(hn : -1000<=n/\n<=1000)(hq:LQ 3000 q)(hsm:sm s)(hW:∀ i,i<ks.length->SmT sm d (ks.getD i cc))(a:Int)(hm:0<=a)(S:a<=1000)(w:World)(h:Hp)(g:G w h)(M:SlO 9 bv a6 h A ps)(F:Tms d h ps ks):CV 23 #[a8 ⟨op,n,q,s,A,ps.length,c⟩,iV a] w h (.bool (decide (a<(eU (d+1) (.mk op n q s ks):Nat)))):=by
 have e:=(((sS g).aS M).add (K:=fun j=>Tms d j ps ks) F);have O:=(e.f.1).len;refine go Tryz.func23 [(0,a8 ⟨op,n,q,s,A,ps.length,c⟩),(1,iV a)] rfl (aG (lA 2 31 (bv ⟨op,n,q,s,A,ps.length,c⟩) e (fun I w2 Z e=>lL e ac (ai (aa e ac ?_)))));cases x:(decide ((a:Int)<(1:Int)))
 .
  have C:=oF x;refine lB 8 x (ah (cK (cQ (aa e [.v (qP I 8),.o (qS A ps.length c) 0 8 1,.v (nV ps.length),.c] (bx ?_)))));refine bG _ (CG.loop (fun H Γ w_=>∃ (k:Nat)(j:Hp),H=ps.length-k/\Γ=[(1,iV a),(10,qS A ps.length c),(11,nV ps.length),(12,nV k)]/\SS w h w_ j [⟨I,31,bv ⟨op,n,q,s,A,ps.length,c⟩⟩] [] [fun j=>Tms d j ps ks,fun j=>SlO 9 bv a6 j A ps]/\k<=ps.length/\(∀ i,i<k->(eU d (ks.getD i cc):Int)<=a-1)) _ ⟨0,Z,rfl,rfl,e.to _ _,JF _,(fun i hi=>absurd hi (Ke i))⟩ ?_);rintro _ _ w5 ⟨k,h6,W,rfl,e,hk,z⟩;refine aG ?_;cases u:(decide ((k:Int)<(ps.length:Int)))
  .
   have D:=oF u;refine lB 13 u (ai (cV (CG.exit ?_)))
   show CG _ _ _ _ _ _ _ _
   refine aa e ac (lN (kX ?_));have y:eU (d+1) (.mk op n q s ks)=gt (fun i=>eU d (ks.getD i cc)) ks.length+1:=rfl;exact e.ret [] qF (congrArg Value.bool (decide_eq_false (by have l:=ku (f:=(fun i=>eU d (ks.getD i cc))) (b:=(a-1).toNat) ks.length (fun i hi=>by have j:=z i oM;show eU d _<=_;omega);omega)).symm)
  have D:=oT u;refine lB 13 u (ai (ci (cK (cQ (kZ (aG (lX 14 A ps.length c 9 (k:Nat) k ((e.f.2.1).ok oM) ?_)))))));refine lH 15 (a8 (ps.getD k a6)) e ((e.f.2.1).el k oM) (lA 6 31 a2 e (fun b9 _ _ e=>lP 0 0 (bv (ps.getD k a6)) e (fun _ e=>aE (lL e [.o (a8 (ps.getD k a6)) 0 0 9,.c] (lI 18 (a-1) ?_)))));refine aq 19 e (ih (ps.getD k a6) (ks.getD k cc) (a-1) _ _ e.g ((e.f.1).at_ k oM) (hW k oM) oM oM) (fun _ V e=>?_);cases J:(decide (a-1<(eU d (ks.getD k cc):Nat)))
  .
   have Q:=oF J;refine ah (cK (kQ (bg 20 ((k:Nat)+1) (k+1) ?_)));refine lL e ac (lD ?_);intro a_ X;replace e:=e.drop 1 0;refine ⟨_,_,?_,⟨k+1,V,rfl,rfl,e.to _ _,oM,(fun i hi=>by rcases Kf.1 hi with j|rfl;exact z i j;omega)⟩,X.to _ kR⟩
   omega
  have Q:=oT J;refine ak (aa e ac (lN (kX ?_)));have y:eU (d+1) (.mk op n q s ks)=gt (fun i=>eU d (ks.getD i cc)) ks.length+1:=rfl;exact e.ret [] qT (congrArg Value.bool (decide_eq_true (by first|omega|(have l:=kp (f:=(fun i=>eU d (ks.getD i cc))) (show k<ks.length by omega);have B:eU d (ks.getD k cc)<=gt (fun i=>eU d (ks.getD i cc)) ks.length:=l;omega))).symm)
 have C:=oT x;refine lB 8 x (ak (aa e ac (lN (kX ?_))));have y:eU (d+1) (.mk op n q s ks)=gt (fun i=>eU d (ks.getD i cc)) ks.length+1:=rfl;exact e.ret [] qT (congrArg Value.bool (decide_eq_true (by first|omega|(have l:=kp (f:=(fun i=>eU d (ks.getD i cc))) (show k<ks.length by omega);have B:eU d (ks.getD k cc)<=gt (fun i=>eU d (ks.getD i cc)) ks.length:=l;omega))).symm)
theorem oI (sm:ByteArray->Prop):∀ (d:Nat) (p:PTm) (t:Tm) (a:Int) (w:World) (h:Hp),G w h->TmH d h p t->SmT sm d t->0<=a->a<=1000->Calls Tryz.prog 23 #[a8 p,iV a] w (Ret w h (fun v _=>v=.bool (decide (a<(eU d t:Nat)))))
  | 0,_,_,_,_,_,_,x,_,_,_=>x.elim
  | d+1,p,t,a,w,h,g,x,wf,hm,hm2=>by
    obtain ⟨op,n,q,s,A,c,ps,ks,rfl,rfl,i,f,b⟩:=x.open;obtain ⟨e,y,o,l,j,u⟩:=wf;have k:ks.length<=3:=e;exact ur sm d (fun p t a w h=>oI sm d p t a w h) op n q s A c ps ks i (by have:=b.len;omega) e y o l j u a hm hm2 w h g f b
theorem Gl  (isb:ByteArray->Bool)(sm:ByteArray->Prop)(k:∀ s,sm s->∀ (w:World) (h:Hp),G w h->Calls Tryz.prog 44 #[.string s] w (Ret w h (fun v _=>∃ b,v=.bool b/\b=isb s)))(d:Nat)(p:PTm)(t:Tm)(w:World)(h:Hp)(g:G w h)(z:TmH d h p t)(u:SmT sm d t):CR 12 #[a8 p] w h (fun v _=>∃ e:Int,v=iV e/\CkA isb d t e):=by
 have a:=((sS g).add (K:=fun l=>TmH d l p t) z);refine go Tryz.func12 [(0,a8 p)] rfl (aG (lA 1 31 (bv p) a (fun D w2 F a=>lL a ac (ai (aa a [.o (a8 p) 0 0 9] (aq 4 a (oI sm d p t 24 _ _ a.g a.f.1 u kD kD) (fun C H a=>?_)))))));cases i:(decide ((24:Int)<(eU d t:Nat)))
 .
  have c:=oF i;refine ah (cK (cQ (aa a [.o (a8 p) 0 0 9] (lC 6 a (kT isb sm k 24 p t _ _ a.g ((a.f.1).cutD oM) (u.cutD oM)) ?_))));rintro _ B I a ⟨bf,rfl,hbf⟩;cases x:(bf)
  .
   exact lL a [.v qT] (ak (aa a ac (af a [] (iV 2) (⟨_,rfl,.inr ⟨by omega,.inr ⟨fun l=>Ki ((hbf.2 l).symm.trans aM),rfl⟩⟩⟩))))
  refine lL a [.v qF] (ah (cK (cQ (aa a [.o (a8 p) 0 0 9] (aq 9 a (k6 (fun s=>isb s=true) 24 p t _ _ a.g ((a.f.1).cutD oM) (hbf.1 aM)) (fun _ _ a=>?_))))));cases j:(decide ((1000:Int)<(((min (d8 24 t) 1001:Nat):Int):Int)))
  .
   have y:=oF j;exact lB 10 j (ah (cK (aa a ac (af a [] (iV 0) (⟨_,rfl,.inr ⟨by omega,.inl ⟨hbf.1 aM,by split<;>omega⟩⟩⟩)))))
  have y:=oT j;exact lB 10 j (ak (aa a ac (af a [] (iV 18) (⟨_,rfl,.inr ⟨by omega,.inl ⟨hbf.1 aM,by split<;>omega⟩⟩⟩))))
 have c:=oT i;exact ak (aa a ac (af a [] (iV 19) (⟨_,rfl,.inl ⟨by omega,rfl⟩⟩)))
theorem Cd  (sm:ByteArray->Prop)(d:Nat)(ih:∀ (r:RTm) (t:Tm) (w:World) (h:Hp),G w h->RmH d h r t->SmT sm d t->d<=1000000->Calls Tryz.prog 29 #[aY r] w (Ret w h (fun v _=>v=nV (eU d t))))(op n:Int)(p:Bool)(y:Z9)(z x:Nat)(u:Z9)(l B:Nat)(q:Rat)(s:ByteArray)(A:Z9)(c:Nat)(b:List RTm)(ks:List Tm)(hc:b.length<=c)(V:ks.length<=3)(O : -1000<=op/\op<=1000)(hn : -1000<=n/\n<=1000)(hq:LQ 3000 q)(hsm:sm s)(hW:∀ i,i<ks.length->SmT sm d (ks.getD i cc))(hd:d+1<=1000000)(w:World)(h:Hp)(g:G w h)(X:RZ h (p,.slice y z x,.slice u l B) q)(Q:SlO 7 ax bZ h A b)(J:Rms d h b ks):CV 29 #[aY ⟨op,n,p,y,z,x,u,l,B,s,A,b.length,c⟩] w h (nV (eU (d+1) (.mk op n q s ks))):=by
 have a:=((((sS g).add (K:=fun e=>RZ e (p,qS y z x,qS u l B) q) X).aS Q).add (K:=fun e=>Rms d e b ks) J);have S:=(a.f.1).len;have D:∀ k,k<=ks.length->(gt (fun i=>eU d (ks.getD i cc)) k)<=d:=fun k U=>ku k (fun i _=>oq d _)
 have C:=fun i=>oq d (ks.getD i cc)
 refine go Tryz.func29 [(0,aY ⟨op,n,p,y,z,x,u,l,B,s,A,b.length,c⟩)] rfl (aG (lA 1 45 (ax ⟨op,n,p,y,z,x,u,l,B,s,A,b.length,c⟩) a (fun I w2 h3 a=>lL a ac (aE (lL a ac (ai (aa a ac (bx ?_))))))));refine bG _ (CG.loop (fun L Γ w_=>∃ (k:Nat)(e:Hp),L=b.length-k/\Γ=[(1,pB I),(2,iV 0),(4,nV k),(3,nV (gt (fun i=>eU d (ks.getD i cc)) k))]/\SS w h w_ e [⟨I,45,ax ⟨op,n,p,y,z,x,u,l,B,s,A,b.length,c⟩⟩] [] [fun e=>Rms d e b ks,fun e=>SlO 7 ax bZ e A b,fun e=>RZ e (p,qS y z x,qS u l B) q]/\k<=b.length) _ ⟨0,h3,rfl,rfl,a.to _ _,JF _⟩ ?_);rintro _ _ w4 ⟨k,h5,hm6,rfl,a,U⟩;have Y:(gt (fun i=>eU d (ks.getD i cc)) (k+1))=max (gt (fun i=>eU d (ks.getD i cc)) k) (eU d (ks.getD k cc)):=rfl;refine cQ (aa a [.c,.v (qP I 6),.o (qS A b.length c) 0 6 1,.v (nV b.length)] ?_);cases j:(decide ((k:Int)<(b.length:Int)))
 .
  have H:=oF j;refine lB 9 j (ah (CG.exit ?_))
  show CG _ _ _ _ _ _ _ _
  refine aa a ac ?_;have F:=D k oM;exact bg 21 (((gt (fun i=>eU d (ks.getD i cc)) k):Nat)+1) (((gt (fun i=>eU d (ks.getD i cc)) k):Nat)+1) (lL a ac (af a [] (nV (((gt (fun i=>eU d (ks.getD i cc)) k):Nat)+1)) (congrArg (fun n:Nat=>Value.int .i64 (n:Int)) (by rw[show k=ks.length by omega];rfl))))
 have H:=oT j;refine lB 9 j (ak (cK (cQ (kZ (kQ (lL a [.c,.v (qP I 6),.o (qS A b.length c) 0 6 1,.c] (lX 16 A b.length c 7 (k:Nat) k ((a.f.2.1).ok oM) ?_)))))));refine lH 17 (aY (b.getD k bZ)) a ((a.f.2.1).el k oM) (aq 18 a (ih (b.getD k bZ) (ks.getD k cc) _ _ a.g ((a.f.1).at_ k oM) (hW k oM) oM) (fun w8 W a=>?_));have F:=D k oM;have M:=C k;refine lV 19 (nV (gt (fun i=>eU d (ks.getD i cc)) (k+1))) ?_ (hr:=aN (n:=if (eU d (ks.getD k cc):Int)>((gt (fun i=>eU d (ks.getD i cc)) k):Int) then (eU d (ks.getD k cc):Int) else ((gt (fun i=>eU d (ks.getD i cc)) k):Int)) kR (by split<;>omega));refine lL a ac (lN (kQ (lL a ac (bg 11 ((k:Nat)+1) (k+1) ?_))));refine lL a ac (lD ?_);intro a_ Z;refine ⟨_,_,?_,⟨k+1,W,rfl,rfl,a.to _ _,oM⟩,Z.to _ kR⟩
 omega
theorem vi (sm:ByteArray->Prop):∀ (d:Nat) (r:RTm) (t:Tm) (w:World) (h:Hp),G w h->RmH d h r t->SmT sm d t->d<=1000000->Calls Tryz.prog 29 #[aY r] w (Ret w h (fun v _=>v=nV (eU d t)))
  | 0,_,_,_,_,_,x,_,_=>x.elim
  | d+1,r,t,w,h,g,x,wf,hd=>by
    obtain ⟨op,n,b,B,C,p,i,e,D,q,s,A,c,k,ks,rfl,rfl,y,f,j,a⟩:=x.open;obtain ⟨H,F,u,o,l,z⟩:=wf;exact Cd sm d (fun r t w h=>vi sm d r t w h) op n b B C p i e D q s A c k ks f H F u o l z hd w h g y j a
theorem GV  (isb:ByteArray->Bool)(sm:ByteArray->Prop)(l:∀ s,sm s->∀ (w:World) (h:Hp),G w h->Calls Tryz.prog 48 #[.string s] w (Ret w h (fun v _=>∃ b,v=.bool b/\b=isb s)))(d:Nat)(r:RTm)(t:Tm)(H:d<=1000000)(w:World)(h:Hp)(g:G w h)(B:RmH d h r t)(p:SmT sm d t):CR 16 #[aY r] w h (fun v _=>∃ e:Int,v=iV e/\CkA isb d t e):=by
 have a:=((sS g).add (K:=fun u=>RmH d u r t) B);refine go Tryz.func16 [(0,aY r)] rfl (aG (lA 1 45 (ax r) a (fun F w2 I a=>lL a ac (ai (kZ (aa a [.o (aY r) 0 0 7] (aq 5 a (vi sm d r t _ _ a.g a.f.1 p oM) (fun D J a=>?_))))))));have x:=oq d t;cases i:(decide ((24:Int)<((eU d t:Nat):Int)))
 .
  have j:=oF i;refine lB 6 i (lL a ac (ah (aa a [.o (aY r) 0 0 7] (lC 9 a (o6 isb sm l 24 r t _ _ a.g ((a.f.1).cutD oM) (p.cutD oM)) ?_))));rintro _ C L a ⟨bf,rfl,hbf⟩;cases y:(bf)
  .
   exact lL a [.v qT,.c] (ak (aa a ac (af a [] (iV 2) (⟨_,rfl,.inr ⟨by omega,.inr ⟨fun u=>Ki ((hbf.2 u).symm.trans aM),rfl⟩⟩⟩))))
  refine lL a [.v qF,.c] (ah (aa a [.o (aY r) 0 0 7] (aq 13 a (su sm 24 r t _ _ a.g ((a.f.1).cutD oM) (p.cutD oM)) (fun _ _ a=>?_))));cases k:(decide ((1000:Int)<(((min (d8 24 t) 1073741824:Nat):Int):Int)))
  .
   have z:=oF k;exact lB 14 k (lL a ac (ah (cK (aa a ac (af a [] (iV 0) (⟨_,rfl,.inr ⟨by omega,.inl ⟨hbf.1 aM,(if_neg oM).symm⟩⟩⟩))))))
  have z:=oT k;exact lB 14 k (lL a ac (ak (aa a ac (af a [] (iV 18) (⟨_,rfl,.inr ⟨by omega,.inl ⟨hbf.1 aM,(if_pos oM).symm⟩⟩⟩)))))
 have j:=oT i;exact lB 6 i (lL a ac (ak (aa a ac (af a [] (iV 19) (⟨_,rfl,.inl ⟨by omega,rfl⟩⟩)))))
def rz (s:ByteArray):Nat:=6*s.size+6
def kK (s:ByteArray):PR:=match bj cF jQ s (rz s) .sum 0 with
  | some (.ok t b)=>if sk s b=s.size then .ok t b else .err (sk s b)
  | some (.err b)=>.err b
  | none=>.err 0
theorem mR (s:ByteArray):(∃ t b,bj cF jQ s (rz s) .sum 0=some (.ok t b)/\sk s b=s.size/\kK s=.ok t b)\/(∃ t b,bj cF jQ s (rz s) .sum 0=some (.ok t b)/\sk s b≠s.size/\kK s=.err (sk s b))\/∃ b,bj cF jQ s (rz s) .sum 0=some (.err b)/\kK s=.err b:=by
  obtain ⟨r,hr⟩:=td (nf:=cF) (bf:=jQ) (s:=s) (rz s) .sum 0 (JF _) (by show 6*(s.size-0)+5<6*s.size+6;omega)
  unfold kK
  rw[hr];cases r with
  | ok t b =>
    by_cases h:sk s b=s.size
    . exact .inl ⟨t,b,rfl,h,if_pos h⟩
    . exact .inr (.inl ⟨t,b,rfl,h,if_neg h⟩)
  | err b=>exact .inr (.inr ⟨b,rfl,rfl⟩)
theorem EW {x:ByteArray}{q:Rat}(h:jQ x=some q):LQ 3000 q:=kB (o8 h).1
theorem n3 {s:ByteArray}{t:Tm}{b:Nat}(h:bj cF jQ s (rz s) .sum 0=some (.ok t b)):SmT fJ s.size t/\b<=s.size:=by
 have h1:=om (rz s) .sum 0 t b (JF _) h;exact ⟨SmT.mono (show SmT fJ (b-0) t from vB (fun _ _ h=>kB h) (fun _ _ h=>EW h) (rz s) .sum 0 t b (JF _) h) oM,h1.2⟩
def FaP (s:ByteArray)(e l a:Int):Prop:=match kK s with
  | .ok t _=>CkA cD s.size t e/\((e=0/\l=0/\a=0)\/(e≠0/\l=1/\a=0))
  | .err b=>e=2/\l=1/\a=(b:Nat)
theorem FaP.uniq {s:ByteArray}{e l a f d c:Int}(x:FaP s e l a)(y:FaP s f d c):e=f/\l=d/\a=c:=by
 unfold FaP at x y
 split at x
 ·rename_i b
  rw[b] at y
  have i:=x.1.uniq y.1;have h1:=x.2;have h:=y.2
  omega
 ·rename_i b
  rw[b] at y
  have h1:e=2/\l=1/\a=_:=x;have h:f=2/\d=1/\c=_:=y
  omega
theorem FaP.ok {s:ByteArray}{t:Tm}{b:Nat}{e:Int}(d:kK s=.ok t b)(c:CkA cD s.size t e){l a:Int}(h:(e=0/\l=0/\a=0)\/(e≠0/\l=1/\a=0)):FaP s e l a:=by unfold FaP;rw[d];exact ⟨c,h⟩
theorem FaP.err {s:ByteArray}{b:Nat}(a:kK s=.err b):FaP s 2 1 (b:Nat):=by unfold FaP;rw[a];exact ⟨rfl,rfl,rfl⟩
def PaP (s:ByteArray)(h:Hp)(p:PTm)(e:Int):Prop:=(e=0->∃ t b,kK s=.ok t b/\TmH 24 h p t/\WfT (fun s=>cD s=true) 24 t/\d8 24 t<=1000)/\(e≠0->p=a6)
theorem PaP.gw {s:ByteArray}{h a:Hp}{p:PTm}{e:Int}(x:PaP s h p e)(u:Gw h a):PaP s a p e:=⟨fun h0=>by obtain ⟨t,b,h1,c,d⟩:=x.1 h0;exact ⟨t,b,h1,c.gw u,d⟩,x.2⟩
def PaR (s:ByteArray)(h:Hp)(r:RTm)(e:Int):Prop:=(e=0->∃ t b,kK s=.ok t b/\RmH 24 h r t/\WfT (fun s=>cD s=true) 24 t/\d8 24 t<=1000)
theorem PaR.gw {s:ByteArray}{h a:Hp}{r:RTm}{e:Int}(x:PaR s h r e)(u:Gw h a):PaR s a r e:=fun h0=>by obtain ⟨t,b,h1,c,d⟩:=x h0;exact ⟨t,b,h1,c.gw u,d⟩
theorem PtH.cutS {sm:ByteArray->Prop}{h:Hp}{d:Nat}{p:PTm}{t:Tm}(x:PtH h p t)(y:SmT sm d t):TmH d h p t:=by obtain ⟨e,x⟩:=x;exact x.cutS y
theorem PaP.mk0 {s:ByteArray}{h:Hp}{p:PTm}{t:Tm}{b:Nat}(a:kK s=.ok t b)(c:CkA cD s.size t 0)(d:TmH s.size h p t):PaP s h p 0:=⟨fun _=>⟨t,b,a,d.cutD c.ok.1,c.ok.2⟩,fun h=>absurd rfl h⟩
theorem PaP.mkE {s:ByteArray}{h:Hp}{e:Int}(a:e≠0):PaP s h a6 e:=⟨fun h=>absurd h a,fun _=>rfl⟩
theorem PaR.mk0 {s:ByteArray}{h:Hp}{r:RTm}{t:Tm}{b:Nat}(a:kK s=.ok t b)(c:CkA cD s.size t 0)(d:RmH s.size h r t):PaR s h r 0:=fun _=>⟨t,b,a,d.cutD c.ok.1,c.ok.2⟩
theorem PaR.mkE {s:ByteArray}{h:Hp}{r:RTm}{e:Int}(a:e≠0):PaR s h r e:=fun h=>absurd h a
def HZ (n:Nat):Prop:=RC cF jQ 13 n .sum/\RC cF jQ 26 n .prod/\RC cF jQ 46 n .sign/\RC cF jQ 77 n .pow/\RC cF jQ 106 n .atom
theorem Fr (n:Nat):HZ n:=by
  induction n using g2 with
  | ind n ih =>
    cases n with
    | zero=>exact ⟨fun _ _ _ _ _ _ h=>(by cases h),fun _ _ _ _ _ _ h=>(by cases h),fun _ _ _ _ _ _ h=>(by cases h),fun _ _ _ _ _ _ h=>(by cases h),fun _ _ _ _ _ _ h=>(by cases h)⟩
    | succ n =>
      have i:=fun m (j:m<=n)=>ih m (Nat.lt_succ_of_le j)
      exact ⟨fun rb s h1 a f r e w h g d c b=>HD n (fun m j=>(i m j).2.1) rb s h1 a f r e w h g d c b,
        fun rb s h1 a f r e w h g d c b=>wx n (fun m j=>(i m j).2.2.1) rb s h1 a f r e w h g d c b,
        fun rb s h1 a f r e w h g d c b=>B0 n (fun m j=>(i m j).2.2.2.1) rb s h1 a f r e w h g d c b,
        fun rb s h1 a f r e w h g d c b=>D0 n (i n (eb _)).2.2.2.2 rb s h1 a f r e w h g d c b,
        fun rb s h1 a f r e w h g d c b=>GR n (fun m j=>(i m j).1) rb s h1 a f r e w h g d c b⟩
theorem RtH.cutS {sm:ByteArray->Prop}{h:Hp}{d:Nat}{p:RTm}{t:Tm}(x:RtH h p t)(y:SmT sm d t):RmH d h p t:=by obtain ⟨e,x⟩:=x;exact x.cutS y
theorem Iq:∀ s,fJ s->∀ (w:World) (h:Hp),G w h->Calls Tryz.prog 48 #[.string s] w (Ret w h (fun v _=>∃ b,v=.bool b/\b=cD s)):=fun s d w h g =>
 (DO s (by unfold fJ at d;omega) w h g).mono fun e w' ⟨v,a,f,u,c⟩=>⟨v,a,f,u,_,c,rfl⟩
theorem rD (s:ByteArray)(hsz:s.size<=65536)(w:World)(h:Hp)(g:G w h)(tb:Tab h):CR 5 #[.string s] w h (fun v h1=>∃ (x:RTm)(e l a:Int),v=.tuple #[aY x,.agg #[iV e,iV l,iV a]]/\FaP s e l a/\PaR s h1 x e):=by
 have d:=((sS g).add (K:=fun M=>Tab M) tb);refine go Tryz.func5 [(0,.string s)] rfl (aG (lA 2 45 (ax ⟨0,0,false,none,0,0,none,0,0,⟨#[]⟩,none,0,0⟩) d (fun u w2 h3 d=>lA 3 47 ([iV 0,iV 0,iV 0]) d (fun z w5 h6 d=>ai (aa d [.c,.v (nV s.size)] ?_)))));have V:(decide ((65536:Int)<(s.size:Int)))=false:=decide_eq_false oM;refine lB 9 V (ah (cK (aa d [.c,.v (.agg #[.string s,iV 0,iV (-1)])] (lA 14 64 ([.string s,iV 0,iV (-1)]) d (fun b8 w9 _ d=>lL d ac (aE (lL d ac ?_)))))))
 rcases mR s with ⟨t,b,hq,hb,hr⟩|⟨t,b,hq,hb,hr⟩|⟨b,hq,hr⟩
 .
  refine bn 16 ((Fr (rz s)).1 b8 s oM 0 (JF _) (.ok t b) hq _ _ d.g (d.own 0) (d.jk 0) d.f.1) ?_;rintro _ _ _ W ⟨x,rfl,B,L,hT⟩;replace d:=(d.stepM 0 W L).to [⟨b8,64,[.string s,nV b,iV (-1)]⟩,⟨z,47,[iV 0,iV 0,iV 0]⟩,⟨u,45,ax ⟨0,0,false,none,0,0,none,0,0,⟨#[]⟩,none,0,0⟩⟩] [];replace d:=(d.add (K:=fun M=>RtH M x t) hT);have y:=(n3 hq).1;have F:=bD (s:=s) (a:=b) B;refine lA 5 45 (ax ⟨0,0,false,none,0,0,none,0,0,⟨#[]⟩,none,0,0⟩) d (fun zf _ _ d=>lP 0 0 (ax x) d (fun _ d=>ai (aa d [.c,.v (pB b8),.v (qP b8 2),.o (iV (-1)) 1 2 1,.v qT,.c,.c] (bn 24 (mr b8 s oM b B _ _ d.g (d.own 1) (d.jk 1) d.f.2.1) ?_))));rintro _ _ _ Z ⟨rfl,I⟩;replace d:=(d.stepM 1 Z I).to [⟨zf,45,ax x⟩,⟨b8,64,[.string s,nV (sk s b),iV (-1)]⟩,⟨z,47,[iV 0,iV 0,iV 0]⟩,⟨u,45,ax ⟨0,0,false,none,0,0,none,0,0,⟨#[]⟩,none,0,0⟩⟩] [];have h0_:=cw (s:=s) (a:=sk s b) oM;have zg:(((aj s (sk s b):Nat):Int) != (0:Int))=false:=mj oM;refine lB 25 zg (lL d [.v qF,.c,.c,.v (pB b8),.v (qP b8 2),.o (iV (-1)) 1 2 1,.v qT,.c,.c,.v (pB b8),.v (qP b8 1),.o (nV (sk s b)) 1 1 1,.c,.v (nV s.size)] ?_);have zi:(decide (((sk s b:Nat):Int)<(s.size:Int)))=false:=decide_eq_false oM;refine lB 40 zi (lL d [.v qF,.v qF] (ah (cK (cQ (aa d [.c,.v (pB b8),.v (qP b8 2),.o (iV (-1)) 1 2 1,.v qF] (lN (bG [(2,pB u),(3,pB z),(4,pB b8),(5,pB zf),(53,qF)] ?_)))))));refine cV (cK (cQ (aa d [.o (aY x) 0 0 7] (lC 61 d (GV cD fJ Iq s.size x t oM _ _ d.g ((d.f.1).cutS y) y) ?_))));rintro _ _ _ d ⟨e,rfl,D⟩;refine lL d ac (aE (lL d ac ?_));cases S:((e:Int) != (0:Int))
  .
   have zd:=az S;exact lB 63 S (ah (cK (aa d [.o (aY x) 0 0 7,.v (.agg #[iV 0,iV 0,iV 0])] (lP 3 0 (ax x) d (fun _ d=>lP 2 0 ([iV 0,iV 0,iV 0]) d (fun _ d=>af d [(3,0,7),(2,0,3)] (.tuple #[aY x,.agg #[iV 0,iV 0,iV 0]]) (⟨x,0,0,0,rfl,FaP.ok hr (show CkA cD s.size t 0 by rw[<-show e=0 by omega];exact D) (.inl ⟨rfl,rfl,rfl⟩),PaR.mk0 hr (show CkA cD s.size t 0 by rw[<-show e=0 by omega];exact D) ((d.f.1).cutS y)⟩)))))))
  have zd:=a7 S;exact lB 63 S (ak (aa d [.v (aY ⟨0,0,false,none,0,0,none,0,0,⟨#[]⟩,none,0,0⟩),.c,.v (.agg #[iV e,iV 1,iV 0])] (lP 3 0 (ax ⟨0,0,false,none,0,0,none,0,0,⟨#[]⟩,none,0,0⟩) d (fun _ d=>lP 2 0 ([iV e,iV 1,iV 0]) d (fun _ d=>af d [(3,0,7),(2,0,3)] (.tuple #[aY ⟨0,0,false,none,0,0,none,0,0,⟨#[]⟩,none,0,0⟩,.agg #[iV e,iV 1,iV 0]]) (⟨bZ,e,1,0,rfl,FaP.ok hr D (.inr ⟨by omega,rfl,rfl⟩),PaR.mkE oM⟩))))))
 .
  refine bn 16 ((Fr (rz s)).1 b8 s oM 0 (JF _) (.ok t b) hq _ _ d.g (d.own 0) (d.jk 0) d.f.1) ?_;rintro _ _ _ Y ⟨x,rfl,B,L,hT⟩;replace d:=(d.stepM 0 Y L).to [⟨b8,64,[.string s,nV b,iV (-1)]⟩,⟨z,47,[iV 0,iV 0,iV 0]⟩,⟨u,45,ax ⟨0,0,false,none,0,0,none,0,0,⟨#[]⟩,none,0,0⟩⟩] [];replace d:=(d.add (K:=fun M=>RtH M x t) hT);have y:=(n3 hq).1;have F:=bD (s:=s) (a:=b) B;refine lA 5 45 (ax ⟨0,0,false,none,0,0,none,0,0,⟨#[]⟩,none,0,0⟩) d (fun J _ _ d=>lP 0 0 (ax x) d (fun _ d=>ai (aa d [.c,.v (pB b8),.v (qP b8 2),.o (iV (-1)) 1 2 1,.v qT,.c,.c] (bn 24 (mr b8 s oM b B _ _ d.g (d.own 1) (d.jk 1) d.f.2.1) ?_))));rintro _ _ _ X ⟨rfl,I⟩;replace d:=(d.stepM 1 X I).to [⟨J,45,ax x⟩,⟨b8,64,[.string s,nV (sk s b),iV (-1)]⟩,⟨z,47,[iV 0,iV 0,iV 0]⟩,⟨u,45,ax ⟨0,0,false,none,0,0,none,0,0,⟨#[]⟩,none,0,0⟩⟩] [];cases Q:(((aj s (sk s b):Nat):Int) != (0:Int))
  .
   have ze:=az Q;refine lB 25 Q (lL d [.v qF,.c,.c,.v (pB b8),.v (qP b8 2),.o (iV (-1)) 1 2 1,.v qT,.c,.c,.v (pB b8),.v (qP b8 1),.o (nV (sk s b)) 1 1 1,.c,.v (nV s.size)] ?_);have zj:(decide (((sk s b:Nat):Int)<(s.size:Int)))=true:=decide_eq_true oM;refine lB 40 zj (lL d [.v qT,.v qT] (ak (kQ (lL d [.c,.c,.v (pB b8),.v (qP b8 1),.o (nV (sk s b)) 1 1 1] (bn 48 (fd b8 s oM (sk s b) oM (sk s b) _ _ d.g (d.own 1) (d.jk 1) d.f.2.1) ?_)))));rintro _ _ _ u44 ⟨rfl,H⟩;replace d:=(d.stepM 1 u44 H).to [⟨J,45,ax x⟩,⟨b8,64,[.string s,nV s.size,nV (sk s b)]⟩,⟨z,47,[iV 0,iV 0,iV 0]⟩,⟨u,45,ax ⟨0,0,false,none,0,0,none,0,0,⟨#[]⟩,none,0,0⟩⟩] [];refine lN (bG [(2,pB u),(3,pB z),(4,pB b8),(5,pB J)] ?_);refine cQ (aa d [.c,.v (pB b8),.v (qP b8 2),.o (nV (sk s b)) 1 2 1] ?_);have zk:(decide ((0:Int)<=((sk s b:Nat):Int)))=true:=decide_eq_true oM;refine lB 53 zk (ak (cQ ?_));have C:=d;refine xK 6 [] [u,z] mixed d aw (eV 0 54 (aY ⟨0,0,false,none,0,0,none,0,0,⟨#[]⟩,none,0,0⟩) (eV 1 55 (pB b8) (eV 2 56 (pB b8) (eV 3 57 (qP b8 2) (uA 4 58 [(1,2,1)] (nV (sk s b)) C d ?_ (hM:=fun p O=>by obtain rfl:=o0.1 O;exact fun k=>by rcases gq.1 k with e|k;exact cB d.st (i:=1) (j:=3) kR kR kR e;rcases gq.1 k with e|k;exact cB d.st (i:=1) (j:=2) kR kR kR e;cases k))))));refine eV 5 59 (.agg #[iV 2,iV 1,nV (sk s b)]) (cG d (fun _ _ d=>tP 6 3 0 (ax ⟨0,0,false,none,0,0,none,0,0,⟨#[]⟩,none,0,0⟩) d (fun _ d=>?_) (hz:=cO (JO))));refine tP 7 2 0 ([iV 2,iV 1,nV (sk s b)]) d (fun _ d=>?_) (hz:=cO (JP _<|JO));exact tN (kX (d.ret [(3,0,7),(2,0,3)] (.tuple #[aY ⟨0,0,false,none,0,0,none,0,0,⟨#[]⟩,none,0,0⟩,.agg #[iV 2,iV 1,nV (sk s b)]]) (⟨bZ,2,1,(sk s b:Nat),rfl,FaP.err hr,PaR.mkE kD⟩)))
  have ze:=a7 Q;refine lB 25 Q (lL d [.v qT,.c] (lG 28 ?_));refine lG 29 (lG 30 (lG 31 (lG 32 (lG 33 (lG 34 (lG 35 (lG 36 (lG 37 (lG 38 (lG 39 (lG 40 (lG 41 (lL d [.v qT] (ak (kQ (lL d [.c,.c,.v (pB b8),.v (qP b8 1),.o (nV (sk s b)) 1 1 1] (bn 48 (fd b8 s oM (sk s b) oM (sk s b) _ _ d.g (d.own 1) (d.jk 1) d.f.2.1) ?_)))))))))))))))));rintro _ _ _ U ⟨rfl,H⟩;replace d:=(d.stepM 1 U H).to [⟨J,45,ax x⟩,⟨b8,64,[.string s,nV s.size,nV (sk s b)]⟩,⟨z,47,[iV 0,iV 0,iV 0]⟩,⟨u,45,ax ⟨0,0,false,none,0,0,none,0,0,⟨#[]⟩,none,0,0⟩⟩] [];refine lN (bG [(2,pB u),(3,pB z),(4,pB b8),(5,pB J)] ?_);refine cQ (aa d [.c,.v (pB b8),.v (qP b8 2),.o (nV (sk s b)) 1 2 1] ?_);have zl:(decide ((0:Int)<=((sk s b:Nat):Int)))=true:=decide_eq_true oM;refine lB 53 zl (ak (cQ ?_));have C:=d;refine xK 6 [] [u,z] mixed d aw (eV 0 54 (aY ⟨0,0,false,none,0,0,none,0,0,⟨#[]⟩,none,0,0⟩) (eV 1 55 (pB b8) (eV 2 56 (pB b8) (eV 3 57 (qP b8 2) (uA 4 58 [(1,2,1)] (nV (sk s b)) C d ?_ (hM:=fun p O=>by obtain rfl:=o0.1 O;exact fun k=>by rcases gq.1 k with e|k;exact cB d.st (i:=1) (j:=3) kR kR kR e;rcases gq.1 k with e|k;exact cB d.st (i:=1) (j:=2) kR kR kR e;cases k))))));refine eV 5 59 (.agg #[iV 2,iV 1,nV (sk s b)]) (cG d (fun _ _ d=>tP 6 3 0 (ax ⟨0,0,false,none,0,0,none,0,0,⟨#[]⟩,none,0,0⟩) d (fun _ d=>?_) (hz:=cO (JO))));refine tP 7 2 0 ([iV 2,iV 1,nV (sk s b)]) d (fun _ d=>?_) (hz:=cO (JP _<|JO));exact tN (kX (d.ret [(3,0,7),(2,0,3)] (.tuple #[aY ⟨0,0,false,none,0,0,none,0,0,⟨#[]⟩,none,0,0⟩,.agg #[iV 2,iV 1,nV (sk s b)]]) (⟨bZ,2,1,(sk s b:Nat),rfl,FaP.err hr,PaR.mkE kD⟩)))
 refine bn 16 ((Fr (rz s)).1 b8 s oM 0 (JF _) (.err b) hq _ _ d.g (d.own 0) (d.jk 0) d.f.1) ?_;rintro _ _ _ u60 ⟨x,rfl,L⟩;replace d:=(d.stepM 0 u60 L).to [⟨b8,64,[.string s,nV s.size,nV b]⟩,⟨z,47,[iV 0,iV 0,iV 0]⟩,⟨u,45,ax ⟨0,0,false,none,0,0,none,0,0,⟨#[]⟩,none,0,0⟩⟩] [];refine lA 5 45 (ax ⟨0,0,false,none,0,0,none,0,0,⟨#[]⟩,none,0,0⟩) d (fun zp _ _ d=>lP 0 0 (ax x) d (fun _ d=>ai (aa d [.c,.v (pB b8),.v (qP b8 2),.o (nV b) 1 2 1] ?_)));have zm:(decide ((b:Int)<(0:Int)))=false:=decide_eq_false oM;refine lB 21 zm (lL d ac (lG 23 ?_));refine lG 24 (lG 25 (lL d [.v qF,.c,.c,.v (pB b8),.v (qP b8 2),.o (nV b) 1 2 1] ?_));have zn:(decide ((b:Int)<(0:Int)))=false:=decide_eq_false oM;refine lB 32 zn (lL d ac (lG 34 ?_));refine lG 35 (lG 36 (lG 37 (lG 38 (lG 39 (lG 40 (lL d [.v qF,.v qF] (ah (cK (cQ (aa d [.c,.v (pB b8),.v (qP b8 2),.o (nV b) 1 2 1] ?_))))))))));have zo:(decide ((0:Int)<=(b:Int)))=true:=decide_eq_true oM;refine lB 53 zo (lN (bG [(2,pB u),(3,pB z),(4,pB b8),(5,pB zp),(53,qT)] ?_));refine ci (cQ ?_);have C:=d;refine xK 6 [] [u,z] mixed d aw (eV 0 54 (aY ⟨0,0,false,none,0,0,none,0,0,⟨#[]⟩,none,0,0⟩) (eV 1 55 (pB b8) (eV 2 56 (pB b8) (eV 3 57 (qP b8 2) (uA 4 58 [(1,2,1)] (nV b) C d ?_ (hM:=fun p O=>by obtain rfl:=o0.1 O;exact fun k=>by rcases gq.1 k with e|k;exact cB d.st (i:=1) (j:=3) kR kR kR e;rcases gq.1 k with e|k;exact cB d.st (i:=1) (j:=2) kR kR kR e;cases k))))));refine eV 5 59 (.agg #[iV 2,iV 1,nV b]) (cG d (fun _ _ d=>tP 6 3 0 (ax ⟨0,0,false,none,0,0,none,0,0,⟨#[]⟩,none,0,0⟩) d (fun _ d=>?_) (hz:=cO (JO))));refine tP 7 2 0 ([iV 2,iV 1,nV b]) d (fun _ d=>?_) (hz:=cO (JP _<|JO));exact tN (kX (d.ret [(3,0,7),(2,0,3)] (.tuple #[aY ⟨0,0,false,none,0,0,none,0,0,⟨#[]⟩,none,0,0⟩,.agg #[iV 2,iV 1,nV b]]) (⟨bZ,2,1,(b:Nat),rfl,FaP.err hr,PaR.mkE kD⟩)))
theorem s7 (s:ByteArray)(hsz:s.size<=65536)(w:World)(h:Hp)(g:G w h)(tb:Tab h):CR 4 #[.string s] w h (fun v h1=>∃ (p:PTm)(e l a:Int),v=.tuple #[a8 p,.agg #[iV e,iV l,iV a]]/\FaP s e l a/\PaP s h1 p e):=by
 have d:=((sS g).add (K:=fun I=>Tab I) tb);refine go Tryz.func4 [(0,.string s)] rfl (aG (lA 2 31 a2 d (fun y w2 h3 d=>lA 3 34 ([iV 0,iV 0,iV 0]) d (fun z w5 h6 d=>ai (aa d [.c,.v (nV s.size)] ?_)))));have U:(decide ((65536:Int)<(s.size:Int)))=false:=decide_eq_false oM;refine lB 9 U (ah (cK (aa d [.c,.v (.agg #[.string s,iV 0,iV 0])] (lA 14 56 ([.string s,iV 0,iV 0]) d (fun b8 w9 _ d=>lL d ac (aE (lL d ac ?_)))))))
 rcases mR s with ⟨t,b,hq,hb,hr⟩|⟨t,b,hq,hb,hr⟩|⟨b,hq,hr⟩
 .
  refine bn 16 ((Ci Hr Hw H4 (rz s)).1 b8 s oM 0 (JF _) 0 t b hq _ _ d.g (d.own 0) (d.jk 0) d.f.1) ?_;rintro _ _ _ V ⟨M,p,rfl,u,H,X,Z⟩;replace d:=(d.stepM 0 V H).to [⟨b8,56,[.string s,nV b,iV 0]⟩,⟨z,34,[iV 0,iV 0,iV 0]⟩,⟨y,31,[iV 0,iV 0,qF,uV 0,eS,uV 0,eS,eS,sZ]⟩] [];replace d:=((d.a_Seg X).add (K:=fun I=>PtH I p t) Z);have k:=(n3 hq).1;refine lL d ac (ai (aa d [.c,.v qT] (ak (aa d ac ?_))));have C:=bD (s:=s) (a:=b) u;refine bn 20 (iH b8 s oM b u 0 _ _ d.g (d.own 0) (d.jk 0) d.f.r.1) ?_;rintro _ _ _ S ⟨rfl,F⟩;replace d:=(d.stepM 0 S F).to [⟨b8,56,[.string s,nV (sk s b),iV 0]⟩,⟨z,34,[iV 0,iV 0,iV 0]⟩,⟨y,31,[iV 0,iV 0,qF,uV 0,eS,uV 0,eS,eS,sZ]⟩] [];refine aE (lL d [.c,.v (pB b8),.v (qP b8 1),.o (nV (sk s b)) 0 1 1,.c,.v (nV s.size)] ?_);have zc:(decide (((sk s b:Nat):Int)<(s.size:Int)))=false:=decide_eq_false oM;refine lB 27 zc (ah (cK (cQ (aa d [.c,.v qF] (ah (cK (cQ (aa d [.c,.v (pB M)] (lH 44 (a8 p) d d.f.2.1 ?_)))))))));refine lC 45 d (Gl cD fJ wu s.size p t _ _ d.g ((d.f.1).cutS k) k) ?_;rintro _ _ _ d ⟨e,rfl,B⟩;refine lL d ac (aE (lL d ac ?_));cases J:((e:Int) != (0:Int))
  .
   have zb:=az J;refine lB 47 J (ah (cK (aa d [.c,.v (pB M)] (lH 53 (a8 p) d d.f.2.1 ?_))));exact lL d [.v (.agg #[iV 0,iV 0,iV 0])] (lP 2 0 (bv p) d (fun _ d=>lP 1 0 ([iV 0,iV 0,iV 0]) d (fun _ d=>af d [(2,0,9),(1,0,3)] (.tuple #[a8 p,.agg #[iV 0,iV 0,iV 0]]) (⟨p,0,0,0,rfl,FaP.ok hr (show CkA cD s.size t 0 by rw[<-show e=0 by omega];exact B) (.inl ⟨rfl,rfl,rfl⟩),PaP.mk0 hr (show CkA cD s.size t 0 by rw[<-show e=0 by omega];exact B) ((d.f.1).cutS k)⟩))))
  have zb:=a7 J;exact lB 47 J (ak (aa d [.v (.agg #[iV 0,iV 0,qF,uV 0,eS,uV 0,eS,eS,sZ]),.c,.v (.agg #[iV e,iV 1,iV 0])] (lP 2 0 a2 d (fun _ d=>lP 1 0 ([iV e,iV 1,iV 0]) d (fun _ d=>af d [(2,0,9),(1,0,3)] (.tuple #[.agg #[iV 0,iV 0,qF,uV 0,eS,uV 0,eS,eS,sZ],.agg #[iV e,iV 1,iV 0]]) (⟨a6,e,1,0,rfl,FaP.ok hr B (.inr ⟨by omega,rfl,rfl⟩),PaP.mkE oM⟩))))))
 .
  refine bn 16 ((Ci Hr Hw H4 (rz s)).1 b8 s oM 0 (JF _) 0 t b hq _ _ d.g (d.own 0) (d.jk 0) d.f.1) ?_;rintro _ _ _ O ⟨M,p,rfl,u,H,X,Z⟩;replace d:=(d.stepM 0 O H).to [⟨b8,56,[.string s,nV b,iV 0]⟩,⟨z,34,[iV 0,iV 0,iV 0]⟩,⟨y,31,[iV 0,iV 0,qF,uV 0,eS,uV 0,eS,eS,sZ]⟩] [];replace d:=((d.a_Seg X).add (K:=fun I=>PtH I p t) Z);have k:=(n3 hq).1;refine lL d ac (ai (aa d [.c,.v qT] (ak (aa d ac ?_))));have C:=bD (s:=s) (a:=b) u;refine bn 20 (iH b8 s oM b u 0 _ _ d.g (d.own 0) (d.jk 0) d.f.r.1) ?_;rintro _ _ _ W ⟨rfl,F⟩;replace d:=(d.stepM 0 W F).to [⟨b8,56,[.string s,nV (sk s b),iV 0]⟩,⟨z,34,[iV 0,iV 0,iV 0]⟩,⟨y,31,[iV 0,iV 0,qF,uV 0,eS,uV 0,eS,eS,sZ]⟩] [];refine aE (lL d [.c,.v (pB b8),.v (qP b8 1),.o (nV (sk s b)) 0 1 1,.c,.v (nV s.size)] ?_);have zd:(decide (((sk s b:Nat):Int)<(s.size:Int)))=true:=decide_eq_true oM;refine lB 27 zd (ak (kQ (lL d [.c,.c,.v (pB b8),.v (qP b8 1),.o (nV (sk s b)) 0 1 1] (bn 33 (ee b8 s oM (sk s b) oM 0 (sk s b) oM _ _ d.g (d.own 0) (d.jk 0) d.f.r.1) ?_))));rintro _ _ _ Q ⟨rfl,Y⟩;replace d:=(d.stepM 0 Q Y).to [⟨b8,56,[.string s,nV (sk s b),nV (sk s b)]⟩,⟨z,34,[iV 0,iV 0,iV 0]⟩,⟨y,31,[iV 0,iV 0,qF,uV 0,eS,uV 0,eS,eS,sZ]⟩] [];refine lL d ac (ai (aa d [.c,.v qT] (ak (cQ ?_))));have D:=d;refine xK 6 [] [y,z] mixed d aw (eV 0 36 (.agg #[iV 0,iV 0,qF,uV 0,eS,uV 0,eS,eS,sZ]) (eV 1 37 (pB b8) (eV 2 38 (pB b8) (eV 3 39 (qP b8 2) (uA 4 40 [(0,2,1)] (nV (sk s b)) D d ?_ (hM:=fun p hp=>by obtain rfl:=o0.1 hp;exact fun x=>by rcases gq.1 x with e|x;exact cB d.st (i:=0) (j:=2) kR kR kR e;rcases gq.1 x with e|x;exact cB d.st (i:=0) (j:=1) kR kR kR e;cases x))))));refine eV 5 41 (.agg #[iV 2,iV 1,nV (sk s b)]) (cG d (fun _ _ d=>tP 6 2 0 a2 d (fun _ d=>?_) (hz:=cO (JO))));refine tP 7 1 0 ([iV 2,iV 1,nV (sk s b)]) d (fun _ d=>?_) (hz:=cO (JP _<|JO));exact tN (kX (d.ret [(2,0,9),(1,0,3)] (.tuple #[.agg #[iV 0,iV 0,qF,uV 0,eS,uV 0,eS,eS,sZ],.agg #[iV 2,iV 1,nV (sk s b)]]) (⟨a6,2,1,(sk s b:Nat),rfl,FaP.err hr,PaP.mkE kD⟩)))
 refine bn 16 ((GK Hr Hw H4 HU HJ H0 (rz s)).1 b8 s oM 0 (JF _) 0 b hq _ _ d.g (d.own 0) (d.jk 0) d.f.1) ?_;rintro _ _ _ L ⟨ae,rfl,hae,H⟩;replace d:=(d.stepM 0 L H).to [⟨b8,56,[.string s,nV ae,nV b]⟩,⟨z,34,[iV 0,iV 0,iV 0]⟩,⟨y,31,[iV 0,iV 0,qF,uV 0,eS,uV 0,eS,eS,sZ]⟩] [];refine lL d ac (ai (aa d [.c,.v qF] (ah (cK (cQ (aa d [.c,.v qT] (ak (cQ ?_))))))));have D:=d;refine xK 6 [] [y,z] mixed d aw (eV 0 36 (.agg #[iV 0,iV 0,qF,uV 0,eS,uV 0,eS,eS,sZ]) (eV 1 37 (pB b8) (eV 2 38 (pB b8) (eV 3 39 (qP b8 2) (uA 4 40 [(0,2,1)] (nV b) D d ?_ (hM:=fun p hp=>by obtain rfl:=o0.1 hp;exact fun x=>by rcases gq.1 x with e|x;exact cB d.st (i:=0) (j:=2) kR kR kR e;rcases gq.1 x with e|x;exact cB d.st (i:=0) (j:=1) kR kR kR e;cases x))))));refine eV 5 41 (.agg #[iV 2,iV 1,nV b]) (cG d (fun _ _ d=>tP 6 2 0 a2 d (fun _ d=>?_) (hz:=cO (JO))));refine tP 7 1 0 ([iV 2,iV 1,nV b]) d (fun _ d=>?_) (hz:=cO (JP _<|JO));exact tN (kX (d.ret [(2,0,9),(1,0,3)] (.tuple #[.agg #[iV 0,iV 0,qF,uV 0,eS,uV 0,eS,eS,sZ],.agg #[iV 2,iV 1,nV b]]) (⟨a6,2,1,(b:Nat),rfl,FaP.err hr,PaP.mkE kD⟩)))
theorem uY (q:Rat)(w:World)(h:Hp)(g:G w h):CV 88 #[qv q] w h (a8 ⟨1,0,q,⟨#[]⟩,none,0,0⟩):=by
 have a:=sS g;exact go Tryz.func88 [(0,qv q)] rfl (aG (lA 1 28 (qc q) a (fun c w2 i a=>lA 2 31 a2 a (fun b f e a=>aE (lL a [.o (qv q) 1 0 5,.v (a8 ⟨1,0,q,⟨#[]⟩,none,0,0⟩)] (lP 0 0 (bv ⟨1,0,q,⟨#[]⟩,none,0,0⟩) a (fun d a=>af a [(0,0,9)] (a8 ⟨1,0,q,⟨#[]⟩,none,0,0⟩) rfl)))))))
theorem qB (n:Int)(h0 : -1000<=n)(h1:n<=1000)(w:World)(h:Hp)(g:G w h):CV 57 #[iV n] w h (a8 ⟨1,0,((n:Int):Rat),⟨#[]⟩,none,0,0⟩):=by
 have a:=sS g;exact go Tryz.func57 [(0,iV n)] rfl (aG (lA 2 31 a2 a (fun c w2 i a=>aE (lL a ac (aq 4 a (IC (n) oM oM _ _ a.g) (fun e f a=>aq 5 a (uY (((n:Int):Rat)) _ _ a.g) (fun d b a=>lP 0 0 (bv (⟨1,0,((n:Int):Rat),⟨#[]⟩,none,0,0⟩:PTm)) a (fun j a=>af a [(0,0,9)] (a8 (⟨1,0,((n:Int):Rat),⟨#[]⟩,none,0,0⟩:PTm)) rfl))))))))
theorem Hu (p:PTm)(n:Int)(e:Bool)(h0 : -1000<=n)(h1:n<=1000)(j:LQ 100000000 p.q)(i:p.op=1->(fs p.q ((n:Int):Rat) == 0)=e)(c:p.op≠1->e=false)(w:World)(h:Hp)(g:G w h):CV 91 #[a8 p,iV n] w h (.bool e):=by
 have a:=sS g;refine go Tryz.func91 [(0,a8 p),(1,iV n)] rfl (aG (lA 2 31 (bv p) a (fun k w2 z a=>lL a ac (ai (cR 11 [] mixed a aw ?_)))));refine eV 0 5 (pB k) (eO 1 6 [(0,0,1)] (iV p.op) a ?_);cases b:((p.op:Int) == (1:Int))
 .
  have d:=ao b;exact eB 2 7 b (eV 3 8 qF (eG 4 9 (eG 5 10 (eG 6 11 (eG 7 12 (eG 8 13 (eG 9 14 (eV 10 15 qF (cG a (fun u y a=>tV 11 4 qF (tN (kX (a.ret [] qF (congrArg Value.bool (by first|exact (c oM).symm|(rw[<-i oM];exact (by assumption:(_ == _)=_).symm))))))))))))))))
 have d:=eq_of_beq b;refine eB 2 7 b (eV 3 8 qT (eV 4 9 (qP k 2) (eO 5 10 [(0,2,5)] (qv p.q) a (eV 6 11 (iV n) (aK 7 12 a (fun _ _ a=>IC (n) oM oM _ _ a.g) (fun o B a=>aK 8 13 a (fun _ _ a=>HM p.q ((n:Int):Rat) j ((LQ.int oM oM).mono oM) _ _ a.g) (fun x _ a=>?_)))))));cases f:((fs p.q ((n:Int):Rat):Int) == (0:Int))
 .
  have l:=ao f;exact eB 9 14 f (eV 10 15 qF (cG a (fun _ _ a=>tV 11 4 qF (tN (kX (a.ret [] qF (congrArg Value.bool (by first|exact (c oM).symm|(rw[<-i oM];exact (by assumption:(_ == _)=_).symm)))))))))
 have l:=eq_of_beq f;exact eB 9 14 f (eV 10 15 qT (cG a (fun _ _ a=>tV 11 4 qT (tN (kX (a.ret [] qT (congrArg Value.bool (by first|exact (c oM).symm|(rw[<-i oM];exact (by assumption:(_ == _)=_).symm)))))))))
theorem wi (op n:Int)(q:Rat)(s:ByteArray)(A:Z9)(c:Nat)(ps:List PTm)(L:ps.length<=2)(hnf:∃ i,i<ps.length/\(ps.getD i a6).op≠1)(w:World)(h:Hp)(g:G w h)(I:SlO 9 bv a6 h A ps):CV 90 #[a8 ⟨op,n,q,s,A,ps.length,c⟩] w h (.tuple #[.agg #[.bool false,uV 0,eS,uV 0,eS],.bool false]):=by
 have a:=((sS g).aS I);refine go Tryz.func90 [(0,a8 ⟨op,n,q,s,A,ps.length,c⟩)] rfl (aG (lA 1 31 (bv ⟨op,n,q,s,A,ps.length,c⟩) a (fun p w2 V a=>lA 2 28 a1 a (fun B O J a=>lL a ac (ai (aa a [.v (qP p 8),.o (qS A ps.length c) 1 8 1,.v (nV ps.length)] ?_))))));cases b:((ps.length:Int) == (0:Int))
 .
  have j:=ao b;refine lB 11 b (ah (cK (cQ (aa a [.v (qP p 8),.o (qS A ps.length c) 1 8 1,.v (nV ps.length),.c] (bx ?_)))));refine bG _ (CG.loop (fun y Γ M=>∃ (k:Nat)(d:Hp),y=ps.length-k/\Γ=[(1,pB p),(2,pB B),(14,qS A ps.length c),(15,nV ps.length),(16,nV k)]/\SS w h M d [⟨B,28,[qF,uV 0,eS,uV 0,eS]⟩,⟨p,31,bv ⟨op,n,q,s,A,ps.length,c⟩⟩] [] [fun d=>SlO 9 bv a6 d A ps]/\k<=ps.length/\(∀ i,i<k->(ps.getD i a6).op=1)) _ ⟨0,J,rfl,rfl,a.to _ _,JF _,(fun i hi=>absurd hi (Ke i))⟩ ?_);rintro _ _ W ⟨k,U,z,rfl,a,Q,e⟩;refine aG ?_;cases u:(decide ((k:Int)<(ps.length:Int)))
  .
   have H:=oF u;refine lB 17 u (ai (cV (CG.exit ?_)))
   show CG _ _ _ _ _ _ _ _
   refine aG ?_
   exfalso
   obtain ⟨i,hi,x⟩:=hnf;exact x (e i oM)
  have H:=oT u;refine lB 17 u (ai (ci (cK (cQ (kZ (aG (lX 18 A ps.length c 9 (k:Nat) k ((a.f.1).ok oM) ?_)))))));refine lH 19 (a8 (ps.getD k a6)) a ((a.f.1).el k oM) (lA 5 31 a2 a (fun D _ F a=>lP 0 0 (bv (ps.getD k a6)) a (fun _ a=>aE (lL a [.v (pB D),.o (iV ((ps.getD k a6).op)) 0 0 1] ?_))));cases l:(((ps.getD k a6).op:Int) != (1:Int))
  .
   have C:=az l;refine lB 22 l (ah (cK (kQ (bg 24 ((k:Nat)+1) (k+1) ?_))));refine lL a ac (lD ?_);intro S K;replace a:=a.drop 1 0;refine ⟨_,_,?_,⟨k+1,F,rfl,rfl,a.to _ _,oM,(fun i hi=>by rcases Kf.1 hi with d|rfl;exact e i d;omega)⟩,K.to _ kR⟩
   omega
  have C:=a7 l;exact lB 22 l (ak (aa a [.v ca] (lP 1 0 a1 a (fun _ a=>lL a ac (af a [(1,0,5)] (.tuple #[.agg #[qF,uV 0,eS,uV 0,eS],qF]) rfl)))))
 have j:=eq_of_beq b;exact lB 11 b (ak (aa a [.v ca] (lP 0 0 a1 a (fun _ a=>lL a ac (af a [(0,0,5)] (.tuple #[.agg #[qF,uV 0,eS,uV 0,eS],qF]) rfl)))))
theorem vv (n:Int)(q:Rat)(s:ByteArray)(A:Z9)(c:Nat)(b d:PTm)(hnf:∃ i,i<([b,d]:List PTm).length/\(([b,d]:List PTm).getD i a6).op≠1)(e:Bool)(x:LQ 100000000 b.q)(y:LQ 100000000 d.q)(j:(((b):PTm).op=1->(fs ((b):PTm).q ((0:Int):Rat) == 0)=false)/\(((b):PTm).op≠1->false=false))(p:(((d):PTm).op=1->(fs ((d):PTm).q ((0:Int):Rat) == 0)=false)/\(((d):PTm).op≠1->false=false))(u:(((b):PTm).op=1->(fs ((b):PTm).q ((1:Int):Rat) == 0)=false)/\(((b):PTm).op≠1->false=false))(k:(((d):PTm).op=1->(fs ((d):PTm).q ((1:Int):Rat) == 0)=e)/\(((d):PTm).op≠1->e=false))  (w:World)(h:Hp)(g:G w h)(D:SlO 9 bv a6 h A ([b,d]:List PTm)):CV 58 #[a8 ⟨5,n,q,s,A,2,c⟩] w h (a8 (if e=true then b else ⟨5,n,q,s,A,2,c⟩)):=by
 have a:=((sS g).aS D);have z:([b,d]:List PTm).length=2:=rfl;refine go Tryz.func58 [(0,a8 ⟨5,n,q,s,A,2,c⟩)] rfl (aG (lA 1 31 (bv ⟨5,n,q,s,A,2,c⟩) a (fun l w2 K a=>lA 2 31 a2 a (fun B I J a=>ai (aa a [.o (a8 ⟨5,n,q,s,A,2,c⟩) 1 0 9] (aq 7 a (wi 5 n q s A c ([b,d]:List PTm) (by rw[z];omega) hnf _ _ a.g a.f.1) (fun H L a=>lL a [.c,.v ca,.v qF] (lA 3 28 a1 a (fun F _ _ a=>lP 0 0 a1 a (fun _ a=>lL a ac (aE (lL a ac (ah (cK (cQ (aa a [.v (pB l),.o (iV 5) 2 0 1] (bx (aa a [.v qF,.c] (ah (aa a [.v qF,.c] (ah (aa a [.v qT,.c] (ak (cQ (aa a [.v (qP l 8),.o (qS A 2 c) 2 8 1] (lX 61 A 2 c 9 0 0 ((a.f.1).ok oM) ?_))))))))))))))))))))))))));refine lH 62 (a8 (([b,d]:List PTm).getD 0 a6)) a ((a.f.1).el 0 oM) (aq 63 a (Hu (([b,d]:List PTm).getD 0 a6) 0 false kD kD x j.1 j.2 _ _ a.g) (fun _ _ a=>lL a [.c,.v (qP l 8),.o (qS A 2 c) 2 8 1] (lX 67 A 2 c 9 1 1 ((a.f.1).ok oM) ?_)));refine lH 68 (a8 (([b,d]:List PTm).getD 1 a6)) a ((a.f.1).el 1 oM) (aq 69 a (Hu (([b,d]:List PTm).getD 1 a6) 0 false kD kD y p.1 p.2 _ _ a.g) (fun _ _ a=>lL a [.v qF] (ah (cK (cQ (aa a [.v (qP l 8),.o (qS A 2 c) 2 8 1] (lX 74 A 2 c 9 0 0 ((a.f.1).ok oM) ?_)))))));refine lH 75 (a8 (([b,d]:List PTm).getD 0 a6)) a ((a.f.1).el 0 oM) (aq 76 a (Hu (([b,d]:List PTm).getD 0 a6) 1 false kD kD x u.1 u.2 _ _ a.g) (fun _ _ a=>ah (cK (aa a [.v (qP l 8),.o (qS A 2 c) 2 8 1] (lX 83 A 2 c 9 1 1 ((a.f.1).ok oM) ?_)))));refine lH 84 (a8 (([b,d]:List PTm).getD 1 a6)) a ((a.f.1).el 1 oM) (aq 85 a (Hu (([b,d]:List PTm).getD 1 a6) 1 e kD kD y k.1 k.2 _ _ a.g) (fun _ _ a=>?_));cases C:(e)
 .
  refine lN (bG [(1,pB l),(2,pB B),(85,qF)] ?_);exact cV (cK (aa a [.o (a8 ⟨5,n,q,s,A,2,c⟩) 2 0 9] (lP 1 0 (bv ⟨5,n,q,s,A,2,c⟩) a (fun _ a=>af a [(1,0,9)] (a8 ⟨5,n,q,s,A,2,c⟩) (by first|rfl|(rw[(by assumption:e=false)];rfl))))))
 refine lN (bG [(1,pB l),(2,pB B),(85,qT)] ?_);refine ci (aa a [.v (qP l 8),.o (qS A 2 c) 2 8 1] (lX 88 A 2 c 9 0 0 ((a.f.1).ok oM) ?_));exact lH 89 (a8 (([b,d]:List PTm).getD 0 a6)) a ((a.f.1).el 0 oM) (lP 1 0 (bv (([b,d]:List PTm).getD 0 a6)) a (fun _ a=>af a [(1,0,9)] (a8 (([b,d]:List PTm).getD 0 a6)) (by first|rfl|(rw[(by assumption:e=true)];rfl))))
theorem oY (n:Int)(q:Rat)(s:ByteArray)(A:Z9)(c:Nat)(b:PTm)(hnf:∃ i,i<([b]:List PTm).length/\(([b]:List PTm).getD i a6).op≠1)(u:n≠0)(w:World)(h:Hp)(g:G w h)(p:SlO 9 bv a6 h A ([b]:List PTm)):CV 58 #[a8 ⟨8,n,q,s,A,1,c⟩] w h (a8 (if n=1 then b else ⟨8,n,q,s,A,1,c⟩)):=by
 have a:=((sS g).aS p);have j:([b]:List PTm).length=1:=rfl;refine go Tryz.func58 [(0,a8 ⟨8,n,q,s,A,1,c⟩)] rfl (aG (lA 1 31 (bv ⟨8,n,q,s,A,1,c⟩) a (fun d w2 C a=>lA 2 31 a2 a (fun D z B a=>ai (aa a [.o (a8 ⟨8,n,q,s,A,1,c⟩) 1 0 9] (aq 7 a (wi 8 n q s A c ([b]:List PTm) (by rw[j];omega) hnf _ _ a.g a.f.1) (fun y F a=>lL a [.c,.v ca,.v qF] (lA 3 28 a1 a (fun x _ _ a=>lP 0 0 a1 a (fun _ a=>lL a ac (aE (lL a ac (ah (cK (cQ (aa a [.v (pB d),.o (iV 8) 2 0 1] (bx (aa a [.v qF,.c] (ah (aa a [.v qF,.c] (ah (aa a [.v qF,.c] (ah (aa a [.v qF,.c] (ah (aa a [.v qF,.c] (ah (aa a [.v qT,.c] (ak (cQ (aa a [.v (qP d 1),.o (iV n) 2 1 1] ?_)))))))))))))))))))))))))))))));have l:((n:Int) == (0:Int))=false:=hC oM;refine lB 120 l (ah (cK (aa a [.v (qP d 1),.o (iV n) 2 1 1] ?_)));cases e:((n:Int) == (1:Int))
 .
  have k:=ao e;exact lB 124 e (ah (cK (aa a [.o (a8 ⟨8,n,q,s,A,1,c⟩) 2 0 9] (lP 1 0 (bv ⟨8,n,q,s,A,1,c⟩) a (fun _ a=>af a [(1,0,9)] (a8 ⟨8,n,q,s,A,1,c⟩) (by first|(rw[if_neg oM];done)|(rw[if_neg oM];rfl)))))))
 have k:=eq_of_beq e;refine lB 124 e (ak (aa a [.v (qP d 8),.o (qS A 1 c) 2 8 1] (lX 127 A 1 c 9 0 0 ((a.f.1).ok oM) ?_)));exact lH 128 (a8 (([b]:List PTm).getD 0 a6)) a ((a.f.1).el 0 oM) (lP 1 0 (bv (([b]:List PTm).getD 0 a6)) a (fun _ a=>af a [(1,0,9)] (a8 (([b]:List PTm).getD 0 a6)) (by rw[if_pos oM];rfl)))
section
variable {M:Ms}{P:Program}{n:Nat}{N R:Po}{X:Nat->Po}{ops:Array Oper}{k0:Nat}{L:Array Bool}{Γ:ck}{w:World}{h:Hp}{w0:World}{h0:Hp}{B:List Bx}{Rs:List Rw}{F:List (Hp->Prop)}
def sP (ops:Array Oper)(k0:Nat)(L:Array Bool)(i j:Nat):Bool :=
  decide (i<ops.size) && decide (j<ops.size) && decide (k0<=i) && decide (k0<=j) && Region.noSelect ops && (Region.ready .any ops L == [i,j])
theorem A.two {a:Act}{i j:Nat}(d:sP ops k0 L i j=true){Q:Exit->Act->World->Prop}{f R2:Value->World->Prop}(h1:OpR P ops (av ops i) a w f)(p:OpR P ops (av ops j) a w R2)(e:∀ v w',f v w'->Tl M w w')(c:∀ v w',R2 v w'->Tl M w w')
  (k:∀ v w',f v w'->A M P ops Q k0 (L.setIfInBounds i true) (a.put (av ops i).dst v) w')(h:∀ v w',R2 v w'->A M P ops Q k0 (L.setIfInBounds j true) (a.put (av ops j).dst v) w'):A M P ops Q k0 L a w:=by
 unfold sP at d
 simp only[hN,decide_eq_true_eq,beq_iff_eq] at d
 obtain ⟨⟨⟨⟨⟨c1,c2⟩,o⟩,u⟩,_⟩,l⟩:=d;refine A.intro (fun h0=>by rw[l] at h0;cases h0) (fun q b=>?_);rw[l] at b
 rcases gq.1 b with rfl|b
 ·exact OpR.wpOp (bN c1) h1 (fun v w' hr=>⟨Rl.tl o (e v w' hr),k v w' hr⟩)
 ·rw[o0] at b
  subst b;exact OpR.wpOp (bN c2) p (fun v w' hr=>⟨Rl.tl u (c v w' hr),h v w' hr⟩)
def GN (n:Nat)(ops:Array Oper)(Γ:ck)(i t:Nat):Bool:=Region.noSelect ops && decide (i<ops.size) && ba Γ (av ops i) && ((av ops i).dst == some t) && decide (t<n) && (bu ops Γ (av ops i) == some true)
theorem rm {i t:Nat}{v:Value}(b:GN n ops Γ i t=true)(hr:(execOp (ev Γ) (av ops i)).run P w=.ok (.value v) w){a:Act}(c:Kn n a Γ):OpR P ops (av ops i) a w (fun u w1=>u=v/\w1=w)/\(av ops i).dst=some t/\t<n:=by
 unfold GN at b
 simp only[hN,decide_eq_true_eq,beq_iff_eq] at b
 obtain ⟨⟨⟨⟨⟨e,h0⟩,d⟩,j⟩,h⟩,f⟩:=b;exact ⟨⟨c.want f,.inl ⟨v,w,by rw[c.exec (Region.noSelect_spec e i _ · · (bN h0)) d];exact hr,rfl,rfl⟩⟩,j,h⟩
def Hy (ops:Array Oper)(Γ:ck)(i:Nat):Bool:=Region.noSelect ops && decide (i<ops.size) && ba Γ (av ops i) && ((av ops i).dst == none) && (bu ops Γ (av ops i) == some true)
theorem Dv {i:Nat}{w':World}(b:Hy ops Γ i=true)(hr:(execOp (ev Γ) (av ops i)).run P w=.ok .skip w'){a:Act}(c:Kn n a Γ):OpR P ops (av ops i) a w (fun u w1=>u=undef/\w1=w')/\(av ops i).dst=none:=by
 unfold Hy at b
 simp only[hN,decide_eq_true_eq,beq_iff_eq] at b
 obtain ⟨⟨⟨⟨e,h0⟩,d⟩,h⟩,f⟩:=b;exact ⟨⟨c.want f,.inr (.inl ⟨w',by rw[c.exec (Region.noSelect_spec e i _ · · (bN h0)) d];exact hr,rfl,rfl⟩)⟩,h⟩
theorem IZ (i t:Nat)(ps:List (Nat × Nat × Nat))(v:Value)(j o:Nat)(b:List (Nat × Nat × Nat))(l:Value)(s:SS w0 h0 w h B Rs F)(H:AG M P n N R X ops k0 (L.setIfInBounds i true) ((t,v)::Γ) w)(p:AG M P n N R X ops k0 (L.setIfInBounds j true) ((o,l)::Γ) w)
  (c:(sP ops k0 L i j && GN n ops Γ i t && GN n ops Γ j o)=true:=by kernel_rfl)(f:(bR B ps && bR B b)=true:=by kernel_rfl)(x:bP P (execOp (ev Γ) (av ops i)) (cf B ps)=some (.value v,bO B ps):=by kernel_rfl)(k:bP P (execOp (ev Γ) (av ops j)) (cf B b)=some (.value l,bO B b):=by kernel_rfl):AG M P n N R X ops k0 L Γ w:=by
 simp only[hN] at c f
 intro a d;obtain ⟨C,y,z⟩:=rm c.1.2 (bH _ _ _ _ x (bQ s.st.own ps f.1)) d;obtain ⟨u,D,l2⟩:=rm c.2 (bH _ _ _ _ k (bQ s.st.own b f.2)) d;refine A.two c.1.1 C u (fun _ _ e=>e.2▸Tl.refl _ _) (fun _ _ e=>e.2▸Tl.refl _ _) ?_ ?_
 ·rintro _ _ ⟨rfl,rfl⟩;rw[y];exact H _ (d.put z _)
 ·rintro _ _ ⟨rfl,rfl⟩;rw[D];exact p _ (d.put l2 _)
theorem IN (i t:Nat)(ps:List (Nat × Nat × Nat))(v:Value)(q j o:Nat)(cs:List Value)(s:SS w0 h0 w h B Rs F)(Q:AG M P n N R X ops k0 (L.setIfInBounds i true) ((t,v)::Γ) w)(x:∀ w',SS w0 h0 w' h (fU B j o cs) Rs F->AG M P n N R X ops k0 (L.setIfInBounds q true) Γ w')
  (l:(sP ops k0 L i q && GN n ops Γ i t && Hy ops Γ q)=true:=by kernel_rfl)(J:bR B ps=true:=by kernel_rfl)(D:bP P (execOp (ev Γ) (av ops i)) (cf B ps)=some (.value v,bO B ps):=by kernel_rfl)
  (y:(decide (j<B.length) && decide (o+cs.length<=(aD B j).vs.length))=true:=by kernel_rfl)(u:dw P (execOp (ev Γ) (av ops q))=some (.skip,ml (aD B j).b o cs):=by kernel_rfl)(hz:M.z=none:=by rfl):AG M P n N R X ops k0 L Γ w:=by
 simp only[hN] at l
 have c:=y
 simp only[hN,decide_eq_true_eq] at c
 intro a p;obtain ⟨K,H,I⟩:=rm l.1.2 (bH _ _ _ _ D (bQ s.st.own ps J)) p;obtain ⟨w',f,d,k⟩:=fc _ _ _ _ _ w u (s.st.own _ (bC c.1)) c.2;obtain ⟨C,O⟩:=Dv l.2 f p;refine A.two l.1.1 K C (fun _ _ e=>e.2▸Tl.refl _ _) (fun _ _ _=>Tl.none hz _ _) ?_ ?_
 ·rintro _ _ ⟨rfl,rfl⟩;rw[H];exact Q _ (p.put I _)
 ·rintro _ _ ⟨rfl,rfl⟩
  rw[O];exact x _ (s.put0 c.1 d (s.st.put s.g0 c.1 d k) (kY c.1)) _ p
end
theorem GM (d j:PTm)(hnf:∃ i,i<([d,j]:List PTm).length/\(([d,j]:List PTm).getD i a6).op≠1)(e:Bool)(y:LQ 100000000 d.q)(z:LQ 100000000 j.q)(k:(((d):PTm).op=1->(fs ((d):PTm).q ((0:Int):Rat) == 0)=false)/\(((d):PTm).op≠1->false=false))(p:(((j):PTm).op=1->(fs ((j):PTm).q ((0:Int):Rat) == 0)=false)/\(((j):PTm).op≠1->false=false))(u:(((d):PTm).op=1->(fs ((d):PTm).q ((1:Int):Rat) == 0)=false)/\(((d):PTm).op≠1->false=false))(l:(((j):PTm).op=1->(fs ((j):PTm).q ((1:Int):Rat) == 0)=e)/\(((j):PTm).op≠1->e=false))  (w:World)(h:Hp)(g:G w h):CR 59 #[iV 5,a8 d,a8 j] w h (fun v h1=>∃ b,v=a8 (if e=true then d else ⟨5,0,0,⟨#[]⟩,sB b,2,2⟩)/\SlO 9 bv a6 h1 (sB b) ([d,j]:List PTm)):=by
 have a:=sS g;refine go Tryz.func59 [(0,iV 5),(1,a8 d),(2,a8 j)] rfl (aG (lA 4 31 (bv d) a (fun D w2 J a=>lA 5 31 (bv j) a (fun K C I a=>lA 6 31 a2 a (fun F L H a=>aE (lL a [.c,.o (a8 d) 2 0 9,.o (a8 j) 1 0 9] (lC 10 a (CI 5 d j _ _ a.g) ?_)))))));rintro _ _ _ a ⟨x,rfl,B⟩;replace a:=a.aS B;exact aq 11 a (vv 0 0 ⟨#[]⟩ (sB x) 2 d j hnf e y z k p u l _ _ a.g a.f.1) (fun _ _ a=>lP 0 0 (bv (if e=true then d else ⟨5,0,0,⟨#[]⟩,sB x,2,2⟩)) a (fun _ a=>af a [(0,0,9)] (a8 (if e=true then d else ⟨5,0,0,⟨#[]⟩,sB x,2,2⟩)) (⟨x,rfl,a.f.1⟩)))
theorem Cn (b:PTm)(i:b.op≠1)(w:World)(h:Hp)(g:G w h):CV 60 #[a8 b,iV 1] w h (a8 b):=by
 have a:=sS g;refine go Tryz.func60 [(0,a8 b),(1,iV 1)] rfl (aG (lA 2 31 (bv b) a (fun d w2 y a=>lA 4 31 a2 a (fun k u p a=>aE (lL a [.o (a8 b) 1 0 9] (lC 7 a (CT 8 b _ _ a.g) ?_))))));rintro _ l x a ⟨d,rfl,e⟩;replace a:=a.aS e;exact lA 5 31 a2 a (fun j _ _ a=>lP 0 0 (bv (⟨8,0,0,⟨#[]⟩,sB d,1,1⟩:PTm)) a (fun _ a=>aE (lL a [.c,.v (qP j 1)] (lP 0 1 ([iV 1]) a (fun _ a=>aE (lL a [.o (a8 ⟨(⟨8,0,0,⟨#[]⟩,sB d,1,1⟩:PTm).op,1,(⟨8,0,0,⟨#[]⟩,sB d,1,1⟩:PTm).q,(⟨8,0,0,⟨#[]⟩,sB d,1,1⟩:PTm).s,(⟨8,0,0,⟨#[]⟩,sB d,1,1⟩:PTm).A,(⟨8,0,0,⟨#[]⟩,sB d,1,1⟩:PTm).m,(⟨8,0,0,⟨#[]⟩,sB d,1,1⟩:PTm).c⟩) 0 0 9] (aq 11 a (oY 1 0 ⟨#[]⟩ (sB d) 1 b ⟨0,Nat.one_pos,i⟩ kD _ _ a.g a.f.1) (fun _ _ a=>lP 1 0 (bv b) a (fun _ a=>af a [(1,0,9)] (a8 b) rfl)))))))))
theorem Cc (s:ByteArray)(d:Z9)(b:Nat)(w:World)(h:Hp)(g:G w h):CV 34 #[.agg #[iV 2,iV 0,.bool false,uV 0,eS,uV 0,eS,.string s,.slice d 0 b],.string s] w h (.tuple #[.agg #[iV 2,iV 0,.bool false,uV 0,eS,uV 0,eS,.string s,.slice d 0 b],a8 (⟨1,0,((1:Int):Rat),⟨#[]⟩,none,0,0⟩:PTm)]):=by
 have a:=sS g;refine go Tryz.func34 [(0,.agg #[iV 2,iV 0,qF,uV 0,eS,uV 0,eS,.string s,qS d 0 b]),(1,.string s)] rfl (aG (lA 2 31 ([iV 2,iV 0,qF,uV 0,eS,uV 0,eS,.string s,qS d 0 b]) a (fun e w2 p a=>lA 4 31 a2 a (fun i k j a=>lA 5 31 a2 a (fun l u f a=>ai (aa a [.v (qP e 8),.o (qS d 0 b) 2 8 1,.v (iV 0),.v qT] (ak (cQ (aa a [.v (pB e),.o (iV 2) 2 0 1,.v qT,.c,.v (qP e 7),.o (.string s) 2 7 1,.c] (lV 23 qT ?_ (hr:=rb kR (G1 s))))))))))));refine lL a [.v qT] (ak (cQ (cR 2 [] mixed a aw ?_)));exact eO 0 25 [(2,0,9)] (.agg #[iV 2,iV 0,qF,uV 0,eS,uV 0,eS,.string s,qS d 0 b]) a (aK 1 26 a (fun _ _ a=>qB 1 kD kD _ _ a.g) (fun _ _ a=>cG a (fun _ _ a=>tP 2 1 0 ([iV 2,iV 0,qF,uV 0,eS,uV 0,eS,.string s,qS d 0 b]) a (fun _ a=>tP 3 0 0 (bv (⟨1,0,((1:Int):Rat),⟨#[]⟩,none,0,0⟩:PTm)) a (fun _ a=>tN (kX (a.ret [(1,0,9),(0,0,9)] (.tuple #[.agg #[iV 2,iV 0,qF,uV 0,eS,uV 0,eS,.string s,qS d 0 b],a8 (⟨1,0,((1:Int):Rat),⟨#[]⟩,none,0,0⟩:PTm)]) rfl)))))))
theorem GA:LQ 100000000 (0:Rat):=FC kD
theorem If:LQ 100000000 (((1:Int)):Rat):=(LQ.int kD kD).mono kD
theorem Ir:LQ 100000000 (((2:Int)):Rat):=(LQ.int kD kD).mono kD
theorem AZ (s:ByteArray)(j:Z9)(k:Nat)(A:Z9)(c:Nat)(w:World)(h:Hp)(g:G w h)(I:SlO 9 bv a6 h A ([(⟨2,0,0,s,j,0,k⟩:PTm)]:List PTm)):CR 34 #[.agg #[iV 8,iV 2,.bool false,uV 0,eS,uV 0,eS,eS,.slice A 1 c],.string s] w h (fun v h1=>∃ B b,v=.tuple #[a8 ⟨8,2,0,⟨#[]⟩,sB B,1,1⟩,a8 ⟨5,0,0,⟨#[]⟩,sB b,2,2⟩]/\SlO 9 bv a6 h1 (sB b) [(⟨1,0,((2:Int):Rat),⟨#[]⟩,none,0,0⟩:PTm),(⟨2,0,0,s,j,0,k⟩:PTm)]):=by
 have a:=((sS g).aS I);have y:([(⟨2,0,0,s,j,0,k⟩:PTm)]:List PTm).length=1:=rfl;refine go Tryz.func34 [(0,.agg #[iV 8,iV 2,qF,uV 0,eS,uV 0,eS,eS,qS A 1 c]),(1,.string s)] rfl (aG (lA 2 31 ([iV 8,iV 2,qF,uV 0,eS,uV 0,eS,eS,qS A 1 c]) a (fun u w2 O a=>lA 4 31 a2 a (fun J K M a=>lA 5 31 a2 a (fun F Q L a=>ai (aa a [.v (qP u 8),.o (qS A 1 c) 2 8 1,.v (iV 1),.v qF] (ah (cK (aa a [.v (qP u 8),.o (qS A 1 c) 2 8 1] (lX 32 A 1 c 9 0 0 ((a.f.1).ok oM) ?_))))))))));refine lH 33 (a8 (([(⟨2,0,0,s,j,0,k⟩:PTm)]:List PTm).getD 0 a6)) a ((a.f.1).el 0 oM) (lL a ac (aq 35 a (Cc s j k _ _ a.g) (fun _ _ a=>lL a [.c,.v (.agg #[iV 2,iV 0,qF,uV 0,eS,uV 0,eS,.string s,qS j 0 k]),.v (a8 (⟨1,0,((1:Int):Rat),⟨#[]⟩,none,0,0⟩:PTm))] (lA 6 31 a2 a (fun z _ _ a=>lA 7 31 a2 a (fun H _ _ a=>lP 1 0 ([iV 2,iV 0,qF,uV 0,eS,uV 0,eS,.string s,qS j 0 k]) a (fun _ a=>lP 0 0 (bv (⟨1,0,((1:Int):Rat),⟨#[]⟩,none,0,0⟩:PTm)) a (fun _ a=>aE (lL a [.o (.agg #[iV 2,iV 0,qF,uV 0,eS,uV 0,eS,.string s,qS j 0 k]) 1 0 9] (lR 39 31 1 ([iV 2,iV 0,qF,uV 0,eS,uV 0,eS,.string s,qS j 0 k]) a (fun e _ _ a=>?_)))))))))));replace a:=a.aS (SlO.of_flat (sz:=9) (f:=bv) (d:=a6) (b:=e) (o:=0) (l:=([(⟨2,0,0,s,j,0,k⟩:PTm)]:List PTm)) (fun _=>rfl) a.f.1);refine lL a ac (aE (lL a [.v (.agg #[iV 0,iV 0,qF,uV 0,eS,uV 0,eS,eS,sZ]),.v (.agg #[iV 0,iV 0,qF,uV 0,eS,uV 0,eS,eS,sZ])] (lA 9 31 a2 a (fun C _ _ a=>lA 10 31 a2 a (fun D _ _ a=>lP 1 0 a2 a (fun _ a=>lP 0 0 a2 a (fun _ a=>ai (aa a [.v (qP u 8),.o (qS A 1 c) 6 8 1,.v (iV 1),.v qF] (ah (cK (aa a [.v (pB u),.o (iV 8) 6 0 1,.v (qP u 1),.o (iV 2) 6 1 1,.c,.v (.agg #[iV 8,iV 2,qF,uV 0,eS,uV 0,eS,eS,qS (sB e) 1 1])] (aq 65 a (oY 2 0 ⟨#[]⟩ (sB e) 1 (⟨2,0,0,s,j,0,k⟩:PTm) ⟨0,Nat.one_pos,by show ¬(2:Int)=1;decide⟩ kD _ _ a.g a.f.1) (fun _ _ a=>lP 5 0 (bv (⟨8,2,0,⟨#[]⟩,sB e,1,1⟩:PTm)) a (fun _ a=>ai (aa a [.v (pB u),.o (iV 8) 6 0 1] (bx (cQ (aa a [.v qF,.c] (lN (bG [(2,pB u),(4,pB J),(5,pB F),(6,pB z),(7,pB H),(9,pB C),(10,pB D),(67,iV 8),(68,qF)] ?_))))))))))))))))))));refine cV (kQ (lL a [.v qF,.c] (ah (aa a [.v qF,.c] (ah (aa a [.v qF,.c] (ah (aa a [.v qF,.c] (ah (aa a [.v qT,.c] (ak (aG (aq 103 a (qB 0 kD kD _ _ a.g) (fun _ _ a=>lP 4 0 (bv (⟨1,0,((0:Int):Rat),⟨#[]⟩,none,0,0⟩:PTm)) a (fun _ a=>aE (lL a [.v (qP u 1),.o (iV 2) 6 1 1,.v qT] (ak (cR 11 [] mixed a aw ?_))))))))))))))))));refine eV 0 107 (qP u 1) (eO 1 108 [(6,1,1)] (iV 2) a (eO 3 110 [(3,0,9)] (.agg #[iV 2,iV 0,qF,uV 0,eS,uV 0,eS,.string s,qS j 0 k]) a (eV 4 111 (qP u 1) (eO 5 112 [(6,1,1)] (iV 2) a (eV 6 113 (iV 1) (eO 9 116 [(2,0,9)] (a8 (⟨1,0,((1:Int):Rat),⟨#[]⟩,none,0,0⟩:PTm)) a (aK 2 109 a (fun _ _ a=>qB 2 kD kD _ _ a.g) (fun _ _ a=>aK 7 114 a (fun _ _ a=>Cn (⟨2,0,0,s,j,0,k⟩:PTm) (by show ¬(2:Int)=1;decide) _ _ a.g) (fun _ _ a=>eC 8 115 a (fun _ _ a=>GM (⟨1,0,((2:Int):Rat),⟨#[]⟩,none,0,0⟩:PTm) (⟨2,0,0,s,j,0,k⟩:PTm) ⟨1,Nat.one_lt_two,by show ¬(2:Int)=1;decide⟩ false Ir GA ⟨fun _=>by decide +kernel,fun i=>absurd rfl i⟩ ⟨fun i=>absurd i (by show ¬(2:Int)=1;decide),fun _=>rfl⟩ ⟨fun _=>by decide +kernel,fun i=>absurd rfl i⟩ ⟨fun i=>absurd i (by show ¬(2:Int)=1;decide),fun _=>rfl⟩ _ _ a.g) ?_)))))))));rintro _ _ _ _ _ a ⟨p,rfl,x⟩;replace a:=a.aS x;refine eC 10 117 a (fun _ _ a=>GM (⟨5,0,0,⟨#[]⟩,sB p,2,2⟩:PTm) (⟨1,0,((1:Int):Rat),⟨#[]⟩,none,0,0⟩:PTm) ⟨0,Nat.zero_lt_two,by show ¬(5:Int)=1;decide⟩ true GA If ⟨fun i=>absurd i (by show ¬(5:Int)=1;decide),fun _=>rfl⟩ ⟨fun _=>by decide +kernel,fun i=>absurd rfl i⟩ ⟨fun i=>absurd i (by show ¬(5:Int)=1;decide),fun _=>rfl⟩ ⟨fun _=>by decide +kernel,fun i=>absurd rfl i⟩ _ _ a.g) ?_;rintro _ _ _ _ _ a ⟨_,rfl,-⟩;refine cG a (fun _ _ a=>tP 11 4 0 (bv (⟨5,0,0,⟨#[]⟩,sB p,2,2⟩:PTm)) a (fun _ a=>tN (cQ (AU ⟨[],none⟩ 0 mixed ?_))));replace a:=a.drew;refine IZ 0 182 [(5,0,9)] (a8 (⟨8,2,0,⟨#[]⟩,sB e,1,1⟩:PTm)) 1 183 [(4,0,9)] (a8 (⟨5,0,0,⟨#[]⟩,sB p,2,2⟩:PTm)) a ?_ ?_
 .
  refine IN 1 183 [(4,0,9)] (a8 (⟨5,0,0,⟨#[]⟩,sB p,2,2⟩:PTm)) 2 5 0 (bv (⟨8,2,0,⟨#[]⟩,sB e,1,1⟩:PTm)) a ?_ (fun _ a=>?_)
  .
   exact tP 2 5 0 (bv (⟨8,2,0,⟨#[]⟩,sB e,1,1⟩:PTm)) a (fun _ a=>tP 3 4 0 (bv (⟨5,0,0,⟨#[]⟩,sB p,2,2⟩:PTm)) a (fun _ a=>tN (kX (a.ret [(5,0,9),(4,0,9)] (.tuple #[a8 (⟨8,2,0,⟨#[]⟩,sB e,1,1⟩:PTm),a8 (⟨5,0,0,⟨#[]⟩,sB p,2,2⟩:PTm)]) (⟨e,p,rfl,a.f.1⟩)))))
  exact tO 1 183 [(4,0,9)] (a8 (⟨5,0,0,⟨#[]⟩,sB p,2,2⟩:PTm)) a (tP 3 4 0 (bv (⟨5,0,0,⟨#[]⟩,sB p,2,2⟩:PTm)) a (fun _ a=>tN (kX (a.ret [(5,0,9),(4,0,9)] (.tuple #[a8 (⟨8,2,0,⟨#[]⟩,sB e,1,1⟩:PTm),a8 (⟨5,0,0,⟨#[]⟩,sB p,2,2⟩:PTm)]) (⟨e,p,rfl,a.f.1⟩)))))
 exact tO 0 182 [(5,0,9)] (a8 (⟨8,2,0,⟨#[]⟩,sB e,1,1⟩:PTm)) a (tP 2 5 0 (bv (⟨8,2,0,⟨#[]⟩,sB e,1,1⟩:PTm)) a (fun _ a=>tP 3 4 0 (bv (⟨5,0,0,⟨#[]⟩,sB p,2,2⟩:PTm)) a (fun _ a=>tN (kX (a.ret [(5,0,9),(4,0,9)] (.tuple #[a8 (⟨8,2,0,⟨#[]⟩,sB e,1,1⟩:PTm),a8 (⟨5,0,0,⟨#[]⟩,sB p,2,2⟩:PTm)]) (⟨e,p,rfl,a.f.1⟩))))))
theorem vg  (ok:ByteArray->Prop)(d:Nat)(ih:∀ (p:PTm) (t:Tm) (w:World) (h:Hp),G w h->TmH d h p t->WfT ok d t ->  Calls Tryz.prog 35 #[a8 p] w (Ret w h (fun v h1=>∃ B,v=a8 B/\TmH d h1 B t)))(op n:Int)(q:Rat)(s:ByteArray)(A:Z9)(c:Nat)(ps:List PTm)(ks:List Tm)(hc:ps.length<=c)(hlp:ps.length<=2)(M:fM op=(ks.length:Nat))(hq0:op≠1->q=0)(hq:LQ 3000 q)(hok:op=2->ok s)(hs0:op≠2->s=⟨#[]⟩)(hn0:op≠8->n=0)(hn1 : -12<=n)(Z:n<=12)(hW:∀ i,i<ks.length->WfT ok d (ks.getD i cc))(w:World)(h:Hp)(g:G w h)(V:SlO 9 bv a6 h A ps)(I:Tms d h ps ks):CR 35 #[a8 ⟨op,n,q,s,A,ps.length,c⟩] w h (fun v h1=>∃ B,v=a8 B/\TmH (d+1) h1 B (.mk op n q s ks)):=by
 have a:=(((sS g).aS V).add (K:=fun e=>Tms d e ps ks) I);have W:=(a.f.1).len;refine go Tryz.func35 [(0,a8 ⟨op,n,q,s,A,ps.length,c⟩)] rfl (aG (lA 1 31 (bv ⟨op,n,q,s,A,ps.length,c⟩) a (fun j w2 h3 a=>lA 2 31 a2 a (fun y w5 h6 a=>ai (aa a [.v (qP j 8),.o (qS A ps.length c) 1 8 1,.v (nV ps.length)] ?_)))));cases u:((ps.length:Int) == (0:Int))
 .
  have C:=ao u;refine lB 9 u (ah (cK (aa a [.v (qP j 8),.o (qS A ps.length c) 1 8 1,.v (nV ps.length)] (lK 15 31 ps.length 9 112 (.agg #[iV 0,iV 0,qF,uV 0,eS,uV 0,eS,eS,sZ]) bv a6 a (fun b8 w9 Y a=>?_)))));have O:(um ps.length a6).length=ps.length:=by simp
  refine lL a ac (ai (aa a [.v (qP j 8),.o (qS A ps.length c) 2 8 1,.v (nV ps.length),.c] (bx ?_)));replace a:=a.add (K:=fun e=>TmsU d e 0 (um ps.length a6) ks) ((fun i hi=>absurd hi (Ke i)));refine bG _ (CG.loop (fun J Γ w_=>∃ (k:Nat)(L:List PTm)(e:Hp),J=ps.length-k/\Γ=[(1,pB j),(2,pB y),(3,qS (sB b8) ps.length ps.length),(17,qS A ps.length c),(18,nV ps.length),(19,nV k)]/\SS w h w_ e [⟨b8,31,(L).flatMap bv⟩,⟨y,31,[iV 0,iV 0,qF,uV 0,eS,uV 0,eS,eS,sZ]⟩,⟨j,31,bv ⟨op,n,q,s,A,ps.length,c⟩⟩] [] [fun e=>TmsU d e k L ks,fun e=>Tms d e ps ks,fun e=>SlO 9 bv a6 e A ps]/\k<=ps.length/\L.length=ps.length) _ ⟨0,um ps.length a6,Y,rfl,rfl,a.to _ _,JF _,(by simp)⟩ ?_);rintro _ _ _ ⟨k,L,_,Q,rfl,a,hk,z⟩;refine aG ?_;cases F:(decide ((k:Int)<(ps.length:Int)))
  .
   have X:=oF F;refine lB 20 F (ai (cV (CG.exit ?_)))
   show CG _ _ _ _ _ _ _ _
   refine aa a [.c,.v (qP j 8)] (lP 2 8 ([qS (sB b8) ps.length ps.length]) a (fun _ a=>aE ?_));have hkn:k=ps.length:=by omega
   obtain ⟨_,a,D,U,S⟩:=a.pub 0;replace a:=(a.to [⟨y,31,[iV 0,iV 0,qF,uV 0,eS,uV 0,eS,eS,sZ]⟩,⟨j,31,bv ⟨op,n,q,s,sB b8,ps.length,ps.length⟩⟩] []).aS (SlO.of_flat (sz:=9) (f:=bv) (d:=a6) (b:=b8) (o:=0) (l:=L) (fun _=>rfl) D);replace a:=a.to [⟨y,31,[iV 0,iV 0,qF,uV 0,eS,uV 0,eS,eS,sZ]⟩,⟨j,31,bv ⟨op,n,q,s,sB b8,ps.length,ps.length⟩⟩] [];exact lL a [.o (a8 ⟨op,n,q,s,sB b8,ps.length,ps.length⟩) 1 0 9] (lP 0 0 (bv ⟨op,n,q,s,sB b8,ps.length,ps.length⟩) a (fun _ a=>af a [(0,0,9)] (a8 ⟨op,n,q,s,sB b8,ps.length,ps.length⟩) (⟨⟨op,n,q,s,sB b8,ps.length,ps.length⟩,rfl,by have e:=TmH.mk (op:=op) (n:=n) (q:=q) (s:=s) (c:=L.length) (Tms.of_u oM oM a.f.2.1) (nR _) (a.f.1);rw[z] at e;exact e⟩)))
  have X:=oT F;refine lB 20 F (ai (ci (cK (cQ (kZ (aa a ac (lX 22 A ps.length c 9 (k:Nat) k ((a.f.r.1).ok oM) ?_)))))));refine lH 23 (a8 (ps.getD k a6)) a ((a.f.r.1).el k oM) (lA 5 31 a2 a (fun ze _ _ a=>lL a ac (lP 0 0 (bv (ps.getD k a6)) a (fun _ a=>lN (kQ (lL a [.c,.c,.o (a8 (ps.getD k a6)) 0 0 9] (lC 27 a (ih (ps.getD k a6) (ks.getD k cc) _ _ a.g ((a.f.2.1).at_ k oM) (hW k oM)) ?_)))))));rintro _ _ zf a ⟨x,rfl,H⟩;replace a:=(a.add (K:=fun e=>TmH d e x (ks.getD k cc)) H);refine lX 28 (sB b8) ps.length ps.length 9 (k:Nat) k rfl (lW 1 L bv 9 k x a oM (fun _ a=>?_));have zc:((L).set k x).length=ps.length:=by rw[Jr];exact z
  replace a:=a.to [⟨ze,31,bv (ps.getD k a6)⟩,⟨b8,31,((L).set k x).flatMap bv⟩,⟨y,31,[iV 0,iV 0,qF,uV 0,eS,uV 0,eS,eS,sZ]⟩,⟨j,31,bv ⟨op,n,q,s,A,ps.length,c⟩⟩] [];refine lN (kQ (bg 29 ((k:Nat)+1) (k+1) ?_));refine lL a ac (lD ?_);intro a_ ka;replace a:=(a.tl.tl.add (K:=fun e=>TmsU d e (k+1) ((L).set k x) ks) ((a.f.2.1).set oM a.f.1));replace a:=a.drop 1 0;refine ⟨_,_,?_,⟨k+1,(L).set k x,zf,rfl,rfl,a.to _ _,oM,zc⟩,ka.to _ kR⟩
  omega
 have C:=eq_of_beq u;exact lB 9 u (ak (aa a [.v (qP j 8)] (lP 1 8 ([sZ]) a (fun _ a=>aE (lL a [.o (a8 ⟨op,n,q,s,none,0,0⟩) 1 0 9] (lP 0 0 (bv ⟨op,n,q,s,none,0,0⟩) a (fun _ a=>af a [(0,0,9)] (a8 ⟨op,n,q,s,none,0,0⟩) (⟨⟨op,n,q,s,none,0,0⟩,rfl,by have e:ks=[]:=List.length_eq_zero_iff.1 oM;subst e;exact TmH.mk (ps:=[]) Tms.nil (nR _) SlO.nil⟩))))))))
theorem rC (ok:ByteArray->Prop):∀ (d:Nat) (p:PTm) (t:Tm) (w:World) (h:Hp),G w h->TmH d h p t->WfT ok d t ->  Calls Tryz.prog 35 #[a8 p] w (Ret w h (fun v h1=>∃ e,v=a8 e/\TmH d h1 e t))
  | 0,_,_,_,_,_,x,_=>x.elim
  | d + 1,p,t,w,h,g,x,wf=>by
    obtain ⟨op,n,q,s,A,c,ps,ks,rfl,rfl,j,i,a⟩:=x.open;obtain ⟨w1,w2,w3,l,k,u,f,y,o⟩:=wf
    have b:ps.length<=2:=by
      have z:fM op=ks.length:=w1;have:=aU op;have:=a.len
      omega
    exact vg ok d (fun p t w h=>rC ok d p t w h) op n q s A c ps ks j b w1 w2 w3 l k u f y o w h g i a
section
variable {ok:ByteArray->Prop}{d:Nat}
theorem xj {q:Rat}(h:LQ 1 q):WfT ok (d+1) (dm q):=⟨rfl,fun h=>absurd rfl h,h.mono kD,fun h=>absurd (show (1:Int)=2 from h) kD,fun _=>rfl,fun _=>rfl,by show (-12:Int)<=0;decide,by show (0:Int)<=12;decide,fun i hi=>absurd hi (Ke i)⟩
theorem nL {s:ByteArray}(h:ok s):WfT ok (d+1) (dE s):=⟨rfl,fun _=>rfl,FC kD,fun _=>h,fun h=>absurd rfl h,fun _=>rfl,by show (-12:Int)<=0;decide,by show (0:Int)<=12;decide,fun i hi=>absurd hi (Ke i)⟩
theorem wP {n:Int}{t:Tm}(x:WfT ok d t)(h1 : -12<=n)(a:n<=12):WfT ok (d+1) (.mk 8 n 0 ⟨#[]⟩ [t]):=⟨rfl,fun _=>rfl,FC kD,fun h=>absurd (show (8:Int)=2 from h) kD,fun _=>rfl,fun h=>absurd rfl h,h1,a,fun i hi=>by
 have:i=0:=by have:i<1:=hi;omega
 subst this;exact x⟩
theorem qe {op:Int}{t u:Tm}(x:WfT ok d t)(y:WfT ok d u)(ha:fM op=2)(a:op≠2):WfT ok (d+1) (bz op t u):=⟨ha,fun _=>rfl,FC kD,fun h=>absurd (show op=2 from h) a,fun _=>rfl,fun _=>rfl,by show (-12:Int)<=0;decide,by show (0:Int)<=12;decide,fun i hi=>by
 have:i=0\/i=1:=by have:i<2:=hi;omega
 rcases this with rfl|rfl
 ·exact x
 ·exact y⟩
end
theorem CD {s:ByteArray}(h:cD s=true):WfT (fun s=>cD s=true) 2 (.mk 8 2 0 ⟨#[]⟩ [dE s]):=wP (nL h) kD kD
theorem vX {s:ByteArray}(h:cD s=true):WfT (fun s=>cD s=true) 2 (bz 5 (dm ((2:Int):Rat)) (dE s)):=qe (xj (LQ.int kD kD)) (nL h) kD kD
theorem CS {s:ByteArray}:d8 2 (.mk 8 2 0 ⟨#[]⟩ [dE s])=2:=rfl
theorem CU {s:ByteArray}:d8 2 (bz 5 (dm ((2:Int):Rat)) (dE s))=2:=rfl
theorem HK {h:Hp}{b:Nat}{s:ByteArray}{a:Z9}{c:Nat}(d:SlO 9 bv a6 h (some ⟨b,0,none⟩) [(⟨1,0,((2:Int):Rat),⟨#[]⟩,none,0,0⟩:PTm),(⟨2,0,0,s,a,0,c⟩:PTm)]):TmH 2 h (⟨5,0,0,⟨#[]⟩,some ⟨b,0,none⟩,2,2⟩:PTm) (bz 5 (dm ((2:Int):Rat)) (dE s)) :=
 TmH.mk (ps:=[(⟨1,0,((2:Int):Rat),⟨#[]⟩,none,0,0⟩:PTm),(⟨2,0,0,s,a,0,c⟩:PTm)]) (ks:=[_,_]) ⟨rfl,fun i hi=>by
  have:i=0\/i=1:=by have:i<2:=hi;omega
  rcases this with rfl|rfl
  ·exact TmH.mk (ps:=[]) (ks:=[]) Tms.nil (eb _) SlO.nil
  ·exact ⟨rfl,rfl,rfl,rfl,rfl,JF _,[],rfl,⟨fun e=>absurd e (Nat.lt_irrefl 0),fun i hi=>absurd hi (Ke i)⟩,fun i hi=>absurd hi (Ke i)⟩⟩ (eb _) d
theorem uQ {h:Hp}{p:PTm}{s:ByteArray}(x:TmH 2 h p (.mk 8 2 0 ⟨#[]⟩ [dE s])):∃ (A:Z9)(c:Nat)(Ax:Z9)(cx:Nat),p=⟨8,2,0,⟨#[]⟩,A,1,c⟩/\SlO 9 bv a6 h A [(⟨2,0,0,s,Ax,0,cx⟩:PTm)]:=by
  obtain ⟨h1,I,K,z,M,Q,ps,l,a,C⟩:=x;obtain ⟨op,n,q,H,A,m,c⟩:=p;have k:=C 0 (by show 0<1;decide)
  match ps,l,a,k with
  | [px],_,a,k =>
    obtain ⟨D,k2,y,L,B,_⟩:=k;obtain ⟨f,u,o,O,F,J,c'⟩:=px;refine ⟨A,c,F,c',?_,?_⟩
    . have b:op=8:=h1
      have i:n=2:=I;have e:q=0:=K;have j:H=⟨#[]⟩:=z;have d:m=1:=M;rw[b,i,e,j,d]
    . have b:f=2:=D
      have i:u=0:=k2;have e:o=0:=y;have j:O=s:=L;have d:J=0:=B;rw[b,i,e,j,d] at a;exact a
theorem Ff (s:ByteArray)(e:cD s=true)(u:Z9)(x:Nat)(A:Z9)(c:Nat)(w:World)(h:Hp)(g:G w h)(B:SlO 9 bv a6 h A ([(⟨2,0,0,s,u,0,x⟩:PTm)]:List PTm))(C:TmH 2 h ⟨8,2,0,⟨#[]⟩,A,1,c⟩ (.mk 8 2 0 ⟨#[]⟩ [dE s])):CR 18 #[.agg #[iV 8,iV 2,.bool false,uV 0,eS,uV 0,eS,eS,.slice A 1 c],.string s] w h (fun v h1=>∃ i,v=.tuple #[a8 i,iV 0]/\TmH 2 h1 i (bz 5 (dm ((2:Int):Rat)) (dE s))):=by
 have a:=(((sS g).aS B).add (K:=fun b=>TmH 2 b ⟨8,2,0,⟨#[]⟩,A,1,c⟩ (.mk 8 2 0 ⟨#[]⟩ [dE s])) C);refine go Tryz.func18 [(0,.agg #[iV 8,iV 2,qF,uV 0,eS,uV 0,eS,eS,qS A 1 c]),(1,.string s)] rfl (aG (lA 2 31 ([iV 8,iV 2,qF,uV 0,eS,uV 0,eS,eS,qS A 1 c]) a (fun H w2 L a=>lA 4 31 a2 a (fun M F J a=>lL a ac (ai (aa a [.o (.agg #[iV 8,iV 2,qF,uV 0,eS,uV 0,eS,eS,qS A 1 c]) 1 0 9] (aq 10 a ((by have j:=sN cD fJ wu (fun s b=>ox b) BJ 2 ⟨8,2,0,⟨#[]⟩,A,1,c⟩ (.mk 8 2 0 ⟨#[]⟩ [dE s]) oM _ _ a.g a.f.1 (CD e);rw[if_neg (by rw[CS];omega)] at j;exact j)) (fun D O a=>lL a [.v qF] (ah (cK (aa a [.o (.agg #[iV 8,iV 2,qF,uV 0,eS,uV 0,eS,eS,qS A 1 c]) 1 0 9,.c] (lC 16 a (AZ s u x A c _ _ a.g a.f.2.1) ?_))))))))))));rintro _ I _ a ⟨p,d,rfl,l⟩;replace a:=a.aS l;refine lL a [.c,.v (a8 (⟨8,2,0,⟨#[]⟩,sB p,1,1⟩:PTm)),.v (a8 (⟨5,0,0,⟨#[]⟩,sB d,2,2⟩:PTm))] (lA 6 31 a2 a (fun y _ _ a=>lA 7 31 a2 a (fun z _ _ a=>lP 1 0 (bv (⟨8,2,0,⟨#[]⟩,sB p,1,1⟩:PTm)) a (fun _ a=>lP 0 0 (bv (⟨5,0,0,⟨#[]⟩,sB d,2,2⟩:PTm)) a (fun _ a=>ai ?_)))));replace a:=a.add (K:=fun b=>TmH 2 b (⟨5,0,0,⟨#[]⟩,sB d,2,2⟩:PTm) (bz 5 (dm ((2:Int):Rat)) (dE s))) (HK a.f.1);refine aa a [.o (a8 (⟨5,0,0,⟨#[]⟩,sB d,2,2⟩:PTm)) 0 0 9] (aq 20 a ((by have j:=sN cD fJ wu (fun s b=>ox b) BJ 2 (⟨5,0,0,⟨#[]⟩,sB d,2,2⟩:PTm) (bz 5 (dm ((2:Int):Rat)) (dE s)) oM _ _ a.g a.f.1 (vX e);rw[if_neg (by rw[CU];omega)] at j;exact j)) (fun _ _ a=>lL a ac (aE (lL a [.c,.v qF] (ah (cK (aa a [.o (a8 (⟨5,0,0,⟨#[]⟩,sB d,2,2⟩:PTm)) 0 0 9] (lC 26 a (rC (fun s=>cD s=true) 2 (⟨5,0,0,⟨#[]⟩,sB d,2,2⟩:PTm) (bz 5 (dm ((2:Int):Rat)) (dE s)) _ _ a.g a.f.1 (vX e)) ?_))))))));rintro _ _ _ a ⟨i,rfl,k⟩;replace a:=(a.add (K:=fun b=>TmH 2 b i (bz 5 (dm ((2:Int):Rat)) (dE s))) k);exact lP 2 0 (bv i) a (fun _ a=>lL a ac (af a [(2,0,9)] (.tuple #[a8 i,iV 0]) (⟨i,rfl,a.f.1⟩)))
theorem Eo (s:ByteArray)(a:cD s=true)(p:PTm)(w:World)(h:Hp)(g:G w h)(d:TmH 2 h p (.mk 8 2 0 ⟨#[]⟩ [dE s])):CR 18 #[a8 p,.string s] w h (fun v h1=>∃ b,v=.tuple #[a8 b,iV 0]/\TmH 2 h1 b (bz 5 (dm ((2:Int):Rat)) (dE s))):=by
 obtain ⟨A,c,f,i,rfl,e⟩:=uQ d;exact Ff s a f i A c w h g e d
def j9:Tm:=(bz 5 (dE ⟨#[97]⟩) (.mk 8 2 0 ⟨#[]⟩ [bz 3 (dE ⟨#[98]⟩) (dm (((1:Nat):Rat)))]))
theorem Hi:bj FJ (fun _=>none) ⟨#[97,42,40,98,43,49,41,94,50]⟩ 40 .sum 0=some (.ok j9 9):=by kernel_rfl
theorem GH:bj FJ (fun _=>none) ⟨#[120,94,50]⟩ 40 .sum 0=some (.ok (.mk 8 2 0 ⟨#[]⟩ [dE ⟨#[120]⟩]) 3):=by kernel_rfl
theorem DJ:cD ⟨#[120]⟩=true:=by decide +kernel
theorem Da:WfT (fun s=>cD s=true) 4 j9:=qe (nL (by decide +kernel)) (wP (qe (nL (by decide +kernel)) (xj (LQ.int (z:=1) kD kD)) kD kD) kD kD) kD kD
theorem C6:d8 4 j9=5:=rfl
theorem CF:gC 4 j9 0=[97,32,42,32,40,98,32,43,32,49,41,94,50]:=by decide +kernel
theorem CX:gC 2 (bz 5 (dm ((2:Int):Rat)) (dE ⟨#[120]⟩)) 0=[50,32,42,32,120]:=by decide +kernel
section
variable {d:Nat}
theorem Ah {k:Nat}(h:k<100):rW (d+1) (dm ((k:Nat):Rat)):=⟨rfl,⟨by decide,by decide⟩,fun _=>⟨k,h,rfl⟩,⟨by decide,by decide⟩,fun i hi=>absurd hi (Ke i)⟩
theorem qm {s:ByteArray}:rW (d+1) (dE s):=⟨rfl,⟨by decide,by decide⟩,fun h=>absurd h kD,⟨by decide,by decide⟩,fun i hi=>absurd hi (Ke i)⟩
theorem DZ {n:Int}{t:Tm}(h:0<=n/\n<100)(x:rW d t):rW (d+1) (.mk 8 n 0 ⟨#[]⟩ [t]):=⟨rfl,⟨by decide,by decide⟩,fun h=>absurd h kD,h,fun i hi=>by
 have:i=0:=by have:i<1:=hi;omega
 subst this;exact x⟩
theorem rd {op:Int}{t u:Tm}(a:1<op/\op<=8)(ha:fM op=2)(x:rW d t)(y:rW d u):rW (d+1) (bz op t u):=⟨ha,⟨by omega,a.2⟩,fun h=>by omega,⟨by decide,by decide⟩,fun i hi=>by
 have:i=0\/i=1:=by have:i<2:=hi;omega
 rcases this with rfl|rfl
 ·exact x
 ·exact y⟩
end
theorem GU:rW 4 j9:=rd kD kD qm (DZ kD (rd kD kD qm (Ah kD)))
theorem GY:rW 2 (bz 5 (dm ((2:Int):Rat)) (dE ⟨#[120]⟩)):=rd kD kD (Ah (k:=2) kD) qm
theorem pM  (w:World)(h:Hp)(g:G w h)(u:Tab h):CV 6 #[] w h (.bool true):=by
 have a:=((sS g).add (K:=fun b=>Tab b) u);refine go Tryz.func6 [] rfl (aa a ac (aE (lC 12 a (xi ⟨#[97,42,40,98,43,49,41,94,50]⟩ kD 40 j9 9 Hi kD 4 kD Da (by rw[C6];decide) _ _ a.g a.f.1) ?_)));rintro _ w1 I a ⟨e,rfl,p⟩;replace a:=(a.add (K:=fun b=>TmH 4 b e j9) p);refine lL a [.c,.v (a8 e),.v (.agg #[iV 0,iV 0,iV 0])] (lA 1 31 a2 a (fun D F J a=>lA 2 34 ([iV 0,iV 0,iV 0]) a (fun y C L a=>lP 1 0 (bv e) a (fun H a=>lP 0 0 ([iV 0,iV 0,iV 0]) a (fun _ a=>aE (lL a [.o (a8 e) 1 0 9] (aq 17 a ((by have j:=Dr 4 kD e j9 Da (by rw[C6];decide) GU (by rw[CF];decide) _ _ a.g (a.f.1);rw[CF] at j;exact j)) (fun _ _ a=>lL a [.c,.v (.string (⟨#[97,32,42,32,40,98,32,43,32,49,41,94,50]⟩)),.v (iV 0),.c,.c] (aE (lC 21 a (xi ⟨#[120,94,50]⟩ kD 40 (.mk 8 2 0 ⟨#[]⟩ [dE ⟨#[120]⟩]) 3 GH kD 2 kD (CD DJ) (by rw[CS];decide) _ _ a.g a.f.2.1) ?_))))))))));rintro _ _ _ a ⟨i,rfl,k⟩;replace a:=(a.add (K:=fun b=>TmH 2 b i (.mk 8 2 0 ⟨#[]⟩ [dE ⟨#[120]⟩])) k);refine lL a [.c,.v (a8 i),.v (.agg #[iV 0,iV 0,iV 0])] (lA 5 31 a2 a (fun B _ _ a=>lA 6 34 ([iV 0,iV 0,iV 0]) a (fun x _ _ a=>lP 1 0 (bv i) a (fun _ a=>lP 0 0 ([iV 0,iV 0,iV 0]) a (fun _ a=>aE (lL a [.o (a8 i) 1 0 9] (lC 26 a (Eo ⟨#[120]⟩ DJ i _ _ a.g a.f.1) ?_)))))));rintro _ _ _ a ⟨d,rfl,l⟩;replace a:=(a.add (K:=fun b=>TmH 2 b d (bz 5 (dm ((2:Int):Rat)) (dE ⟨#[120]⟩))) l);refine lL a [.c,.v (a8 d),.v (iV 0)] (lA 7 31 a2 a (fun z _ _ a=>lP 0 0 (bv d) a (fun _ a=>lL a ac (aE (lL a [.o (a8 d) 0 0 9] (aq 31 a ((by have j:=Dr 2 kD d (bz 5 (dm ((2:Int):Rat)) (dE ⟨#[120]⟩)) (vX DJ) (by rw[CU];decide) GY (by rw[CX];decide) _ _ a.g (a.f.1);rw[CX] at j;exact j)) (fun _ _ a=>lL a [.c,.v (.string (⟨#[50,32,42,32,120]⟩)),.v (iV 0),.c,.c] (aE (lL a [.v (pB y),.o (iV 0) 3 0 1,.v qT,.c,.c,.v qT,.v qT,.c,.c,.v qT,.v qT,.c,.c,.v qT,.v qT,.c,.c,.v qT,.v qT,.c,.c,.v qT,.v qT,.c] (lN (bG [(0,qT)] ?_)))))))))));exact kX (a.ret [] qT rfl)
theorem tQ  (ok:ByteArray->Prop)(d:Nat)(ih:∀ (p:PTm) (t:Tm) (w:World) (h:Hp),G w h->TmH d h p t->WfT ok d t ->  Calls Tryz.prog 20 #[a8 p] w (Ret w h (fun v h1=>∃ r,v=aY r/\RmH d h1 r t)))(op n:Int)(q:Rat)(s:ByteArray)(A:Z9)(c:Nat)(ps:List PTm)(ks:List Tm)(hc:ps.length<=c)(hlp:ps.length<=2)(W:fM op=(ks.length:Nat))(hq0:op≠1->q=0)(hq:LQ 3000 q)(hok:op=2->ok s)(hs0:op≠2->s=⟨#[]⟩)(hn0:op≠8->n=0)(hn1 : -12<=n)(hn2:n<=12)(hW:∀ i,i<ks.length->WfT ok d (ks.getD i cc))(w:World)(h:Hp)(g:G w h)(hK:SlO 9 bv a6 h A ps)(M:Tms d h ps ks):CR 20 #[a8 ⟨op,n,q,s,A,ps.length,c⟩] w h (fun v h1=>∃ r,v=aY r/\RmH (d+1) h1 r (.mk op n q s ks)):=by
 have a:=(((sS g).aS hK).add (K:=fun y=>Tms d y ps ks) M);have hln:=(a.f.1).len;refine go Tryz.func20 [(0,a8 ⟨op,n,q,s,A,ps.length,c⟩)] rfl (aG (lA 1 31 (bv ⟨op,n,q,s,A,ps.length,c⟩) a (fun B w2 h3 a=>lA 2 45 (ax ⟨0,0,false,none,0,0,none,0,0,⟨#[]⟩,none,0,0⟩) a (fun b4 w5 h6 a=>ai ?_))));have J:=a;refine cR 11 [⟨10,3,.cells (JY [iV 0,iV 0,qF,sZ,sZ,eS,sZ]) 45 (0,0)⟩] mixed a (dZ (kW kR (fun _ _=>by kernel_rfl)) aw) (eV 0 5 (pB B) (eO 1 6 [(1,0,1)] (iV op) a (eV 2 7 (qP B 1) (eO 3 8 [(1,1,1)] (iV n) a (eV 4 9 (qP B 7) (eO 5 10 [(1,7,1)] (.string s) a (eV 6 11 (qP B 2) (eO 7 12 [(1,2,5)] (qv q) a (eC 8 13 a (fun _ _ a=>HI q (hq.mono oM) _ _ a.g) ?_)))))))));rintro _ _ _ _ _ a ⟨C,F,z,D,rfl,S,zj,zk,zl⟩;replace a:=a.aP zk zl;refine eV 9 14 (aY ⟨op,n,au q.num,C,(lim (ab q.num)).length,F,z,(lim q.den).length,D,s,none,0,0⟩) (G7 [] J a 45 [iV 0,iV 0,qF,sZ,sZ,eS,sZ] (fun _ zo I a=>tP 11 0 0 (ax ⟨op,n,au q.num,C,(lim (ab q.num)).length,F,z,(lim q.den).length,D,s,none,0,0⟩) a (fun _ a=>tN (cQ (aa a ac (bx ?_))))));replace a:=a.nil 45 7;replace a:=a.add (K:=fun y=>Rms d y ([]) (ks.take 0)) (Rms.nil);refine bG _ (CG.loop (fun U Γ w_=>∃ (k:Nat)(e:Z9)(j:Nat)(u:List RTm)(y:Hp),U=ps.length-k/\Γ=[(1,pB B),(2,pB b4),(3,pB I),(4,nV k)]/\SS w h w_ y [⟨I,45,[iV op,iV n,.bool (au q.num),qS C ((lim (ab q.num)).length) F,qS z ((lim q.den).length) D,.string s,qS e ((u).length) j]⟩,⟨b4,45,ax ⟨0,0,false,none,0,0,none,0,0,⟨#[]⟩,none,0,0⟩⟩,⟨B,31,bv ⟨op,n,q,s,A,ps.length,c⟩⟩] [⟨45,7,e,j,(u).length,(u).flatMap ax⟩] [fun y=>Rms d y u (ks.take k),S3 z (lim q.den),S3 C (lim (ab q.num)),fun y=>Tms d y ps ks,fun y=>SlO 9 bv a6 y A ps]/\k<=ps.length) _ ⟨0,none,0,[],zo,rfl,rfl,a.to _ _,JF _⟩ ?_);rintro _ _ _ ⟨k,e,j,u,_,Z,rfl,a,hk⟩;have Q:=(a.f.1).len;rw[List.length_take] at Q
 refine cQ (aa a [.c,.v (qP B 8),.o (qS A ps.length c) 2 8 1,.v (nV ps.length)] ?_);cases H:(decide ((k:Int)<(ps.length:Int)))
 .
  have zf:=oF H;refine lB 19 H (ah (CG.exit ?_))
  show CG _ _ _ _ _ _ _ _
  refine aG ?_;have V:k=ks.length:=by omega
  obtain ⟨_,a,zm⟩:=a.pubr 0 (A:=e) (c:=j) (l:=u) (f:=ax) (ty:=45) (sz:=7) bZ (fun _=>rfl);exact lL a [.o (aY ⟨op,n,au q.num,C,(lim (ab q.num)).length,F,z,(lim q.den).length,D,s,e,(u).length,j⟩) 0 0 7] (lP 1 0 (ax ⟨op,n,au q.num,C,(lim (ab q.num)).length,F,z,(lim q.den).length,D,s,e,(u).length,j⟩) a (fun _ a=>af a [(1,0,7)] (aY ⟨op,n,au q.num,C,(lim (ab q.num)).length,F,z,(lim q.den).length,D,s,e,(u).length,j⟩) (⟨⟨op,n,au q.num,C,(lim (ab q.num)).length,F,z,(lim q.den).length,D,s,e,u.length,j⟩,rfl,RmH.mk ⟨true,⟨_,_,_,_,rfl,S,zj,a.f.r.2.1,a.f.r.1⟩,fun y=>(by cases y)⟩ (by have X:=(a.f.2.1);rw[V,List.take_length] at X;exact X) zm a.f.1⟩)))
 have zf:=oT H;refine lB 19 H (ak (cK (cQ (kZ (CG.region ⟨((Value.slice e ((u).length) j).ownBlock.toList),none⟩ 10 [] mixed kR a.g aw (a.ro_lt 0 (ty:=45) (sz:=7) (A:=e) (c:=j) (m:=(u).length) (cs:=(u).flatMap ax)) ?_)))));refine eV 0 22 (qP I 6) (eO 1 23 [(0,6,1)] (qS e ((u).length) j) a ?_ (hM:=fun p O=>by obtain rfl:=o0.1 O;exact a.ro_ne 0 0 (ty:=45) (sz:=7) (A:=e) (c:=j) (m:=(u).length) (cs:=(u).flatMap ax)));refine eV 2 24 (qP B 8) (eO 3 25 [(2,8,1)] (qS A ps.length c) a ?_ (hM:=fun p O=>by obtain rfl:=o0.1 O;exact a.ro_ne 2 0 (ty:=45) (sz:=7) (A:=e) (c:=j) (m:=(u).length) (cs:=(u).flatMap ax)));refine eV 4 26 (nV k) (eX 5 27 A ps.length c 9 (k:Nat) k ((a.f.q.1).ok oM) (eH 6 28 (a8 (ps.getD k a6)) a ((a.f.q.1).el k oM) ?_ (hM:=a.ro_jk 0 (ty:=45) (sz:=7) (A:=e) (c:=j) (m:=(u).length) (cs:=(u).flatMap ax))));refine eC 7 29 a (fun _ _ a=>ih (ps.getD k a6) (ks.getD k cc) _ _ a.g ((a.f.r.2.1).at_ k oM) (hW k oM)) ?_;rintro _ _ _ _ _ a ⟨x,rfl,L⟩;replace a:=(a.add (K:=fun y=>RmH d y x (ks.getD k cc)) L);refine eR 8 30 45 1 ([iV x.op,iV x.n,.bool x.neg,qS x.zA x.zn x.zc,qS x.dA x.dn x.dc,.string x.s,qS x.A x.m x.c]) a (fun zp _ _ a=>eY 9 31 0 45 7 j e u ax x 112 zp (aY ⟨0,0,false,none,0,0,none,0,0,⟨#[]⟩,none,0,0⟩) a (fun _ f_=>f_.1) (fun b hb=>Option.mem_toList.2 hb) (fun zg Y _ _ a=>cG a (fun _ zq a=>tV 10 32 (qP I 6) (tP 11 0 6 ([qS zg ((u++[x]).length) Y]) a (fun _ a=>tN (kQ (lL a ac (bg 21 ((k:Nat)+1) (k+1) ?_))))))));refine lL a ac (lD ?_);intro a_ ka;replace a:=(a.tl.tl.tl.add (K:=fun y=>Rms d y (u++[x]) (ks.take (k+1))) (by rw[qy cc oM];exact (a.f.r.1).snoc a.f.2.1));refine ⟨_,_,?_,⟨k+1,zg,Y,u++[x],zq,rfl,rfl,a.to _ _,oM⟩,ka.to _ kR⟩
 omega
theorem pO (ok:ByteArray->Prop):∀ (d:Nat) (p:PTm) (t:Tm) (w:World) (h:Hp),G w h->TmH d h p t->WfT ok d t ->  Calls Tryz.prog 20 #[a8 p] w (Ret w h (fun v h1=>∃ r,v=aY r/\RmH d h1 r t))
  | 0,_,_,_,_,_,x,_=>x.elim
  | d + 1,p,t,w,h,g,x,wf=>by
    obtain ⟨op,n,q,s,A,c,ps,ks,rfl,rfl,i,f,a⟩:=x.open;obtain ⟨w1,w2,w3,k,j,o,e,u,l⟩:=wf
    have b:ps.length<=2:=by
      have y:fM op=ks.length:=w1;have:=aU op;have:=a.len
      omega
    exact tQ ok d (fun p t w h=>pO ok d p t w h) op n q s A c ps ks i b w1 w2 w3 k j o e u l w h g f a
theorem BW  (ok:ByteArray->Prop)(d:Nat)(ih:∀ (r1 r2:RTm) (t:Tm) (w:World) (h:Hp),G w h->RmH d h r1 t->RmH d h r2 t->WfT ok d t->Calls Tryz.prog 19 #[aY r1,aY r2] w (Ret w h (fun v _=>v=.bool true)))(op n:Int)(q:Rat)(s:ByteArray)(ks:List Tm)(hq:LQ 3000 q)(x:Z9)(c1 p:Nat)(y:Z9)(z:Nat)(W:(lim (ab q.num)).length<=c1)(O:(lim p).length<=z)(u:Z9)(H:Nat)(b:List RTm)(J:Z9)(c2 C:Nat)(F:Z9)(L:Nat)(Y:(lim (ab q.num)).length<=c2)(hd2:(lim C).length<=L)(D:Z9)(M:Nat)(e:List RTm)(hz:q.num=0)(hkl:ks.length<=2)(hW:∀ i,i<ks.length->WfT ok d (ks.getD i cc))(w:World)(h:Hp)(g:G w h)(Z:S3 x (lim (ab q.num)) h)(hD1:S3 y (lim p) h)(hK1:SlO 7 ax bZ h u b)(hR1:Rms d h b ks)(hA2:S3 J (lim (ab q.num)) h)(hD2:S3 F (lim C) h)(hK2:SlO 7 ax bZ h D e)(hR2:Rms d h e ks):CV 19 #[aY ⟨op,n,au q.num,x,(lim (ab q.num)).length,c1,y,(lim p).length,z,s,u,b.length,H⟩,aY ⟨op,n,au q.num,J,(lim (ab q.num)).length,c2,F,(lim C).length,L,s,D,e.length,M⟩] w h (.bool true):=by
 have a:=(((((((((sS g).aS Z).aS hD1).aS hK1).add (K:=fun j=>Rms d j b ks) hR1).aS hA2).aS hD2).aS hK2).add (K:=fun j=>Rms d j e ks) hR2);have hl1:=(a.f.q.1).len;have hl2:=(a.f.1).len;have U:LQ 100000000 q:=hq.mono oM;have hq1:=LQ.ln U;have hq2:=LQ.ld U;refine go Tryz.func19 [(0,aY ⟨op,n,au q.num,x,(lim (ab q.num)).length,c1,y,(lim p).length,z,s,u,b.length,H⟩),(1,aY ⟨op,n,au q.num,J,(lim (ab q.num)).length,c2,F,(lim C).length,L,s,D,e.length,M⟩)] rfl (aG (lA 2 45 (ax ⟨op,n,au q.num,x,(lim (ab q.num)).length,c1,y,(lim p).length,z,s,u,b.length,H⟩) a (fun l w2 h3 a=>lA 3 45 (ax ⟨op,n,au q.num,J,(lim (ab q.num)).length,c2,F,(lim C).length,L,s,D,e.length,M⟩) a (fun B w5 h6 a=>lL a ac (ai (cQ (cR 51 [] mixed a aw ?_)))))));refine eV 0 6 (pB l) (eO 1 7 [(1,0,1)] (iV op) a (eV 2 8 (pB B) (eO 3 9 [(0,0,1)] (iV op) a ?_)));have S:((op:Int) != (op:Int))=false:=mj rfl;have bk:=az S;refine eB 4 10 S (eV 5 11 qF (eV 6 12 (qP l 1) (eO 7 13 [(1,1,1)] (iV n) a (eV 8 14 (qP B 1) (eO 9 15 [(0,1,1)] (iV n) a ?_)))));have V:((n:Int) != (n:Int))=false:=mj rfl;have bl:=az V;refine eB 10 16 V (eV 11 17 qF (eV 12 18 qF (eV 13 19 (qP l 5) (eO 14 20 [(1,5,1)] (.string s) a (eV 15 21 (qP B 5) (eO 16 22 [(0,5,1)] (.string s) a (eV 17 23 qF ?_ (hv:=fun _=>rb kR (wO s)))))))));refine eV 18 24 qF (eV 19 25 qF (eV 20 26 (qP l 6) (eO 21 27 [(1,6,1)] (qS u b.length H) a (eV 22 28 (nV b.length) (eV 23 29 (qP B 6) (eO 24 30 [(0,6,1)] (qS D e.length M) a (eV 25 31 (nV e.length) ?_)))))));have Q:((b.length:Int) != (e.length:Int))=false:=mj oM;have bd:=az Q;refine eB 26 32 Q (eV 27 33 qF (eV 28 34 qF (eV 29 35 (qP l 2) (eO 30 36 [(1,2,3)] (.agg #[.bool (au q.num),qS x ((lim (ab q.num)).length) c1,qS y ((lim p).length) z]) a (eV 32 38 (qP B 2) (eO 33 39 [(0,2,3)] (.agg #[.bool (au q.num),qS J ((lim (ab q.num)).length) c2,qS F ((lim C).length) L]) a (aK 31 37 a (fun _ _ a=>(by have I:=kO q.num x c1 p y z W O _ _ a.g a.f.q.r.2.1 (a.f.q.r.1);rw[decide_eq_true (.inr hz)] at I;exact I)) (fun _ _ a=>aK 34 40 a (fun _ _ a=>(by have I:=kO q.num J c2 C F L Y hd2 _ _ a.g a.f.r.2.1 (a.f.r.1);rw[decide_eq_true (.inr hz)] at I;exact I)) (fun _ _ a=>eV 35 41 qF (eV 36 42 qF (eV 37 43 qF (eV 38 44 (qP l 2) (eO 39 45 [(1,2,3)] (.agg #[.bool (au q.num),qS x ((lim (ab q.num)).length) c1,qS y ((lim p).length) z]) a (aK 40 46 a (fun _ _ a=>(by have I:=kO q.num x c1 p y z W O _ _ a.g a.f.q.r.2.1 (a.f.q.r.1);rw[decide_eq_true (.inr hz)] at I;exact I)) (fun _ _ a=>eV 41 47 qF (eV 42 48 qF (eG 43 49 (eG 44 50 (eG 45 51 (eG 46 52 (eG 47 53 (eG 48 54 (eV 49 55 qF (eV 50 56 qF (cG a (fun _ zc a=>tN (bG [(2,pB l),(3,pB B),(4,qF),(56,qF)] ?_)))))))))))))))))))))))))));refine cV (cK (cQ (aa a ac (bx ?_))));refine bG _ (CG.loop (fun μ_ Γ w_=>∃ (k:Nat)(j:Hp),μ_=b.length-k/\Γ=[(2,pB l),(3,pB B),(5,nV k)]/\SS w h w_ j [⟨B,45,ax ⟨op,n,au q.num,J,(lim (ab q.num)).length,c2,F,(lim C).length,L,s,D,e.length,M⟩⟩,⟨l,45,ax ⟨op,n,au q.num,x,(lim (ab q.num)).length,c1,y,(lim p).length,z,s,u,b.length,H⟩⟩] [] [fun j=>Rms d j e ks,fun j=>SlO 7 ax bZ j D e,S3 F (lim C),S3 J (lim (ab q.num)),fun j=>Rms d j b ks,fun j=>SlO 7 ax bZ j u b,S3 y (lim p),S3 x (lim (ab q.num))]/\k<=b.length) _ ⟨0,zc,rfl,rfl,a.to _ _,JF _⟩ ?_);rintro _ _ _ ⟨k,_,bb,rfl,a,hk⟩;refine cQ (aa a [.c,.v (qP l 6),.o (qS u b.length H) 1 6 1,.v (nV b.length)] ?_);cases X:(decide ((k:Int)<(b.length:Int)))
 .
  have zb:=oF X;refine lB 61 X (ah (CG.exit ?_))
  show CG _ _ _ _ _ _ _ _
  exact aa a ac (af a [] qT rfl)
 have zb:=oT X;refine lB 61 X (ak (cK (cQ (kZ (cQ (cR 12 [] mixed a aw ?_))))));refine eV 0 64 (qP l 6) (eO 1 65 [(1,6,1)] (qS u b.length H) a (eV 2 66 (nV k) (eX 3 67 u b.length H 7 (k:Nat) k ((a.f.q.2.1).ok oM) (eH 4 68 (aY (b.getD k bZ)) a ((a.f.q.2.1).el k oM) (eV 5 69 (qP B 6) (eO 6 70 [(0,6,1)] (qS D e.length M) a (eV 7 71 (nV k) (eX 8 72 D e.length M 7 (k:Nat) k ((a.f.2.1).ok oM) (eH 9 73 (aY (e.getD k bZ)) a ((a.f.2.1).el k oM) (aK 10 74 a (fun _ _ a=>ih (b.getD k bZ) (e.getD k bZ) (ks.getD k cc) _ _ a.g ((a.f.q.1).at_ k oM) ((a.f.1).at_ k oM) (hW k oM)) (fun _ _ a=>eV 11 75 qF (cG a (fun _ zd a=>tN (cV (cK (kQ (lL a ac (bg 63 ((k:Nat)+1) (k+1) ?_))))))))))))))))));refine lL a ac (lD ?_);intro a_ ka;refine ⟨_,_,?_,⟨k+1,zd,rfl,rfl,a.to _ _,oM⟩,ka.to _ kR⟩
 omega
theorem Bu  (ok:ByteArray->Prop)(d:Nat)(ih:∀ (r1 r2:RTm) (t:Tm) (w:World) (h:Hp),G w h->RmH d h r1 t->RmH d h r2 t->WfT ok d t->Calls Tryz.prog 19 #[aY r1,aY r2] w (Ret w h (fun v _=>v=.bool true)))(op n:Int)(q:Rat)(s:ByteArray)(ks:List Tm)(hq:LQ 3000 q)(p:Z9)(c1:Nat)(u:Z9)(x:Nat)(L:(lim (ab q.num)).length<=c1)(J:(lim q.den).length<=x)(z:Z9)(H:Nat)(b:List RTm)(B:Z9)(c2:Nat)(y:Z9)(F:Nat)(O:(lim (ab q.num)).length<=c2)(X:(lim q.den).length<=F)(D:Z9)(M:Nat)(e:List RTm)(hz:¬q.num=0)(hkl:ks.length<=2)(hW:∀ i,i<ks.length->WfT ok d (ks.getD i cc))(w:World)(h:Hp)(g:G w h)(Z:S3 p (lim (ab q.num)) h)(hD1:S3 u (lim q.den) h)(hK1:SlO 7 ax bZ h z b)(hR1:Rms d h b ks)(hA2:S3 B (lim (ab q.num)) h)(hD2:S3 y (lim q.den) h)(hK2:SlO 7 ax bZ h D e)(hR2:Rms d h e ks):CV 19 #[aY ⟨op,n,au q.num,p,(lim (ab q.num)).length,c1,u,(lim q.den).length,x,s,z,b.length,H⟩,aY ⟨op,n,au q.num,B,(lim (ab q.num)).length,c2,y,(lim q.den).length,F,s,D,e.length,M⟩] w h (.bool true):=by
 have a:=(((((((((sS g).aS Z).aS hD1).aS hK1).add (K:=fun j=>Rms d j b ks) hR1).aS hA2).aS hD2).aS hK2).add (K:=fun j=>Rms d j e ks) hR2);have hl1:=(a.f.q.1).len;have hl2:=(a.f.1).len;have U:LQ 100000000 q:=hq.mono oM;have hq1:=LQ.ln U;have hq2:=LQ.ld U;refine go Tryz.func19 [(0,aY ⟨op,n,au q.num,p,(lim (ab q.num)).length,c1,u,(lim q.den).length,x,s,z,b.length,H⟩),(1,aY ⟨op,n,au q.num,B,(lim (ab q.num)).length,c2,y,(lim q.den).length,F,s,D,e.length,M⟩)] rfl (aG (lA 2 45 (ax ⟨op,n,au q.num,p,(lim (ab q.num)).length,c1,u,(lim q.den).length,x,s,z,b.length,H⟩) a (fun l w2 h3 a=>lA 3 45 (ax ⟨op,n,au q.num,B,(lim (ab q.num)).length,c2,y,(lim q.den).length,F,s,D,e.length,M⟩) a (fun C w5 h6 a=>lL a ac (ai (cQ (cR 51 [] mixed a aw ?_)))))));refine eV 0 6 (pB l) (eO 1 7 [(1,0,1)] (iV op) a (eV 2 8 (pB C) (eO 3 9 [(0,0,1)] (iV op) a ?_)));have S:((op:Int) != (op:Int))=false:=mj rfl;have bl:=az S;refine eB 4 10 S (eV 5 11 qF (eV 6 12 (qP l 1) (eO 7 13 [(1,1,1)] (iV n) a (eV 8 14 (qP C 1) (eO 9 15 [(0,1,1)] (iV n) a ?_)))));have V:((n:Int) != (n:Int))=false:=mj rfl;have bm:=az V;refine eB 10 16 V (eV 11 17 qF (eV 12 18 qF (eV 13 19 (qP l 5) (eO 14 20 [(1,5,1)] (.string s) a (eV 15 21 (qP C 5) (eO 16 22 [(0,5,1)] (.string s) a (eV 17 23 qF ?_ (hv:=fun _=>rb kR (wO s)))))))));refine eV 18 24 qF (eV 19 25 qF (eV 20 26 (qP l 6) (eO 21 27 [(1,6,1)] (qS z b.length H) a (eV 22 28 (nV b.length) (eV 23 29 (qP C 6) (eO 24 30 [(0,6,1)] (qS D e.length M) a (eV 25 31 (nV e.length) ?_)))))));have Q:((b.length:Int) != (e.length:Int))=false:=mj oM;have bd:=az Q;refine eB 26 32 Q (eV 27 33 qF (eV 28 34 qF (eV 29 35 (qP l 2) (eO 30 36 [(1,2,3)] (rG q p c1 u x) a (eV 32 38 (qP C 2) (eO 33 39 [(0,2,3)] (rG q B c2 y F) a (aK 31 37 a (fun _ _ a=>(by have I:=kO q.num p c1 q.den u x L J _ _ a.g a.f.q.r.2.1 (a.f.q.r.1);rw[decide_eq_false (fun j=>j.elim (fun W=>q.den_nz W) hz)] at I;exact I)) (fun _ _ a=>aK 34 40 a (fun _ _ a=>(by have I:=kO q.num B c2 q.den y F O X _ _ a.g a.f.r.2.1 (a.f.r.1);rw[decide_eq_false (fun j=>j.elim (fun W=>q.den_nz W) hz)] at I;exact I)) (fun _ _ a=>eV 35 41 qF (eV 36 42 qF (eV 37 43 qF (eV 38 44 (qP l 2) (eO 39 45 [(1,2,3)] (rG q p c1 u x) a (aK 40 46 a (fun _ _ a=>(by have I:=kO q.num p c1 q.den u x L J _ _ a.g a.f.q.r.2.1 (a.f.q.r.1);rw[decide_eq_false (fun j=>j.elim (fun W=>q.den_nz W) hz)] at I;exact I)) (fun _ _ a=>eV 41 47 qT (eV 42 48 qT (eV 43 49 (qP l 2) (eO 44 50 [(1,2,3)] (rG q p c1 u x) a (eV 45 51 (qP C 2) (eO 46 52 [(0,2,3)] (rG q B c2 y F) a (aK 47 53 a (fun _ _ a=>HW q p c1 u x L J oM oM q B c2 y F O X oM oM _ _ a.g a.f.q.r.2.1 a.f.q.r.1 a.f.r.2.1 a.f.r.1) (fun _ _ a=>?_))))))))))))))))))))));have zb:((fs q q:Int) != (0:Int))=false:=mj (tB _);have bb:=az zb;refine eB 48 54 zb (eV 49 55 qF (eV 50 56 qF (cG a (fun _ zd a=>tN (bG [(2,pB l),(3,pB C),(4,qF),(56,qF)] ?_)))));refine cV (cK (cQ (aa a ac (bx ?_))));refine bG _ (CG.loop (fun μ_ Γ w_=>∃ (k:Nat)(j:Hp),μ_=b.length-k/\Γ=[(2,pB l),(3,pB C),(5,nV k)]/\SS w h w_ j [⟨C,45,ax ⟨op,n,au q.num,B,(lim (ab q.num)).length,c2,y,(lim q.den).length,F,s,D,e.length,M⟩⟩,⟨l,45,ax ⟨op,n,au q.num,p,(lim (ab q.num)).length,c1,u,(lim q.den).length,x,s,z,b.length,H⟩⟩] [] [fun j=>Rms d j e ks,fun j=>SlO 7 ax bZ j D e,S3 y (lim q.den),S3 B (lim (ab q.num)),fun j=>Rms d j b ks,fun j=>SlO 7 ax bZ j z b,S3 u (lim q.den),S3 p (lim (ab q.num))]/\k<=b.length) _ ⟨0,zd,rfl,rfl,a.to _ _,JF _⟩ ?_);rintro _ _ _ ⟨k,_,bk,rfl,a,hk⟩;refine cQ (aa a [.c,.v (qP l 6),.o (qS z b.length H) 1 6 1,.v (nV b.length)] ?_);cases Y:(decide ((k:Int)<(b.length:Int)))
 .
  have zc:=oF Y;refine lB 61 Y (ah (CG.exit ?_))
  show CG _ _ _ _ _ _ _ _
  exact aa a ac (af a [] qT rfl)
 have zc:=oT Y;refine lB 61 Y (ak (cK (cQ (kZ (cQ (cR 12 [] mixed a aw ?_))))));refine eV 0 64 (qP l 6) (eO 1 65 [(1,6,1)] (qS z b.length H) a (eV 2 66 (nV k) (eX 3 67 z b.length H 7 (k:Nat) k ((a.f.q.2.1).ok oM) (eH 4 68 (aY (b.getD k bZ)) a ((a.f.q.2.1).el k oM) (eV 5 69 (qP C 6) (eO 6 70 [(0,6,1)] (qS D e.length M) a (eV 7 71 (nV k) (eX 8 72 D e.length M 7 (k:Nat) k ((a.f.2.1).ok oM) (eH 9 73 (aY (e.getD k bZ)) a ((a.f.2.1).el k oM) (aK 10 74 a (fun _ _ a=>ih (b.getD k bZ) (e.getD k bZ) (ks.getD k cc) _ _ a.g ((a.f.q.1).at_ k oM) ((a.f.1).at_ k oM) (hW k oM)) (fun _ _ a=>eV 11 75 qF (cG a (fun _ ze a=>tN (cV (cK (kQ (lL a ac (bg 63 ((k:Nat)+1) (k+1) ?_))))))))))))))))));refine lL a ac (lD ?_);intro a_ ka;refine ⟨_,_,?_,⟨k+1,ze,rfl,rfl,a.to _ _,oM⟩,ka.to _ kR⟩
 omega
theorem qp (ok:ByteArray->Prop):∀ (d:Nat) (e c:RTm) (t:Tm) (w:World) (h:Hp),G w h->RmH d h e t->RmH d h c t->WfT ok d t->Calls Tryz.prog 19 #[aY e,aY c] w (Ret w h (fun v _=>v=.bool true))
  | 0,_,_,_,_,_,_,x,_,_=>x.elim
  | d + 1,e,c,t,w,h,g,x,y,wf=>by
    obtain ⟨op,n,b1,F,zn1,H,I,dn1,K,q,s,Y,W,u,ks,rfl,rfl,⟨a,⟨A1,c1,D1,d1,q1,j,Q,p,B⟩,X⟩,bb,M,O⟩:=x.open;obtain ⟨op',n',b2,C,zn2,U,z,dn2,L,q',s',B2,Z,k,ks',rfl,ht,⟨b,⟨A2,c2,D2,d2,q2,D,J,o,S⟩,V⟩,bd,i,l⟩:=y.open
    injection ht with t1 t2 t3 t4 t5
    subst t1 t2 t3 t4 t5;cases q1
    cases q2
    obtain ⟨w1,w2,w3,w4,w5,w6,w7,w8,w9⟩:=wf
    have f:ks.length<=2:=by
      have W:fM op=ks.length:=w1;have:=aU op
      omega
    by_cases hz:q.num=0
    . exact BW ok d (fun e c t w h=>qp ok d e c t w h) op n q s ks w3 F H _ I K j Q Y W u C U _ z L D J B2 Z k hz f w9 w h g p B M O o S i l
    . have h1:a=true:=by
        cases a
        . exact absurd (Kd.2 (X rfl)) hz
        . rfl
      have h2:b=true:=by
        cases b
        . exact absurd (Kd.2 (V rfl)) hz
        . rfl
      subst h1 h2;exact Bu ok d (fun e c t w h=>qp ok d e c t w h) op n q s ks w3 F H I K j Q Y W u C U z L D J B2 Z k hz f w9 w h g p B M O o S i l
theorem mP  (ok:ByteArray->Prop)(d:Nat)(p:PTm)(t:Tm)(r:RTm)(i:WfT ok d t)(w:World)(h:Hp)(g:G w h)(k:TmH d h p t)(j:RmH d h r t):CV 8 #[a8 p,aY r] w h (.bool true):=by
 have a:=(((sS g).add (K:=fun b=>TmH d b p t) k).add (K:=fun b=>RmH d b r t) j);refine go Tryz.func8 [(0,a8 p),(1,aY r)] rfl (aG (lA 2 31 (bv p) a (fun u w2 z a=>lA 3 45 (ax r) a (fun B o y a=>lL a ac (ai (cR 4 [] mixed a aw ?_))))));refine eO 0 5 [(1,0,9)] (a8 p) a (eO 2 7 [(0,0,7)] (aY r) a (eC 1 6 a (fun _ _ a=>pO ok d p t _ _ a.g a.f.2.1 i) ?_));rintro _ _ _ l C a ⟨e,rfl,c⟩;replace a:=(a.add (K:=fun b=>RmH d b e t) c);exact aK 3 8 a (fun _ _ a=>qp ok d e r t _ _ a.g a.f.1 a.f.2.1 i) (fun x _ a=>cG a (fun _ _ a=>tV 4 4 qT (tN (kX (a.ret [] qT rfl)))))
theorem vx {t u:Tm}{a b:Nat}(h:PR.ok t a=.ok u b):t=u/\a=b:=by injection h with h1 h2;exact ⟨h1,h2⟩
theorem sx (e l a f l2 d:Int)(C:e=f)(H:l=l2)(ha:a=d)(w:World)(h:Hp)(g:G w h):CV 7 #[.agg #[iV e,iV l,iV a],.agg #[iV f,iV l2,iV d]] w h (.bool true):=by
 have b:=sS g;refine go Tryz.func7 [(0,.agg #[iV e,iV l,iV a]),(1,.agg #[iV f,iV l2,iV d])] rfl (aG (lA 2 34 ([iV e,iV l,iV a]) b (fun p w2 F b=>lA 3 47 ([iV f,iV l2,iV d]) b (fun u B D b=>lL b ac (aE (lL b [.v (pB p),.o (iV e) 1 0 1,.v (pB u),.o (iV f) 0 0 1] ?_))))));have j:((e:Int) == (f:Int))=true:=gE oM;have y:=eq_of_beq j;refine lB 9 j (lL b [.c,.v (qP p 1),.o (iV l) 1 1 1,.v (qP u 1),.o (iV l2) 0 1 1] ?_);have k:((l:Int) == (l2:Int))=true:=gE oM;have z:=eq_of_beq k;refine lB 15 k (lL b [.v qT,.c,.v (qP p 2),.o (iV a) 1 2 1,.v (qP u 2),.o (iV d) 0 2 1] ?_);have i:((a:Int) == (d:Int))=true:=gE oM;have x:=eq_of_beq i;exact lB 22 i (lL b [.v qT,.c] (af b [] qT rfl))
theorem pi (s:ByteArray)(w:World)(h:Hp)(g:G w h)(tb:Tab h):CV 3 #[.string s] w h (.bool true):=by
 have b:=((sS g).add (K:=fun u=>Tab u) tb);refine go Tryz.func3 [(0,.string s)] rfl (aa b ac (ai (aa b [.c,.v (nV s.size)] ?_)));cases j:(decide ((2000:Int)<(s.size:Int)))
 .
  have L:=oF j;refine lB 9 j (ah (cK (aa b ac (lC 14 b (s7 s (by first|omega|(rw[ByteArray.size_extract];omega)) _ _ b.g b.f.1) ?_))));rintro _ w2 h3 b ⟨p,e,l,a,rfl,V,W⟩;replace b:=(b.add (K:=fun u=>PaP s u p e) W);refine lL b [.c,.v (a8 p),.v (.agg #[iV e,iV l,iV a])] (lA 3 31 a2 b (fun b4 w5 h6 b=>lA 4 34 ([iV 0,iV 0,iV 0]) b (fun b7 w8 h9 b=>lP 1 0 (bv p) b (fun _ b=>lP 0 0 ([iV e,iV l,iV a]) b (fun _ b=>aE (lL b ac (lC 19 b (rD s (by first|omega|(rw[ByteArray.size_extract];omega)) _ _ b.g b.f.2.1) ?_)))))));rintro _ _ _ b ⟨x,d,l2,k,rfl,D,U⟩;replace b:=(b.add (K:=fun u=>PaR s u x d) U);obtain ⟨C,F,B⟩:=V.uniq D;refine lL b [.c,.v (aY x),.v (.agg #[iV d,iV l2,iV k])] (lA 5 45 (ax ⟨0,0,false,none,0,0,none,0,0,⟨#[]⟩,none,0,0⟩) b (fun b14 _ _ b=>lA 6 47 ([iV 0,iV 0,iV 0]) b (fun Z _ _ b=>lP 1 0 (ax x) b (fun _ b=>lP 0 0 ([iV d,iV l2,iV k]) b (fun _ b=>aE (aq 22 b (pM _ _ b.g b.f.r.1) (fun _ _ b=>lL b [.c,.o (.agg #[iV e,iV l,iV a]) 2 0 3,.o (.agg #[iV d,iV l2,iV k]) 0 0 3] (aq 26 b (sx e l a d l2 k C F B _ _ b.g) (fun _ _ b=>lL b [.v qT,.c,.v (pB Z),.o (iV d) 0 0 1] ?_)))))))));cases Q:((d:Int) != (0:Int))
  .
   have zc:=az Q;refine lB 31 Q (lL b ac (lG 33 ?_));refine lG 34 (lG 35 (lG 36 (lL b [.v qF,.c] (lG 39 ?_))));refine lG 40 (lG 41 (lL b [.v qF,.c,.v (pB Z),.o (iV d) 0 0 1] ?_));have zi:((d:Int) == (0:Int))=true:=gE oM;refine lB 46 zi (lL b [.c,.o (a8 p) 3 0 9,.o (aY x) 1 0 7] ?_);obtain ⟨t,X,I,H,Y,_⟩:=(b.f.2.1).1 oM;obtain ⟨t2,S,z,y,_⟩:=(b.f.1) oM;obtain ⟨rfl,_⟩:=vx (I.symm.trans z);refine aq 50 b (mP _ 24 p t x Y _ _ b.g H y) (fun _ _ b=>lL b [.v qT,.v qT,.v qT,.c] (lN (bG [(2,qT)] ?_)));exact kX (b.ret [] qT rfl)
  have zc:=a7 Q;refine lB 31 Q (lL b [.c,.v (qP b4 8),.o (qS p.A p.m p.c) 3 8 1,.v (nV p.m)] ?_);have i:=(b.f.2.1).2 oM;have J:p.m=0:=by rw[i];rfl
  have M:p.op=0:=by rw[i];rfl
  have zj:((p.m:Int) == (0:Int))=true:=gE oM;refine lB 36 zj (lL b [.v qT,.c,.v (pB b4),.o (iV p.op) 3 0 1] ?_);have zk:((p.op:Int) == (0:Int))=true:=gE oM;refine lB 41 zk (lL b [.v qT,.c] (lG 44 ?_));refine lG 45 (lG 46 (lG 47 (lG 48 (lG 49 (lG 50 (lG 51 (lL b [.v qT,.v qT,.c] (lN (bG [(2,qT)] ?_)))))))));exact kX (b.ret [] qT rfl)
 have L:=oT j;refine lB 9 j (ak (kQ (lL b ac (lV 11 (.string (s.extract 0 2000)) ?_ (hr:=rF (tx:=9) (x:=.tmp 10) (e:=.const (iV 2000)) (k2:=.i64) (s:=s) (m:=2000) (j2:=2000) kR kR kR kR oM oM _)))));refine lL b ac (aE (lL b ac (lC 14 b (s7 (s.extract 0 2000) (by first|omega|(rw[ByteArray.size_extract];omega)) _ _ b.g b.f.1) ?_)));rintro _ _ _ b ⟨p,e,l,a,rfl,V,W⟩;replace b:=(b.add (K:=fun u=>PaP (s.extract 0 2000) u p e) W);refine lL b [.c,.v (a8 p),.v (.agg #[iV e,iV l,iV a])] (lA 3 31 a2 b (fun zf _ _ b=>lA 4 34 ([iV 0,iV 0,iV 0]) b (fun b37 _ _ b=>lP 1 0 (bv p) b (fun _ b=>lP 0 0 ([iV e,iV l,iV a]) b (fun _ b=>aE (lL b ac (lC 19 b (rD (s.extract 0 2000) (by first|omega|(rw[ByteArray.size_extract];omega)) _ _ b.g b.f.2.1) ?_)))))));rintro _ _ _ b ⟨x,d,l2,k,rfl,D,U⟩;replace b:=(b.add (K:=fun u=>PaR (s.extract 0 2000) u x d) U);obtain ⟨C,F,B⟩:=V.uniq D;refine lL b [.c,.v (aY x),.v (.agg #[iV d,iV l2,iV k])] (lA 5 45 (ax ⟨0,0,false,none,0,0,none,0,0,⟨#[]⟩,none,0,0⟩) b (fun b44 _ _ b=>lA 6 47 ([iV 0,iV 0,iV 0]) b (fun zg _ _ b=>lP 1 0 (ax x) b (fun _ b=>lP 0 0 ([iV d,iV l2,iV k]) b (fun _ b=>aE (aq 22 b (pM _ _ b.g b.f.r.1) (fun _ _ b=>lL b [.c,.o (.agg #[iV e,iV l,iV a]) 2 0 3,.o (.agg #[iV d,iV l2,iV k]) 0 0 3] (aq 26 b (sx e l a d l2 k C F B _ _ b.g) (fun _ _ b=>lL b [.v qT,.c,.v (pB zg),.o (iV d) 0 0 1] ?_)))))))));cases O:((d:Int) != (0:Int))
 .
  have zd:=az O;refine lB 31 O (lL b ac (lG 33 ?_));refine lG 34 (lG 35 (lG 36 (lL b [.v qF,.c] (lG 39 ?_))));refine lG 40 (lG 41 (lL b [.v qF,.c,.v (pB zg),.o (iV d) 0 0 1] ?_));have zl:((d:Int) == (0:Int))=true:=gE oM;refine lB 46 zl (lL b [.c,.o (a8 p) 3 0 9,.o (aY x) 1 0 7] ?_);obtain ⟨t,X,I,H,Y,_⟩:=(b.f.2.1).1 oM;obtain ⟨t2,S,z,y,_⟩:=(b.f.1) oM;obtain ⟨rfl,_⟩:=vx (I.symm.trans z);refine aq 50 b (mP _ 24 p t x Y _ _ b.g H y) (fun _ _ b=>lL b [.v qT,.v qT,.v qT,.c] (lN (bG [(2,qT)] ?_)));exact kX (b.ret [] qT rfl)
 have zd:=a7 O;refine lB 31 O (lL b [.c,.v (qP zf 8),.o (qS p.A p.m p.c) 3 8 1,.v (nV p.m)] ?_);have i:=(b.f.2.1).2 oM;have J:p.m=0:=by rw[i];rfl
 have M:p.op=0:=by rw[i];rfl
 have zm:((p.m:Int) == (0:Int))=true:=gE oM;refine lB 36 zm (lL b [.v qT,.c,.v (pB zf),.o (iV p.op) 3 0 1] ?_);have zn:((p.op:Int) == (0:Int))=true:=gE oM;refine lB 41 zn (lL b [.v qT,.c] (lG 44 ?_));refine lG 45 (lG 46 (lG 47 (lG 48 (lG 49 (lG 50 (lG 51 (lL b [.v qT,.v qT,.c] (lN (bG [(2,qT)] ?_)))))))));exact kX (b.ret [] qT rfl)
end Go.Proofs.YtbbhdbhkaacnnaaGreatDoor
