/- Laws and contracts that the card of this claim stands on, part 5. No condition of ours. -/
import Derived.Test.YtebkpkbmegcjeaaGreatDoorQa0
import Derived.Test.YtebkpkbmegcjeaaGreatDoorQa1
import Derived.Test.YtebkpkbmegcjeaaGreatDoorQa2
import Derived.Test.YtebkpkbmegcjeaaGreatDoorQa3
set_option maxRecDepth 100000
set_option maxHeartbeats 4000000
namespace Go.Proofs.YtebkpkbmegcjeaaGreatDoor
open Go.RowKit
open Go.RowKit Go.Shelf
theorem Cp {d:Nat}{t:Tm}{l:Int}(h:iL t.op<l):e7 (d+1) t l=(⟨#[40]⟩:ByteArray).data.toList++jP (e7 d) t++(⟨#[41]⟩:ByteArray).data.toList:=if_pos h
theorem Dd {d:Nat}{t:Tm}{l:Int}(h:l≤iL t.op):e7 (d+1) t l=jP (e7 d) t:=if_neg oM
theorem qt:∀ d:Nat,∀ (K b:Nat) (bs:List UInt8) (p:PTm) (t:Tm) (least:Int) (w:World) (h:Hp),G w h→K≤w.heap.size→J8 5 K b h→Lib.IsBuilderF 63 5 K b (Lib.byteCells (bs)) w→TmH d h p t→mX d t→bs.length+(e7 d t least).length≤100000000000→Calls Tryz.prog 20 #[pB b,aF p,iV least] w (kS 63 5 K b (.tuple #[]) bs (e7 d t least) w)
  | 0,_,_,_,_,_,_,_,_,_,_,_,_,x,_,_=>x.elim
  | d + 1,K,b,bs,p,t,least,w,h,g,hK,j8,ib,x,tx,hl=>by
    obtain ⟨op,n,q,s,A,c,ps,ks,rfl,rfl,hc,hA,hT⟩:=x.open;obtain ⟨t1,t2,t3,t4,t5⟩:=tx;have A0:=fun (bs:List UInt8) (least:Int) (hle:least≤iL op) (w:World) (h:Hp) (g:G w h) (hK:K≤w.heap.size) (j8:J8 5 K b h) (ib:Lib.IsBuilderF 63 5 K b (Lib.byteCells (bs)) w) (hA:SlO 9 aK ar h A ps) (hT:Tms d h ps ks) (hl:bs.length+(jP (e7 d) (.mk op n q s ks)).length≤100000000000)=>vb d K b bs (qt d) op n q s A c ps ks hc t1 t2 t3 t4 t5 least hle hl w h g hK j8 ib hA hT
    by_cases hr:iL op<least
    · rw[Cp (t:=(.mk op n q s ks)) hr] at hl ⊢
      exact tL d K b bs op n q s A c ps ks hc (fun bs w h g hK j8 ib hA hT hl=>A0 bs 0 (by have:=cP op;omega) w h g hK j8 ib hA hT hl) least hr hl w h g hK j8 ib hA hT
    · rw[Dd (t:=(.mk op n q s ks)) (by show least≤iL op;omega)] at hl ⊢
      exact A0 bs least oM w h g hK j8 ib hA hT hl
theorem rK {c:UInt8}:∀ {l:List UInt8} {o:Nat},l[o]?=some c→(∀ k,k<o→l[k]?≠some c)→Lib.indexByte l c=(o:Int)
  | [],o,h,_=>by simp at h
  | b::l,0,h,_=>by
    simp at h
    subst h
    unfold Lib.indexByte
    simp
  | b :: l,o+1,h,hk=>by
    have hb:(b == c)=false:=by
      have:=hk 0 (Nat.succ_pos o)
      simpa using this
    have ih:=rK (l:=l) (o:=o) (by simpa using h) (fun k h2=>by have:=hk (k+1) (Nat.succ_lt_succ h2);simpa using this)
    unfold Lib.indexByte
    rw[hb,ih]
    have:((o:Int) == -1)=false:=by
      rw[beq_eq_false_iff_ne];omega
    rw[this];simp
theorem oE {p:Nat→Bool}{s:ByteArray}:∀ f a i,a≤i→i<nz p s f a→p (ax s i)=true
  | 0,a,i,h1,h2=>by
    have h2:i<a:=h2
    omega
  | f + 1,a,i,h1,h2=>by
    unfold nz at h2
    split at h2
    · rename_i c
      rcases Nat.eq_or_lt_of_le h1 with e|e
      · rw[←e];exact c.2
      · exact oE f (a+1) i e h2
    · omega
theorem xL {p:Nat→Bool}{s:ByteArray}{a i:Nat}(h1:a≤i)(h2:i<rn p s a):p (ax s i)=true:=oE _ a i h1 h2
theorem tz {p:Nat→Bool}{s:ByteArray}{a:Nat}(h:rn p s a<s.size):p (ax s (rn p s a))=false:=jg p s _ a (Nat.le_refl _) h
theorem ol {s:ByteArray}{i j k:Nat}(h:i+k<j)(hj:j≤s.size):(s.extract i j).data.toList[k]?=s.data.toList[i+k]?:=by
 have hs:s.data.size=s.size:=rfl;rw[ByteArray.data_extract]
 simp only[Array.toList_extract,List.extract_eq_take_drop]
 rw[List.getElem?_take_of_lt oM,List.getElem?_drop]
theorem mA {s:ByteArray}{i:Nat}(h:i<s.size):s.data.toList[i]?=some (s.data.toList.getD i 0):=by
 rw[List.getD_eq_getElem?_getD];have h2:i<s.data.toList.length:=by simpa using h
 rw[List.getElem?_eq_getElem h2];rfl
theorem Bg {s:ByteArray}{a:Nat}(ha:a≤s.size)(hn:rn dh s a≠s.size):Lib.indexByte (s.extract a s.size).data.toList 93=((rn dh s a-a:Nat):Int):=by
 have h1:=oq dh s a;have h2:rn dh s a<s.size:=by have:=iI (p:=dh) ha;omega
 refine rK ?_ (fun k hk e=>?_)
 ·rw[ol oM (Nat.le_refl _),show a+(rn dh s a-a)=rn dh s a by omega,mA h2]
  have h3:=tz h2
  have h4:ax s (rn dh s a)=93:=Decidable.byContradiction fun h=>by
   have h5:dh (ax s (rn dh s a))=true:=decide_eq_true h;rw[h5] at h3;cases h3
  congr 1
  exact UInt8.toNat.inj h4
 ·rw[ol oM (Nat.le_refl _),mA oM] at e
  injection e with e
  have h3:=xL (p:=dh) (s:=s) (a:=a) (i:=a+k) oM oM;have h4:ax s (a+k)=93:=by unfold ax;rw[e];rfl
  have h5:ax s (a+k)≠93:=oT h3;exact h5 h4
section
variable {P:Program} {Γ:bI} {o:Oper}
theorem Dv {tx:TypeId}{x e:Operand}{k2:IntKind}{s:ByteArray}{m:Nat}{j2:Int}(ho:o.op=.slice tx x none (some e) none)(hx:ev Γ x=.string s)(he:ev Γ e=.int k2 j2)(hu:P.underlying tx=some .string)(hj2:j2=(m:Int))(hm:m≤s.size)(w:World) :
  (execOp (ev Γ) o).run P w=.ok (.value (.string (s.extract 0 m))) w:=by
 unfold execOp;simp only[ho]
 subst hj2;have h0:(m:Int)≤(s.size:Int):=by omega
 simp[Instr.sliceAt,hx,he,Instr.slice,run_underlying hu,Instr.sliceBounds,Instr.sliceBound,asIntOf,Result.andThen,h0,hm]
end
theorem uw (x:ByteArray)(c:UInt8)(o:Nat)(hi:Lib.indexByte x.data.toList c=(o:Int))(w:World)(h:Hp)(g:G w h):CV 108 #[.string x,.string ⟨#[c]⟩] w h (nV o):=by
 have q:=Ret.of_same g (Tryz.stringslite_Index_one x c w);rw[hi] at q;exact q
theorem Cn (x:ByteArray)(c:UInt8)(o:Nat)(hx:x.size≤1000000)(ho:o<x.size)(hi:Lib.indexByte x.data.toList c=(o:Int))(w:World)(h:Hp)(g:G w h):CV 187 #[.string x,.string (⟨#[c]⟩)] w h (.tuple #[.string (x.extract 0 o),.string (x.extract (o+1) x.size),.bool true]):=by
 have hs:=sS g;refine go Tryz.func187 [(0,.string x),(1,.string (⟨#[c]⟩))] rfl (aa hs [.v 4 (eS),.v 5 (eS),.v 6 qF] (af (aa hs [.m 8 0,.m 9 1] (ag 10 hs (uw x c o hi _ _ hs.g) (fun w1 h2 hs=>lL hs [.m 7 10] (aG (lL hs [.m 11 7] ?_)))))));have ⟨hb3,phb3⟩:=dT (p:=(0:Int)≤(o:Int)) oM;refine lB 12 hb3 (ao (cQ (cR 9 [] mixed hs av ?_)));refine eV 0 13 (.string x) (eV 1 14 (nV o) (eV 2 15 (.string (x.extract 0 o)) ?_ (hv:=fun _=>Dv (tx:=9) (x:=.tmp 13) (e:=.tmp 14) (k2:=.i64) (s:=x) (m:=o) (j2:=(o:Int)) kR kR kR kR oM oM _)));refine eV 3 16 (.string x) (eV 4 17 (nV o) (eV 5 18 (.string (⟨#[c]⟩)) (eV 6 19 (iV 1) (jO 7 20 ((o:Nat)+1) (o+1) (eV 8 21 (.string (x.extract (o+1) x.size)) ?_ (hv:=fun _=>i6 (tx:=9) (x:=.tmp 16) (i:=.tmp 20) (k:=.i64) (s:=x) (n:=(o+1)) (j:=((o+1:Nat):Int)) kR kR kR kR oM oM _))))));exact cC hs (fun w4 h5 hs=>tV 9 4 (.string (x.extract 0 o)) (tV 10 5 (.string (x.extract (o+1) x.size)) (tV 11 6 qT (tN (kX (hs.ret [] (.tuple #[.string (x.extract 0 o),.string (x.extract (o+1) x.size),qT]) rfl))))))
theorem wE (x:ByteArray)(c:UInt8)(o:Nat)(hx:x.size≤1000000)(ho:o<x.size)(hi:Lib.indexByte x.data.toList c=(o:Int))(w:World)(h:Hp)(g:G w h):CV 174 #[.string x,.string (⟨#[c]⟩)] w h (.tuple #[.string (x.extract 0 o),.string (x.extract (o+1) x.size),.bool true]):=by
 have hs:=sS g;exact go Tryz.func174 [(0,.string x),(1,.string (⟨#[c]⟩))] rfl (aa hs [.v 4 (eS),.v 5 (eS),.v 6 qF] (aG (lL hs [.m 7 0,.m 8 1] (ag 9 hs (Cn x c o hx ho hi _ _ hs.g) (fun w1 h2 hs=>lL hs [.v 10 (.string (x.extract 0 o)),.v 11 (.string (x.extract (o+1) x.size)),.v 12 qT,.m 4 10,.m 5 11,.m 6 12] (ac hs [] (.tuple #[.string (x.extract 0 o),.string (x.extract (o+1) x.size),qT]) rfl))))))
theorem CH (w:World)(h:Hp)(g:G w h):CV 194 #[uV 1] w h (iV 1):=Ret.of_same g (Tryz.bits_Len 1 w kD kD)
theorem Fk (x:ByteArray)(o:Nat)(hi:Lib.indexByte x.data.toList 93=(o:Int))(w:World)(h:Hp)(g:G w h):CV 178 #[.string x,.int .u8 93] w h (nV o):=by
 have q:=Ret.of_same g (Tryz.strings_IndexByte x 93 w);rw[show (93:Int).toNat.toUInt8=93 from rfl,hi] at q;exact q
theorem BH:(1/2:Rat).num=1:=by kernel_rfl
theorem xy:(1/2:Rat).den=2:=by kernel_rfl
theorem E4:LQ 100000000 (1/2:Rat):=⟨by rw[BH];show (wds 1).length≤100000000;rw[bj kD kD];decide,by rw[xy,bj kD kD];decide⟩
theorem na (x y:ByteArray)(k m:Nat)(hx:x.size≤18)(hy:y.size≤18)(hk_:gu x=some k)(hm_:gu y=some m)(h0:0<m)(hs1:(wds (ab (k:Int))).length≤1000000000)(hs2:(wds (ab (m:Int))).length≤1000000000)(w:World)(h:Hp)(g:G w h)(tb:Tab h):CV 175 #[.string x,.string y] w h (.tuple #[qv (mkR (k:Int) (m:Int)),.bool true]):=by
 have hs:=((sS g).aB tb);refine go Tryz.func175 [(0,.string x),(1,.string y)] rfl (aE (lA 4 28 ([qF,uV 0,eS,uV 0,eS]) hs (fun b1 w2 h3 hs=>lL hs [.v 5 qF] (aG (lL hs [.m 10 0] (ag 11 hs (od x k hx hk_ _ _ hs.g) (fun w4 h5 hs=>lL hs [.m 9 11,.v 12 (iv (k:Int)),.v 13 qT] (lA 6 26 ([qF,uV 0,eS]) hs (fun b6 w7 h8 hs=>lP 0 0 (ic (k:Int)) hs (fun w9 hs=>lL hs [.m 7 13] (af (aa hs [.m 14 7,.v 15 qF] (ah (cK (aa hs [.m 18 1] (ag 19 hs (gZ y m hy hm_ _ _ hs.g) (fun _ _ hs=>lL hs [.m 17 19,.v 20 (nv m),.v 21 qT] (lA 8 24 ([uV 0,eS]) hs (fun b12 _ _ hs=>lP 0 0 (nc m) hs (fun _ hs=>lL hs [.m 7 21] (af (aa hs [.m 22 7,.v 23 qF] (ah (cK (cQ (cR 6 [] mixed hs av ?_))))))))))))))))))))))))));exact eO 0 25 [(1,0,3)] (iv (k:Int)) hs (eO 1 26 [(0,0,2)] (nv m) hs (aq 2 27 hs (fun _ _ hs=>cM m _ _ hs.g) (fun _ _ hs=>aq 3 28 hs (fun _ _ hs=>AA (k:Int) (m:Int) oM hs1 hs2 _ _ hs.g hs.f.1) (fun _ _ hs=>eV 4 29 (qv (mkR (k:Int) (m:Int))) (eV 5 30 qT (cC hs (fun _ _ hs=>tP 6 2 0 (qc (mkR (k:Int) (m:Int))) hs (fun _ hs=>tV 7 5 qT (tN (kX (hs.ret [(2,0,5)] (.tuple #[qv (mkR (k:Int) (m:Int)),qT]) rfl)))))))))))
theorem AO  (w:World)(h:Hp)(g:G w h):CV 190 #[nv 10,iV 1] w h (.tuple #[nv 10,.bool true]):=by
 have hs:=sS g;refine go Tryz.func190 [(0,nv 10),(1,iV 1)] rfl (aE (lA 2 24 (nc 10) hs (fun b1 w2 h3 hs=>lA 4 24 ([uV 0,eS]) hs (fun b4 w5 h6 hs=>lL hs [.v 5 qF] (af (aa hs [.m 8 1,.v 9 qF,.m 10 9,.m 11 1,.v 12 qF,.v 13 qF] (ah (cK (aE (ag 15 hs (xG 1 kD _ _ hs.g) (fun w7 h8 hs=>lA 6 24 ([uV 0,eS]) hs (fun b9 _ _ hs=>lP 0 0 (nc 1) hs (fun _ hs=>af (aa hs [.m 16 1,.v 17 (uV 1)] (ag 18 hs (CH _ _ hs.g) (fun _ _ hs=>lL hs [.v 19 (iV 0),.m 7 19] (bn (cU ?_))))))))))))))))));refine cN (cQ (aa hs [.m 20 7,.v 21 qT] (ao (cK (cQ (kZ (aa hs [.o 24 (nv 1) 0 0 2,.o 25 (nv 1) 0 0 2] (ag 26 hs (jB 1 1 (by rw[bj kD kD];decide) (by rw[bj kD kD];decide) _ _ hs.g) (fun _ _ hs=>lP 0 0 (nc (1*1)) hs (fun _ hs=>aG (lL hs [.m 27 1,.m 28 7,.v 29 (iV 1),.v 30 (iV 1),.v 31 qT] (ao (kQ (lL hs [.o 32 (nv (1*1)) 0 0 2,.o 33 (nv 10) 2 0 2] (ag 34 hs (jB (1*1) 10 (by rw[bj kD kD];decide) (by rw[bj kD kD];decide) _ _ hs.g) (fun _ _ hs=>lP 0 0 (nc ((1*1)*10)) hs (fun _ hs=>lN (kQ (lL hs [.m 22 7,.v 23 (iV (-1)),.m 7 23] (lD (CL.to [(1,iV 1),(2,pB b1),(4,pB b4),(5,qF),(6,pB b9),(7,iV (-1)),(20,iV 0),(21,qT),(24,nv 1),(25,nv 1),(26,nv (1*1)),(27,iV 1),(28,iV 0),(29,iV 1),(30,iV 1),(31,qT),(32,nv (1*1)),(33,nv 10),(34,nv ((1*1)*10)),(22,iV 0),(23,iV (-1))] ?_)))))))))))))))))))));replace hs:=hs.to [⟨b9,24,nc ((1*1)*10)⟩,⟨b4,24,[uV 0,eS]⟩,⟨b1,24,nc 10⟩] [];refine cN (cQ (aa hs [.m 20 7,.v 21 qF] (ah (CG.exit ?_))))
 show CG _ _ _ _ _ _ _ _
 exact aa hs [.o 35 (nv ((1*1)*10)) 0 0 2] (lP 1 0 (nc ((1*1)*10)) hs (fun _ hs=>lL hs [.v 5 qT] (ac hs [(1,0,2)] (.tuple #[nv ((1*1)*10),qT]) rfl)))
theorem Ay  (w:World)(h:Hp)(g:G w h):CV 195 #[.string (⟨#[53]⟩),.int .u8 48] w h (.string ⟨#[53]⟩):=by
 have hs:=sS g;refine go Tryz.func195 [(0,.string (⟨#[53]⟩)),(1,.int .u8 48)] rfl (aa hs [.v 4 (eS)] (af (kZ (cU ?_))));refine cN (cQ (aa hs [.m 5 0,.v 6 (iV 1),.v 7 qT,.m 8 7,.m 9 0,.v 10 (.int .u8 53),.m 11 1,.v 12 qF,.v 13 qF] (ah (CG.exit ?_))))
 show CG _ _ _ _ _ _ _ _
 exact aa hs [.m 16 0,.m 4 16] (ac hs [] (.string (⟨#[53]⟩)) rfl)
theorem BJ  (w:World)(h:Hp)(g:G w h):CV 191 #[.string (⟨#[53]⟩),.string (⟨#[48]⟩)] w h (.string ⟨#[53]⟩):=by
 have hs:=sS g;exact go Tryz.func191 [(0,.string (⟨#[53]⟩)),(1,.string (⟨#[48]⟩))] rfl (aa hs [.v 4 (eS)] (af (aa hs [.m 7 0,.v 8 qF,.m 9 8,.m 10 1,.v 11 qF,.v 12 qF] (ah (cK (cQ (aa hs [.m 14 1,.v 15 (iV 1),.v 16 qT,.m 17 16,.m 18 1,.v 19 (.int .u8 48),.v 20 qT,.v 21 qT] (ao (aa hs [.m 22 0,.m 23 1,.v 24 (.int .u8 48)] (ag 25 hs (Ay _ _ hs.g) (fun w1 h2 hs=>lL hs [.m 4 25] (ac hs [] (.string (⟨#[53]⟩)) rfl))))))))))))
theorem vV  (w:World)(h:Hp)(g:G w h)(tb:Tab h):CV 176 #[.string (⟨#[48]⟩),.string (⟨#[53]⟩)] w h (.tuple #[qv (mkRat ((5:Nat):Int) 10),.bool true]):=by
 have hs:=((sS g).aB tb);refine go Tryz.func176 [(0,.string (⟨#[48]⟩)),(1,.string (⟨#[53]⟩))] rfl (aE (lA 4 28 ([qF,uV 0,eS,uV 0,eS]) hs (fun b1 w2 h3 hs=>lL hs [.v 5 qF] (aG (lL hs [.m 16 0] (ag 17 hs (iH ⟨#[48]⟩ 45 kD _ _ hs.g) (fun w4 h5 hs=>lL hs [.m 15 17,.v 18 (.string (⟨#[48]⟩)),.v 19 qF,.m 6 18,.m 7 19] (aG (lL hs [.m 21 6] (ag 22 hs (gZ ⟨#[48]⟩ 0 kD kD _ _ hs.g) (fun w6 h7 hs=>lL hs [.m 20 22,.v 23 (nv 0),.v 24 qT] (lA 8 24 ([uV 0,eS]) hs (fun b8 w9 _ hs=>lP 0 0 (nc 0) hs (fun _ hs=>lL hs [.m 9 24] (af (aa hs [.m 25 9,.v 26 qF,.m 27 26,.m 28 1,.v 29 qF,.v 30 qF,.m 31 30,.m 32 1,.v 33 (iV 1),.v 34 qF,.v 35 qF] (ah (cK (cQ (aa hs [.m 37 1,.v 38 (iV 1),.v 39 (iV 0)] (bn (cU ?_))))))))))))))))))))));refine cN (aa hs [.v 40 qT] (af (ce (cK (cQ (kZ (aa hs [.m 41 39,.m 10 41] (aG (lL hs [.m 42 1,.m 43 10,.v 44 (.int .u8 53),.v 45 qF,.m 46 45,.m 47 1,.m 48 10,.v 49 (.int .u8 53),.v 50 qF,.v 51 qF] (lN (bQ [(1,.string (⟨#[53]⟩)),(4,pB b1),(5,qF),(7,qF),(8,pB b8),(38,iV 1),(39,iV 0),(40,qT),(41,iV 0),(10,iV 0),(42,.string (⟨#[53]⟩)),(43,iV 0),(44,.int .u8 53),(45,qF),(46,qF),(47,.string (⟨#[53]⟩)),(48,iV 0),(49,.int .u8 53),(50,qF),(51,qF)] ?_)))))))))));refine cw (cK (kQ (lL hs [.v 53 (iV 1),.m 39 53] (lD (CL.to [(1,.string (⟨#[53]⟩)),(4,pB b1),(5,qF),(7,qF),(8,pB b8),(38,iV 1),(39,iV 1),(40,qT),(41,iV 0),(10,iV 0),(42,.string (⟨#[53]⟩)),(43,iV 0),(44,.int .u8 53),(45,qF),(46,qF),(47,.string (⟨#[53]⟩)),(48,iV 0),(49,.int .u8 53),(50,qF),(51,qF),(53,iV 1)] ?_)))));replace hs:=hs.to [⟨b8,24,nc 0⟩,⟨b1,28,[qF,uV 0,eS,uV 0,eS]⟩] [];refine cN (aa hs [.v 40 qF] (af (cw (CG.exit ?_))))
 show CG _ _ _ _ _ _ _ _
 refine aE (ag 55 hs (xG 10 kD _ _ hs.g) (fun _ _ hs=>lL hs [.m 56 1,.v 57 (iV 1)] (ag 58 hs (AO _ _ hs.g) (fun _ _ hs=>lL hs [.m 54 58,.v 59 (nv 10),.v 60 qT] (lA 11 24 ([uV 0,eS]) hs (fun za _ _ hs=>lP 0 0 (nc 10) hs (fun _ hs=>lL hs [.m 12 60] (aG (lL hs [.v 61 (.agg #[uV 0,eS])] (lA 13 24 ([uV 0,eS]) hs (fun zb _ _ hs=>lP 0 0 ([uV 0,eS]) hs (fun _ hs=>af (aa hs [.m 62 1] (ag 63 hs (BJ _ _ hs.g) (fun _ _ hs=>lL hs [.m 14 63] (aG (lL hs [.m 64 14,.v 65 qT] (ao (kQ (lL hs [.m 67 14] (ag 68 hs (gZ ⟨#[53]⟩ 5 kD kD _ _ hs.g) (fun _ _ hs=>lL hs [.m 66 68,.v 69 (nv 5),.v 70 qT] (lP 0 0 (nc 5) hs (fun _ hs=>lN (bQ [(4,pB b1),(5,qF),(7,qF),(8,pB b8),(11,pB za),(13,pB zb)] ?_)))))))))))))))))))))))));refine cQ (cR 9 [] mixed hs av ?_);exact eV 0 71 qF (eO 1 72 [(2,0,2)] (nv 0) hs (eO 2 73 [(1,0,2)] (nv 10) hs (eO 4 75 [(0,0,2)] (nv 5) hs (eO 7 78 [(1,0,2)] (nv 10) hs (aq 3 74 hs (fun _ _ hs=>jB 0 10 (by rw[gA];decide) (by rw[bj kD kD];decide) _ _ hs.g) (fun _ _ hs=>aq 5 76 hs (fun _ _ hs=>BC 0 5 (by rw[gA];decide) (by rw[bj kD kD];decide) _ _ hs.g) (fun _ _ hs=>aq 6 77 hs (fun _ _ hs=>cM 5 _ _ hs.g) (fun _ _ hs=>aq 8 79 hs (fun _ _ hs=>nY ((5:Nat):Int) 10 kD (show (wds 5).length≤1000000000 by rw[bj kD kD];decide) (by rw[bj kD kD];decide) _ _ hs.g hs.f.1) (fun _ _ hs=>cC hs (fun _ _ hs=>tP 9 3 0 (qc (mkRat ((5:Nat):Int) 10)) hs (fun _ hs=>tV 10 5 qT (tN (kX (hs.ret [(3,0,5)] (.tuple #[qv (mkRat ((5:Nat):Int) 10),qT]) rfl))))))))))))))
theorem ub  (w:World)(h:Hp)(g:G w h)(tb:Tab h):CV 147 #[.string (⟨#[49,47,50]⟩)] w h (.tuple #[qv (1/2:Rat),.bool true]):=by
 have hs:=((sS g).aB tb);exact go Tryz.func147 [(0,.string (⟨#[49,47,50]⟩))] rfl (aE (lA 2 28 ([qF,uV 0,eS,uV 0,eS]) hs (fun b1 w2 h3 hs=>lL hs [.v 3 qF] (af (aa hs [.m 13 0] (ag 14 hs (wE ⟨#[49,47,50]⟩ 47 1 kD kD kD _ _ hs.g) (fun w4 h5 hs=>lL hs [.m 12 14,.v 15 (.string (⟨#[49]⟩)),.v 16 (.string (⟨#[50]⟩)),.v 17 qT,.m 4 15,.m 5 16,.m 6 17] (aG (lL hs [.m 18 6] (ao (aa hs [.m 19 4,.m 20 5] (ag 21 hs (na ⟨#[49]⟩ ⟨#[50]⟩ 1 2 kD kD kD kD kD (show (wds 1).length≤1000000000 by rw[bj kD kD];decide) (show (wds 2).length≤1000000000 by rw[bj kD kD];decide) _ _ hs.g hs.f.1) (fun w6 h7 hs=>lL hs [.v 22 (qv (mkR ((1:Nat):Int) ((2:Nat):Int))),.v 23 qT] (lP 0 0 (qc (mkR ((1:Nat):Int) ((2:Nat):Int))) hs (fun w8 hs=>lL hs [.m 3 23] (ac hs [(0,0,5)] (.tuple #[qv (mkR ((1:Nat):Int) ((2:Nat):Int)),qT]) (congrArg (fun q_=>Value.tuple #[qv q_,qT]) (oT kR))))))))))))))))))
theorem vQ  (w:World)(h:Hp)(g:G w h)(tb:Tab h):CV 147 #[.string (⟨#[48,46,53]⟩)] w h (.tuple #[qv (1/2:Rat),.bool true]):=by
 have hs:=((sS g).aB tb);exact go Tryz.func147 [(0,.string (⟨#[48,46,53]⟩))] rfl (aE (lA 2 28 ([qF,uV 0,eS,uV 0,eS]) hs (fun b1 w2 h3 hs=>lL hs [.v 3 qF] (af (aa hs [.m 13 0] (ag 14 hs (q7 ⟨#[48,46,53]⟩ 47 kD _ _ hs.g) (fun w4 h5 hs=>lL hs [.m 12 14,.v 15 (.string (⟨#[48,46,53]⟩)),.v 16 (eS),.v 17 qF,.m 4 15,.m 5 16,.m 6 17] (aG (lL hs [.m 18 6] (ah (cK (cQ (aa hs [.m 25 0] (ag 26 hs (wE ⟨#[48,46,53]⟩ 46 1 kD kD kD _ _ hs.g) (fun w6 h7 hs=>lL hs [.m 24 26,.v 27 (.string (⟨#[48]⟩)),.v 28 (.string (⟨#[53]⟩)),.v 29 qT,.m 7 27,.m 8 28,.m 9 29] (aG (lL hs [.m 30 9] (ao (aa hs [.m 31 7,.m 32 8] (ag 33 hs (vV _ _ hs.g hs.f.1) (fun w8 h9 hs=>lL hs [.v 34 (qv (mkRat ((5:Nat):Int) 10)),.v 35 qT] (lP 0 0 (qc (mkRat ((5:Nat):Int) 10)) hs (fun _ hs=>lL hs [.m 3 35] (ac hs [(0,0,5)] (.tuple #[qv (mkRat ((5:Nat):Int) 10),qT]) (congrArg (fun q_=>Value.tuple #[qv q_,qT]) (oT kR))))))))))))))))))))))))))
theorem AD  (w:World)(h:Hp)(g:G w h):CV 38 #[qv (1/2:Rat)] w h (.string ⟨#[49,47,50]⟩):=by
 have hs:=sS g;refine go Tryz.func38 [(0,qv (1/2:Rat))] rfl (aE (lA 1 28 (qc (1/2:Rat)) hs (fun b1 w2 h3 hs=>lL hs [.v 2 (eS)] (af (aa hs [.o 3 (qv (1/2:Rat)) 0 0 5] (ag 4 hs ((by have q_:=fe (1/2:Rat) E4 _ _ hs.g;rw[decide_eq_false (by rw[xy];decide)] at q_;exact q_)) (fun w4 h5 hs=>ah (cK (cQ (cR 8 [] mixed hs av ?_))))))))));refine eV 0 8 (pB b1) (eO 1 9 [(0,0,3)] (iv ((1/2:Rat).num)) hs (eV 4 12 (qP b1 3) (eO 5 13 [(0,3,2)] (nv (qd (1/2:Rat))) hs (aq 2 10 hs (fun _ _ hs=>tj (1/2:Rat).num 1 BH kD _ _ hs.g) (fun w6 h7 hs=>eV 3 11 (.string ((⟨(Lib.decDigits 1).toArray⟩:ByteArray)++(⟨#[47]⟩))) ?_ (hv:=fun _=>nI (a:=⟨(Lib.decDigits 1).toArray⟩) (b:=⟨#[47]⟩) kR (oT kR)))))));refine aq 6 14 hs (fun _ _ hs=>sD 2 kD _ _ hs.g) (fun w8 h9 hs=>eV 7 15 (.string (((⟨(Lib.decDigits 1).toArray⟩:ByteArray)++(⟨#[47]⟩):ByteArray)++(⟨(Lib.decDigits 2).toArray⟩))) ?_ (hv:=fun _=>nI (a:=(⟨(Lib.decDigits 1).toArray⟩:ByteArray)++(⟨#[47]⟩)) (b:=⟨(Lib.decDigits 2).toArray⟩) kR (oT kR)));exact cC hs (fun _ _ hs=>tV 8 2 (.string (((⟨(Lib.decDigits 1).toArray⟩:ByteArray)++(⟨#[47]⟩):ByteArray)++(⟨(Lib.decDigits 2).toArray⟩))) (tN (kX (hs.ret [] (.string (((⟨(Lib.decDigits 1).toArray⟩:ByteArray)++(⟨#[47]⟩):ByteArray)++(⟨(Lib.decDigits 2).toArray⟩))) (congrArg Value.string (oT kR))))))
theorem oY  (pb:Nat)(s:ByteArray)(hsz:s.size≤1000000)(a:Nat)(ha:a≤s.size)(bd:Int)(q:Rat)(h91:ax s a=91)(hne:rn dh s (a+1)≠s.size)(hFP:∀ (w:World) (h:Hp),G w h→Tab h→CV 147 #[.string (s.extract (a+1) (rn dh s (a+1)))] w h (.tuple #[qv q,.bool true]))(hTX:∀ (w:World) (h:Hp),G w h→CV 38 #[qv q] w h (.string (s.extract (a+1) (rn dh s (a+1)))))(w:World)(h:Hp)(g:G w h)(ho:Own w pb 52 [.string s,nV a,iV bd])(hj:h[pb]?=some junk)(tb:Tab h):Calls Tryz.prog 150 #[pB pb] w (cA pb w h (sH pb s (bW q) (rn dh s (a+1)+1) bd)):=by
 have hmo:UpM [pb] w h w h:=UpM.refl g;obtain ⟨wz,hz0_,hs⟩:=SS.at_ g ho hj;have hin:=nj (s:=s) (a:=a) oM;have hge:=oq dh s (a+1);have hle:=iI (p:=dh) (s:=s) (a:=a+1) oM;have hix:=Bg (s:=s) (a:=a+1) oM hne
 generalize hr:rn dh s (a+1)=r at hne hge hle hix hFP hTX ⊢
 replace hs:=(hs.aB tb);refine go Tryz.func150 [(0,pB pb)] rfl (aa hs [.v 2 (.pointer none)] (aG (lL hs [.m 9 0,.v 10 (pB pb),.v 11 (qP pb 1),.o 12 (nV a) 0 1 1,.m 3 12] (aG (lL hs [.m 13 0,.v 14 (pB pb),.v 15 (pB pb),.o 16 (.string s) 0 0 1,.m 17 3] (bH 18 ((a:Nat)+1) (a+1) ?_))))));refine lV 19 (.string (s.extract (a+1) s.size)) ?_ (hr:=i6 (tx:=9) (x:=.tmp 16) (i:=.tmp 18) (k:=.i64) (s:=s) (n:=(a+1)) (j:=((a+1:Nat):Int)) kR kR kR kR oM oM _);refine iz 20 (Fk (s.extract (a+1) s.size) (r-(a+1)) hix _ _ hs.g) ?_;rintro _ w1 h2 u3 rfl;replace hmo:=hmo.trans (u3.m _);replace hs:=hs.step u3;refine lL hs [.m 4 20] (af (aa hs [.m 21 4] ?_));have hb4:(decide (((r-(a+1):Nat):Int)<(0:Int)))=false:=decide_eq_false oM;refine lB 22 hb4 (ah (cK (aa hs [.m 26 0,.v 27 (pB pb),.v 28 (pB pb),.o 29 (.string s) 0 0 1,.m 30 3] (bH 31 ((a:Nat)+1) (a+1) ?_))));refine lL hs [.m 32 3] (bH 33 ((a:Nat)+1) (a+1) ?_);refine lL hs [.m 34 4] (bH 35 ((a+1:Nat)+(r-(a+1):Nat)) r ?_);refine lV 36 (.string (s.extract (a+1) r)) ?_ (hr:=ng (tx:=9) (x:=.tmp 29) (i:=.tmp 31) (e:=.tmp 35) (k:=.i64) (k2:=.i64) (s:=s) (n:=(a+1)) (m:=r) (j:=((a+1:Nat):Int)) (j2:=(r:Int)) kR kR kR kR kR oM oM oM oM _);refine lL hs [.m 5 36] (aG (lL hs [.m 38 5] (iz 39 (hFP _ _ hs.g hs.f.1) ?_)));rintro _ w5 h6 u7 rfl;replace hmo:=hmo.trans (u7.m _);replace hs:=hs.step u7;refine lL hs [.m 37 39,.v 40 (qv q),.v 41 qT] (qJ 6 28 ([qF,uV 0,eS,uV 0,eS]) hs (fun b8 w9 _ u11 hlo_b8 hs=>?_));replace hlo_b8:=Nat.le_trans hmo.gr.size hlo_b8;replace hmo:=hmo.trans (u11.m _);refine kT 0 0 (qc q) hs (fun _ pu hs=>?_);replace hmo:=hmo.put2 pu hlo_b8 g hs.g;refine lL hs [.m 7 41] (af (aa hs [.m 42 7,.v 43 qF,.m 44 43,.o 45 (qv q) 0 0 5] (iz 46 (hTX _ _ hs.g) ?_)));rintro _ _ _ u15 rfl;replace hmo:=hmo.trans (u15.m _);replace hs:=hs.step u15;refine lL hs [.m 47 5] (lV 48 qF ?_ (hr:=rb kR (Di (s.extract (a+1) r))));refine lL hs [.v 49 qF] (lN (bQ [(0,pB pb),(2,.pointer none),(3,nV a),(4,nV (r-(a+1))),(6,pB b8),(49,qF)] ?_));refine cw (cK (aa hs [.m 53 0,.m 54 3] (bH 55 ((a:Nat)+1) (a+1) ?_)));refine lL hs [.m 56 4] (bH 57 ((a+1:Nat)+(r-(a+1):Nat)) r ?_);refine bH 58 ((r:Nat)+1) (r+1) (lL hs [.v 59 (pB pb),.v 60 (qP pb 1)] (kT 1 1 ([nV (r+1)]) hs (fun _ pu hs=>?_)));replace hmo:=hmo.put pu (List.mem_singleton.2 rfl) hs.g;refine aG (lL hs [.o 61 (qv q) 0 0 5] (iz 62 (nU q _ _ hs.g) ?_));rintro _ _ _ u20 ⟨pq17,rfl,hTq17⟩;replace hmo:=hmo.trans (u20.m _);replace hs:=hs.step u20;replace hs:=(hs.add (K:=fun h_=>PtH h_ pq17 (bW q)) hTq17);refine qJ 8 31 ([iV 0,iV 0,qF,uV 0,eS,uV 0,eS,eS,sZ]) hs (fun za _ _ u24 hlo_b21 hs=>?_);replace hlo_b21:=Nat.le_trans hmo.gr.size hlo_b21;replace hmo:=hmo.trans (u24.m _);refine kT 0 0 (aK pq17) hs (fun _ pu hs=>?_);replace hmo:=hmo.put2 pu hlo_b21 g hs.g;refine aG (lL hs [.m 2 8] (lN (kX ?_)));obtain ⟨zb,hs,hmo,sg27⟩:=hs.pubM hmo 0 hlo_b21;replace hs:=hs.to [⟨b8,28,qc q⟩,⟨pb,52,[.string s,nV (r+1),iV bd]⟩] [];have sg29:Seg zb za 0 (aK pq17):=sg27;replace hs:=hs.a_Seg sg29;exact hs.retM hmo [] (pB za) (by exact ⟨za,pq17,rfl,by first|assumption|omega,hs.own 1,hs.f.1,hs.f.2.1⟩)
def mL (x:ByteArray):Option Rat:=if x=⟨#[48,46,53]⟩ then some (1/2) else Bl x
def mM (x:ByteArray):Option Rat:=if x=⟨#[49,47,50]⟩ then some (1/2) else none
theorem gc:lU mL:=fun x q h w hh g tb=>by
 unfold mL at h
 split at h
 ·rename_i e;subst e;injection h with h;subst h;exact vQ w hh g tb
 ·exact qi x q h w hh g tb
theorem ge:wY mM:=fun pb s h1 a h2 bd q h3 h4 h5 w h g ho hj tb=>by
 unfold mM at h5
 split at h5
 ·rename_i e;injection h5 with h5;subst h5
  exact oY pb s h1 a h2 bd (1/2) h3 h4 (fun w h g tb=>by rw[e];exact ub w h g tb) (fun w h g=>by rw[e];exact AD w h g) w h g ho hj tb
 ·cases h5
def qY (x:Option PR)(f:Tm→Nat→Option Nat):Option Nat:=match x with
  | some (.ok t a)=>f t a
  | _=>none
def Dc (x y:Option Nat):Option Nat:=match x with
  | some b=>some b
  | none=>y
theorem fR {x:Option PR}{f:Tm→Nat→Option Nat}{b:Nat}(h:qY x f=some b):∃ t a,x=some (.ok t a)∧f t a=some b:=by
 match x,h with
 | some (.ok t a),h=>exact ⟨t,a,rfl,h⟩
theorem gF {x y:Option Nat}{b:Nat}(h:Dc x y=some b):x=some b∨y=some b:=by
 match x,h with
 | some c,h=>exact .inl h
 | none,h=>exact .inr h
section
variable (nf bf:ByteArray→Option Rat) (s:ByteArray)
def pre:Nat→PKd→Nat→Option Nat
  | 0,_,_=>none
  | n+1,.sum,a=>Dc (pre n .prod a) (qY (cl nf bf s n .prod a) fun t b=>pre n (.more false t) b)
  | n+1,.prod,a=>Dc (pre n .sign a) (qY (cl nf bf s n .sign a) fun t b=>pre n (.more true t) b)
  | n+1,.more lv t,a =>
    if ax s (sk s a)=c1 lv then Dc (pre n (part lv) (sk s a+1)) (qY (cl nf bf s n (part lv) (sk s a+1)) fun u b=>pre n (.more lv (bB (jN lv) t u)) b)
    else if ax s (sk s a)=c2 lv then Dc (pre n (part lv) (sk s a+1)) (qY (cl nf bf s n (part lv) (sk s a+1)) fun u b=>pre n (.more lv (bB (iQ lv) t u)) b)
    else none
  | n+1,.sign,a=>if ax s (sk s a)=45 then pre n .sign (sk s a+1) else pre n .pow (sk s a)
  | n+1,.pow,a=>pre n .atom a
  | n + 1,.atom,a =>
    if fT (ax s (sk s a))=true then none
    else if gj (ax s (sk s a))∨ax s (sk s a)=95 then
      if bU (s.extract (sk s a) (rn bO s (sk s a)))=true then pre n (.call (da (s.extract (sk s a) (rn bO s (sk s a))))) (rn bO s (sk s a)) else none
    else if ax s (sk s a)=91∨ax s (sk s a)=40 then none
    else some (sk s a)
  | n+1,.call _,a=>if ax s (sk s a)=40 then none else some (sk s a)
variable {nf bf s}
variable {n a b:Nat} {u:Tm} {lv:Bool} {op:Int}
theorem oC (h:pre nf bf s (n+1) (pp lv) a=some b):pre nf bf s n (part lv) a=some b∨∃ t c,cl nf bf s n (part lv) a=some (.ok t c)∧pre nf bf s n (.more lv t) c=some b:=by
 cases lv
 ·rcases gF h with h|h
  ·exact .inl h
  ·exact .inr (fR h)
 ·rcases gF h with h|h
  ·exact .inl h
  ·exact .inr (fR h)
theorem t6 {k:PKd}(h:pre nf bf s n k a=some b):∃ m,n=m+1:=by
 cases n with
 | zero=>cases h
 | succ m=>exact ⟨m,rfl⟩
theorem pU (h:pre nf bf s (n+1) (.more lv u) a=some b)(c:ax s (sk s a)=c1 lv):pre nf bf s n (part lv) (sk s a+1)=some b∨∃ v e,cl nf bf s n (part lv) (sk s a+1)=some (.ok v e)∧pre nf bf s n (.more lv (bB (jN lv) u v)) e=some b:=by
 unfold pre at h;rw[if_pos c] at h
 rcases gF h with h|h
 ·exact .inl h
 ·exact .inr (fR h)
theorem pz (h:pre nf bf s (n+1) (.more lv u) a=some b)(d:ax s (sk s a)≠c1 lv)(c:ax s (sk s a)=c2 lv):pre nf bf s n (part lv) (sk s a+1)=some b∨∃ v e,cl nf bf s n (part lv) (sk s a+1)=some (.ok v e)∧pre nf bf s n (.more lv (bB (iQ lv) u v)) e=some b:=by
 unfold pre at h;rw[if_neg d,if_pos c] at h
 rcases gF h with h|h
 ·exact .inl h
 ·exact .inr (fR h)
theorem pK (h:pre nf bf s (n+1) (.more lv u) a=some b)(d:ax s (sk s a)≠c1 lv)(c:ax s (sk s a)≠c2 lv):False:=by
 unfold pre at h;rw[if_neg d,if_neg c] at h;cases h
theorem tZ (h:pre nf bf s (n+1) .sign a=some b)(c:ax s (sk s a)=45):pre nf bf s n .sign (sk s a+1)=some b:=by
 unfold pre at h;rw[if_pos c] at h;exact h
theorem o3 (h:pre nf bf s (n+1) .sign a=some b)(c:ax s (sk s a)≠45):pre nf bf s n .pow (sk s a)=some b:=by
 unfold pre at h;rw[if_neg c] at h;exact h
theorem uR (h:pre nf bf s (n+1) .pow a=some b):pre nf bf s n .atom a=some b:=h
theorem vT (h:pre nf bf s (n+1) .atom a=some b)(c:fT (ax s (sk s a))=true):False:=by
 unfold pre at h;rw[if_pos c] at h;cases h
theorem xH (h:pre nf bf s (n+1) .atom a=some b)(c0:fT (ax s (sk s a))=false)(c:gj (ax s (sk s a))∨ax s (sk s a)=95):bU (s.extract (sk s a) (rn bO s (sk s a)))=true∧pre nf bf s n (.call (da (s.extract (sk s a) (rn bO s (sk s a))))) (rn bO s (sk s a))=some b:=by
 unfold pre at h;rw[if_neg (by rw[c0];decide),if_pos c] at h
 split at h
 ·rename_i e;exact ⟨e,h⟩
 ·cases h
theorem qO (h:pre nf bf s (n+1) .atom a=some b)(c0:fT (ax s (sk s a))=false)(c:¬(gj (ax s (sk s a))∨ax s (sk s a)=95)):ax s (sk s a)≠91∧ax s (sk s a)≠40∧b=sk s a:=by
 unfold pre at h;rw[if_neg (by rw[c0];decide),if_neg c] at h
 split at h
 ·cases h
 ·rename_i e;injection h with h;exact ⟨fun x=>e (.inl x),fun x=>e (.inr x),h.symm⟩
theorem rC (h:pre nf bf s (n+1) (.call op) a=some b):ax s (sk s a)≠40∧b=sk s a:=by
 unfold pre at h
 split at h
 ·cases h
 ·rename_i e;injection h with h;exact ⟨e,h.symm⟩
end
def p7 (pb:Nat)(s:ByteArray)(b:Nat):Value→World→Hp→Prop:=fun v w' _=>∃ a':Nat,v=.pointer none∧a'≤s.size∧Own w' pb 52 [.string s,.int .i64 (a':Nat),.int .i64 (b:Nat)]
def oA (nf bf:ByteArray→Option Rat)(f:FuncId)(n:Nat)(k:PKd):Prop:=∀ (pb:Nat) (s:ByteArray),s.size≤1000000→∀ (a:Nat),a≤s.size→∀ (bd:Int) (b:Nat),pre nf bf s n k a=some b→∀ (w:World) (h:Hp),G w h→Own w pb 52 [.string s,nV a,iV bd]→h[pb]?=some junk→Tab h→Calls Tryz.prog f #[pB pb] w (cA pb w h (p7 pb s b))
def Cy (nf bf:ByteArray→Option Rat)(n:Nat):Prop:=∀ (op:Int),9≤op∧op≤13→∀ (pb:Nat) (s:ByteArray),s.size≤1000000→∀ (a:Nat),a≤s.size→∀ (bd:Int) (b:Nat),pre nf bf s n (.call op) a=some b→∀ (w:World) (h:Hp),G w h→Own w pb 52 [.string s,nV a,iV bd]→h[pb]?=some junk→Tab h→Calls Tryz.prog 149 #[pB pb,iV op] w (cA pb w h (p7 pb s b))
theorem wS  (pb:Nat)(s:ByteArray)(hsz:s.size≤1000000)(a:Nat)(ha:a≤s.size)(bd:Int)(at_:Nat)(hat:at_≤1000000)(w:World)(h:Hp)(g:G w h)(ho:Own w pb 52 [.string s,nV a,iV bd])(hj:h[pb]?=some junk)(tb:Tab h):Calls Tryz.prog 14 #[pB pb,nV at_] w (cA pb w h fun v w' _=>v=.pointer none∧Own w' pb 52 [.string s,nV a,nV at_]):=by
 have hmo:UpM [pb] w h w h:=UpM.refl g;obtain ⟨wz,hz0_,hs⟩:=SS.at_ g ho hj;replace hs:=(hs.aB tb);refine go Tryz.func14 [(0,pB pb),(1,nV at_)] rfl (aa hs [.v 4 (.pointer none)] (aG (lL hs [.m 5 0,.m 6 1,.v 7 (pB pb),.v 8 (qP pb 2)] (kT 0 2 ([nV at_]) hs (fun w1 pu hs=>?_)))));replace hmo:=hmo.put pu (List.mem_singleton.2 rfl) hs.g;exact aG (lL hs [.v 4 (.pointer none)] (lN (kX (hs.retM hmo [] (.pointer none) ⟨rfl,hs.own 0⟩))))
section
variable {nf bf:ByteArray→Option Rat} (n:Nat)
theorem lw  (lv:Bool)(fp:FuncId)(hen:∀ (args:Array Value) (w:World),(callFunc fp args).run Tryz.prog w=.ok (.enter fp args) w)(hpe:oA nf bf fp n (part lv))(pb:Nat)(s:ByteArray)(hsz:s.size≤1000000)(a:Nat)(ha:a≤s.size)(bd:Int)(b:Nat)(he:pre nf bf s n (part lv) a=some b)(w:World)(h:Hp)(g:G w h)(ho:Own w pb 52 [.string s,nV a,iV bd])(hj:h[pb]?=some junk)(tb:Tab h):Calls Tryz.prog 28 #[pB pb,.func (.func fp) #[pB pb] #[],.int .u8 (c1 lv:Nat),iV (jN lv),.int .u8 (c2 lv:Nat),iV (iQ lv)] w (cA pb w h (p7 pb s b)):=by
 have hmo:UpM [pb] w h w h:=UpM.refl g;obtain ⟨wz,hz0_,hs⟩:=SS.at_ g ho hj;replace hs:=(hs.aB tb);refine go Tryz.func28 [(0,pB pb),(1,.func (.func fp) #[pB pb] #[]),(2,.int .u8 (c1 lv:Nat)),(3,iV (jN lv)),(4,.int .u8 (c2 lv:Nat)),(5,iV (iQ lv))] rfl (aa hs [.v 12 (.pointer none)] (aG (lL hs [.m 17 1] (cY 18 (hpe pb s hsz a ha bd b he _ _ hs.g (hs.own 0) (hs.jk 0) hs.f.1) ?_ (hr:=Eq.trans kR (hen _ _))))));rintro _ w2 h3 u4 ⟨aeq1,rfl,haeq1,hOq1⟩;replace hs:=(hs.stepM 0 u4 hOq1).to [⟨pb,52,[.string s,nV aeq1,nV b]⟩] [];replace hmo:=hmo.trans u4;refine lL hs [.m 13 18] (af (kZ (cU ?_)));refine cN (cQ (aa hs [.m 19 13,.v 20 qF] (ah (CG.exit ?_))))
 show CG _ _ _ _ _ _ _ _
 exact aa hs [.v 12 (.pointer none)] (lN (kX (hs.retM hmo [] (.pointer none) ⟨aeq1,rfl,by omega,hs.own 0⟩)))
theorem mJ  (lv:Bool)(fp:FuncId)(hen:∀ (args:Array Value) (w:World),(callFunc fp args).run Tryz.prog w=.ok (.enter fp args) w)(hp:∀ m,m≤n→PC nf bf fp m (part lv))(hpe:∀ m,m≤n→oA nf bf fp m (part lv))(pb:Nat)(s:ByteArray)(hsz:s.size≤1000000)(a:Nat)(ha:a≤s.size)(bd:Int)(b:Nat)(t1:Tm)(b1:Nat)(hq1:cl nf bf s n (part lv) a=some (.ok t1 b1))(hq2:pre nf bf s n (.more lv t1) b1=some b)(w:World)(h:Hp)(g:G w h)(ho:Own w pb 52 [.string s,nV a,iV bd])(hj:h[pb]?=some junk)(tb:Tab h):Calls Tryz.prog 28 #[pB pb,.func (.func fp) #[pB pb] #[],.int .u8 (c1 lv:Nat),iV (jN lv),.int .u8 (c2 lv:Nat),iV (iQ lv)] w (cA pb w h (p7 pb s b)):=by
 have hmo:UpM [pb] w h w h:=UpM.refl g;obtain ⟨wz,hz0_,hs⟩:=SS.at_ g ho hj;have hc1_:c1 lv≠0:=by cases lv<;>decide
 have hc2_:c2 lv≠0:=by cases lv<;>decide
 replace hs:=(hs.aB tb);refine go Tryz.func28 [(0,pB pb),(1,.func (.func fp) #[pB pb] #[]),(2,.int .u8 (c1 lv:Nat)),(3,iV (jN lv)),(4,.int .u8 (c2 lv:Nat)),(5,iV (iQ lv))] rfl (aa hs [.v 12 (.pointer none)] (aG (lL hs [.m 17 1] (cY 18 (hp n (nR _) pb s hsz a ha bd t1 b1 hq1 _ _ hs.g (hs.own 0) (hs.jk 0) hs.f.1) ?_ (hr:=Eq.trans kR (hen _ _))))));rintro _ w2 h3 u4 ⟨tbq1,pq1,rfl,hbq1,hOq1,hSq1,hTq1⟩;replace hs:=(hs.stepM 0 u4 hOq1).to [⟨pb,52,[.string s,nV b1,iV bd]⟩] [];replace hmo:=hmo.trans u4;replace hs:=((hs.a_Seg hSq1).add (K:=fun h_=>PtH h_ pq1 t1) hTq1);refine lL hs [.m 13 18] (af (kZ ?_));replace hs:=hs.add (K:=fun h_=>PtH h_ pq1 t1) (hs.f.1);replace hs:=hs.add (K:=fun h_=>Seg h_ tbq1 0 (aK pq1)) (hs.f.r.1);refine bQ _ (CG.loop (fun μ_ Γ w_=>∃ (m:Nat) (tq:Nat) (p:PTm) (u:Tm) (k:Nat) (h_:Hp),μ_=m∧Γ=[(0,pB pb),(1,.func (.func fp) #[pB pb] #[]),(2,.int .u8 (c1 lv:Nat)),(3,iV (jN lv)),(4,.int .u8 (c2 lv:Nat)),(5,iV (iQ lv)),(13,pB tq)]∧SS wz hz0_ w_ h_ [⟨pb,52,[.string s,nV k,iV bd]⟩] [] [fun h_=>Seg h_ tq 0 (aK p),fun h_=>PtH h_ p u,fun h_=>PtH h_ pq1 t1,fun h_=>Seg h_ tbq1 0 (aK pq1),fun h_=>Tab h_]∧m≤n∧k≤s.size∧UpM [pb] w h w_ h_∧pre nf bf s m (.more lv u) k=some b) _ ⟨n,tbq1,pq1,t1,b1,h3,rfl,rfl,hs.to _ _,nR _,hbq1,hmo,hq2⟩ ?_);rintro _ _ w5 ⟨m,tq,p,u,k,h6,hm7,rfl,hs,hm,hk,hmo,hq⟩;obtain ⟨m1,rfl⟩:=t6 hq;have hskk:=dB (s:=s) (a:=k) hk;refine cQ (aa hs [.m 19 13,.v 20 qT] (ao (cK (kZ (aa hs [.v 14 (iV 0)] (af (aa hs [.m 21 0,.m 22 2] ?_)))))));have hskq8:=dB (s:=s) (a:=k) oM;refine cY 23 (gJ pb s hsz k oM bd (c1 lv) hc1_ _ _ hs.g (hs.own 0) (hs.jk 0) hs.f.q.1) ?_;rintro _ w9 _ u11 (⟨rfl,hcq8,hlq8,hOq8⟩|⟨rfl,hcq8,hOq8⟩)
 ·
  replace hs:=(hs.stepM 0 u11 hOq8).to [⟨pb,52,[.string s,nV (sk s k+1),iV bd]⟩] [];replace hmo:=hmo.trans u11;have hMq8:=pU hq hcq8;refine ao (kQ (lL hs [.m 24 3,.m 14 24] (aG (lL hs [.m 30 1] ?_))))
  rcases hMq8 with hEq8|⟨vq8,eq8,hvq8,hwq8⟩
  ·
   refine cY 31 (hpe m1 oM pb s hsz (sk s k+1) oM bd b hEq8 _ _ hs.g (hs.own 0) (hs.jk 0) hs.f.q.1) ?_ (hr:=Eq.trans kR (hen _ _));rintro _ _ _ u15 ⟨aeq12,rfl,haeq12,hOq12⟩;replace hs:=(hs.stepM 0 u15 hOq12).to [⟨pb,52,[.string s,nV aeq12,nV b]⟩] [];replace hmo:=hmo.trans u15;exact lL hs [.m 15 31] (af (aa hs [.m 32 15,.v 33 qT] (ao (aa hs [.v 12 (.pointer none)] (lN (kX (hs.retM hmo [] (.pointer none) ⟨aeq12,rfl,by omega,hs.own 0⟩)))))))
  refine cY 31 (hp m1 oM pb s hsz (sk s k+1) oM bd vq8 eq8 hvq8 _ _ hs.g (hs.own 0) (hs.jk 0) hs.f.q.1) ?_ (hr:=Eq.trans kR (hen _ _));rintro _ _ _ u19 ⟨tbq16,pq16,rfl,hbq16,hOq16,hSq16,hTq16⟩;replace hs:=(hs.stepM 0 u19 hOq16).to [⟨pb,52,[.string s,nV eq8,iV bd]⟩] [];replace hmo:=hmo.trans u19;replace hs:=((hs.a_Seg hSq16).add (K:=fun h_=>PtH h_ pq16 vq8) hTq16);refine lL hs [.m 15 31] (af (aa hs [.m 32 15,.v 33 qF] (ah (cK (cQ ?_)))));have hsr:=hs;have hge_:=hmo.gr.size;refine cR 9 [⟨8,16,.cells (List.toArray [iV 0,iV 0,qF,uV 0,eS,uV 0,eS,eS,sZ]) 31 (0,0)⟩] mixed hs (bG (dY kR (fun _ _=>by kernel_rfl)) av) (eV 0 34 (iV (jN lv)) (eV 1 35 (pB tq) (eV 2 36 (pB tq) (eH 3 37 (aF p) hs hs.f.r.1 (eV 4 38 (pB tbq16) (eV 5 39 (pB tbq16) (eH 6 40 (aF pq16) hs hs.f.2.1 (wQ 7 41 hs hmo (fun _ _ hs=>rR (jN lv) p pq16 u vq8 _ _ hs.g hs.f.r.2.1 hs.f.1) ?_))))))));rintro _ _ _ _ _ hmo hs ⟨pq20,rfl,hTq20⟩;replace hs:=(hs.add (K:=fun h_=>PtH h_ pq20 (bB (jN lv) u vq8)) hTq20);refine wg [] hsr hs hmo hge_ 31 [iV 0,iV 0,qF,uV 0,eS,uV 0,eS,eS,sZ] (fun _ _ za hmo hlo_b25 hs=>Dt 9 0 0 (aK pq20) hs (fun _ pu hs=>?_));replace hmo:=hmo.put2 pu hlo_b25 g hs.g;refine tN ?_;obtain ⟨zc,hs,hmo,sg28⟩:=hs.pubM hmo 0 hlo_b25;replace hs:=hs.to [⟨pb,52,[.string s,nV eq8,iV bd]⟩] [];have sg30:Seg zc za 0 (aK pq20):=sg28;replace hs:=hs.a_Seg sg30;refine kQ (lL hs [.m 13 16] (lD ?_));intro a_ ka;replace hs:=((hs.tl.tl.tl.tl.tl.tl.add (K:=fun h_=>PtH h_ pq20 (bB (jN lv) u vq8)) hs.f.2.1).add (K:=fun h_=>Seg h_ za 0 (aK pq20)) hs.f.1);refine ⟨_,_,?_,⟨m1,za,pq20,bB (jN lv) u vq8,eq8,zc,rfl,rfl,hs.to _ _,oM,hbq16,hmo,hwq8⟩,ka.to _ kR⟩
  omega
 replace hs:=(hs.stepM 0 u11 hOq8).to [⟨pb,52,[.string s,nV (sk s k),iV bd]⟩] [];replace hmo:=hmo.trans u11;have hcF:=hcq8;refine ah (aa hs [.m 25 0,.m 26 4] ?_);have hskq37:=dB (s:=s) (a:=(sk s k)) oM;refine cY 27 (rM pb s hsz (sk s k) oM bd (c2 lv) hc2_ (wV _ _) _ _ hs.g (hs.own 0) (hs.jk 0) hs.f.q.1) ?_;rintro _ _ _ u40 (⟨rfl,hcq37,hlq37,hOq37⟩|⟨rfl,hcq37,hOq37⟩)
 ·
  replace hs:=(hs.stepM 0 u40 hOq37).to [⟨pb,52,[.string s,nV ((sk s k)+1),iV bd]⟩] [];replace hmo:=hmo.trans u40;have hMq37:=pz hq hcF hcq37;refine ao (kQ (lL hs [.m 28 5,.m 14 28] (aG (lL hs [.m 30 1] ?_))))
  rcases hMq37 with hEq37|⟨vq37,eq37,hvq37,hwq37⟩
  ·
   refine cY 31 (hpe m1 oM pb s hsz ((sk s k)+1) oM bd b hEq37 _ _ hs.g (hs.own 0) (hs.jk 0) hs.f.q.1) ?_ (hr:=Eq.trans kR (hen _ _));rintro _ _ _ u44 ⟨aeq41,rfl,haeq41,hOq41⟩;replace hs:=(hs.stepM 0 u44 hOq41).to [⟨pb,52,[.string s,nV aeq41,nV b]⟩] [];replace hmo:=hmo.trans u44;exact lL hs [.m 15 31] (af (aa hs [.m 32 15,.v 33 qT] (ao (aa hs [.v 12 (.pointer none)] (lN (kX (hs.retM hmo [] (.pointer none) ⟨aeq41,rfl,by omega,hs.own 0⟩)))))))
  refine cY 31 (hp m1 oM pb s hsz ((sk s k)+1) oM bd vq37 eq37 hvq37 _ _ hs.g (hs.own 0) (hs.jk 0) hs.f.q.1) ?_ (hr:=Eq.trans kR (hen _ _));rintro _ _ _ u48 ⟨tbq45,pq45,rfl,hbq45,hOq45,hSq45,hTq45⟩;replace hs:=(hs.stepM 0 u48 hOq45).to [⟨pb,52,[.string s,nV eq37,iV bd]⟩] [];replace hmo:=hmo.trans u48;replace hs:=((hs.a_Seg hSq45).add (K:=fun h_=>PtH h_ pq45 vq37) hTq45);refine lL hs [.m 15 31] (af (aa hs [.m 32 15,.v 33 qF] (ah (cK (cQ ?_)))));have hsr:=hs;have hge_:=hmo.gr.size;refine cR 9 [⟨8,16,.cells (List.toArray [iV 0,iV 0,qF,uV 0,eS,uV 0,eS,eS,sZ]) 31 (0,0)⟩] mixed hs (bG (dY kR (fun _ _=>by kernel_rfl)) av) (eV 0 34 (iV (iQ lv)) (eV 1 35 (pB tq) (eV 2 36 (pB tq) (eH 3 37 (aF p) hs hs.f.r.1 (eV 4 38 (pB tbq45) (eV 5 39 (pB tbq45) (eH 6 40 (aF pq45) hs hs.f.2.1 (wQ 7 41 hs hmo (fun _ _ hs=>rR (iQ lv) p pq45 u vq37 _ _ hs.g hs.f.r.2.1 hs.f.1) ?_))))))));rintro _ _ _ _ _ hmo hs ⟨pq49,rfl,hTq49⟩;replace hs:=(hs.add (K:=fun h_=>PtH h_ pq49 (bB (iQ lv) u vq37)) hTq49);refine wg [] hsr hs hmo hge_ 31 [iV 0,iV 0,qF,uV 0,eS,uV 0,eS,eS,sZ] (fun _ _ zb hmo hlo_b54 hs=>Dt 9 0 0 (aK pq49) hs (fun _ pu hs=>?_));replace hmo:=hmo.put2 pu hlo_b54 g hs.g;refine tN ?_;obtain ⟨zd,hs,hmo,sg57⟩:=hs.pubM hmo 0 hlo_b54;replace hs:=hs.to [⟨pb,52,[.string s,nV eq37,iV bd]⟩] [];have sg59:Seg zd zb 0 (aK pq49):=sg57;replace hs:=hs.a_Seg sg59;refine kQ (lL hs [.m 13 16] (lD ?_));intro a_ ka;replace hs:=((hs.tl.tl.tl.tl.tl.tl.add (K:=fun h_=>PtH h_ pq49 (bB (iQ lv) u vq37)) hs.f.2.1).add (K:=fun h_=>Seg h_ zb 0 (aK pq49)) hs.f.1);refine ⟨_,_,?_,⟨m1,zb,pq49,bB (iQ lv) u vq37,eq37,zd,rfl,rfl,hs.to _ _,oM,hbq45,hmo,hwq37⟩,ka.to _ kR⟩
  omega
 replace hs:=(hs.stepM 0 u40 hOq37).to [⟨pb,52,[.string s,nV (sk s k),iV bd]⟩] [];replace hmo:=hmo.trans u40;have hcF2:=hcq37;refine ah (aa hs [.m 29 13,.m 12 29] (lN (kX ?_)));exact (pK hq hcF hcF2).elim
theorem Bu  (hpe:oA nf bf 29 n .prod)(pb:Nat)(s:ByteArray)(hsz:s.size≤1000000)(a:Nat)(ha:a≤s.size)(bd:Int)(b:Nat)(he:pre nf bf s n .prod a=some b)(w:World)(h:Hp)(g:G w h)(ho:Own w pb 52 [.string s,nV a,iV bd])(hj:h[pb]?=some junk)(tb:Tab h):Calls Tryz.prog 12 #[pB pb] w (cA pb w h (p7 pb s b)):=by
 have hmo:UpM [pb] w h w h:=UpM.refl g;obtain ⟨wz,hz0_,hs⟩:=SS.at_ g ho hj;replace hs:=(hs.aB tb);refine go Tryz.func12 [(0,pB pb)] rfl (aa hs [.v 2 (.pointer none)] (aG (lL hs [.m 3 0,.m 4 0,.v 5 (.func (.func 29) #[pB pb] #[])] (cY 6 (lw n false 29 (fun _ _=>by kernel_rfl) hpe pb s hsz a ha bd b he _ _ hs.g (hs.own 0) (hs.jk 0) hs.f.1) ?_))));rintro _ w2 h3 u4 ⟨aeq1,rfl,haeq1,hOq1⟩;replace hs:=(hs.stepM 0 u4 hOq1).to [⟨pb,52,[.string s,nV aeq1,nV b]⟩] [];replace hmo:=hmo.trans u4;exact lL hs [.m 2 6] (lN (kX (hs.retM hmo [] (.pointer none) ⟨aeq1,rfl,by omega,hs.own 0⟩)))
theorem A3  (hp:∀ m,m≤n→PC nf bf 29 m .prod)(hpe:∀ m,m≤n→oA nf bf 29 m .prod)(pb:Nat)(s:ByteArray)(hsz:s.size≤1000000)(a:Nat)(ha:a≤s.size)(bd:Int)(b:Nat)(t1:Tm)(b1:Nat)(hq1:cl nf bf s n .prod a=some (.ok t1 b1))(hq2:pre nf bf s n (.more false t1) b1=some b)(w:World)(h:Hp)(g:G w h)(ho:Own w pb 52 [.string s,nV a,iV bd])(hj:h[pb]?=some junk)(tb:Tab h):Calls Tryz.prog 12 #[pB pb] w (cA pb w h (p7 pb s b)):=by
 have hmo:UpM [pb] w h w h:=UpM.refl g;obtain ⟨wz,hz0_,hs⟩:=SS.at_ g ho hj;replace hs:=(hs.aB tb);refine go Tryz.func12 [(0,pB pb)] rfl (aa hs [.v 2 (.pointer none)] (aG (lL hs [.m 3 0,.m 4 0,.v 5 (.func (.func 29) #[pB pb] #[])] (cY 6 (mJ n false 29 (fun _ _=>by kernel_rfl) hp hpe pb s hsz a ha bd b t1 b1 hq1 hq2 _ _ hs.g (hs.own 0) (hs.jk 0) hs.f.1) ?_))));rintro _ w2 h3 u4 ⟨aeq1,rfl,haeq1,hOq1⟩;replace hs:=(hs.stepM 0 u4 hOq1).to [⟨pb,52,[.string s,nV aeq1,nV b]⟩] [];replace hmo:=hmo.trans u4;exact lL hs [.m 2 6] (lN (kX (hs.retM hmo [] (.pointer none) ⟨aeq1,rfl,by omega,hs.own 0⟩)))
theorem nN  (hpe:oA nf bf 53 n .sign)(pb:Nat)(s:ByteArray)(hsz:s.size≤1000000)(a:Nat)(ha:a≤s.size)(bd:Int)(b:Nat)(he:pre nf bf s n .sign a=some b)(w:World)(h:Hp)(g:G w h)(ho:Own w pb 52 [.string s,nV a,iV bd])(hj:h[pb]?=some junk)(tb:Tab h):Calls Tryz.prog 29 #[pB pb] w (cA pb w h (p7 pb s b)):=by
 have hmo:UpM [pb] w h w h:=UpM.refl g;obtain ⟨wz,hz0_,hs⟩:=SS.at_ g ho hj;replace hs:=(hs.aB tb);refine go Tryz.func29 [(0,pB pb)] rfl (aa hs [.v 2 (.pointer none)] (aG (lL hs [.m 3 0,.m 4 0,.v 5 (.func (.func 53) #[pB pb] #[])] (cY 6 (lw n true 53 (fun _ _=>by kernel_rfl) hpe pb s hsz a ha bd b he _ _ hs.g (hs.own 0) (hs.jk 0) hs.f.1) ?_))));rintro _ w2 h3 u4 ⟨aeq1,rfl,haeq1,hOq1⟩;replace hs:=(hs.stepM 0 u4 hOq1).to [⟨pb,52,[.string s,nV aeq1,nV b]⟩] [];replace hmo:=hmo.trans u4;exact lL hs [.m 2 6] (lN (kX (hs.retM hmo [] (.pointer none) ⟨aeq1,rfl,by omega,hs.own 0⟩)))
theorem nE  (hp:∀ m,m≤n→PC nf bf 53 m .sign)(hpe:∀ m,m≤n→oA nf bf 53 m .sign)(pb:Nat)(s:ByteArray)(hsz:s.size≤1000000)(a:Nat)(ha:a≤s.size)(bd:Int)(b:Nat)(t1:Tm)(b1:Nat)(hq1:cl nf bf s n .sign a=some (.ok t1 b1))(hq2:pre nf bf s n (.more true t1) b1=some b)(w:World)(h:Hp)(g:G w h)(ho:Own w pb 52 [.string s,nV a,iV bd])(hj:h[pb]?=some junk)(tb:Tab h):Calls Tryz.prog 29 #[pB pb] w (cA pb w h (p7 pb s b)):=by
 have hmo:UpM [pb] w h w h:=UpM.refl g;obtain ⟨wz,hz0_,hs⟩:=SS.at_ g ho hj;replace hs:=(hs.aB tb);refine go Tryz.func29 [(0,pB pb)] rfl (aa hs [.v 2 (.pointer none)] (aG (lL hs [.m 3 0,.m 4 0,.v 5 (.func (.func 53) #[pB pb] #[])] (cY 6 (mJ n true 53 (fun _ _=>by kernel_rfl) hp hpe pb s hsz a ha bd b t1 b1 hq1 hq2 _ _ hs.g (hs.own 0) (hs.jk 0) hs.f.1) ?_))));rintro _ w2 h3 u4 ⟨aeq1,rfl,haeq1,hOq1⟩;replace hs:=(hs.stepM 0 u4 hOq1).to [⟨pb,52,[.string s,nV aeq1,nV b]⟩] [];replace hmo:=hmo.trans u4;exact lL hs [.m 2 6] (lN (kX (hs.retM hmo [] (.pointer none) ⟨aeq1,rfl,by omega,hs.own 0⟩)))
theorem sF  (ihs:oA nf bf 53 n .sign)(ihp:oA nf bf 89 n .pow)(pb:Nat)(s:ByteArray)(hsz:s.size≤1000000)(a:Nat)(ha:a≤s.size)(bd:Int)(b:Nat)(hq:pre nf bf s (n+1) .sign a=some b)(w:World)(h:Hp)(g:G w h)(ho:Own w pb 52 [.string s,nV a,iV bd])(hj:h[pb]?=some junk)(tb:Tab h):Calls Tryz.prog 53 #[pB pb] w (cA pb w h (p7 pb s b)):=by
 have hmo:UpM [pb] w h w h:=UpM.refl g;obtain ⟨wz,hz0_,hs⟩:=SS.at_ g ho hj;replace hs:=(hs.aB tb);refine go Tryz.func53 [(0,pB pb)] rfl (aa hs [.v 2 (.pointer none)] (af (aa hs [.m 5 0] ?_)));have hskq1:=dB (s:=s) (a:=a) oM;refine cY 6 (gJ pb s hsz a ha bd 45 kD _ _ hs.g (hs.own 0) (hs.jk 0) hs.f.1) ?_;rintro _ w2 h3 u4 (⟨rfl,hcq1,hlq1,hOq1⟩|⟨rfl,hcq1,hOq1⟩)
 ·
  replace hs:=(hs.stepM 0 u4 hOq1).to [⟨pb,52,[.string s,nV (sk s a+1),iV bd]⟩] [];replace hmo:=hmo.trans u4;have hcT:=hcq1;refine lL hs [.v 7 qF] (ah (cK (aa hs [.m 10 0] (cY 11 (ihs pb s hsz (sk s a+1) oM bd b (tZ hq hcT) _ _ hs.g (hs.own 0) (hs.jk 0) hs.f.1) ?_))));rintro _ w6 h7 u8 ⟨aeq5,rfl,haeq5,hOq5⟩;replace hs:=(hs.stepM 0 u8 hOq5).to [⟨pb,52,[.string s,nV aeq5,nV b]⟩] [];replace hmo:=hmo.trans u8;exact lL hs [.m 3 11] (af (aa hs [.m 12 3,.v 13 qT] (ao (aa hs [.v 2 (.pointer none)] (lN (kX (hs.retM hmo [] (.pointer none) ⟨aeq5,rfl,by omega,hs.own 0⟩)))))))
 replace hs:=(hs.stepM 0 u4 hOq1).to [⟨pb,52,[.string s,nV (sk s a),iV bd]⟩] [];replace hmo:=hmo.trans u4;have hcF:=hcq1;refine lL hs [.v 7 qT] (ao (aa hs [.m 8 0] (cY 9 (ihp pb s hsz (sk s a) oM bd b (o3 hq hcF) _ _ hs.g (hs.own 0) (hs.jk 0) hs.f.1) ?_)));rintro _ _ _ u12 ⟨aeq9,rfl,haeq9,hOq9⟩;replace hs:=(hs.stepM 0 u12 hOq9).to [⟨pb,52,[.string s,nV aeq9,nV b]⟩] [];replace hmo:=hmo.trans u12;exact lL hs [.m 2 9] (lN (kX (hs.retM hmo [] (.pointer none) ⟨aeq9,rfl,by omega,hs.own 0⟩)))
theorem vz  (iha:oA nf bf 116 n .atom)(pb:Nat)(s:ByteArray)(hsz:s.size≤1000000)(a:Nat)(ha:a≤s.size)(bd:Int)(b:Nat)(hq:pre nf bf s (n+1) .pow a=some b)(w:World)(h:Hp)(g:G w h)(ho:Own w pb 52 [.string s,nV a,iV bd])(hj:h[pb]?=some junk)(tb:Tab h):Calls Tryz.prog 89 #[pB pb] w (cA pb w h (p7 pb s b)):=by
 have hmo:UpM [pb] w h w h:=UpM.refl g;obtain ⟨wz,hz0_,hs⟩:=SS.at_ g ho hj;replace hs:=(hs.aB tb);refine go Tryz.func89 [(0,pB pb)] rfl (aa hs [.v 2 (.pointer none)] (aG (lL hs [.m 12 0] (cY 13 (iha pb s hsz a ha bd b (uR hq) _ _ hs.g (hs.own 0) (hs.jk 0) hs.f.1) ?_))));rintro _ w2 h3 u4 ⟨aeq1,rfl,haeq1,hOq1⟩;replace hs:=(hs.stepM 0 u4 hOq1).to [⟨pb,52,[.string s,nV aeq1,nV b]⟩] [];replace hmo:=hmo.trans u4;refine lL hs [.m 3 13] (af (aa hs [.m 14 3,.v 15 qT,.m 16 15] (lG 17 ?_)));exact lG 18 (lG 19 (lL hs [.v 20 qT] (ao (aa hs [.m 21 3,.m 2 21] (lN (kX (hs.retM hmo [] (.pointer none) ⟨aeq1,rfl,by omega,hs.own 0⟩)))))))
theorem Ae  (ihc:Cy nf bf n)(pb:Nat)(s:ByteArray)(hsz:s.size≤1000000)(a:Nat)(ha:a≤s.size)(bd:Int)(b:Nat)(hq:pre nf bf s (n+1) .atom a=some b)(w:World)(h:Hp)(g:G w h)(ho:Own w pb 52 [.string s,nV a,iV bd])(hj:h[pb]?=some junk)(tb:Tab h):Calls Tryz.prog 116 #[pB pb] w (cA pb w h (p7 pb s b)):=by
 have hmo:UpM [pb] w h w h:=UpM.refl g;obtain ⟨wz,hz0_,hs⟩:=SS.at_ g ho hj;replace hs:=(hs.aB tb);refine go Tryz.func116 [(0,pB pb)] rfl (aa hs [.v 2 (.pointer none)] (aG (lL hs [.m 12 0] ?_)));have hskq1:=dB (s:=s) (a:=a) oM;refine cY 13 (jd pb s hsz a ha bd _ _ hs.g (hs.own 0) (hs.jk 0) hs.f.1) ?_;rintro _ w2 h3 u4 ⟨rfl,hOq1⟩;replace hs:=(hs.stepM 0 u4 hOq1).to [⟨pb,52,[.string s,nV (sk s a),iV bd]⟩] [];replace hmo:=hmo.trans u4;refine lL hs [.m 3 13] (aG (lL hs [.m 14 0,.v 15 (pB pb),.v 16 (qP pb 1),.o 17 (nV (sk s a)) 0 1 1,.m 4 17] (af (kZ (CG.join (fun Γ w_=>∃ (ze:Bool) (h_:Hp),Γ=[(0,pB pb),(2,.pointer none),(3,.int .u8 (ax s (sk s a):Nat)),(4,nV (sk s a)),(18,.bool ze)]∧SS wz hz0_ w_ h_ [⟨pb,52,[.string s,nV (sk s a),iV bd]⟩] [] [fun h_=>Tab h_]∧(ze=true→¬¬((48≤ax s (sk s a)∧ax s (sk s a)≤57)∨ax s (sk s a)=46))∧(ze=false→fT (ax s (sk s a))=false)∧UpM [pb] w h w_ h_) ?_ ?_)))))
 ·
  refine kQ (lL hs [.m 19 3] (iz 20 (fJ (ax s (sk s a)) (bS _ _) _ _ hs.g) ?_));rintro _ w5 h6 u7 rfl;replace hmo:=hmo.trans (u7.m _);replace hs:=hs.step u7;cases hb8:(decide (48≤ax s (sk s a)∧ax s (sk s a)≤57))
  ·
   have phb8:=oF hb8;refine lL hs [.m 21 20,.m 22 3] ?_;cases hb9:(((ax s (sk s a):Nat):Int) == (46:Int))
   ·
    have phb9:=ai hb9;refine lB 23 hb9 (lL hs [.v 24 qF,.m 18 24] (lD ?_));intro a_ ka;exact ⟨_,⟨false,h6,rfl,hs.to _ _,(fun h_=>absurd h_ kD),(fun _=>decide_eq_false oM),hmo⟩,ka.to _ kR⟩
   have phb9:=eq_of_beq hb9;refine lB 23 hb9 (lL hs [.v 24 qT,.m 18 24] (lD ?_));intro a_ ka;exact ⟨_,⟨true,h6,rfl,hs.to _ _,(fun _=>by omega),(fun h_=>absurd h_ kD),hmo⟩,ka.to _ kR⟩
  have phb8:=oT hb8;refine lL hs [.m 21 20] (lG 22 ?_);refine lG 23 (lL hs [.v 24 qT,.m 18 24] (lD ?_));intro a_ ka;exact ⟨_,⟨true,h6,rfl,hs.to _ _,(fun _=>by omega),(fun h_=>absurd h_ kD),hmo⟩,ka.to _ kR⟩
 rintro _ _ ⟨ze,_,rfl,hs,zl,hD18,hmo⟩;cases za:(ze)
 ·
  try rw[za] at hs
  try rw[za]
  refine cw (CG.join (fun Γ w_=>∃ (zf:Bool) (h_:Hp),Γ=[(0,pB pb),(2,.pointer none),(3,.int .u8 (ax s (sk s a):Nat)),(4,nV (sk s a)),(38,.bool zf)]∧SS wz hz0_ w_ h_ [⟨pb,52,[.string s,nV (sk s a),iV bd]⟩] [] [fun h_=>Tab h_]∧(zf=true→gj (ax s (sk s a))∨ax s (sk s a)=95)∧(zf=false→¬(gj (ax s (sk s a))∨ax s (sk s a)=95))∧UpM [pb] w h w_ h_) ?_ ?_)
  ·
   refine kQ (lL hs [.m 39 3] (iz 40 (gC (ax s (sk s a)) (bS _ _) _ _ hs.g) ?_));rintro _ _ zg u24 rfl;replace hmo:=hmo.trans (u24.m _);replace hs:=hs.step u24;cases zi:(decide (gj (ax s (sk s a))))
   ·
    have zj:=oF zi;refine lL hs [.m 41 40,.m 42 3] ?_;cases zb:(((ax s (sk s a):Nat):Int) == (95:Int))
    ·
     have zk:=ai zb;refine lB 43 zb (lL hs [.v 44 qF,.m 38 44] (lD ?_));intro a_ ka;exact ⟨_,⟨false,zg,rfl,hs.to _ _,(fun h_=>absurd h_ kD),(fun _ h_=>by rcases h_ with h_|h_;exact absurd h_ aM;omega),hmo⟩,ka.to _ kR⟩
    have zk:=eq_of_beq zb;refine lB 43 zb (lL hs [.v 44 qT,.m 38 44] (lD ?_));intro a_ ka;exact ⟨_,⟨true,zg,rfl,hs.to _ _,(fun _=>by first|exact .inl aM|exact .inr oM),(fun h_=>absurd h_ kD),hmo⟩,ka.to _ kR⟩
   have zj:=oT zi;refine lL hs [.m 41 40] (lG 42 ?_);refine lG 43 (lL hs [.v 44 qT,.m 38 44] (lD ?_));intro a_ ka;exact ⟨_,⟨true,zg,rfl,hs.to _ _,(fun _=>by first|exact .inl aM|exact .inr oM),(fun h_=>absurd h_ kD),hmo⟩,ka.to _ kR⟩
  rintro _ _ ⟨zf,_,rfl,hs,hW38,hN38,hmo⟩;cases zc:(zf)
  ·
   try rw[zc] at hs
   try rw[zc]
   refine cw (aa hs [.m 67 3] ?_);obtain ⟨h91_,h40_,hbe_⟩:=qO hq (hD18 aM) (hN38 aM);have zm:(((ax s (sk s a):Nat):Int) == (91:Int))=false:=cv oM;refine lB 68 zm (lL hs [.m 66 68] (ah (aa hs [.m 72 3] ?_)));obtain ⟨h91_,h40_,hbe_⟩:=qO hq (hD18 aM) (hN38 aM);have zn:(((ax s (sk s a):Nat):Int) == (40:Int))=false:=cv oM;refine lB 73 zn (lL hs [.m 71 73] (ah (cK (aa hs [.m 97 0,.m 98 4] (cY 99 (wS pb s hsz (sk s a) oM bd (sk s a) oM _ _ hs.g (hs.own 0) (hs.jk 0) hs.f.1) ?_)))));rintro _ _ _ u44 ⟨rfl,hOq41⟩;replace hs:=(hs.stepM 0 u44 hOq41).to [⟨pb,52,[.string s,nV (sk s a),nV (sk s a)]⟩] [];replace hmo:=hmo.trans u44;exact lL hs [.m 2 99] (lN (kX (hs.retM hmo [] (.pointer none) (by rw[hbe_];exact ⟨(sk s a),rfl,by omega,hs.own 0⟩))))
  try rw[zc] at hs
  try rw[zc]
  refine ce (aa hs [.m 45 0] ?_);obtain ⟨hwc,hwq⟩:=xH hq (hD18 aM) (hW38 aM);have hbl_:=iI (p:=bO) (s:=s) (a:=sk s a) oM;refine cY 46 (th 26 bO (fun _ _=>by kernel_rfl) (fun c hc w h g=>jL c hc w h g) pb s hsz (sk s a) oM bd _ _ hs.g (hs.own 0) (hs.jk 0) hs.f.1) ?_;rintro _ _ _ u47 ⟨rfl,hOr⟩;replace hs:=(hs.stepM 0 u47 hOr).to [⟨pb,52,[.string s,nV (rn bO s (sk s a)),iV bd]⟩] [];replace hmo:=hmo.trans u47;refine lL hs [.m 8 46] (af (aE (iz 48 (kw _ _ hs.g) ?_)));rintro _ _ _ u50 ⟨bm,rfl,hcm⟩;replace hmo:=hmo.trans (u50.m _);replace hs:=hs.step u50;replace hs:=(hs.add (K:=fun h_=>MapS h_ bm fl) hcm);refine lL hs [.m 49 8] (DH 50 77 9 3 (s.extract (sk s a) (rn bO s (sk s a))) true (iV (da (s.extract (sk s a) (rn bO s (sk s a))))) ((bU (s.extract (sk s a) (rn bO s (sk s a))))) hs hs.f.1 ?_ (hf:=(by rcases kr (s.extract (sk s a) (rn bO s (sk s a))) with ⟨i_,e1_,e2_⟩|⟨e1_,e2_,e3_⟩;exact .inl ⟨i_,e1_,e2_⟩;exact .inr ⟨e1_,e2_,fun _=>by rw[e3_];kernel_rfl⟩)));refine lL hs [.m 47 50,.v 51 (iV (da (s.extract (sk s a) (rn bO s (sk s a))))),.v 52 (.bool (bU (s.extract (sk s a) (rn bO s (sk s a))))),.m 9 51,.m 10 52] (aG (lL hs [.m 53 10] (lN ?_)));cases zd:((bU (s.extract (sk s a) (rn bO s (sk s a)))))
  ·
   try rw[zd] at hs
   try rw[zd]
   refine cw (cK (cQ (aE ?_)));exact Bool.noConfusion (hwc.symm.trans aM)
  try rw[zd] at hs
  try rw[zd]
  refine ce (aa hs [.m 54 0,.m 55 9] (cY 56 (ihc (da (s.extract (sk s a) (rn bO s (sk s a)))) (mK hwc) pb s hsz (rn bO s (sk s a)) oM bd b hwq _ _ hs.g (hs.own 0) (hs.jk 0) hs.f.2.1) ?_));rintro _ _ _ u55 ⟨aeq52,rfl,haeq52,hOq52⟩;replace hs:=(hs.stepM 0 u55 hOq52).to [⟨pb,52,[.string s,nV aeq52,nV b]⟩] [];replace hmo:=hmo.trans u55;exact lL hs [.m 2 56] (lN (kX (hs.retM hmo [] (.pointer none) ⟨aeq52,rfl,by omega,hs.own 0⟩)))
 try rw[za] at hs
 try rw[za]
 refine ce (aE ?_);exact (vT hq (decide_eq_true (Decidable.byContradiction fun h_=>zl aM h_))).elim
theorem x4  (op:Int)(pb:Nat)(s:ByteArray)(hsz:s.size≤1000000)(a:Nat)(ha:a≤s.size)(bd:Int)(b:Nat)(hq:pre nf bf s (n+1) (.call op) a=some b)(w:World)(h:Hp)(g:G w h)(ho:Own w pb 52 [.string s,nV a,iV bd])(hj:h[pb]?=some junk)(tb:Tab h):Calls Tryz.prog 149 #[pB pb,iV op] w (cA pb w h (p7 pb s b)):=by
 have hmo:UpM [pb] w h w h:=UpM.refl g;obtain ⟨wz,hz0_,hs⟩:=SS.at_ g ho hj;obtain ⟨hn40,hbe_⟩:=rC hq;replace hs:=(hs.aB tb);refine go Tryz.func149 [(0,pB pb),(1,iV op)] rfl (aa hs [.v 4 (.pointer none)] (af (aa hs [.m 8 0] ?_)));have hskq1:=dB (s:=s) (a:=a) oM;refine cY 9 (gJ pb s hsz a ha bd 40 kD _ _ hs.g (hs.own 0) (hs.jk 0) hs.f.1) ?_;rintro _ w2 h3 u4 (⟨rfl,hcq1,hlq1,hOq1⟩|⟨rfl,hcq1,hOq1⟩)
 ·
  replace hs:=(hs.stepM 0 u4 hOq1).to [⟨pb,52,[.string s,nV (sk s a+1),iV bd]⟩] [];replace hmo:=hmo.trans u4;have hcT:=hcq1;refine lL hs [.v 10 qF] (ah (cK (aE ?_)));exact absurd hcT hn40
 replace hs:=(hs.stepM 0 u4 hOq1).to [⟨pb,52,[.string s,nV (sk s a),iV bd]⟩] [];replace hmo:=hmo.trans u4;refine lL hs [.v 10 qT] (ao (aa hs [.m 11 0,.m 12 0,.v 13 (pB pb),.v 14 (qP pb 1),.o 15 (nV (sk s a)) 0 1 1] (cY 16 (wS pb s hsz (sk s a) oM bd (sk s a) oM _ _ hs.g (hs.own 0) (hs.jk 0) hs.f.1) ?_)));rintro _ w6 h7 u8 ⟨rfl,hOq5⟩;replace hs:=(hs.stepM 0 u8 hOq5).to [⟨pb,52,[.string s,nV (sk s a),nV (sk s a)]⟩] [];replace hmo:=hmo.trans u8;exact lL hs [.m 4 16] (lN (kX (hs.retM hmo [] (.pointer none) (by rw[hbe_];exact ⟨(sk s a),rfl,by omega,hs.own 0⟩))))
end
section
variable {nf bf:ByteArray→Option Rat} (hnf:lU nf) (hnp:vH) (hbf:wY bf)
include hnf hnp hbf
def Cx (nf bf:ByteArray→Option Rat)(n:Nat):Prop:=oA nf bf 12 n .sum∧oA nf bf 29 n .prod∧oA nf bf 53 n .sign∧oA nf bf 89 n .pow∧oA nf bf 116 n .atom∧Cy nf bf n
theorem BZ (n:Nat):Cx nf bf n:=by
  induction n using Nat.strongRecOn with
  | ind n ih =>
    cases n with
    | zero=>exact ⟨fun _ _ _ _ _ _ _ h=>(by cases h),fun _ _ _ _ _ _ _ h=>(by cases h),fun _ _ _ _ _ _ _ h=>(by cases h),fun _ _ _ _ _ _ _ h=>(by cases h),fun _ _ _ _ _ _ _ h=>(by cases h),fun _ _ _ _ _ _ _ _ _ h=>(by cases h)⟩
    | succ n =>
      have i:=ih n (Nat.lt_succ_self n);have o:=fun m=>x5 (nf:=nf) hnf hnp hbf m
      refine ⟨?_,?_,?_,?_,?_,?_⟩
      · intro pb s h1 a h2 bd b hq w h g ho hj tb
        rcases oC (lv:=false) hq with he|⟨t,c,e1,e2⟩
        · exact Bu n i.2.1 pb s h1 a h2 bd b he w h g ho hj tb
        · exact A3 n (fun m _=>(o m).2.1) (fun m hm=>(ih m oM).2.1) pb s h1 a h2 bd b t c e1 e2 w h g ho hj tb
      · intro pb s h1 a h2 bd b hq w h g ho hj tb
        rcases oC (lv:=true) hq with he|⟨t,c,e1,e2⟩
        · exact nN n i.2.2.1 pb s h1 a h2 bd b he w h g ho hj tb
        · exact nE n (fun m _=>(o m).2.2.1) (fun m hm=>(ih m oM).2.2.1) pb s h1 a h2 bd b t c e1 e2 w h g ho hj tb
      · exact fun pb s h1 a h2 bd b hq w h g ho hj tb=>sF n i.2.2.1 i.2.2.2.1 pb s h1 a h2 bd b hq w h g ho hj tb
      · exact fun pb s h1 a h2 bd b hq w h g ho hj tb=>vz n i.2.2.2.2.1 pb s h1 a h2 bd b hq w h g ho hj tb
      · exact fun pb s h1 a h2 bd b hq w h g ho hj tb=>Ae n i.2.2.2.2.2 pb s h1 a h2 bd b hq w h g ho hj tb
      · exact fun op hop pb s h1 a h2 bd b hq w h g ho hj tb=>x4 n op pb s h1 a h2 bd b hq w h g ho hj tb
end
theorem gN (q:Rat)(w:World)(h:Hp)(g:G w h):CV 66 #[qv q] w h (aF ⟨1,0,q,⟨#[]⟩,none,0,0⟩):=by
 have hs:=sS g;exact go Tryz.func66 [(0,qv q)] rfl (aE (lA 1 28 (qc q) hs (fun b1 w2 h3 hs=>lA 2 31 ([iV 0,iV 0,qF,uV 0,eS,uV 0,eS,eS,sZ]) hs (fun b4 w5 h6 hs=>aG (lL hs [.o 3 (qv q) 1 0 5,.v 4 (.agg #[iV 1,iV 0,.bool (aD q.num),uV (lo (ab q.num)),.string (hi (ab q.num)),uV (lo (qd q)),.string (hi (qd q)),eS,sZ])] (lP 0 0 ([iV 1,iV 0,.bool (aD q.num),uV (lo (ab q.num)),.string (hi (ab q.num)),uV (lo (qd q)),.string (hi (qd q)),eS,sZ]) hs (fun w7 hs=>ac hs [(0,0,9)] (.agg #[iV 1,iV 0,.bool (aD q.num),uV (lo (ab q.num)),.string (hi (ab q.num)),uV (lo (qd q)),.string (hi (qd q)),eS,sZ]) rfl)))))))
theorem iA (n:Int)(h0 : -1000≤n)(h1:n≤1000)(w:World)(h:Hp)(g:G w h):CV 69 #[iV n] w h (aF ⟨1,0,((n:Int):Rat),⟨#[]⟩,none,0,0⟩):=by
 have hs:=sS g;exact go Tryz.func69 [(0,iV n)] rfl (aE (lA 2 31 ([iV 0,iV 0,qF,uV 0,eS,uV 0,eS,eS,sZ]) hs (fun b1 w2 h3 hs=>aG (lL hs [.m 3 0] (ag 4 hs (tA (n) oM oM _ _ hs.g) (fun w4 h5 hs=>ag 5 hs (gN (((n:Int):Rat)) _ _ hs.g) (fun w6 h7 hs=>lP 0 0 (aK (⟨1,0,((n:Int):Rat),⟨#[]⟩,none,0,0⟩:PTm)) hs (fun w8 hs=>ac hs [(0,0,9)] (aF (⟨1,0,((n:Int):Rat),⟨#[]⟩,none,0,0⟩:PTm)) rfl))))))))
theorem CN (p:PTm)(n:Int)(e:Bool)(h0 : -1000≤n)(h1:n≤1000)(hlq:LQ 100000000 p.q)(he:p.op=1→(di p.q ((n:Int):Rat) == 0)=e)(he2:p.op≠1→e=false)(w:World)(h:Hp)(g:G w h):CV 67 #[aF p,iV n] w h (.bool e):=by
 have hs:=sS g;refine go Tryz.func67 [(0,aF p),(1,iV n)] rfl (aE (lA 2 31 (aK p) hs (fun b1 w2 h3 hs=>lL hs [.v 4 qF] (af (cR 11 [] mixed hs av ?_)))));refine eV 0 5 (pB b1) (eO 1 6 [(0,0,1)] (iV p.op) hs ?_);cases hb4:((p.op:Int) == (1:Int))
 ·
  have phb4:=ai hb4;exact eB 2 7 hb4 (eV 3 8 qF (eG 4 9 (eG 5 10 (eG 6 11 (eG 7 12 (eG 8 13 (eG 9 14 (eV 10 15 qF (cC hs (fun w5 h6 hs=>tV 11 4 qF (tN (kX (hs.ret [] qF (congrArg Value.bool (by first|exact (he2 oM).symm|(rw[←he oM];exact (by assumption:(_ == _)=_).symm))))))))))))))))
 have phb4:=eq_of_beq hb4;refine eB 2 7 hb4 (eV 3 8 qT (eV 4 9 (qP b1 2) (eO 5 10 [(0,2,5)] (qv p.q) hs (eV 6 11 (iV n) (aq 7 12 hs (fun _ _ hs=>tA (n) oM oM _ _ hs.g) (fun w7 h8 hs=>aq 8 13 hs (fun _ _ hs=>x9 p.q ((n:Int):Rat) hlq ((LQ.int oM oM).mono oM) _ _ hs.g) (fun w9 _ hs=>?_)))))));cases za:((di p.q ((n:Int):Rat):Int) == (0:Int))
 ·
  have zb:=ai za;exact eB 9 14 za (eV 10 15 qF (cC hs (fun _ _ hs=>tV 11 4 qF (tN (kX (hs.ret [] qF (congrArg Value.bool (by first|exact (he2 oM).symm|(rw[←he oM];exact (by assumption:(_ == _)=_).symm)))))))))
 have zb:=eq_of_beq za;exact eB 9 14 za (eV 10 15 qT (cC hs (fun _ _ hs=>tV 11 4 qT (tN (kX (hs.ret [] qT (congrArg Value.bool (by first|exact (he2 oM).symm|(rw[←he oM];exact (by assumption:(_ == _)=_).symm)))))))))
theorem qx (op n:Int)(q:Rat)(s:ByteArray)(A:Option Addr)(c:Nat)(ps:List PTm)(hlp:ps.length≤2)(hnf:∃ i,i<ps.length∧(ps.getD i ar).op≠1)(w:World)(h:Hp)(g:G w h)(hA:SlO 9 aK ar h A ps):CV 65 #[pW op n q s A ps.length c] w h (.tuple #[.agg #[.bool false,uV 0,eS,uV 0,eS],.bool false]):=by
 have hs:=((sS g).aS hA);refine go Tryz.func65 [(0,pW op n q s A ps.length c)] rfl (aE (lA 1 31 (pG op n q s A ps.length c) hs (fun b1 w2 h3 hs=>lA 2 28 ([qF,uV 0,eS,uV 0,eS]) hs (fun b4 w5 h6 hs=>lL hs [.v 3 qF] (af (aa hs [.v 8 (qP b1 8),.o 9 (qS A ps.length c) 1 8 1,.v 10 (nV ps.length)] ?_))))));cases hb7:((ps.length:Int) == (0:Int))
 ·
  have phb7:=ai hb7;refine lB 11 hb7 (ah (cK (cQ (aa hs [.v 13 (qP b1 8),.o 14 (qS A ps.length c) 1 8 1,.v 15 (nV ps.length),.v 16 (iV 0)] (bn ?_)))));refine bQ _ (CG.loop (fun μ_ Γ w_=>∃ (k:Nat) (h_:Hp),μ_=ps.length-k∧Γ=[(1,pB b1),(2,pB b4),(14,qS A ps.length c),(15,nV ps.length),(16,nV k)]∧SS w h w_ h_ [⟨b4,28,[qF,uV 0,eS,uV 0,eS]⟩,⟨b1,31,pG op n q s A ps.length c⟩] [] [fun h_=>SlO 9 aK ar h_ A ps]∧k≤ps.length∧(∀ i,i<k→(ps.getD i ar).op=1)) _ ⟨0,h6,rfl,rfl,hs.to _ _,Nat.zero_le _,(fun i hi=>absurd hi (Nat.not_lt_zero i))⟩ ?_);rintro _ _ w8 ⟨k,h9,hm10,rfl,hs,hk,hal⟩;refine aE ?_;cases za:(decide ((k:Int)<(ps.length:Int)))
  ·
   have zc:=oF za;refine lB 17 za (af (cw (CG.exit ?_)))
   show CG _ _ _ _ _ _ _ _
   refine aE ?_
   exfalso
   obtain ⟨i,hi,hop⟩:=hnf;exact hop (hal i oM)
  have zc:=oT za;refine lB 17 za (af (ce (cK (cQ (kZ (aE (lX 18 A ps.length c 9 (k:Nat) k ((hs.f.1).ok oM) ?_)))))));refine lH 19 (aF (ps.getD k ar)) hs ((hs.f.1).el k oM) (lA 5 31 ([iV 0,iV 0,qF,uV 0,eS,uV 0,eS,eS,sZ]) hs (fun ze _ zf hs=>lP 0 0 (aK (ps.getD k ar)) hs (fun _ hs=>aG (lL hs [.v 20 (pB ze),.o 21 (iV ((ps.getD k ar).op)) 0 0 1] ?_))));cases zb:(((ps.getD k ar).op:Int) != (1:Int))
  ·
   have zd:=az zb;refine lB 22 zb (ah (cK (kQ (bH 24 ((k:Nat)+1) (k+1) ?_))));refine lL hs [.m 16 24] (lD ?_);intro a_ ka;replace hs:=hs.drop 1 0;refine ⟨_,_,?_,⟨k+1,zf,rfl,rfl,hs.to _ _,oM,(fun i hi=>by rcases Nat.lt_succ_iff_lt_or_eq.1 hi with h_|rfl;exact hal i h_;omega)⟩,ka.to _ kR⟩
   omega
  have zd:=aY zb;exact lB 22 zb (ao (aa hs [.v 23 (.agg #[qF,uV 0,eS,uV 0,eS])] (lP 1 0 ([qF,uV 0,eS,uV 0,eS]) hs (fun _ hs=>lL hs [.v 3 qF] (ac hs [(1,0,5)] (.tuple #[.agg #[qF,uV 0,eS,uV 0,eS],qF]) rfl)))))
 have phb7:=eq_of_beq hb7;exact lB 11 hb7 (ao (aa hs [.v 12 (.agg #[qF,uV 0,eS,uV 0,eS])] (lP 0 0 ([qF,uV 0,eS,uV 0,eS]) hs (fun _ hs=>lL hs [.v 3 qF] (ac hs [(0,0,5)] (.tuple #[.agg #[qF,uV 0,eS,uV 0,eS],qF]) rfl)))))
theorem rJ (n:Int)(q:Rat)(s:ByteArray)(A:Option Addr)(c:Nat)(pa pc:PTm)(hnf:∃ i,i<([pa,pc]:List PTm).length∧(([pa,pc]:List PTm).getD i ar).op≠1)(e:Bool)(hl0:LQ 100000000 pa.q)(hl1:LQ 100000000 pc.q)(hi1_:(((pa):PTm).op=1→(di ((pa):PTm).q ((0:Int):Rat) == 0)=false)∧(((pa):PTm).op≠1→false=false))(hi2_:(((pc):PTm).op=1→(di ((pc):PTm).q ((0:Int):Rat) == 0)=false)∧(((pc):PTm).op≠1→false=false))(hi3_:(((pa):PTm).op=1→(di ((pa):PTm).q ((1:Int):Rat) == 0)=false)∧(((pa):PTm).op≠1→false=false))(hi4_:(((pc):PTm).op=1→(di ((pc):PTm).q ((1:Int):Rat) == 0)=e)∧(((pc):PTm).op≠1→e=false))  (w:World)(h:Hp)(g:G w h)(hA:SlO 9 aK ar h A ([pa,pc]:List PTm)):CV 35 #[pW 5 n q s A 2 c] w h (aF (if e=true then pa else ⟨5,n,q,s,A,2,c⟩)):=by
 have hs:=((sS g).aS hA);have hln:([pa,pc]:List PTm).length=2:=rfl;refine go Tryz.func35 [(0,pW 5 n q s A 2 c)] rfl (aE (lA 1 31 (pG 5 n q s A 2 c) hs (fun b1 w2 h3 hs=>lA 2 31 ([iV 0,iV 0,qF,uV 0,eS,uV 0,eS,eS,sZ]) hs (fun b4 w5 h6 hs=>af (aa hs [.o 6 (pW 5 n q s A 2 c) 1 0 9] (ag 7 hs (qx 5 n q s A c ([pa,pc]:List PTm) (by rw[hln];omega) hnf _ _ hs.g hs.f.1) (fun w7 h8 hs=>lL hs [.m 5 7,.v 8 (.agg #[qF,uV 0,eS,uV 0,eS]),.v 9 qF] (lA 3 28 ([qF,uV 0,eS,uV 0,eS]) hs (fun b9 _ _ hs=>lP 0 0 ([qF,uV 0,eS,uV 0,eS]) hs (fun _ hs=>lL hs [.m 4 9] (aG (lL hs [.m 10 4] (ah (cK (cQ (aa hs [.v 13 (pB b1),.o 14 (iV 5) 2 0 1] (bn (aa hs [.v 16 qF,.m 15 16] (ah (aa hs [.v 36 qF,.m 35 36] (ah (aa hs [.v 58 qT,.m 57 58] (ao (cQ (aa hs [.v 59 (qP b1 8),.o 60 (qS A 2 c) 2 8 1] (lX 61 A 2 c 9 0 0 ((hs.f.1).ok oM) ?_))))))))))))))))))))))))));refine lH 62 (aF (([pa,pc]:List PTm).getD 0 ar)) hs ((hs.f.1).el 0 oM) (ag 63 hs (CN (([pa,pc]:List PTm).getD 0 ar) 0 false kD kD hl0 hi1_.1 hi1_.2 _ _ hs.g) (fun _ _ hs=>lL hs [.m 64 63,.v 65 (qP b1 8),.o 66 (qS A 2 c) 2 8 1] (lX 67 A 2 c 9 1 1 ((hs.f.1).ok oM) ?_)));refine lH 68 (aF (([pa,pc]:List PTm).getD 1 ar)) hs ((hs.f.1).el 1 oM) (ag 69 hs (CN (([pa,pc]:List PTm).getD 1 ar) 0 false kD kD hl1 hi2_.1 hi2_.2 _ _ hs.g) (fun _ _ hs=>lL hs [.v 70 qF] (ah (cK (cQ (aa hs [.v 72 (qP b1 8),.o 73 (qS A 2 c) 2 8 1] (lX 74 A 2 c 9 0 0 ((hs.f.1).ok oM) ?_)))))));refine lH 75 (aF (([pa,pc]:List PTm).getD 0 ar)) hs ((hs.f.1).el 0 oM) (ag 76 hs (CN (([pa,pc]:List PTm).getD 0 ar) 1 false kD kD hl0 hi3_.1 hi3_.2 _ _ hs.g) (fun _ _ hs=>ah (cK (aa hs [.v 81 (qP b1 8),.o 82 (qS A 2 c) 2 8 1] (lX 83 A 2 c 9 1 1 ((hs.f.1).ok oM) ?_)))));refine lH 84 (aF (([pa,pc]:List PTm).getD 1 ar)) hs ((hs.f.1).el 1 oM) (ag 85 hs (CN (([pa,pc]:List PTm).getD 1 ar) 1 e kD kD hl1 hi4_.1 hi4_.2 _ _ hs.g) (fun _ _ hs=>?_));cases hb21:(e)
 ·
  refine lN (bQ [(1,pB b1),(2,pB b4),(85,qF)] ?_);exact cw (cK (aa hs [.o 129 (pW 5 n q s A 2 c) 2 0 9] (lP 1 0 (pG 5 n q s A 2 c) hs (fun _ hs=>ac hs [(1,0,9)] (pW 5 n q s A 2 c) (by first|rfl|(rw[(by assumption:e=false)];rfl))))))
 refine lN (bQ [(1,pB b1),(2,pB b4),(85,qT)] ?_);refine ce (aa hs [.v 86 (qP b1 8),.o 87 (qS A 2 c) 2 8 1] (lX 88 A 2 c 9 0 0 ((hs.f.1).ok oM) ?_));exact lH 89 (aF (([pa,pc]:List PTm).getD 0 ar)) hs ((hs.f.1).el 0 oM) (lP 1 0 (aK (([pa,pc]:List PTm).getD 0 ar)) hs (fun _ hs=>ac hs [(1,0,9)] (aF (([pa,pc]:List PTm).getD 0 ar)) (by first|rfl|(rw[(by assumption:e=true)];rfl))))
theorem mh (n:Int)(q:Rat)(s:ByteArray)(A:Option Addr)(c:Nat)(pa:PTm)(hnf:∃ i,i<([pa]:List PTm).length∧(([pa]:List PTm).getD i ar).op≠1)(hn0:n≠0)(w:World)(h:Hp)(g:G w h)(hA:SlO 9 aK ar h A ([pa]:List PTm)):CV 35 #[pW 8 n q s A 1 c] w h (aF (if n=1 then pa else ⟨8,n,q,s,A,1,c⟩)):=by
 have hs:=((sS g).aS hA);have hln:([pa]:List PTm).length=1:=rfl;refine go Tryz.func35 [(0,pW 8 n q s A 1 c)] rfl (aE (lA 1 31 (pG 8 n q s A 1 c) hs (fun b1 w2 h3 hs=>lA 2 31 ([iV 0,iV 0,qF,uV 0,eS,uV 0,eS,eS,sZ]) hs (fun b4 w5 h6 hs=>af (aa hs [.o 6 (pW 8 n q s A 1 c) 1 0 9] (ag 7 hs (qx 8 n q s A c ([pa]:List PTm) (by rw[hln];omega) hnf _ _ hs.g hs.f.1) (fun w7 h8 hs=>lL hs [.m 5 7,.v 8 (.agg #[qF,uV 0,eS,uV 0,eS]),.v 9 qF] (lA 3 28 ([qF,uV 0,eS,uV 0,eS]) hs (fun b9 _ _ hs=>lP 0 0 ([qF,uV 0,eS,uV 0,eS]) hs (fun _ hs=>lL hs [.m 4 9] (aG (lL hs [.m 10 4] (ah (cK (cQ (aa hs [.v 13 (pB b1),.o 14 (iV 8) 2 0 1] (bn (aa hs [.v 16 qF,.m 15 16] (ah (aa hs [.v 36 qF,.m 35 36] (ah (aa hs [.v 58 qF,.m 57 58] (ah (aa hs [.v 91 qF,.m 90 91] (ah (aa hs [.v 102 qF,.m 101 102] (ah (aa hs [.v 117 qT,.m 116 117] (ao (cQ (aa hs [.v 118 (qP b1 1),.o 119 (iV n) 2 1 1] ?_)))))))))))))))))))))))))))))));have zc:((n:Int) == (0:Int))=false:=cv oM;refine lB 120 zc (ah (cK (aa hs [.v 122 (qP b1 1),.o 123 (iV n) 2 1 1] ?_)));cases za:((n:Int) == (1:Int))
 ·
  have zb:=ai za;exact lB 124 za (ah (cK (aa hs [.o 129 (pW 8 n q s A 1 c) 2 0 9] (lP 1 0 (pG 8 n q s A 1 c) hs (fun _ hs=>ac hs [(1,0,9)] (pW 8 n q s A 1 c) (by rw[if_neg oM];rfl))))))
 have zb:=eq_of_beq za;refine lB 124 za (ao (aa hs [.v 125 (qP b1 8),.o 126 (qS A 1 c) 2 8 1] (lX 127 A 1 c 9 0 0 ((hs.f.1).ok oM) ?_)));exact lH 128 (aF (([pa]:List PTm).getD 0 ar)) hs ((hs.f.1).el 0 oM) (lP 1 0 (aK (([pa]:List PTm).getD 0 ar)) hs (fun _ hs=>ac hs [(1,0,9)] (aF (([pa]:List PTm).getD 0 ar)) (by rw[if_pos oM];rfl)))
section
variable {M:Ms} {P:Program} {n:Nat} {N R:Po} {X:Nat→Po} {ops:Array Oper} {k0:Nat} {L:Array Bool} {Γ:bI} {w:World} {h:Hp} {w0:World} {h0:Hp} {B:List Bx} {Rs:List Rw} {F:List (Hp→Prop)}
def oy (ops:Array Oper)(k0:Nat)(L:Array Bool)(i j:Nat):Bool :=
  decide (i<ops.size) && decide (j<ops.size) && decide (k0≤i) && decide (k0≤j) && Region.noSelect ops && (Region.ready .any ops L == [i,j])
theorem A.two {a:Act}{i j:Nat}(hc:oy ops k0 L i j=true){Q:Exit→Act→World→Prop}{R1 R2:Value→World→Prop}(h1:OpR P ops (am ops i) a w R1)(h2:OpR P ops (am ops j) a w R2)(hT1:∀ v w',R1 v w'→Tl M w w')(hT2:∀ v w',R2 v w'→Tl M w w')
  (hK1:∀ v w',R1 v w'→A M P ops Q k0 (L.setIfInBounds i true) (a.put (am ops i).dst v) w')(hK2:∀ v w',R2 v w'→A M P ops Q k0 (L.setIfInBounds j true) (a.put (am ops j).dst v) w'):A M P ops Q k0 L a w:=by
 unfold oy at hc
 simp only[Bool.and_eq_true,decide_eq_true_eq,beq_iff_eq] at hc
 obtain ⟨⟨⟨⟨⟨c1,c2⟩,c3⟩,c4⟩,_⟩,c6⟩:=hc;refine A.intro (fun h0=>by rw[c6] at h0;cases h0) (fun q hq=>?_);rw[c6] at hq
 rcases List.mem_cons.1 hq with rfl|hq
 ·exact OpR.wpOp (bv c1) h1 (fun v w' hr=>⟨Rl.tl c3 (hT1 v w' hr),hK1 v w' hr⟩)
 ·rw[List.mem_singleton] at hq
  subst hq;exact OpR.wpOp (bv c2) h2 (fun v w' hr=>⟨Rl.tl c4 (hT2 v w' hr),hK2 v w' hr⟩)
def Dn (n:Nat)(ops:Array Oper)(Γ:bI)(i t:Nat):Bool:=Region.noSelect ops && decide (i<ops.size) && aW Γ (am ops i) && ((am ops i).dst == some t) && decide (t<n) && (aZ ops Γ (am ops i) == some true)
theorem mQ {i t:Nat}{v:Value}(hc:Dn n ops Γ i t=true)(hr:(execOp (ev Γ) (am ops i)).run P w=.ok (.value v) w){a:Act}(ka:Kn n a Γ):OpR P ops (am ops i) a w (fun u w1=>u=v∧w1=w)∧(am ops i).dst=some t∧t<n:=by
 unfold Dn at hc
 simp only[Bool.and_eq_true,decide_eq_true_eq,beq_iff_eq] at hc
 obtain ⟨⟨⟨⟨⟨hs,h0⟩,h2⟩,h3⟩,h4⟩,h5⟩:=hc;exact ⟨⟨ka.want h5,.inl ⟨v,w,by rw[ka.exec (Region.noSelect_spec hs i _ · · (bv h0)) h2];exact hr,rfl,rfl⟩⟩,h3,h4⟩
def DI (ops:Array Oper)(Γ:bI)(i:Nat):Bool:=Region.noSelect ops && decide (i<ops.size) && aW Γ (am ops i) && ((am ops i).dst == none) && (aZ ops Γ (am ops i) == some true)
theorem xM {i:Nat}{w':World}(hc:DI ops Γ i=true)(hr:(execOp (ev Γ) (am ops i)).run P w=.ok .skip w'){a:Act}(ka:Kn n a Γ):OpR P ops (am ops i) a w (fun u w1=>u=undef∧w1=w')∧(am ops i).dst=none:=by
 unfold DI at hc
 simp only[Bool.and_eq_true,decide_eq_true_eq,beq_iff_eq] at hc
 obtain ⟨⟨⟨⟨hs,h0⟩,h2⟩,h3⟩,h5⟩:=hc;exact ⟨⟨ka.want h5,.inr (.inl ⟨w',by rw[ka.exec (Region.noSelect_spec hs i _ · · (bv h0)) h2];exact hr,rfl,rfl⟩)⟩,h3⟩
theorem Fn (i t:Nat)(ps:List (Nat × Nat × Nat))(v:Value)(j t2:Nat)(ps2:List (Nat × Nat × Nat))(v2:Value)(s:SS w0 h0 w h B Rs F)(H1:AG M P n N R X ops k0 (L.setIfInBounds i true) ((t,v)::Γ) w)(H2:AG M P n N R X ops k0 (L.setIfInBounds j true) ((t2,v2)::Γ) w)
  (hc:(oy ops k0 L i j && Dn n ops Γ i t && Dn n ops Γ j t2)=true:=by kernel_rfl)(hp:(bF B ps && bF B ps2)=true:=by kernel_rfl)(he:bE P (execOp (ev Γ) (am ops i)) (bT B ps)=some (.value v,bA B ps):=by kernel_rfl)(he2:bE P (execOp (ev Γ) (am ops j)) (bT B ps2)=some (.value v2,bA B ps2):=by kernel_rfl):AG M P n N R X ops k0 L Γ w:=by
 simp only[Bool.and_eq_true] at hc hp
 intro a ka;obtain ⟨o1,d1,l1⟩:=mQ hc.1.2 (bu _ _ _ _ he (bP s.st.own ps hp.1)) ka;obtain ⟨o2,d2,l2⟩:=mQ hc.2 (bu _ _ _ _ he2 (bP s.st.own ps2 hp.2)) ka;refine A.two hc.1.1 o1 o2 (fun _ _ e=>e.2▸Tl.refl _ _) (fun _ _ e=>e.2▸Tl.refl _ _) ?_ ?_
 ·rintro _ _ ⟨rfl,rfl⟩;rw[d1];exact H1 _ (ka.put l1 _)
 ·rintro _ _ ⟨rfl,rfl⟩;rw[d2];exact H2 _ (ka.put l2 _)
theorem E6 (i t:Nat)(ps:List (Nat × Nat × Nat))(v:Value)(q j o:Nat)(cs:List Value)(s:SS w0 h0 w h B Rs F)(H1:AG M P n N R X ops k0 (L.setIfInBounds i true) ((t,v)::Γ) w)(H2:∀ w',SS w0 h0 w' h (eo B j o cs) Rs F→AG M P n N R X ops k0 (L.setIfInBounds q true) Γ w')
  (hc:(oy ops k0 L i q && Dn n ops Γ i t && DI ops Γ q)=true:=by kernel_rfl)(hp:bF B ps=true:=by kernel_rfl)(he:bE P (execOp (ev Γ) (am ops i)) (bT B ps)=some (.value v,bA B ps):=by kernel_rfl)
  (hj:(decide (j<B.length) && decide (o+cs.length≤(aw B j).vs.length))=true:=by kernel_rfl)(he2:cV P (execOp (ev Γ) (am ops q))=some (.skip,kI (aw B j).b o cs):=by kernel_rfl)(hz:M.z=none:=by rfl):AG M P n N R X ops k0 L Γ w:=by
 simp only[Bool.and_eq_true] at hc
 have hj2:=hj
 simp only[Bool.and_eq_true,decide_eq_true_eq] at hj2
 intro a ka;obtain ⟨o1,d1,l1⟩:=mQ hc.1.2 (bu _ _ _ _ he (bP s.st.own ps hp)) ka;obtain ⟨w',hrun,hput,hown⟩:=eD _ _ _ _ _ w he2 (s.st.own _ (a6 hj2.1)) hj2.2;obtain ⟨o2,d2⟩:=xM hc.2 hrun ka;refine A.two hc.1.1 o1 o2 (fun _ _ e=>e.2▸Tl.refl _ _) (fun _ _ _=>Tl.none hz _ _) ?_ ?_
 ·rintro _ _ ⟨rfl,rfl⟩;rw[d1];exact H1 _ (ka.put l1 _)
 ·rintro _ _ ⟨rfl,rfl⟩
  rw[d2];exact H2 _ (s.put0 hj2.1 hput (s.st.put s.g0 hj2.1 hput hown) (ji hj2.1)) _ ka
end
theorem Cd (pa pc:PTm)(hnf:∃ i,i<([pa,pc]:List PTm).length∧(([pa,pc]:List PTm).getD i ar).op≠1)(e:Bool)(hl0:LQ 100000000 pa.q)(hl1:LQ 100000000 pc.q)(hi1_:(((pa):PTm).op=1→(di ((pa):PTm).q ((0:Int):Rat) == 0)=false)∧(((pa):PTm).op≠1→false=false))(hi2_:(((pc):PTm).op=1→(di ((pc):PTm).q ((0:Int):Rat) == 0)=false)∧(((pc):PTm).op≠1→false=false))(hi3_:(((pa):PTm).op=1→(di ((pa):PTm).q ((1:Int):Rat) == 0)=false)∧(((pa):PTm).op≠1→false=false))(hi4_:(((pc):PTm).op=1→(di ((pc):PTm).q ((1:Int):Rat) == 0)=e)∧(((pc):PTm).op≠1→e=false))  (w:World)(h:Hp)(g:G w h):CR 77 #[iV 5,aF pa,aF pc] w h (fun v h1=>∃ b,v=aF (if e=true then pa else ⟨5,0,0,⟨#[]⟩,sB b,2,2⟩)∧SlO 9 aK ar h1 (sB b) ([pa,pc]:List PTm)):=by
 have hs:=sS g;refine go Tryz.func77 [(0,iV 5),(1,aF pa),(2,aF pc)] rfl (aE (lA 4 31 (aK pa) hs (fun b1 w2 h3 hs=>lA 5 31 (aK pc) hs (fun b4 w5 h6 hs=>lA 6 31 ([iV 0,iV 0,qF,uV 0,eS,uV 0,eS,eS,sZ]) hs (fun b7 w8 h9 hs=>aG (lL hs [.m 7 0,.o 8 (aF pa) 2 0 9,.o 9 (aF pc) 1 0 9] (lC 10 hs (wO 5 pa pc _ _ hs.g) ?_)))))));rintro _ _ _ hs ⟨b2,rfl,hA2⟩;replace hs:=hs.aS hA2;exact ag 11 hs (rJ 0 0 ⟨#[]⟩ (sB b2) 2 pa pc hnf e hl0 hl1 hi1_ hi2_ hi3_ hi4_ _ _ hs.g hs.f.1) (fun _ _ hs=>lP 0 0 (aK (if e=true then pa else ⟨5,0,0,⟨#[]⟩,sB b2,2,2⟩)) hs (fun _ hs=>ac hs [(0,0,9)] (aF (if e=true then pa else ⟨5,0,0,⟨#[]⟩,sB b2,2,2⟩)) (⟨b2,rfl,hs.f.1⟩)))
theorem vG (pa:PTm)(hpa:pa.op≠1)(w:World)(h:Hp)(g:G w h):CV 78 #[aF pa,iV 1] w h (aF pa):=by
 have hs:=sS g;refine go Tryz.func78 [(0,aF pa),(1,iV 1)] rfl (aE (lA 2 31 (aK pa) hs (fun b1 w2 h3 hs=>lA 4 31 ([iV 0,iV 0,qF,uV 0,eS,uV 0,eS,eS,sZ]) hs (fun b4 w5 h6 hs=>aG (lL hs [.o 6 (aF pa) 1 0 9] (lC 7 hs (s7 8 pa _ _ hs.g) ?_))))));rintro _ w7 h8 hs ⟨b1,rfl,hA1⟩;replace hs:=hs.aS hA1;exact lA 5 31 ([iV 0,iV 0,qF,uV 0,eS,uV 0,eS,eS,sZ]) hs (fun b9 _ _ hs=>lP 0 0 (aK (⟨8,0,0,⟨#[]⟩,sB b1,1,1⟩:PTm)) hs (fun _ hs=>aG (lL hs [.m 8 1,.v 9 (qP b9 1)] (lP 0 1 ([iV 1]) hs (fun _ hs=>aG (lL hs [.o 10 (pW ((⟨8,0,0,⟨#[]⟩,sB b1,1,1⟩:PTm).op) 1 ((⟨8,0,0,⟨#[]⟩,sB b1,1,1⟩:PTm).q) ((⟨8,0,0,⟨#[]⟩,sB b1,1,1⟩:PTm).s) ((⟨8,0,0,⟨#[]⟩,sB b1,1,1⟩:PTm).A) ((⟨8,0,0,⟨#[]⟩,sB b1,1,1⟩:PTm).m) ((⟨8,0,0,⟨#[]⟩,sB b1,1,1⟩:PTm).c)) 0 0 9] (ag 11 hs (mh 1 0 ⟨#[]⟩ (sB b1) 1 pa ⟨0,Nat.one_pos,hpa⟩ kD _ _ hs.g hs.f.1) (fun _ _ hs=>lP 1 0 (aK pa) hs (fun _ hs=>ac hs [(1,0,9)] (aF pa) rfl)))))))))
theorem t8 (s:ByteArray)(Ax:Option Addr)(cx:Nat)(w:World)(h:Hp)(g:G w h):CV 44 #[.agg #[iV 2,iV 0,.bool false,uV 0,eS,uV 0,eS,.string s,.slice Ax 0 cx],.string s] w h (.tuple #[.agg #[iV 2,iV 0,.bool false,uV 0,eS,uV 0,eS,.string s,.slice Ax 0 cx],aF (⟨1,0,((1:Int):Rat),⟨#[]⟩,none,0,0⟩:PTm)]):=by
 have hs:=sS g;refine go Tryz.func44 [(0,.agg #[iV 2,iV 0,qF,uV 0,eS,uV 0,eS,.string s,qS Ax 0 cx]),(1,.string s)] rfl (aE (lA 2 31 ([iV 2,iV 0,qF,uV 0,eS,uV 0,eS,.string s,qS Ax 0 cx]) hs (fun b1 w2 h3 hs=>lA 4 31 ([iV 0,iV 0,qF,uV 0,eS,uV 0,eS,eS,sZ]) hs (fun b4 w5 h6 hs=>lA 5 31 ([iV 0,iV 0,qF,uV 0,eS,uV 0,eS,eS,sZ]) hs (fun b7 w8 h9 hs=>af (aa hs [.v 12 (qP b1 8),.o 13 (qS Ax 0 cx) 2 8 1,.v 14 (iV 0),.v 15 qT] (ao (cQ (aa hs [.v 16 (pB b1),.o 17 (iV 2) 2 0 1,.v 18 qT,.m 19 18,.v 20 (qP b1 7),.o 21 (.string s) 2 7 1,.m 22 1] (lV 23 qT ?_ (hr:=rb kR (CS s))))))))))));refine lL hs [.v 24 qT] (ao (cQ (cR 2 [] mixed hs av ?_)));exact eO 0 25 [(2,0,9)] (.agg #[iV 2,iV 0,qF,uV 0,eS,uV 0,eS,.string s,qS Ax 0 cx]) hs (aq 1 26 hs (fun _ _ hs=>iA 1 kD kD _ _ hs.g) (fun _ _ hs=>cC hs (fun _ _ hs=>tP 2 1 0 ([iV 2,iV 0,qF,uV 0,eS,uV 0,eS,.string s,qS Ax 0 cx]) hs (fun _ hs=>tP 3 0 0 (aK (⟨1,0,((1:Int):Rat),⟨#[]⟩,none,0,0⟩:PTm)) hs (fun _ hs=>tN (kX (hs.ret [(1,0,9),(0,0,9)] (.tuple #[.agg #[iV 2,iV 0,qF,uV 0,eS,uV 0,eS,.string s,qS Ax 0 cx],aF (⟨1,0,((1:Int):Rat),⟨#[]⟩,none,0,0⟩:PTm)]) rfl)))))))
theorem Ck:LQ 100000000 (0:Rat):=kh kD
theorem Eb:LQ 100000000 (((1:Int)):Rat):=(LQ.int kD kD).mono kD
theorem DU:LQ 100000000 (((2:Int)):Rat):=(LQ.int kD kD).mono kD
theorem vd (s:ByteArray)(Ax:Option Addr)(cx:Nat)(A:Option Addr)(c:Nat)(w:World)(h:Hp)(g:G w h)(hA:SlO 9 aK ar h A ([(⟨2,0,0,s,Ax,0,cx⟩:PTm)]:List PTm)):CR 44 #[.agg #[iV 8,iV 2,.bool false,uV 0,eS,uV 0,eS,eS,.slice A 1 c],.string s] w h (fun v h1=>∃ b0 b,v=.tuple #[aF ⟨8,2,0,⟨#[]⟩,sB b0,1,1⟩,aF ⟨5,0,0,⟨#[]⟩,sB b,2,2⟩]∧SlO 9 aK ar h1 (sB b) [(⟨1,0,((2:Int):Rat),⟨#[]⟩,none,0,0⟩:PTm),(⟨2,0,0,s,Ax,0,cx⟩:PTm)]):=by
 have hs:=((sS g).aS hA);have hln:([(⟨2,0,0,s,Ax,0,cx⟩:PTm)]:List PTm).length=1:=rfl;refine go Tryz.func44 [(0,.agg #[iV 8,iV 2,qF,uV 0,eS,uV 0,eS,eS,qS A 1 c]),(1,.string s)] rfl (aE (lA 2 31 ([iV 8,iV 2,qF,uV 0,eS,uV 0,eS,eS,qS A 1 c]) hs (fun b1 w2 h3 hs=>lA 4 31 ([iV 0,iV 0,qF,uV 0,eS,uV 0,eS,eS,sZ]) hs (fun b4 w5 h6 hs=>lA 5 31 ([iV 0,iV 0,qF,uV 0,eS,uV 0,eS,eS,sZ]) hs (fun b7 w8 h9 hs=>af (aa hs [.v 12 (qP b1 8),.o 13 (qS A 1 c) 2 8 1,.v 14 (iV 1),.v 15 qF] (ah (cK (aa hs [.v 30 (qP b1 8),.o 31 (qS A 1 c) 2 8 1] (lX 32 A 1 c 9 0 0 ((hs.f.1).ok oM) ?_))))))))));refine lH 33 (aF (([(⟨2,0,0,s,Ax,0,cx⟩:PTm)]:List PTm).getD 0 ar)) hs ((hs.f.1).el 0 oM) (lL hs [.m 34 1] (ag 35 hs (t8 s Ax cx _ _ hs.g) (fun _ _ hs=>lL hs [.m 29 35,.v 36 (.agg #[iV 2,iV 0,qF,uV 0,eS,uV 0,eS,.string s,qS Ax 0 cx]),.v 37 (aF (⟨1,0,((1:Int):Rat),⟨#[]⟩,none,0,0⟩:PTm))] (lA 6 31 ([iV 0,iV 0,qF,uV 0,eS,uV 0,eS,eS,sZ]) hs (fun zb _ _ hs=>lA 7 31 ([iV 0,iV 0,qF,uV 0,eS,uV 0,eS,eS,sZ]) hs (fun zc _ _ hs=>lP 1 0 ([iV 2,iV 0,qF,uV 0,eS,uV 0,eS,.string s,qS Ax 0 cx]) hs (fun _ hs=>lP 0 0 (aK (⟨1,0,((1:Int):Rat),⟨#[]⟩,none,0,0⟩:PTm)) hs (fun _ hs=>aG (lL hs [.o 38 (.agg #[iV 2,iV 0,qF,uV 0,eS,uV 0,eS,.string s,qS Ax 0 cx]) 1 0 9] (lR 39 31 1 ([iV 2,iV 0,qF,uV 0,eS,uV 0,eS,.string s,qS Ax 0 cx]) hs (fun za _ _ hs=>?_)))))))))));replace hs:=hs.aS (SlO.of_flat (sz:=9) (f:=aK) (d:=ar) (b:=za) (o:=0) (l:=([(⟨2,0,0,s,Ax,0,cx⟩:PTm)]:List PTm)) (fun _=>rfl) hs.f.1);refine lL hs [.m 8 39] (aG (lL hs [.v 40 (.agg #[iV 0,iV 0,qF,uV 0,eS,uV 0,eS,eS,sZ]),.v 41 (.agg #[iV 0,iV 0,qF,uV 0,eS,uV 0,eS,eS,sZ])] (lA 9 31 ([iV 0,iV 0,qF,uV 0,eS,uV 0,eS,eS,sZ]) hs (fun zd _ _ hs=>lA 10 31 ([iV 0,iV 0,qF,uV 0,eS,uV 0,eS,eS,sZ]) hs (fun ze _ _ hs=>lP 1 0 ([iV 0,iV 0,qF,uV 0,eS,uV 0,eS,eS,sZ]) hs (fun _ hs=>lP 0 0 ([iV 0,iV 0,qF,uV 0,eS,uV 0,eS,eS,sZ]) hs (fun _ hs=>af (aa hs [.v 42 (qP b1 8),.o 43 (qS A 1 c) 6 8 1,.v 44 (iV 1),.v 45 qF] (ah (cK (aa hs [.v 59 (pB b1),.o 60 (iV 8) 6 0 1,.v 61 (qP b1 1),.o 62 (iV 2) 6 1 1,.m 63 8,.v 64 (.agg #[iV 8,iV 2,qF,uV 0,eS,uV 0,eS,eS,qS (sB za) 1 1])] (ag 65 hs (mh 2 0 ⟨#[]⟩ (sB za) 1 (⟨2,0,0,s,Ax,0,cx⟩:PTm) ⟨0,Nat.one_pos,by show ¬(2:Int)=1;decide⟩ kD _ _ hs.g hs.f.1) (fun _ _ hs=>lP 5 0 (aK (⟨8,2,0,⟨#[]⟩,sB za,1,1⟩:PTm)) hs (fun _ hs=>af (aa hs [.v 66 (pB b1),.o 67 (iV 8) 6 0 1] (bn (cQ (aa hs [.v 69 qF,.m 68 69] (lN (bQ [(2,pB b1),(4,pB b4),(5,pB b7),(6,pB zb),(7,pB zc),(9,pB zd),(10,pB ze),(67,iV 8),(68,qF)] ?_))))))))))))))))))));refine cw (kQ (lL hs [.v 70 qF,.m 68 70] (ah (aa hs [.v 77 qF,.m 76 77] (ah (aa hs [.v 86 qF,.m 85 86] (ah (aa hs [.v 98 qF,.m 97 98] (ah (aa hs [.v 102 qT,.m 101 102] (ao (aE (ag 103 hs (iA 0 kD kD _ _ hs.g) (fun _ _ hs=>lP 4 0 (aK (⟨1,0,((0:Int):Rat),⟨#[]⟩,none,0,0⟩:PTm)) hs (fun _ hs=>aG (lL hs [.v 104 (qP b1 1),.o 105 (iV 2) 6 1 1,.v 106 qT] (ao (cR 11 [] mixed hs av ?_))))))))))))))))));refine eV 0 107 (qP b1 1) (eO 1 108 [(6,1,1)] (iV 2) hs (eO 3 110 [(3,0,9)] (.agg #[iV 2,iV 0,qF,uV 0,eS,uV 0,eS,.string s,qS Ax 0 cx]) hs (eV 4 111 (qP b1 1) (eO 5 112 [(6,1,1)] (iV 2) hs (eV 6 113 (iV 1) (eO 9 116 [(2,0,9)] (aF (⟨1,0,((1:Int):Rat),⟨#[]⟩,none,0,0⟩:PTm)) hs (aq 2 109 hs (fun _ _ hs=>iA 2 kD kD _ _ hs.g) (fun _ _ hs=>aq 7 114 hs (fun _ _ hs=>vG (⟨2,0,0,s,Ax,0,cx⟩:PTm) (by show ¬(2:Int)=1;decide) _ _ hs.g) (fun _ _ hs=>eC 8 115 hs (fun _ _ hs=>Cd (⟨1,0,((2:Int):Rat),⟨#[]⟩,none,0,0⟩:PTm) (⟨2,0,0,s,Ax,0,cx⟩:PTm) ⟨1,Nat.one_lt_two,by show ¬(2:Int)=1;decide⟩ false DU Ck ⟨fun _=>by decide +kernel,fun h_=>absurd rfl h_⟩ ⟨fun h_=>absurd h_ (by show ¬(2:Int)=1;decide),fun _=>rfl⟩ ⟨fun _=>by decide +kernel,fun h_=>absurd rfl h_⟩ ⟨fun h_=>absurd h_ (by show ¬(2:Int)=1;decide),fun _=>rfl⟩ _ _ hs.g) ?_)))))))));rintro _ _ _ _ _ hs ⟨bm,rfl,hAm⟩;replace hs:=hs.aS hAm;refine eC 10 117 hs (fun _ _ hs=>Cd (⟨5,0,0,⟨#[]⟩,sB bm,2,2⟩:PTm) (⟨1,0,((1:Int):Rat),⟨#[]⟩,none,0,0⟩:PTm) ⟨0,Nat.zero_lt_two,by show ¬(5:Int)=1;decide⟩ true Ck Eb ⟨fun h_=>absurd h_ (by show ¬(5:Int)=1;decide),fun _=>rfl⟩ ⟨fun _=>by decide +kernel,fun h_=>absurd rfl h_⟩ ⟨fun h_=>absurd h_ (by show ¬(5:Int)=1;decide),fun _=>rfl⟩ ⟨fun _=>by decide +kernel,fun h_=>absurd rfl h_⟩ _ _ hs.g) ?_;rintro _ _ _ _ _ hs ⟨_,rfl,-⟩;refine cC hs (fun _ _ hs=>tP 11 4 0 (aK (⟨5,0,0,⟨#[]⟩,sB bm,2,2⟩:PTm)) hs (fun _ hs=>tN (cQ (rL ⟨[],none⟩ 0 mixed ?_))));replace hs:=hs.drew;refine Fn 0 182 [(5,0,9)] (aF (⟨8,2,0,⟨#[]⟩,sB za,1,1⟩:PTm)) 1 183 [(4,0,9)] (aF (⟨5,0,0,⟨#[]⟩,sB bm,2,2⟩:PTm)) hs ?_ ?_
 ·
  refine E6 1 183 [(4,0,9)] (aF (⟨5,0,0,⟨#[]⟩,sB bm,2,2⟩:PTm)) 2 5 0 (aK (⟨8,2,0,⟨#[]⟩,sB za,1,1⟩:PTm)) hs ?_ (fun _ hs=>?_)
  ·
   exact tP 2 5 0 (aK (⟨8,2,0,⟨#[]⟩,sB za,1,1⟩:PTm)) hs (fun _ hs=>tP 3 4 0 (aK (⟨5,0,0,⟨#[]⟩,sB bm,2,2⟩:PTm)) hs (fun _ hs=>tN (kX (hs.ret [(5,0,9),(4,0,9)] (.tuple #[aF (⟨8,2,0,⟨#[]⟩,sB za,1,1⟩:PTm),aF (⟨5,0,0,⟨#[]⟩,sB bm,2,2⟩:PTm)]) (⟨za,bm,rfl,hs.f.1⟩)))))
  exact tO 1 183 [(4,0,9)] (aF (⟨5,0,0,⟨#[]⟩,sB bm,2,2⟩:PTm)) hs (tP 3 4 0 (aK (⟨5,0,0,⟨#[]⟩,sB bm,2,2⟩:PTm)) hs (fun _ hs=>tN (kX (hs.ret [(5,0,9),(4,0,9)] (.tuple #[aF (⟨8,2,0,⟨#[]⟩,sB za,1,1⟩:PTm),aF (⟨5,0,0,⟨#[]⟩,sB bm,2,2⟩:PTm)]) (⟨za,bm,rfl,hs.f.1⟩)))))
 exact tO 0 182 [(5,0,9)] (aF (⟨8,2,0,⟨#[]⟩,sB za,1,1⟩:PTm)) hs (tP 2 5 0 (aK (⟨8,2,0,⟨#[]⟩,sB za,1,1⟩:PTm)) hs (fun _ hs=>tP 3 4 0 (aK (⟨5,0,0,⟨#[]⟩,sB bm,2,2⟩:PTm)) hs (fun _ hs=>tN (kX (hs.ret [(5,0,9),(4,0,9)] (.tuple #[aF (⟨8,2,0,⟨#[]⟩,sB za,1,1⟩:PTm),aF (⟨5,0,0,⟨#[]⟩,sB bm,2,2⟩:PTm)]) (⟨za,bm,rfl,hs.f.1⟩))))))
theorem rO  (ok:ByteArray→Prop)(d:Nat)(ih:∀ (p:PTm) (t:Tm) (w:World) (h:Hp),G w h→TmH d h p t→WfT ok d t →  Calls Tryz.prog 18 #[aF p] w (Ret w h (fun v h1=>∃ p2,v=aF p2∧TmH d h1 p2 t)))(op n:Int)(q:Rat)(s:ByteArray)(A:Option Addr)(c:Nat)(ps:List PTm)(ks:List Tm)(hc:ps.length≤c)(hlp:ps.length≤2)(hari:eF op=(ks.length:Nat))(hq0:op≠1→q=0)(hq:LQ 3000 q)(hok:op=2→ok s)(hs0:op≠2→s=⟨#[]⟩)(hn0:op≠8→n=0)(hn1 : -12≤n)(hn2:n≤12)(hW:∀ i,i<ks.length→WfT ok d (ks.getD i ca))(w:World)(h:Hp)(g:G w h)(hK:SlO 9 aK ar h A ps)(hKs:Tms d h ps ks):CR 18 #[pW op n q s A ps.length c] w h (fun v h1=>∃ p2,v=aF p2∧TmH (d+1) h1 p2 (.mk op n q s ks)):=by
 have hs:=(((sS g).aS hK).add (K:=fun h_=>Tms d h_ ps ks) hKs);have hln:=(hs.f.1).len;refine go Tryz.func18 [(0,pW op n q s A ps.length c)] rfl (aE (lA 1 31 (pG op n q s A ps.length c) hs (fun b1 w2 h3 hs=>lA 2 31 ([iV 0,iV 0,qF,uV 0,eS,uV 0,eS,eS,sZ]) hs (fun b4 w5 h6 hs=>af (aa hs [.v 6 (qP b1 8),.o 7 (qS A ps.length c) 1 8 1,.v 8 (nV ps.length)] ?_)))));cases hb7:((ps.length:Int) == (0:Int))
 ·
  have phb7:=ai hb7;refine lB 9 hb7 (ah (cK (aa hs [.v 12 (qP b1 8),.o 13 (qS A ps.length c) 1 8 1,.v 14 (nV ps.length)] (lK 15 31 ps.length 9 112 (.agg #[iV 0,iV 0,qF,uV 0,eS,uV 0,eS,eS,sZ]) aK ar hs (fun b8 w9 zd hs=>?_)))));have hl11:(List.replicate ps.length ar).length=ps.length:=by simp
  refine lL hs [.m 3 15] (af (aa hs [.v 16 (qP b1 8),.o 17 (qS A ps.length c) 2 8 1,.v 18 (nV ps.length),.v 19 (iV 0)] (bn ?_)));replace hs:=hs.add (K:=fun h_=>TmsU d h_ 0 (List.replicate ps.length ar) ks) ((fun i hi=>absurd hi (Nat.not_lt_zero i)));refine bQ _ (CG.loop (fun μ_ Γ w_=>∃ (k:Nat) (L:List PTm) (h_:Hp),μ_=ps.length-k∧Γ=[(1,pB b1),(2,pB b4),(3,qS (sB b8) ps.length ps.length),(17,qS A ps.length c),(18,nV ps.length),(19,nV k)]∧SS w h w_ h_ [⟨b8,31,(L).flatMap aK⟩,⟨b4,31,[iV 0,iV 0,qF,uV 0,eS,uV 0,eS,eS,sZ]⟩,⟨b1,31,pG op n q s A ps.length c⟩] [] [fun h_=>TmsU d h_ k L ks,fun h_=>Tms d h_ ps ks,fun h_=>SlO 9 aK ar h_ A ps]∧k≤ps.length∧L.length=ps.length) _ ⟨0,List.replicate ps.length ar,zd,rfl,rfl,hs.to _ _,Nat.zero_le _,(by simp)⟩ ?_);rintro _ _ _ ⟨k,L,_,hm14,rfl,hs,hk,hLl⟩;refine aE ?_;cases za:(decide ((k:Int)<(ps.length:Int)))
  ·
   have zb:=oF za;refine lB 20 za (af (cw (CG.exit ?_)))
   show CG _ _ _ _ _ _ _ _
   refine aa hs [.m 30 3,.v 31 (qP b1 8)] (lP 2 8 ([qS (sB b8) ps.length ps.length]) hs (fun _ hs=>aG ?_));have hkn:k=ps.length:=by omega
   obtain ⟨_,hs,sg18,lo19,bc20⟩:=hs.pub 0;replace hs:=(hs.to [⟨b4,31,[iV 0,iV 0,qF,uV 0,eS,uV 0,eS,eS,sZ]⟩,⟨b1,31,pG op n q s (sB b8) ps.length ps.length⟩] []).aS (SlO.of_flat (sz:=9) (f:=aK) (d:=ar) (b:=b8) (o:=0) (l:=L) (fun _=>rfl) sg18);replace hs:=hs.to [⟨b4,31,[iV 0,iV 0,qF,uV 0,eS,uV 0,eS,eS,sZ]⟩,⟨b1,31,pG op n q s (sB b8) ps.length ps.length⟩] [];exact lL hs [.o 32 (pW op n q s (sB b8) ps.length ps.length) 1 0 9] (lP 0 0 (pG op n q s (sB b8) ps.length ps.length) hs (fun _ hs=>ac hs [(0,0,9)] (pW op n q s (sB b8) ps.length ps.length) (⟨⟨op,n,q,s,sB b8,ps.length,ps.length⟩,rfl,by have h_:=TmH.mk (op:=op) (n:=n) (q:=q) (s:=s) (c:=L.length) (Tms.of_u oM oM hs.f.2.1) (nR _) (hs.f.1);rw[hLl] at h_;exact h_⟩)))
  have zb:=oT za;refine lB 20 za (af (ce (cK (cQ (kZ (aa hs [.m 21 19] (lX 22 A ps.length c 9 (k:Nat) k ((hs.f.r.1).ok oM) ?_)))))));refine lH 23 (aF (ps.getD k ar)) hs ((hs.f.r.1).el k oM) (lA 5 31 ([iV 0,iV 0,qF,uV 0,eS,uV 0,eS,eS,sZ]) hs (fun ze _ _ hs=>lL hs [.m 4 21] (lP 0 0 (aK (ps.getD k ar)) hs (fun _ hs=>lN (kQ (lL hs [.m 24 3,.m 25 4,.o 26 (aF (ps.getD k ar)) 0 0 9] (lC 27 hs (ih (ps.getD k ar) (ks.getD k ca) _ _ hs.g ((hs.f.2.1).at_ k oM) (hW k oM)) ?_)))))));rintro _ _ zf hs ⟨pk,rfl,hpk⟩;replace hs:=(hs.add (K:=fun h_=>TmH d h_ pk (ks.getD k ca)) hpk);refine lX 28 (sB b8) ps.length ps.length 9 (k:Nat) k rfl (lW 1 L aK 9 k pk hs oM (fun _ hs=>?_));have zc:((L).set k pk).length=ps.length:=by rw[List.length_set];exact hLl
  replace hs:=hs.to [⟨ze,31,aK (ps.getD k ar)⟩,⟨b8,31,((L).set k pk).flatMap aK⟩,⟨b4,31,[iV 0,iV 0,qF,uV 0,eS,uV 0,eS,eS,sZ]⟩,⟨b1,31,pG op n q s A ps.length c⟩] [];refine lN (kQ (bH 29 ((k:Nat)+1) (k+1) ?_));refine lL hs [.m 19 29] (lD ?_);intro a_ ka;replace hs:=(hs.tl.tl.add (K:=fun h_=>TmsU d h_ (k+1) ((L).set k pk) ks) ((hs.f.2.1).set oM hs.f.1));replace hs:=hs.drop 1 0;refine ⟨_,_,?_,⟨k+1,(L).set k pk,zf,rfl,rfl,hs.to _ _,oM,zc⟩,ka.to _ kR⟩
  omega
 have phb7:=eq_of_beq hb7;exact lB 9 hb7 (ao (aa hs [.v 10 (qP b1 8)] (lP 1 8 ([sZ]) hs (fun _ hs=>aG (lL hs [.o 11 (.agg #[iV op,iV n,.bool (aD q.num),uV (lo (ab q.num)),.string (hi (ab q.num)),uV (lo (qd q)),.string (hi (qd q)),.string s,sZ]) 1 0 9] (lP 0 0 ([iV op,iV n,.bool (aD q.num),uV (lo (ab q.num)),.string (hi (ab q.num)),uV (lo (qd q)),.string (hi (qd q)),.string s,sZ]) hs (fun _ hs=>ac hs [(0,0,9)] (.agg #[iV op,iV n,.bool (aD q.num),uV (lo (ab q.num)),.string (hi (ab q.num)),uV (lo (qd q)),.string (hi (qd q)),.string s,sZ]) (⟨⟨op,n,q,s,none,0,0⟩,rfl,by have h_:ks=[]:=List.length_eq_zero_iff.1 oM;subst h_;exact TmH.mk (ps:=[]) Tms.nil (nR _) SlO.nil⟩))))))))
theorem oI (ok:ByteArray→Prop):∀ (d:Nat) (p:PTm) (t:Tm) (w:World) (h:Hp),G w h→TmH d h p t→WfT ok d t →  Calls Tryz.prog 18 #[aF p] w (Ret w h (fun v h1=>∃ p2,v=aF p2∧TmH d h1 p2 t))
  | 0,_,_,_,_,_,x,_=>x.elim
  | d + 1,p,t,w,h,g,x,wf=>by
    obtain ⟨op,n,q,s,A,c,ps,ks,rfl,rfl,hc,hK,hKs⟩:=x.open;obtain ⟨w1,w2,w3,w4,w5,w6,w7,w8,w9⟩:=wf
    have hl2:ps.length≤2:=by
      have e1:eF op=ks.length:=w1;have:=aT op;have:=hKs.len
      omega
    exact rO ok d (fun p t w h=>oI ok d p t w h) op n q s A c ps ks hc hl2 w1 w2 w3 w4 w5 w6 w7 w8 w9 w h g hK hKs
theorem qW (d:Nat)(hd:d≤24)(p:PTm)(t:Tm)(hW:WfT (fun s=>bg s=true) d t)(hw:ba d t≤1000)(hTx:mX d t)(hl:(e7 d t 0).length≤100000000000)(w:World)(h:Hp)(g:G w h)(hT:TmH d h p t):CV 8 #[aF p] w h (.tuple #[.string ⟨(e7 d t 0).toArray⟩,iV 0]):=by
 have hs:=((sS g).add (K:=fun h_=>TmH d h_ p t) hT);refine go Tryz.func8 [(0,aF p)] rfl (aE (lA 1 31 (aK p) hs (fun b1 w2 h3 hs=>lL hs [.v 2 (eS),.v 3 (iV 0)] (af (aa hs [.o 5 (aF p) 0 0 9] (ag 6 hs ((by have q_:=ox bg i8 uj (fun s h_=>ir h_) pY d p t hd _ _ hs.g hs.f.1 hW;rw[if_neg oM] at q_;exact q_)) (fun w4 h5 hs=>lL hs [.v 7 qF] (ah (cK (aE ?_))))))))));have hsB:=hs;refine EM 4 63 [.pointer none,sZ] hs (fun w6 hx hxs hbk=>?_);obtain ⟨h7,hs,hj⟩:=hsB.liftJ hx
 have hj8:J8 5 w4.heap.size w4.heap.size h7:=fun c o hc e=>by
  rcases Nat.lt_or_ge c w6.heap.size with h1|h1
  ·rw[hj c hc h1] at e;injection e with e;exact .inl e.symm
  ·rw[Array.getElem?_eq_none (by have:=hs.g.size;omega)] at e;cases e
 have hib:Lib.IsBuilderF 63 5 w4.heap.size w4.heap.size (Lib.byteCells []) w6:=.inl ⟨nR _,_,hbk,World.ownsRowF_nil _ _ _ _,by simp[Value.ownBlock]⟩;refine aG (lL hs [.o 8 (aF p) 0 0 9] (DE 9 hsB hx ((qt d w4.heap.size w4.heap.size [] p t 0 _ _ hs.g hxs hj8 hib hs.f.1 hTx (by simpa using hl)).mono fun _ _ h_=>⟨h_.1,h_.2.1,h_.2.2.1⟩) (fun w8 h9 hs hx_ hq_=>?_)))
 clear hx
 have hx:=hx_;clear hx_;have hib2:Lib.IsBuilderF 63 5 w4.heap.size w4.heap.size (Lib.byteCells (e7 d t 0)) _:=hq_;refine aG (DE 10 hsB hx ((Any.Builder_String_any_f Tryz.lays169 Tryz.Builder_Extra_169 w4.heap.size w4.heap.size (e7 d t 0) _ hib2 hx.size).mono fun _ _ h_=>⟨h_.1,True.intro,h_.2.2⟩) (fun _ _ hs hx_ hq_=>?_))
 clear hx
 have hx:=hx_;clear hx_;exact lL hs [.m 2 10,.v 3 (iV 0)] (ac hs [] (.tuple #[.string (⟨(e7 d t 0).toArray⟩),iV 0]) rfl)
section
variable {ok:ByteArray→Prop} {d:Nat}
theorem qk {q:Rat}(h:LQ 1 q):WfT ok (d+1) (bW q):=⟨rfl,fun h=>absurd rfl h,h.mono kD,fun h=>absurd (show (1:Int)=2 from h) kD,fun _=>rfl,fun _=>rfl,by show (-12:Int)≤0;decide,by show (0:Int)≤12;decide,fun i hi=>absurd hi (Nat.not_lt_zero i)⟩
theorem lb {s:ByteArray}(h:ok s):WfT ok (d+1) (bV s):=⟨rfl,fun _=>rfl,kh kD,fun _=>h,fun h=>absurd rfl h,fun _=>rfl,by show (-12:Int)≤0;decide,by show (0:Int)≤12;decide,fun i hi=>absurd hi (Nat.not_lt_zero i)⟩
theorem p9 {n:Int}{t:Tm}(x:WfT ok d t)(h1 : -12≤n)(h2:n≤12):WfT ok (d+1) (.mk 8 n 0 ⟨#[]⟩ [t]):=⟨rfl,fun _=>rfl,kh kD,fun h=>absurd (show (8:Int)=2 from h) kD,fun _=>rfl,fun h=>absurd rfl h,h1,h2,fun i hi=>by
 have:i=0:=by have:i<1:=hi;omega
 subst this;exact x⟩
theorem nQ {op:Int}{t u:Tm}(x:WfT ok d t)(y:WfT ok d u)(ha:eF op=2)(h2:op≠2):WfT ok (d+1) (bB op t u):=⟨ha,fun _=>rfl,kh kD,fun h=>absurd (show op=2 from h) h2,fun _=>rfl,fun _=>rfl,by show (-12:Int)≤0;decide,by show (0:Int)≤12;decide,fun i hi=>by
 have:i=0∨i=1:=by have:i<2:=hi;omega
 rcases this with rfl|rfl
 ·exact x
 ·exact y⟩
end
theorem xl {s:ByteArray}(h:bg s=true):WfT (fun s=>bg s=true) 2 (.mk 8 2 0 ⟨#[]⟩ [bV s]):=p9 (lb h) kD kD
theorem qQ {s:ByteArray}(h:bg s=true):WfT (fun s=>bg s=true) 2 (bB 5 (bW ((2:Int):Rat)) (bV s)):=nQ (qk (LQ.int kD kD)) (lb h) kD kD
theorem wF {s:ByteArray}:ba 2 (.mk 8 2 0 ⟨#[]⟩ [bV s])=2:=rfl
theorem xh {s:ByteArray}:ba 2 (bB 5 (bW ((2:Int):Rat)) (bV s))=2:=rfl
theorem Ec {h:Hp}{b:Nat}{s:ByteArray}{Ax:Option Addr}{cx:Nat}(hA:SlO 9 aK ar h (some ⟨b,0,none⟩) [(⟨1,0,((2:Int):Rat),⟨#[]⟩,none,0,0⟩:PTm),(⟨2,0,0,s,Ax,0,cx⟩:PTm)]):TmH 2 h (⟨5,0,0,⟨#[]⟩,some ⟨b,0,none⟩,2,2⟩:PTm) (bB 5 (bW ((2:Int):Rat)) (bV s)) :=
 TmH.mk (ps:=[(⟨1,0,((2:Int):Rat),⟨#[]⟩,none,0,0⟩:PTm),(⟨2,0,0,s,Ax,0,cx⟩:PTm)]) (ks:=[_,_]) ⟨rfl,fun i hi=>by
  have:i=0∨i=1:=by have:i<2:=hi;omega
  rcases this with rfl|rfl
  ·exact TmH.mk (ps:=[]) (ks:=[]) Tms.nil (Nat.le_refl _) SlO.nil
  ·exact ⟨rfl,rfl,rfl,rfl,rfl,Nat.zero_le _,[],rfl,⟨fun hp=>absurd hp (Nat.lt_irrefl 0),fun i hi=>absurd hi (Nat.not_lt_zero i)⟩,fun i hi=>absurd hi (Nat.not_lt_zero i)⟩⟩ (Nat.le_refl _) hA
theorem rg {h:Hp}{p:PTm}{s:ByteArray}(x:TmH 2 h p (.mk 8 2 0 ⟨#[]⟩ [bV s])):∃ (A:Option Addr) (c:Nat) (Ax:Option Addr) (cx:Nat),p=⟨8,2,0,⟨#[]⟩,A,1,c⟩∧SlO 9 aK ar h A [(⟨2,0,0,s,Ax,0,cx⟩:PTm)]:=by
  obtain ⟨h1,h2,h3,h4,h5,h6,ps,h7,h8,h9⟩:=x;obtain ⟨op,n,q,s',A,m,c⟩:=p;have k:=h9 0 (by show 0<1;decide)
  match ps,h7,h8,k with
  | [px],_,h8,k =>
    obtain ⟨k1,k2,k3,k4,k5,_⟩:=k;obtain ⟨op',n',q',s2,A',m',c'⟩:=px;refine ⟨A,c,A',c',?_,?_⟩
    · have e1:op=8:=h1
      have e2:n=2:=h2;have e3:q=0:=h3;have e4:s'=⟨#[]⟩:=h4;have e5:m=1:=h5;rw[e1,e2,e3,e4,e5]
    · have e1:op'=2:=k1
      have e2:n'=0:=k2;have e3:q'=0:=k3;have e4:s2=s:=k4;have e5:m'=0:=k5;rw[e1,e2,e3,e4,e5] at h8;exact h8
theorem xK (s:ByteArray)(hs0:bg s=true)(Ax:Option Addr)(cx:Nat)(A:Option Addr)(c:Nat)(w:World)(h:Hp)(g:G w h)(hA:SlO 9 aK ar h A ([(⟨2,0,0,s,Ax,0,cx⟩:PTm)]:List PTm))(hT:TmH 2 h ⟨8,2,0,⟨#[]⟩,A,1,c⟩ (.mk 8 2 0 ⟨#[]⟩ [bV s])):CR 22 #[.agg #[iV 8,iV 2,.bool false,uV 0,eS,uV 0,eS,eS,.slice A 1 c],.string s] w h (fun v h1=>∃ p2,v=.tuple #[aF p2,iV 0]∧TmH 2 h1 p2 (bB 5 (bW ((2:Int):Rat)) (bV s))):=by
 have hs:=(((sS g).aS hA).add (K:=fun h_=>TmH 2 h_ ⟨8,2,0,⟨#[]⟩,A,1,c⟩ (.mk 8 2 0 ⟨#[]⟩ [bV s])) hT);refine go Tryz.func22 [(0,.agg #[iV 8,iV 2,qF,uV 0,eS,uV 0,eS,eS,qS A 1 c]),(1,.string s)] rfl (aE (lA 2 31 ([iV 8,iV 2,qF,uV 0,eS,uV 0,eS,eS,qS A 1 c]) hs (fun b1 w2 h3 hs=>lA 4 31 ([iV 0,iV 0,qF,uV 0,eS,uV 0,eS,eS,sZ]) hs (fun b4 w5 h6 hs=>lL hs [.v 5 (iV 0)] (af (aa hs [.o 9 (.agg #[iV 8,iV 2,qF,uV 0,eS,uV 0,eS,eS,qS A 1 c]) 1 0 9] (ag 10 hs ((by have q_:=ox bg i8 uj (fun s h_=>ir h_) pY 2 ⟨8,2,0,⟨#[]⟩,A,1,c⟩ (.mk 8 2 0 ⟨#[]⟩ [bV s]) oM _ _ hs.g hs.f.1 (xl hs0);rw[if_neg (by rw[wF];omega)] at q_;exact q_)) (fun w7 h8 hs=>lL hs [.v 11 qF] (ah (cK (aa hs [.o 14 (.agg #[iV 8,iV 2,qF,uV 0,eS,uV 0,eS,eS,qS A 1 c]) 1 0 9,.m 15 1] (lC 16 hs (vd s Ax cx A c _ _ hs.g hs.f.2.1) ?_))))))))))));rintro _ w9 _ hs ⟨b0,bd,rfl,hAd⟩;replace hs:=hs.aS hAd;refine lL hs [.m 13 16,.v 17 (aF (⟨8,2,0,⟨#[]⟩,sB b0,1,1⟩:PTm)),.v 18 (aF (⟨5,0,0,⟨#[]⟩,sB bd,2,2⟩:PTm))] (lA 6 31 ([iV 0,iV 0,qF,uV 0,eS,uV 0,eS,eS,sZ]) hs (fun b11 _ _ hs=>lA 7 31 ([iV 0,iV 0,qF,uV 0,eS,uV 0,eS,eS,sZ]) hs (fun b14 _ _ hs=>lP 1 0 (aK (⟨8,2,0,⟨#[]⟩,sB b0,1,1⟩:PTm)) hs (fun _ hs=>lP 0 0 (aK (⟨5,0,0,⟨#[]⟩,sB bd,2,2⟩:PTm)) hs (fun _ hs=>af ?_)))));replace hs:=hs.add (K:=fun h_=>TmH 2 h_ (⟨5,0,0,⟨#[]⟩,sB bd,2,2⟩:PTm) (bB 5 (bW ((2:Int):Rat)) (bV s))) (Ec hs.f.1);refine aa hs [.o 19 (aF (⟨5,0,0,⟨#[]⟩,sB bd,2,2⟩:PTm)) 0 0 9] (ag 20 hs ((by have q_:=ox bg i8 uj (fun s h_=>ir h_) pY 2 (⟨5,0,0,⟨#[]⟩,sB bd,2,2⟩:PTm) (bB 5 (bW ((2:Int):Rat)) (bV s)) oM _ _ hs.g hs.f.1 (qQ hs0);rw[if_neg (by rw[xh];omega)] at q_;exact q_)) (fun _ _ hs=>lL hs [.m 8 20] (aG (lL hs [.m 21 8,.v 22 qF] (ah (cK (aa hs [.o 25 (aF (⟨5,0,0,⟨#[]⟩,sB bd,2,2⟩:PTm)) 0 0 9] (lC 26 hs (oI (fun s=>bg s=true) 2 (⟨5,0,0,⟨#[]⟩,sB bd,2,2⟩:PTm) (bB 5 (bW ((2:Int):Rat)) (bV s)) _ _ hs.g hs.f.1 (qQ hs0)) ?_))))))));rintro _ _ _ hs ⟨p2,rfl,hP2⟩;replace hs:=(hs.add (K:=fun h_=>TmH 2 h_ p2 (bB 5 (bW ((2:Int):Rat)) (bV s))) hP2);exact lP 2 0 (aK p2) hs (fun _ hs=>lL hs [.v 5 (iV 0)] (ac hs [(2,0,9)] (.tuple #[aF p2,iV 0]) (⟨p2,rfl,hs.f.1⟩)))
theorem AB (s:ByteArray)(hs0:bg s=true)(p:PTm)(w:World)(h:Hp)(g:G w h)(hT:TmH 2 h p (.mk 8 2 0 ⟨#[]⟩ [bV s])):CR 22 #[aF p,.string s] w h (fun v h1=>∃ p2,v=.tuple #[aF p2,iV 0]∧TmH 2 h1 p2 (bB 5 (bW ((2:Int):Rat)) (bV s))):=by
 obtain ⟨A,c,Ax,cx,rfl,hA⟩:=rg hT;exact xK s hs0 Ax cx A c w h g hA hT
def iG:Tm:=(bB 5 (bV ⟨#[97]⟩) (.mk 8 2 0 ⟨#[]⟩ [bB 3 (bV ⟨#[98]⟩) (bW (((1:Nat):Rat)))]))
theorem C6:cl Bl (fun _=>none) ⟨#[97,42,40,98,43,49,41,94,50]⟩ 40 .sum 0=some (.ok iG 9):=by kernel_rfl
theorem CU:cl Bl (fun _=>none) ⟨#[120,94,50]⟩ 40 .sum 0=some (.ok (.mk 8 2 0 ⟨#[]⟩ [bV ⟨#[120]⟩]) 3):=by kernel_rfl
theorem xT:bg ⟨#[120]⟩=true:=by decide +kernel
theorem wZ:WfT (fun s=>bg s=true) 4 iG:=nQ (lb (by decide +kernel)) (p9 (nQ (lb (by decide +kernel)) (qk (LQ.int (z:=1) kD kD)) kD kD) kD kD) kD kD
theorem xd:ba 4 iG=5:=rfl
theorem xm:e7 4 iG 0=[97,32,42,32,40,98,32,43,32,49,41,94,50]:=by decide +kernel
theorem wT:e7 2 (bB 5 (bW ((2:Int):Rat)) (bV ⟨#[120]⟩)) 0=[50,32,42,32,120]:=by decide +kernel
section
variable {d:Nat}
theorem mZ {k:Nat}(h:k<100):mX (d+1) (bW ((k:Nat):Rat)):=⟨rfl,⟨by decide,by decide⟩,fun _=>⟨k,h,rfl⟩,⟨by decide,by decide⟩,fun i hi=>absurd hi (Nat.not_lt_zero i)⟩
theorem kp {s:ByteArray}:mX (d+1) (bV s):=⟨rfl,⟨by decide,by decide⟩,fun h=>absurd h kD,⟨by decide,by decide⟩,fun i hi=>absurd hi (Nat.not_lt_zero i)⟩
theorem xI {n:Int}{t:Tm}(h:0≤n∧n<100)(x:mX d t):mX (d+1) (.mk 8 n 0 ⟨#[]⟩ [t]):=⟨rfl,⟨by decide,by decide⟩,fun h=>absurd h kD,h,fun i hi=>by
 have:i=0:=by have:i<1:=hi;omega
 subst this;exact x⟩
theorem kE {op:Int}{t u:Tm}(ho:1<op∧op≤8)(ha:eF op=2)(x:mX d t)(y:mX d u):mX (d+1) (bB op t u):=⟨ha,⟨by omega,ho.2⟩,fun h=>by omega,⟨by decide,by decide⟩,fun i hi=>by
 have:i=0∨i=1:=by have:i<2:=hi;omega
 rcases this with rfl|rfl
 ·exact x
 ·exact y⟩
end
theorem CE:mX 4 iG:=kE kD kD kp (xI kD (kE kD kD kp (mZ kD)))
theorem Bz:mX 2 (bB 5 (bW ((2:Int):Rat)) (bV ⟨#[120]⟩)):=kE kD kD (mZ (k:=2) kD) kp
theorem tm  (w:World)(h:Hp)(g:G w h)(tb:Tab h):CV 9 #[] w h (.bool true):=by
 have hs:=((sS g).aB tb);refine go Tryz.func9 [] rfl (aa hs [.v 0 qF] (aG (lC 12 hs (qE ⟨#[97,42,40,98,43,49,41,94,50]⟩ kD 40 iG 9 C6 kD 4 kD wZ (by rw[xd];decide) _ _ hs.g hs.f.1) ?_)));rintro _ w1 h2 hs ⟨pk,rfl,hP1⟩;replace hs:=(hs.add (K:=fun h_=>TmH 4 h_ pk iG) hP1);refine lL hs [.m 11 12,.v 13 (aF pk),.v 14 (.agg #[iV 0,iV 0,iV 0])] (lA 1 31 ([iV 0,iV 0,qF,uV 0,eS,uV 0,eS,eS,sZ]) hs (fun b3 w4 h5 hs=>lA 2 34 ([iV 0,iV 0,iV 0]) hs (fun b6 w7 h8 hs=>lP 1 0 (aK pk) hs (fun w9 hs=>lP 0 0 ([iV 0,iV 0,iV 0]) hs (fun _ hs=>aG (lL hs [.o 16 (aF pk) 1 0 9] (ag 17 hs ((by have q_:=qW 4 kD pk iG wZ (by rw[xd];decide) CE (by rw[xm];decide) _ _ hs.g (hs.f.1);rw[xm] at q_;exact q_)) (fun _ _ hs=>lL hs [.m 15 17,.v 18 (.string (⟨#[97,32,42,32,40,98,32,43,32,49,41,94,50]⟩)),.v 19 (iV 0),.m 3 18,.m 4 19] (aG (lC 21 hs (qE ⟨#[120,94,50]⟩ kD 40 (.mk 8 2 0 ⟨#[]⟩ [bV ⟨#[120]⟩]) 3 CU kD 2 kD (xl xT) (by rw[wF];decide) _ _ hs.g hs.f.2.1) ?_))))))))));rintro _ _ _ hs ⟨px,rfl,hP2⟩;replace hs:=(hs.add (K:=fun h_=>TmH 2 h_ px (.mk 8 2 0 ⟨#[]⟩ [bV ⟨#[120]⟩])) hP2);refine lL hs [.m 20 21,.v 22 (aF px),.v 23 (.agg #[iV 0,iV 0,iV 0])] (lA 5 31 ([iV 0,iV 0,qF,uV 0,eS,uV 0,eS,eS,sZ]) hs (fun b15 _ _ hs=>lA 6 34 ([iV 0,iV 0,iV 0]) hs (fun b18 _ _ hs=>lP 1 0 (aK px) hs (fun _ hs=>lP 0 0 ([iV 0,iV 0,iV 0]) hs (fun _ hs=>aG (lL hs [.o 25 (aF px) 1 0 9] (lC 26 hs (AB ⟨#[120]⟩ xT px _ _ hs.g hs.f.1) ?_)))))));rintro _ _ _ hs ⟨pr,rfl,hP3⟩;replace hs:=(hs.add (K:=fun h_=>TmH 2 h_ pr (bB 5 (bW ((2:Int):Rat)) (bV ⟨#[120]⟩))) hP3);refine lL hs [.m 24 26,.v 27 (aF pr),.v 28 (iV 0)] (lA 7 31 ([iV 0,iV 0,qF,uV 0,eS,uV 0,eS,eS,sZ]) hs (fun b25 _ _ hs=>lP 0 0 (aK pr) hs (fun _ hs=>lL hs [.m 8 28] (aG (lL hs [.o 30 (aF pr) 0 0 9] (ag 31 hs ((by have q_:=qW 2 kD pr (bB 5 (bW ((2:Int):Rat)) (bV ⟨#[120]⟩)) (qQ xT) (by rw[xh];decide) Bz (by rw[wT];decide) _ _ hs.g (hs.f.1);rw[wT] at q_;exact q_)) (fun _ _ hs=>lL hs [.m 29 31,.v 32 (.string (⟨#[50,32,42,32,120]⟩)),.v 33 (iV 0),.m 9 32,.m 10 33] (aG (lL hs [.v 34 (pB b6),.o 35 (iV 0) 3 0 1,.v 36 qT,.m 37 36,.m 38 4,.v 39 qT,.v 40 qT,.m 41 40,.m 42 3,.v 43 qT,.v 44 qT,.m 45 44,.m 46 8,.v 47 qT,.v 48 qT,.m 49 48,.m 50 10,.v 51 qT,.v 52 qT,.m 53 52,.m 54 9,.v 55 qT,.v 56 qT,.m 0 56] (lN (bQ [(0,qT)] ?_)))))))))));exact kX (hs.ret [] qT rfl)
structure PLt where
  s:ByteArray
  q:Rat
def bN:PLt:=⟨⟨#[]⟩,0⟩
def pA (p:PLt):List Value:=[.string p.s,.bool (aD p.q.num),.int .u64 (lo (ab p.q.num)),.string (hi (ab p.q.num)),.int .u64 (lo (qd p.q)),.string (hi (qd p.q))]
structure RLt where
  s:ByteArray
  neg:Bool
  zA:Option Addr
  zn:Nat
  zc:Nat
  dA:Option Addr
  dn:Nat
  dc:Nat
def RLt.t (r:RLt):RT:=(r.neg,.slice r.zA r.zn r.zc,.slice r.dA r.dn r.dc)
def B7:RLt:=⟨⟨#[]⟩,false,none,0,0,none,0,0⟩
structure RLs (h:Hp) (rs:List RLt) (ps:List PLt):Prop where
  len:rs.length=ps.length
  at_:∀ i,i<ps.length→(rs.getD i B7).s=(ps.getD i bN).s∧RZ h (rs.getD i B7).t (ps.getD i bN).q
def rQ:List PLt→ByteArray→Option Rat
  | [],_=>none
  | x::l,s=>if x.s=s then some x.q else rQ l s
theorem sK {s:ByteArray}:∀ {l:List PLt} {k:Nat},(∀ i,i<k→(l.getD i bN).s≠s)→k<l.length→(l.getD k bN).s=s→rQ l s=some (l.getD k bN).q
  | x::l,0,_,_,h=>if_pos h
  | x::l,k+1,h,hk,e=>by
    show (if x.s=s then _ else _)=_
    rw[if_neg (show ¬x.s=s from h 0 (Nat.succ_pos _))];exact sK (l:=l) (k:=k) (fun i hi=>h (i+1) oM) (by simpa using hk) e
theorem sc {s:ByteArray}:∀ {l:List PLt},(∀ i,i<l.length→(l.getD i bN).s≠s)→rQ l s=none
  | [],_=>rfl
  | x::l,h=>by
    show (if x.s=s then _ else _)=_
    rw[if_neg (show ¬x.s=s from h 0 (Nat.succ_pos _))];exact sc (fun i hi=>h (i+1) (by simpa using hi))
theorem sI {s:ByteArray}{q:Rat}{B:Nat}:∀ {l:List PLt},(∀ i,LQ B (l.getD i bN).q)→rQ l s=some q→LQ B q
  | x::l,h,e=>by
    unfold rQ at e
    split at e
    · injection e with e;rw[←e];exact h 0
    · exact sI (fun i=>h (i+1)) e
def lZ (op n:Int)(q:Rat)(e1 e2:Int)(a b:Rat):Int × Rat :=
  if e1≠0 then (e1,0) else if e2≠0 then (e2,0) else if nP op n a b then (0,BT op n q a b) else (6,0)
def ay (L:List PLt):Nat→Tm→Int × Rat
  | 0,_=>(0,0)
  | d + 1,t =>
    if t.op=2 then (match rQ L t.s with|some q=>(0,q)|none=>(11,0))
    else
      let x:=if 0<t.ks.length then ay L d (t.ks.getD 0 ca) else (0,0)
      let y:=if 1<t.ks.length then ay L d (t.ks.getD 1 ca) else (0,0)
      lZ t.op t.n t.q x.1 y.1 x.2 y.2
theorem sb {L:List PLt}{d:Nat}{op n:Int}{q:Rat}{s:ByteArray}{ks:List Tm}{v:Rat}(h:op=2)(e:rQ L s=some v):ay L (d+1) (.mk op n q s ks)=(0,v):=by
 show (if op=2 then (match rQ L s with|some q=>((0:Int),q)|none=>(11,0)) else _)=_;rw[if_pos h,e]
theorem rt {L:List PLt}{d:Nat}{op n:Int}{q:Rat}{s:ByteArray}{ks:List Tm}(h:op=2)(e:rQ L s=none):ay L (d+1) (.mk op n q s ks)=(11,0):=by
 show (if op=2 then (match rQ L s with|some q=>((0:Int),q)|none=>(11,0)) else _)=_;rw[if_pos h,e]
theorem n3 {L:List PLt}{d:Nat}{op n:Int}{q:Rat}{s:ByteArray}(h:op≠2):ay L (d+1) (.mk op n q s [])=lZ op n q 0 0 0 0:=if_neg h
theorem j3 {L:List PLt}{d:Nat}{op n:Int}{q:Rat}{s:ByteArray}{t1:Tm}(h:op≠2):ay L (d+1) (.mk op n q s [t1])=lZ op n q (ay L d t1).1 0 (ay L d t1).2 0:=if_neg h
theorem ko {L:List PLt}{d:Nat}{op n:Int}{q:Rat}{s:ByteArray}{t1 t2:Tm}(h:op≠2):ay L (d+1) (.mk op n q s [t1,t2])=lZ op n q (ay L d t1).1 (ay L d t2).1 (ay L d t1).2 (ay L d t2).2:=if_neg h
section
variable {op n:Int} {q a b:Rat} {e1 e2:Int}
theorem wD (h:e1≠0):lZ op n q e1 e2 a b=(e1,0):=if_pos h
theorem Ci (h1:e1=0)(h:e2≠0):lZ op n q e1 e2 a b=(e2,0):=by unfold lZ;rw[if_neg oM,if_pos h]
theorem jK (h1:e1=0)(h2:e2=0)(h:nP op n a b):lZ op n q e1 e2 a b=(0,jU op n q a b):=by unfold lZ jU;rw[if_neg oM,if_neg oM,if_pos h,if_pos h]
theorem rx (h1:e1=0)(h2:e2=0)(h:¬nP op n a b):lZ op n q e1 e2 a b=(6,0):=by unfold lZ;rw[if_neg oM,if_neg oM,if_neg h]
end
theorem se {a:Rat}:it a 1=a:=by
 have h1:((1:Int):Rat)=1:=rfl
 show ((1:Int):Rat)*a=a
 rw[h1];grind
theorem wu {a:Rat}{K:Nat}{n:Int}(hK:1≤K)(h:LQ K a):LQ (cd n*(K+2)-2) (it a n):=by
  unfold cd
  by_cases h1:n.natAbs≤1
  · rw[if_pos h1]
    have hn:n=0∨n=1∨n = -1:=by omega
    rcases hn with rfl|rfl|rfl
    · exact (LQ.lit (z:=1) kD).mono oM
    · rw[se];exact h.mono oM
    · have e:it a (-1)=a⁻¹:=by
        have h1:((1:Int):Rat)=1:=rfl
        show ((1:Int):Rat)/(((1:Int):Rat)*a)=a⁻¹
        rw[h1];rw[Rat.one_mul,Rat.div_def,Rat.one_mul]
      rw[e];exact h.inv.mono oM
  · rw[if_neg h1]
    have h2:=hC h n.natAbs;have h3:n.natAbs*(K+2)=n.natAbs*K+n.natAbs*2:=Nat.mul_add _ _ _
    unfold it
    split
    · exact h2.mono oM
    · exact ((LQ.lit (z:=1) kD).div h2).mono oM
theorem k6 {op n:Int}{q a b:Rat}{e1 e2:Int}{wa wb c:Nat}(hc:3≤c)(hA:1≤wa)(ha:LQ (c*wa-2) a)(hb:1≤wb→LQ (c*wb-2) b)(h2:eF op=2→1≤wb)(hq:LQ 1 q)(ho:3≤op∧op≤13) :
    LQ (c*(fj op n*(wa+wb))-2) (lZ op n q e1 e2 a b).2:=by
  obtain ⟨M,hM⟩:∃ M,M=fj op n*(wa+wb):=⟨_,rfl⟩;have w1:=cg op n;have hw:wa+wb≤fj op n*(wa+wb):=Nat.le_mul_of_pos_left _ w1;rw[←hM] at hw ⊢
  have h0:LQ 1 (0:Rat):=LQ.lit (z:=0) kD;have hm:=hA;have m1:c*(wa+wb)≤c*M:=Nat.mul_le_mul_left _ hw;have m2:c*(wa+wb)=c*wa+c*wb:=Nat.mul_add _ _ _;have m3:c≤c*wa:=Nat.le_mul_of_pos_right _ hA;have hz:LQ (c*M-2) (0:Rat):=h0.mono oM
  suffices h:LQ (c*M-2) (BT op n q a b) by
    unfold lZ
    split
    · exact hz
    · split
      · exact hz
      · split
        · exact h
        · exact hz
  unfold BT
  split
  · exact hq.mono oM
  split
  · rename_i h;have w2:=h2 (by rw[h];rfl);have m5:c≤c*wb:=Nat.le_mul_of_pos_right _ w2;exact (ha.add (hb w2)).mono oM
  split
  · rename_i h;have w2:=h2 (by rw[h];rfl);have m5:c≤c*wb:=Nat.le_mul_of_pos_right _ w2;exact (ha.sub (hb w2)).mono oM
  split
  · rename_i h;have w2:=h2 (by rw[h];rfl);have m5:c≤c*wb:=Nat.le_mul_of_pos_right _ w2;exact (ha.mul (hb w2)).mono oM
  split
  · rename_i h;have w2:=h2 (by rw[h];rfl);have m5:c≤c*wb:=Nat.le_mul_of_pos_right _ w2;exact (ha.div (hb w2)).mono oM
  split
  · exact ha.neg.mono oM
  split
  · rename_i h8
    have e:fj op n=cd n:=by unfold fj;rw[if_neg oM,if_pos h8]
    have h2:=wu (n:=n) oM ha
    have e2:cd n*(c*wa-2+2)≤c*(cd n*(wa+wb)):=by
      rw[show c*wa-2+2=c*wa by omega,Nat.mul_left_comm];exact Nat.mul_le_mul_left _ (Nat.mul_le_mul_left _ (Nat.le_add_right _ _))
    rw[e] at hM
    rw[←hM] at e2
    exact h2.mono (Nat.sub_le_sub_right e2 2)
  split
  · exact ha.abs.mono oM
  split
  · exact (LQ.maxR ha (h0.mono (by omega:1≤c*wa-2))).mono oM
  split
  · rename_i h11
    have e:fj op n=2:=by unfold fj;rw[if_pos h11]
    rw[e] at hM
    have m4:c*M=2*(c*(wa+wb)):=by rw[hM,Nat.mul_left_comm]
    exact (ha.div (ha.abs.add (LQ.lit (z:=1) kD))).mono oM
  split
  · rename_i h;have w2:=h2 (by rw[h];rfl);have m5:c≤c*wb:=Nat.le_mul_of_pos_right _ w2
    unfold maxR;split
    · exact (hb w2).mono oM
    · exact ha.mono oM
  · have w2 := h2 (by have:op=13:=by omega
                      rw[this];rfl)
    have m5:c≤c*wb:=Nat.le_mul_of_pos_right _ w2
    unfold m9;split
    · exact (hb w2).mono oM
    · exact ha.mono oM
theorem jt {ks:List Tm}{op:Int}(h:eF op=ks.length):ks=[]∨(∃ t,ks=[t])∨∃ t u,ks=[t,u]:=by
 have:=aT op
 rcases ks with _|⟨t,_|⟨u,_|⟨v,l⟩⟩⟩
 ·exact .inl rfl
 ·exact .inr (.inl ⟨t,rfl⟩)
 ·exact .inr (.inr ⟨t,u,rfl⟩)
 ·simp only[List.length_cons] at h;omega
theorem kG {ok:ByteArray→Prop}{L:List PLt}{c:Nat}(hc3:3002≤c)(hL:∀ i,LQ (c-2) (L.getD i bN).q):∀ {d:Nat} {t:Tm},WfT ok d t→1≤ba d t∧LQ (c*ba d t-2) (ay L d t).2
  | d + 1,.mk op n q s ks,⟨h1,h2,h3,h4,h5,h6,h7,h8,h9⟩=>by
    have h0:LQ 1 (0:Rat):=LQ.lit (z:=0) kD;have hc:=aT op;replace h1:eF op=(ks.length:Nat):=h1;replace h3:LQ 3000 q:=h3;have hq1:op≠1→LQ 1 q:=fun h=>(show q=0 from h2 h)▸h0
    rcases jt h1 with rfl|⟨t,rfl⟩|⟨t,u,rfl⟩
    · have e:ba (d+1) (.mk op n q s [])=1:=kl rfl
      rw[e,Nat.mul_one];refine ⟨Nat.le_refl _,?_⟩
      by_cases o2:op=2
      · cases e2:rQ L s with
        | none=>rw[rt o2 e2];exact h0.mono oM
        | some v=>rw[sb o2 e2];exact (sI hL e2).mono oM
      · have o1:op=1:=by simp only[List.length_nil] at h1;omega
        rw[n3 o2];unfold lZ;rw[if_neg kD,if_neg kD]
        split
        · show LQ _ (BT op n q 0 0);rw[o1];exact h3.mono oM
        · exact h0.mono oM
    · have i1:=kG hc3 hL (h9 0 (Nat.succ_pos _))
      obtain ⟨i1,j1⟩:=i1;replace i1:1≤ba d t:=i1;replace j1:LQ (c*ba d t-2) (ay L d t).2:=j1
      simp only[List.length_cons,List.length_nil] at h1
      have e:ba (d+1) (.mk op n q s [t])=fj op n*(ba d t+0):=by rw[iM (show [t].length≠0 from Nat.succ_ne_zero _)];show _*(0+ba d t)=_;rw[Nat.zero_add,Nat.add_zero]
      rw[e,j3 oM];have w1:=cg op n;exact ⟨Nat.le_trans i1 (Nat.le_mul_of_pos_left _ w1),k6 oM i1 j1 (fun h=>absurd h kD) oM (hq1 oM) oM⟩
    · have i1:=kG hc3 hL (h9 0 (Nat.succ_pos _))
      have i2:=kG hc3 hL (h9 1 (by show 1<2;decide));obtain ⟨i1,j1⟩:=i1;obtain ⟨i2,j2⟩:=i2;replace i1:1≤ba d t:=i1;replace j1:LQ (c*ba d t-2) (ay L d t).2:=j1;replace i2:1≤ba d u:=i2;replace j2:LQ (c*ba d u-2) (ay L d u).2:=j2
      simp only[List.length_cons,List.length_nil] at h1
      have e:ba (d+1) (.mk op n q s [t,u])=fj op n*(ba d t+ba d u):=by rw[iM (show [t,u].length≠0 from Nat.succ_ne_zero _)];show _*(0+ba d t+ba d u)=_;rw[Nat.zero_add]
      rw[e,ko oM];have w1:=cg op n;exact ⟨Nat.le_trans oM (Nat.le_mul_of_pos_left _ w1),k6 oM i1 j1 (fun _=>j2) (fun _=>i2) (hq1 oM) oM⟩
theorem mw {d m:Nat}{op n:Int}{q:Rat}{s:ByteArray}{t1:Tm}(h:ba (d+1) (.mk op n q s [t1])≤m):ba d t1≤m:=by
 have h2:=mU (d:=d) (op:=op) (n:=n) (q:=q) (s:=s) (ks:=[t1]) (Nat.succ_ne_zero _);have e:fG (fun i=>ba d (([t1]:List Tm).getD i ca)) ([t1]:List Tm).length=0+ba d t1:=rfl
 omega
theorem lh {d m:Nat}{op n:Int}{q:Rat}{s:ByteArray}{t1 t2:Tm}(h:ba (d+1) (.mk op n q s [t1,t2])≤m):ba d t1≤m∧ba d t2≤m:=by
 have h2:=mU (d:=d) (op:=op) (n:=n) (q:=q) (s:=s) (ks:=[t1,t2]) (Nat.succ_ne_zero _);have e:fG (fun i=>ba d (([t1,t2]:List Tm).getD i ca)) ([t1,t2]:List Tm).length=0+ba d t1+ba d t2:=rfl
 omega
theorem n8 {α:Type}:∀ {l:List α},l.length=2→∃ a b,l=[a,b]
 | [a,b],_=>⟨a,b,rfl⟩
 | [],h=>by simp only[List.length_nil] at h;omega
 | [_],h=>by simp only[List.length_cons,List.length_nil] at h;omega
 | _::_::_::_,h=>by simp only[List.length_cons] at h;omega
theorem nL {ok:ByteArray→Prop}{L:List PLt}{c:Nat}(hc3:3002≤c)(hL:∀ i,LQ (c-2) (L.getD i bN).q){d:Nat}{t:Tm}(h:WfT ok d t)(hw:ba d t≤1000):LQ (c*1000) (ay L d t).2 :=
 (kG hc3 hL h).2.mono (Nat.le_trans (Nat.sub_le _ _) (Nat.mul_le_mul_left _ hw))
def EvR (ok:ByteArray→Prop)(L:List PLt)(d:Nat)(t:Tm)(e:Int)(x:Rat):Prop :=
  (WfT ok d t∧ba d t≤1000∧e=(ay L d t).1∧x=(ay L d t).2)∨(¬(WfT ok d t∧ba d t≤1000)∧e=1∧x=0)
theorem f8 {ok:ByteArray→Prop}{d:Nat}{t:Tm}{e:Int}(h:(WfT ok d t∧e=(if 1000<ba d t then 18 else 0))∨(¬WfT ok d t∧e=2))(h0:e=0):WfT ok d t∧ba d t≤1000:=by
 rcases h with ⟨h1,h2⟩|⟨h1,h2⟩
 ·refine ⟨h1,?_⟩;split at h2<;>omega
 ·omega
theorem ry {ok:ByteArray→Prop}{d:Nat}{t:Tm}{e:Int}(h:(WfT ok d t∧e=(if 1000<ba d t then 18 else 0))∨(¬WfT ok d t∧e=2))(h0:e≠0):¬(WfT ok d t∧ba d t≤1000):=by
 rcases h with ⟨h1,h2⟩|⟨h1,h2⟩
 ·intro h3;rw[if_neg oM] at h2;exact h0 h2
 ·exact fun h3=>h1 h3.1
theorem pP {α β:Type}{f:α→β}{l:List α}{i:Nat}{a:α}{b:β}(h:i<l.length):(l.map f).getD i b=f (l.getD i a):=by
 simp[List.getD_eq_getElem?_getD,h]
section
variable {ok:ByteArray→Prop} {nm:ByteArray} {d e:Nat} {t u:Tm}
theorem EvR.get {L:List PLt}{x:Int}{y:Rat}(h:EvR ok L d t x y)(f:WfT ok d t∧ba d t≤1000):ay L d t=(x,y):=by
 rcases h with ⟨h1,h2,h3,h4⟩|⟨h1,h2,h3⟩
 ·rw[h3,h4]
 ·exact absurd f h1
end
def fU (q:Rat):Tm:=.mk 1 0 q ⟨#[]⟩ []
def eA (t:Tm)(z:Rat):Prop:=t.op=1∧t.q=z
instance (t:Tm) (z:Rat):Decidable (eA t z):=by unfold eA;infer_instance
def pR (b:Tm):Tm:=if b.op=7 then b.ks.getD 0 ca else .mk 7 0 0 ⟨#[]⟩ [b]
def gG (t a b:Tm):Tm :=
  if t.op=3 then (if eA a 0 then b else if eA b 0 then a else t)
  else if t.op=4 then (if eA b 0 then a else if eA a 0 then pR b else t)
  else if t.op=5 then (if eA a 0∨eA b 0 then fU ((0:Int):Rat) else if eA a 1 then b else if eA b 1 then a else t)
  else if t.op=6 then (if eA b 1 then a else t)
  else if t.op=7 then (if a.op=7 then a.ks.getD 0 ca else t)
  else if t.op=8 then (if t.n=0 then fU ((1:Int):Rat) else if t.n=1 then a else t)
  else t
def bc (t:Tm):Tm:=gG t (t.ks.getD 0 ca) (t.ks.getD 1 ca)
def rh (t:Tm):Prop:=t.ks.length≠0∧(t.ks.getD 0 ca).op=1∧(1<t.ks.length→(t.ks.getD 1 ca).op=1)
instance (t:Tm):Decidable (rh t):=by unfold rh;infer_instance
def d5 (t:Tm):Prop:=rh t∧(ay [] 2 t).1=0
instance (t:Tm):Decidable (d5 t):=by unfold d5;infer_instance
def dx (t:Tm):Tm:=if d5 t then fU (ay [] 2 t).2 else bc t
def a8:Nat→Tm→Tm
  | 0,t=>t
  | d+1,t=>dx (.mk t.op t.n t.q t.s (t.ks.map (a8 d)))
def WfQ (c:Nat)(ok:ByteArray→Prop):Nat→Tm→Prop
  | 0,_=>False
  | d+1,t=>eF t.op=t.ks.length∧(t.op≠1→t.q=0)∧LQ c t.q∧(t.op=2→ok t.s)∧(t.op≠2→t.s=⟨#[]⟩)∧(t.op≠8→t.n=0) ∧ -12≤t.n∧t.n≤12∧∀ i,i<t.ks.length→WfQ c ok d (t.ks.getD i ca)
theorem WfQ.mono {ok:ByteArray→Prop}{c c2:Nat}(hc:c≤c2):∀ {d e:Nat} {t:Tm},WfQ c ok d t→d≤e→WfQ c2 ok e t
 | d+1,e+1,_,⟨h1,h2,h3,h4,h5,h6,h7,h8,h9⟩,u=>⟨h1,h2,h3.mono hc,h4,h5,h6,h7,h8,fun i hi=>WfQ.mono hc (h9 i hi) oM⟩
theorem WfQ.wf {ok:ByteArray→Prop}:∀ {d:Nat} {t:Tm},WfQ 3000 ok d t→WfT ok d t
 | _+1,_,⟨h1,h2,h3,h4,h5,h6,h7,h8,h9⟩=>⟨h1,h2,h3,h4,h5,h6,h7,h8,fun i hi=>WfQ.wf (h9 i hi)⟩
theorem WfT.wfq {ok:ByteArray→Prop}:∀ {d:Nat} {t:Tm},WfT ok d t→WfQ 3000 ok d t
 | _+1,_,⟨h1,h2,h3,h4,h5,h6,h7,h8,h9⟩=>⟨h1,h2,h3,h4,h5,h6,h7,h8,fun i hi=>WfT.wfq (h9 i hi)⟩
theorem fB {d:Nat}{op n:Int}{q:Rat}{s:ByteArray}{a:Tm}:ba (d+1) (.mk op n q s [a])=fj op n*ba d a:=by
 rw[iM (show [a].length≠0 from Nat.succ_ne_zero _)];show _*(0+ba d a)=_;rw[Nat.zero_add]
theorem gm {d:Nat}{op n:Int}{q:Rat}{s:ByteArray}{a b:Tm}:ba (d+1) (.mk op n q s [a,b])=fj op n*(ba d a+ba d b):=by
 rw[iM (show [a,b].length≠0 from Nat.succ_ne_zero _)];show _*(0+ba d a+ba d b)=_;rw[Nat.zero_add]
section
variable {ok:ByteArray→Prop} {c:Nat}
theorem WfQ.split {d:Nat}{op n:Int}{q:Rat}{s:ByteArray}{ks:List Tm}(w:WfQ c ok (d+1) (.mk op n q s ks)):(ks=[]∧(op=1∨op=2))∨(∃ a,ks=[a]∧(op=7∨op=8∨op=9∨op=10∨op=11)∧WfQ c ok d a)∨(∃ a b,ks=[a,b]∧(op=3∨op=4∨op=5∨op=6∨op=12∨op=13)∧WfQ c ok d a∧WfQ c ok d b):=by
 obtain ⟨h1,h2,h3,h4,h5,h6,h7,h8,h9⟩:=w;replace h1:eF op=(ks.length:Nat):=h1;have hc:=aT op
 rcases jt h1 with rfl|⟨a,rfl⟩|⟨a,b,rfl⟩
 ·simp only[List.length_nil] at h1;exact .inl ⟨rfl,by omega⟩
 ·simp only[List.length_cons,List.length_nil] at h1;exact .inr (.inl ⟨a,rfl,by omega,h9 0 (Nat.succ_pos _)⟩)
 ·simp only[List.length_cons,List.length_nil] at h1;exact .inr (.inr ⟨a,b,rfl,by omega,h9 0 (Nat.succ_pos _),h9 1 (by show 1<2;decide)⟩)
theorem WfQ.pos {d:Nat}{t:Tm}(w:WfQ c ok d t):1≤d:=by
 cases d with
 | zero=>exact w.elim
 | succ d=>omega
theorem d7:∀ {d:Nat} {t:Tm},WfQ c ok d t→1≤ba d t
  | d+1,.mk op n q s ks,w=>by
    have w1:=cg op n
    rcases w.split with ⟨rfl,_⟩|⟨a,rfl,_,ha⟩|⟨a,b,rfl,_,ha,hb⟩
    · rw[kl rfl];exact Nat.le_refl _
    · rw[fB];exact Nat.le_trans (d7 ha) (Nat.le_mul_of_pos_left _ w1)
    · rw[gm];have:=d7 ha;exact Nat.le_trans (by omega:1≤ba d a+ba d b) (Nat.le_mul_of_pos_left _ w1)
theorem ig:∀ {d e:Nat} {t:Tm},WfQ c ok d t→d≤e→ba e t=ba d t
  | d+1,e+1,.mk op n q s ks,w,he=>by
    rcases w.split with ⟨rfl,_⟩|⟨a,rfl,_,ha⟩|⟨a,b,rfl,_,ha,hb⟩
    · rw[kl rfl,kl rfl]
    · rw[fB,fB,ig ha (show d≤e by omega)]
    · rw[gm,gm,ig ha (show d≤e by omega),ig hb (show d≤e by omega)]
def Fit (c:Nat)(ok:ByteArray→Prop)(d m:Nat)(t:Tm):Prop:=WfQ c ok d t∧ba d t≤m
theorem Fit.mono {c2 d e m m2:Nat}{t:Tm}(f:Fit c ok d m t)(hc:c≤c2)(hd:d≤e)(hm:m≤m2):Fit c2 ok e m2 t :=
 ⟨f.1.mono hc hd,by rw[ig f.1 hd];exact Nat.le_trans f.2 hm⟩
theorem gE {d m:Nat}{q:Rat}(h:LQ c q)(hm:1≤m):Fit c ok (d+1) m (fU q) :=
 ⟨⟨rfl,fun h_=>absurd rfl h_,h,fun h_=>absurd (show (1:Int)=2 from h_) kD,fun _=>rfl,fun _=>rfl,(by show (-12:Int)≤0;decide),(by show (0:Int)≤12;decide),fun i hi=>absurd hi (Nat.not_lt_zero _)⟩,by show ba (d+1) (.mk 1 0 q ⟨#[]⟩ [])≤m;rw[kl rfl];exact hm⟩
theorem WfQ.leaf {d:Nat}{t:Tm}(w:WfQ c ok d t)(h:t.op=1):t=fU t.q∧LQ c t.q:=by
  cases d with
  | zero=>exact w.elim
  | succ d =>
    obtain ⟨op,n,q,s,ks⟩:=t;obtain rfl:op=1:=h
    rcases w.split with ⟨rfl,_⟩|⟨a,rfl,ho,_⟩|⟨a,b,rfl,ho,_⟩
    · obtain ⟨h1,h2,h3,h4,h5,h6,h7,h8,h9⟩:=w
      obtain rfl:s=⟨#[]⟩:=h5 (by show (1:Int)≠2;decide);obtain rfl:n=0:=h6 (by show (1:Int)≠8;decide);exact ⟨rfl,h3⟩
    · exact absurd ho kD
    · exact absurd ho kD
theorem uY {L:List PLt}{d:Nat}{q:Rat}:ay L (d+1) (fU q)=(0,q):=by
 show ay L (d+1) (.mk 1 0 q ⟨#[]⟩ [])=_
 rw[n3 kD,jK rfl rfl ⟨fun h=>absurd h kD,fun h=>absurd h kD⟩]
 unfold jU;rw[if_pos ⟨fun h=>absurd h kD,fun h=>absurd h kD⟩];rfl
theorem WfQ.ev {L:List PLt}{d:Nat}{t:Tm}(w:WfQ c ok d t)(h:t.op=1):ay L d t=(0,t.q):=by
 have hp:=w.pos;obtain ⟨e,rfl⟩:∃ e,d=e+1:=⟨d-1,by omega⟩;have hl:=(w.leaf h).1;rw[hl,uY];rfl
theorem WfQ.kid7 {d:Nat}{t:Tm}(w:WfQ c ok (d+1) t)(h:t.op=7):WfQ c ok d (t.ks.getD 0 ca)∧ba d (t.ks.getD 0 ca)≤ba (d+1) t∧(∀ L,ay L (d+1) t=lZ 7 t.n t.q (ay L d (t.ks.getD 0 ca)).1 0 (ay L d (t.ks.getD 0 ca)).2 0):=by
 obtain ⟨op,n,q,s,ks⟩:=t;obtain rfl:op=7:=h
 rcases w.split with ⟨rfl,ho⟩|⟨a,rfl,ho,ha⟩|⟨a,b,rfl,ho,_⟩
 ·exact absurd ho kD
 ·refine ⟨ha,?_,fun L=>?_⟩
  ·rw[fB];exact Nat.le_mul_of_pos_left _ (cg _ _)
  ·exact j3 kD
 ·exact absurd ho kD
theorem vW {d m:Nat}{b:Tm}(h1c:1≤c)(f:Fit c ok d m b):Fit c ok (d+1) m (pR b):=by
 have hp:=f.1.pos;obtain ⟨e,rfl⟩:∃ e,d=e+1:=⟨d-1,by omega⟩
 unfold pR
 split
 ·rename_i h
  obtain ⟨h1,h2,_⟩:=f.1.kid7 h;exact Fit.mono ⟨h1,Nat.le_trans h2 f.2⟩ (Nat.le_refl _) oM (Nat.le_refl _)
 ·refine ⟨⟨rfl,fun _=>rfl,(LQ.lit (z:=0) kD).mono h1c,fun h_=>absurd (show (7:Int)=2 from h_) kD,fun _=>rfl,fun _=>rfl,(by show (-12:Int)≤0;decide),(by show (0:Int)≤12;decide),fun i hi=>?_⟩,?_⟩
  ·obtain rfl:i=0:=Nat.lt_one_iff.1 hi
   exact f.1
  ·rw[fB];show 1*_≤m;rw[Nat.one_mul];exact f.2
theorem rV {d:Nat}{t:Tm}(h1c:1≤c)(w:WfQ c ok (d+1) t):Fit c ok (d+1) (ba (d+1) t) (bc t):=by
  have ft:Fit c ok (d+1) (ba (d+1) t) t:=⟨w,Nat.le_refl _⟩;have hw:=d7 w;have f0:Fit c ok (d+1) (ba (d+1) t) (fU ((0:Int):Rat)):=gE ((LQ.lit (z:=0) kD).mono h1c) hw;have f1:Fit c ok (d+1) (ba (d+1) t) (fU ((1:Int):Rat)):=gE ((LQ.lit (z:=1) kD).mono h1c) hw;obtain ⟨op,n,q,s,ks⟩:=t;have w1:=cg op n
  rcases w.split with ⟨rfl,ho⟩|⟨a,rfl,ho,ha⟩|⟨a,b,rfl,ho,ha,hb⟩
  · have e:bc (.mk op n q s [])=.mk op n q s []:=by
      show gG (.mk op n q s []) ca ca=_
      unfold gG
      show (if op=3 then _ else if op=4 then _ else if op=5 then _ else if op=6 then _ else if op=7 then _ else if op=8 then _ else _)=_
      rw[if_neg oM,if_neg oM,if_neg oM,if_neg oM,if_neg oM,if_neg oM]
    rw[e];exact ft
  · have fa:Fit c ok (d+1) (ba (d+1) (.mk op n q s [a])) a:=Fit.mono ⟨ha,Nat.le_refl _⟩ (Nat.le_refl _) oM (by rw[fB];exact Nat.le_mul_of_pos_left _ w1)
    show Fit c ok (d+1) _ (gG (.mk op n q s [a]) a ca)
    unfold gG
    show Fit c ok (d+1) _ (if op=3 then _ else if op=4 then _ else if op=5 then _ else if op=6 then _ else if op=7 then _ else if op=8 then _ else _)
    rw[if_neg oM,if_neg oM,if_neg oM,if_neg oM]
    split
    · split
      · rename_i h7
        have hp:=fa.1.pos;obtain ⟨h1,h2,_⟩:=fa.1.kid7 h7;exact Fit.mono ⟨h1,Nat.le_trans h2 fa.2⟩ (Nat.le_refl _) oM (Nat.le_refl _)
      · exact ft
    · split
      · split
        · exact f1
        · split
          · exact fa
          · exact ft
      · exact ft
  · have hs:ba d a+ba d b≤ba (d+1) (.mk op n q s [a,b]):=by rw[gm];exact Nat.le_mul_of_pos_left _ w1
    have fa:Fit c ok (d+1) (ba (d+1) (.mk op n q s [a,b])) a:=Fit.mono ⟨ha,Nat.le_refl _⟩ (Nat.le_refl _) oM oM;have fb:Fit c ok (d+1) (ba (d+1) (.mk op n q s [a,b])) b:=Fit.mono ⟨hb,Nat.le_refl _⟩ (Nat.le_refl _) oM oM;have fn:Fit c ok (d+1) (ba (d+1) (.mk op n q s [a,b])) (pR b):=(vW h1c (d:=d) (m:=ba d b) ⟨hb,Nat.le_refl _⟩).mono (Nat.le_refl _) (Nat.le_refl _) oM
    show Fit c ok (d+1) _ (gG (.mk op n q s [a,b]) a b)
    unfold gG
    show Fit c ok (d+1) _ (if op=3 then _ else if op=4 then _ else if op=5 then _ else if op=6 then _ else if op=7 then _ else if op=8 then _ else _)
    split
    · split
      · exact fb
      · split
        · exact fa
        · exact ft
    split
    · split
      · exact fa
      · split
        · exact fn
        · exact ft
    split
    · split
      · exact f0
      · split
        · exact fb
        · split
          · exact fa
          · exact ft
    split
    · split
      · exact fa
      · exact ft
    rw[if_neg oM,if_neg oM];exact ft
theorem jD {d:Nat}{L:List PLt}{op n:Int}{q:Rat}{s:ByteArray}{a:Tm}(h:op≠2)(ha:WfQ c ok d a)(h1:a.op=1):ay L (d+1) (.mk op n q s [a])=lZ op n q 0 0 a.q 0:=by
 rw[j3 h,ha.ev h1]
theorem hJ {c2 d:Nat}{L:List PLt}{op n:Int}{q:Rat}{s:ByteArray}{a b:Tm}(h:op≠2)(ha:WfQ c ok d a)(h1:a.op=1)(hb:WfQ c2 ok d b)(h2:b.op=1):ay L (d+1) (.mk op n q s [a,b])=lZ op n q 0 0 a.q b.q:=by
 rw[ko h,ha.ev h1,hb.ev h2]
theorem WfQ.leaf1 {d:Nat}{t:Tm}(w:WfQ c ok d t)(h:t.op=1):WfQ c ok 1 t:=by
 obtain ⟨e,l⟩:=w.leaf h;rw[e];exact (gE (d:=0) (m:=1) l (Nat.le_refl _)).1
theorem i4 {t:Tm}(h:d5 t):dx t=fU (ay [] 2 t).2:=if_pos h
theorem bY {t:Tm}(h:¬d5 t):dx t=bc t:=if_neg h
theorem dQ:∀ {d:Nat} {t:Tm},WfQ 1 ok d t→Fit (3*ba d t-2) ok d (ba d t) (a8 d t)
  | d + 1,.mk op n q s ks,w=>by
    have w1:=cg op n;have hwp:=d7 w;obtain ⟨h1,h2,h3,h4,h5,h6,h7,h8,h9⟩:=id w;replace h3:LQ 1 q:=h3
    have nm:∀ {t2:Tm},¬d5 t2→WfQ (3*ba (d+1) (.mk op n q s ks)-2) ok (d+1) t2→ba (d+1) t2≤ba (d+1) (.mk op n q s ks)→Fit (3*ba (d+1) (.mk op n q s ks)-2) ok (d+1) (ba (d+1) (.mk op n q s ks)) (dx t2):=fun hn hw2 hm=>by
      rw[bY hn];exact (rV oM hw2).mono (Nat.le_refl _) (Nat.le_refl _) hm
    rcases w.split with ⟨rfl,ho⟩|⟨a,rfl,ho,ha⟩|⟨a,b,rfl,ho,ha,hb⟩
    · show Fit _ ok (d+1) _ (dx (.mk op n q s []))
      exact nm (fun h=>h.1.1 rfl) (w.mono oM (Nat.le_refl _)) (Nat.le_refl _)
    · have ia:=dQ ha
      have pa:=d7 ha;have e:=fB (d:=d) (op:=op) (n:=n) (q:=q) (s:=s) (a:=a);have hm:ba d a≤ba (d+1) (.mk op n q s [a]):=by rw[e];exact Nat.le_mul_of_pos_left _ w1
      have wt:WfQ (3*ba (d+1) (.mk op n q s [a])-2) ok (d+1) (.mk op n q s [a8 d a]):=⟨h1,h2,h3.mono oM,h4,h5,h6,h7,h8,fun i hi=>by
        obtain rfl:i=0:=Nat.lt_one_iff.1 hi;exact ia.1.mono oM (Nat.le_refl _)⟩
      show Fit _ ok (d+1) _ (dx (.mk op n q s [a8 d a]))
      by_cases hf:d5 (.mk op n q s [a8 d a])
      · rw[i4 hf]
        have o1:(a8 d a).op=1:=hf.1.2.1;refine gE ?_ hwp;rw[jD oM (ia.1.leaf1 o1) o1];have:=k6 (op:=op) (n:=n) (e1:=0) (e2:=0) (b:=0) (Nat.le_refl 3) pa (ia.1.leaf o1).2 (wb:=0) (fun h_=>absurd h_ kD) (fun h_=>absurd (h_.symm.trans h1) (by show (2:Int)≠((1:Nat):Int);decide)) h3 oM;rw[Nat.add_zero,←e] at this
        exact this
      · exact nm hf wt (by rw[fB,e];exact Nat.mul_le_mul_left _ ia.2)
    · have ia:=dQ ha
      have ib:=dQ hb;have pa:=d7 ha;have pb:=d7 hb;have e:=gm (d:=d) (op:=op) (n:=n) (q:=q) (s:=s) (a:=a) (b:=b);have hm:ba d a+ba d b≤ba (d+1) (.mk op n q s [a,b]):=by rw[e];exact Nat.le_mul_of_pos_left _ w1
      have wt:WfQ (3*ba (d+1) (.mk op n q s [a,b])-2) ok (d+1) (.mk op n q s [a8 d a,a8 d b]):=⟨h1,h2,h3.mono oM,h4,h5,h6,h7,h8,fun i hi=>by
        have hi2:i<2:=hi
        rcases (by omega:i=0∨i=1) with rfl|rfl
        · exact ia.1.mono oM (Nat.le_refl _)
        · exact ib.1.mono oM (Nat.le_refl _)⟩
      show Fit _ ok (d+1) _ (dx (.mk op n q s [a8 d a,a8 d b]))
      by_cases hf:d5 (.mk op n q s [a8 d a,a8 d b])
      · rw[i4 hf]
        have o1:(a8 d a).op=1:=hf.1.2.1;have o2:(a8 d b).op=1:=hf.1.2.2 (by show 1<2;decide);refine gE ?_ hwp;rw[hJ oM (ia.1.leaf1 o1) o1 (ib.1.leaf1 o2) o2];have:=k6 (op:=op) (n:=n) (e1:=0) (e2:=0) (Nat.le_refl 3) pa (ia.1.leaf o1).2 (wb:=ba d b) (fun _=>(ib.1.leaf o2).2) (fun _=>pb) h3 oM;rw[←e] at this
        exact this
      · exact nm hf wt (by rw[gm,e];exact Nat.mul_le_mul_left _ (Nat.add_le_add ia.2 ib.2))
theorem qG {d:Nat}{op n:Int}{q:Rat}{s:ByteArray}{ks:List Tm}(w:WfQ 1 ok (d+1) (.mk op n q s ks)):Fit (3*ba (d+1) (.mk op n q s ks)-2) ok (d+1) (ba (d+1) (.mk op n q s ks)) (.mk op n q s (ks.map (a8 d))):=by
 have w1:=cg op n;have hwp:=d7 w;obtain ⟨h1,h2,h3,h4,h5,h6,h7,h8,h9⟩:=id w;replace h3:LQ 1 q:=h3
 rcases w.split with ⟨rfl,ho⟩|⟨a,rfl,ho,ha⟩|⟨a,b,rfl,ho,ha,hb⟩
 ·exact Fit.mono ⟨w,Nat.le_refl _⟩ oM (Nat.le_refl _) (Nat.le_refl _)
 ·have ia:=dQ ha
  have e:=fB (d:=d) (op:=op) (n:=n) (q:=q) (s:=s) (a:=a);have hm:ba d a≤ba (d+1) (.mk op n q s [a]):=by rw[e];exact Nat.le_mul_of_pos_left _ w1
  refine ⟨⟨h1,h2,h3.mono oM,h4,h5,h6,h7,h8,fun i hi=>?_⟩,?_⟩
  ·obtain rfl:i=0:=Nat.lt_one_iff.1 hi
   exact ia.1.mono oM (Nat.le_refl _)
  ·show ba (d+1) (.mk op n q s [a8 d a])≤_
   rw[fB,e];exact Nat.mul_le_mul_left _ ia.2
 ·have ia:=dQ ha
  have ib:=dQ hb;have e:=gm (d:=d) (op:=op) (n:=n) (q:=q) (s:=s) (a:=a) (b:=b);have hm:ba d a+ba d b≤ba (d+1) (.mk op n q s [a,b]):=by rw[e];exact Nat.le_mul_of_pos_left _ w1
  refine ⟨⟨h1,h2,h3.mono oM,h4,h5,h6,h7,h8,fun i hi=>?_⟩,?_⟩
  ·have hi2:i<2:=hi
   rcases (by omega:i=0∨i=1) with rfl|rfl
   ·exact ia.1.mono oM (Nat.le_refl _)
   ·exact ib.1.mono oM (Nat.le_refl _)
  ·show ba (d+1) (.mk op n q s [a8 d a,a8 d b])≤_
   rw[gm,e];exact Nat.mul_le_mul_left _ (Nat.add_le_add ia.2 ib.2)
end
def BQ (ok:ByteArray→Prop):Nat→Tm→Prop
  | 0,_=>False
  | d+1,t=>WfT ok (d+1) (.mk t.op t.n t.q t.s (t.ks.map (a8 d)))∧ba (d+1) (.mk t.op t.n t.q t.s (t.ks.map (a8 d)))≤1000∧∀ i,i<t.ks.length→BQ ok d (t.ks.getD i ca)
theorem ua {ok:ByteArray→Prop}{c d m:Nat}{op n:Int}{q:Rat}{s:ByteArray}{ks:List Tm}(w:WfQ c ok (d+1) (.mk op n q s ks))(h:ba (d+1) (.mk op n q s ks)≤m)(i:Nat)(hi:i<ks.length):ba d (ks.getD i ca)≤m:=by
 rcases w.split with ⟨rfl,_⟩|⟨a,rfl,_,ha⟩|⟨a,b,rfl,_,ha,hb⟩
 ·exact absurd hi (Nat.not_lt_zero _)
 ·obtain rfl:i=0:=Nat.lt_one_iff.1 hi
  exact mw h
 ·have hi2:i<2:=hi
  have h2:=lh h
  rcases (by omega:i=0∨i=1) with rfl|rfl
  ·exact h2.1
  ·exact h2.2
theorem sl {ok:ByteArray→Prop}:∀ {d:Nat} {t:Tm},WfQ 1 ok d t→ba d t≤1000→BQ ok d t
  | d+1,.mk op n q s ks,w,hw=>by
    have f:=qG w;exact ⟨(f.1.mono (show _≤3000 by omega) (Nat.le_refl _)).wf,Nat.le_trans f.2 hw,fun i hi=>sl (w.2.2.2.2.2.2.2.2 i hi) (ua w hw i hi)⟩
theorem ve (a:Rat)(n:Int)(K:Nat)(hK:14*K+20≤100000000)(ha:LQ K a)(hn : -13≤n∧n≤13)(hs:0≤n)(w:World)(h:Hp)(g:G w h)(tb:Tab h):CV 61 #[qv a,iV n] w h (.tuple #[qv (it a n),.bool true]):=by
 have hs:=((sS g).aB tb);obtain ⟨m,hm⟩:∃ m:Nat,m=n.natAbs:=⟨_,rfl⟩;have hm13:m≤13:=by omega
 refine go Tryz.func61 [(0,qv a),(1,iV n)] rfl (aE (lA 2 28 (qc a) hs (fun b1 w2 h3 hs=>lA 4 28 ([qF,uV 0,eS,uV 0,eS]) hs (fun b4 w5 h6 hs=>lL hs [.v 5 qF] (aG (ag 7 hs (tA 1 oM oM _ _ hs.g) (fun w7 h8 hs=>lA 6 28 ([qF,uV 0,eS,uV 0,eS]) hs (fun b9 _ zd hs=>lP 0 0 (qc ((1:Int):Rat)) hs (fun _ hs=>af (aa hs [.m 8 1,.m 9 1] (lI 10 (0-n) ?_)))))))))));refine lV 11 (iV (max (n:Int) (0-n:Int))) ?_ (hr:=aU (n:=(if (0-n:Int)>(n:Int) then (0-n:Int) else (n:Int))) kR (by simp only[oO]));refine lL hs [.v 12 (iV 0)] (bn ?_);refine bQ _ (CG.loop (fun μ_ Γ w_=>∃ (k:Nat) (h_:Hp),μ_=m-k∧Γ=[(1,iV n),(2,pB b1),(4,pB b4),(5,qF),(6,pB b9),(11,iV (max (n:Int) (0-n:Int))),(12,nV k)]∧SS w h w_ h_ [⟨b9,28,qc (db a k)⟩,⟨b4,28,[qF,uV 0,eS,uV 0,eS]⟩,⟨b1,28,qc a⟩] [] [fun h_=>Tab h_]∧k≤m) _ ⟨0,zd,rfl,rfl,hs.to _ _,Nat.zero_le _⟩ ?_);rintro _ _ _ ⟨k,_,hm15,rfl,hs,hk⟩;have hkK:k*K≤13*K:=Nat.mul_le_mul_right _ oM;have hpk:=hC ha k;refine aE ?_;cases za:(decide ((k:Int)<(max (n:Int) (0-n:Int):Int)))
 ·
  have zb:=oF za;refine lB 13 za (af (cw (CG.exit ?_)))
  show CG _ _ _ _ _ _ _ _
  refine cQ (aa hs [.m 18 1] ?_);have ⟨zc,phb17⟩:=dT (p:=(0:Int)≤(n:Int)) oM;exact lB 19 zc (ao (aa hs [.o 20 (qv (db a k)) 0 0 5] (lP 1 0 (qc (db a k)) hs (fun _ hs=>lL hs [.v 5 qT] (ac hs [(1,0,5)] (.tuple #[qv (db a k),qT]) (by unfold it;rw[if_pos oM,show n.natAbs=k by omega]))))))
 have zb:=oT za;refine lB 13 za (af (ce (cK (cQ (kZ (kQ (lL hs [.o 14 (qv (db a k)) 0 0 5,.o 15 (qv a) 2 0 5] ?_)))))));have hq19:=LQ.mul hpk ha;refine ag 16 hs (sv (db a k) a (LQ.mono hpk oM) (LQ.mono ha oM) _ _ hs.g hs.f.1) (fun _ ze hs=>lP 0 0 (qc ((db a k)*a)) hs (fun _ hs=>lN (kQ (bH 17 ((k:Nat)+1) (k+1) ?_))));refine lL hs [.m 12 17] (lD ?_);intro a_ ka;refine ⟨_,_,?_,⟨k+1,ze,rfl,rfl,hs.to _ _,oM⟩,ka.to _ kR⟩
 omega
theorem vY (a:Rat)(n:Int)(K:Nat)(hK:14*K+20≤100000000)(ha:LQ K a)(hn : -13≤n∧n≤13)(hs:n<0)(ha0:a≠0)(w:World)(h:Hp)(g:G w h)(tb:Tab h):CV 61 #[qv a,iV n] w h (.tuple #[qv (it a n),.bool true]):=by
 have hs:=((sS g).aB tb);obtain ⟨m,hm⟩:∃ m:Nat,m=n.natAbs:=⟨_,rfl⟩;have hm13:m≤13:=by omega
 refine go Tryz.func61 [(0,qv a),(1,iV n)] rfl (aE (lA 2 28 (qc a) hs (fun b1 w2 h3 hs=>lA 4 28 ([qF,uV 0,eS,uV 0,eS]) hs (fun b4 w5 h6 hs=>lL hs [.v 5 qF] (aG (ag 7 hs (tA 1 oM oM _ _ hs.g) (fun w7 h8 hs=>lA 6 28 ([qF,uV 0,eS,uV 0,eS]) hs (fun b9 _ zd hs=>lP 0 0 (qc ((1:Int):Rat)) hs (fun _ hs=>af (aa hs [.m 8 1,.m 9 1] (lI 10 (0-n) ?_)))))))))));refine lV 11 (iV (max (n:Int) (0-n:Int))) ?_ (hr:=aU (n:=(if (0-n:Int)>(n:Int) then (0-n:Int) else (n:Int))) kR (by simp only[oO]));refine lL hs [.v 12 (iV 0)] (bn ?_);refine bQ _ (CG.loop (fun μ_ Γ w_=>∃ (k:Nat) (h_:Hp),μ_=m-k∧Γ=[(1,iV n),(2,pB b1),(4,pB b4),(5,qF),(6,pB b9),(11,iV (max (n:Int) (0-n:Int))),(12,nV k)]∧SS w h w_ h_ [⟨b9,28,qc (db a k)⟩,⟨b4,28,[qF,uV 0,eS,uV 0,eS]⟩,⟨b1,28,qc a⟩] [] [fun h_=>Tab h_]∧k≤m) _ ⟨0,zd,rfl,rfl,hs.to _ _,Nat.zero_le _⟩ ?_);rintro _ _ _ ⟨k,_,hm15,rfl,hs,hk⟩;have hkK:k*K≤13*K:=Nat.mul_le_mul_right _ oM;have hpk:=hC ha k;refine aE ?_;cases za:(decide ((k:Int)<(max (n:Int) (0-n:Int):Int)))
 ·
  have zb:=oF za;refine lB 13 za (af (cw (CG.exit ?_)))
  show CG _ _ _ _ _ _ _ _
  refine cQ (aa hs [.m 18 1] ?_);have ⟨zc,phb17⟩:=dF (p:=(0:Int)≤(n:Int)) oM;refine lB 19 zc (ah (cK (cQ (cR 5 [] mixed hs av ?_))));refine eO 1 22 [(0,0,5)] (qv (db a k)) hs (aq 0 21 hs (fun _ _ hs=>tA 1 oM oM _ _ hs.g) (fun _ _ hs=>?_));have hq20:=LQ.div (LQ.lit (z:=1) kD) hpk;exact aq 2 23 hs (fun _ _ hs=>ti ((1:Int):Rat) (db a k) (LQ.mono (LQ.lit (z:=1) kD) oM) (LQ.mono hpk oM) (qr (oJ ha0 k)) _ _ hs.g hs.f.1) (fun _ _ hs=>eV 3 24 (qv (((1:Int):Rat)/(db a k))) (eV 4 25 qT (cC hs (fun _ _ hs=>tP 5 1 0 (qc (((1:Int):Rat)/(db a k))) hs (fun _ hs=>tV 6 5 qT (tN (kX (hs.ret [(1,0,5)] (.tuple #[qv (((1:Int):Rat)/(db a k)),qT]) (by unfold it;rw[if_neg oM,show n.natAbs=k by omega])))))))))
 have zb:=oT za;refine lB 13 za (af (ce (cK (cQ (kZ (kQ (lL hs [.o 14 (qv (db a k)) 0 0 5,.o 15 (qv a) 2 0 5] ?_)))))));have hq26:=LQ.mul hpk ha;refine ag 16 hs (sv (db a k) a (LQ.mono hpk oM) (LQ.mono ha oM) _ _ hs.g hs.f.1) (fun _ ze hs=>lP 0 0 (qc ((db a k)*a)) hs (fun _ hs=>lN (kQ (bH 17 ((k:Nat)+1) (k+1) ?_))));refine lL hs [.m 12 17] (lD ?_);intro a_ ka;refine ⟨_,_,?_,⟨k+1,ze,rfl,rfl,hs.to _ _,oM⟩,ka.to _ kR⟩
 omega
theorem uK (a:Rat)(n:Int)(K:Nat)(hK:14*K+20≤100000000)(ha:LQ K a)(hn : -13≤n∧n≤13)(hs:n<0)(ha0:a=0)(w:World)(h:Hp)(g:G w h)(tb:Tab h):CV 61 #[qv a,iV n] w h (.tuple #[qv 0,.bool false]):=by
 have hs:=((sS g).aB tb);obtain ⟨m,hm⟩:∃ m:Nat,m=n.natAbs:=⟨_,rfl⟩;have hm13:m≤13:=by omega
 refine go Tryz.func61 [(0,qv a),(1,iV n)] rfl (aE (lA 2 28 (qc a) hs (fun b1 w2 h3 hs=>lA 4 28 ([qF,uV 0,eS,uV 0,eS]) hs (fun b4 w5 h6 hs=>lL hs [.v 5 qF] (aG (ag 7 hs (tA 1 oM oM _ _ hs.g) (fun w7 h8 hs=>lA 6 28 ([qF,uV 0,eS,uV 0,eS]) hs (fun b9 _ zd hs=>lP 0 0 (qc ((1:Int):Rat)) hs (fun _ hs=>af (aa hs [.m 8 1,.m 9 1] (lI 10 (0-n) ?_)))))))))));refine lV 11 (iV (max (n:Int) (0-n:Int))) ?_ (hr:=aU (n:=(if (0-n:Int)>(n:Int) then (0-n:Int) else (n:Int))) kR (by simp only[oO]));refine lL hs [.v 12 (iV 0)] (bn ?_);refine bQ _ (CG.loop (fun μ_ Γ w_=>∃ (k:Nat) (h_:Hp),μ_=m-k∧Γ=[(1,iV n),(2,pB b1),(4,pB b4),(5,qF),(6,pB b9),(11,iV (max (n:Int) (0-n:Int))),(12,nV k)]∧SS w h w_ h_ [⟨b9,28,qc (db a k)⟩,⟨b4,28,[qF,uV 0,eS,uV 0,eS]⟩,⟨b1,28,qc a⟩] [] [fun h_=>Tab h_]∧k≤m) _ ⟨0,zd,rfl,rfl,hs.to _ _,Nat.zero_le _⟩ ?_);rintro _ _ _ ⟨k,_,hm15,rfl,hs,hk⟩;have hkK:k*K≤13*K:=Nat.mul_le_mul_right _ oM;have hpk:=hC ha k;refine aE ?_;cases za:(decide ((k:Int)<(max (n:Int) (0-n:Int):Int)))
 ·
  have zb:=oF za;refine lB 13 za (af (cw (CG.exit ?_)))
  show CG _ _ _ _ _ _ _ _
  refine cQ (aa hs [.m 18 1] ?_);have ⟨zc,phb17⟩:=dF (p:=(0:Int)≤(n:Int)) oM;refine lB 19 zc (ah (cK (cQ (cR 5 [] mixed hs av ?_))));exact eO 1 22 [(0,0,5)] (qv (db a k)) hs (aq 0 21 hs (fun _ _ hs=>tA 1 oM oM _ _ hs.g) (fun _ _ hs=>aq 2 23 hs (fun _ _ hs=>wN ((1:Int):Rat) (db a k) (by rw[ha0];exact pm oM) _ _ hs.g) (fun _ _ hs=>eV 3 24 (qv 0) (eV 4 25 qF (cC hs (fun _ _ hs=>tP 5 1 0 (qc 0) hs (fun _ hs=>tV 6 5 qF (tN (kX (hs.ret [(1,0,5)] (.tuple #[qv 0,qF]) rfl))))))))))
 have zb:=oT za;refine lB 13 za (af (ce (cK (cQ (kZ (kQ (lL hs [.o 14 (qv (db a k)) 0 0 5,.o 15 (qv a) 2 0 5] ?_)))))));have hq25:=LQ.mul hpk ha;refine ag 16 hs (sv (db a k) a (LQ.mono hpk oM) (LQ.mono ha oM) _ _ hs.g hs.f.1) (fun _ ze hs=>lP 0 0 (qc ((db a k)*a)) hs (fun _ hs=>lN (kQ (bH 17 ((k:Nat)+1) (k+1) ?_))));refine lL hs [.m 12 17] (lD ?_);intro a_ ka;refine ⟨_,_,?_,⟨k+1,ze,rfl,rfl,hs.to _ _,oM⟩,ka.to _ kR⟩
 omega
theorem xJ (a:Rat)(n:Int)(K:Nat)(hK:14*K+20≤100000000)(ha:LQ K a)(hn : -13≤n∧n≤13)(ho:n<0→a≠0)(w:World)(h:Hp)(g:G w h)(tb:Tab h):CV 61 #[qv a,iV n] w h (.tuple #[qv (it a n),.bool true]):=by
 by_cases hs:0≤n
 ·exact ve a n K hK ha hn hs w h g tb
 ·exact vY a n K hK ha hn oM (ho oM) w h g tb
theorem tI (s:PTm)(a b:Rat)(K:Nat)(hK:14*K+20≤100000000)(ha:LQ K a)(hb:LQ K b)(hq:LQ 3000 s.q)(hK1:1≤K)(hop:1≤s.op∧s.op≤13∧s.op≠2)(hn:s.op=8 → -12≤s.n∧s.n≤12)(hok:nP s.op s.n a b)(w:World)(h:Hp)(g:G w h)(tb:Tab h):CV 33 #[aF s,qv a,qv b] w h (.tuple #[qv (BT s.op s.n s.q a b),.bool true]):=by
 have hs:=((sS g).aB tb);refine go Tryz.func33 [(0,aF s),(1,qv a),(2,qv b)] rfl (aE (lA 3 31 (aK s) hs (fun b1 w2 h3 hs=>lA 4 28 (qc a) hs (fun b4 w5 h6 hs=>lA 5 28 (qc b) hs (fun b7 w8 h9 hs=>lA 6 28 ([qF,uV 0,eS,uV 0,eS]) hs (fun b10 _ _ hs=>lL hs [.v 7 qF] (af (aa hs [.v 8 (pB b1),.o 9 (iV s.op) 3 0 1] (bn (aE ?_))))))))));cases za:((s.op:Int) == (1:Int))
 ·
  have zp:=ai za;refine lB 11 za (lL hs [.m 10 11] (ah (aE ?_)));cases zb:((s.op:Int) == (3:Int))
  ·
   have zq:=ai zb;refine lB 15 zb (lL hs [.m 14 15] (ah (aE ?_)));cases zc:((s.op:Int) == (4:Int))
   ·
    have zr:=ai zc;refine lB 20 zc (lL hs [.m 19 20] (ah (aE ?_)));cases zd:((s.op:Int) == (5:Int))
    ·
     have zs:=ai zd;refine lB 25 zd (lL hs [.m 24 25] (ah (aE ?_)));cases ze:((s.op:Int) == (6:Int))
     ·
      have zt:=ai ze;refine lB 30 ze (lL hs [.m 29 30] (ah (aE ?_)));cases zf:((s.op:Int) == (7:Int))
      ·
       have zu:=ai zf;refine lB 37 zf (lL hs [.m 36 37] (ah (aE ?_)));cases zg:((s.op:Int) == (8:Int))
       ·
        have zv:=ai zg;refine lB 41 zg (lL hs [.m 40 41] (ah (aE ?_)));cases zi:((s.op:Int) == (9:Int))
        ·
         have zw:=ai zi;refine lB 49 zi (lL hs [.m 48 49] (ah (aE ?_)));cases zj:((s.op:Int) == (10:Int))
         ·
          have zx:=ai zj;refine lB 53 zj (lL hs [.m 52 53] (ah (aE ?_)));cases zk:((s.op:Int) == (11:Int))
          ·
           have zA:=ai zk;refine lB 58 zk (lL hs [.m 57 58] (ah (aE ?_)));cases zl:((s.op:Int) == (12:Int))
           ·
            have zB:=ai zl;refine lB 68 zl (lL hs [.m 67 68] (ah (aE ?_)));cases zm:((s.op:Int) == (13:Int))
            ·
             have zD:=ai zm;refine lB 73 zm (lL hs [.m 72 73] (ah (cK (aa hs [.v 77 (.agg #[qF,uV 0,eS,uV 0,eS])] (lP 0 0 ([qF,uV 0,eS,uV 0,eS]) hs (fun _ hs=>lL hs [.v 7 qF] (lN (kX ?_))))))))
             exfalso;omega
            have zD:=eq_of_beq zm;exact lB 73 zm (lL hs [.m 72 73] (ao (aa hs [.o 74 (qv a) 2 0 5,.o 75 (qv b) 1 0 5] (ag 76 hs (DS a b (LQ.mono ha oM) (LQ.mono hb oM) _ _ hs.g) (fun _ _ hs=>lP 0 0 (qc (m9 a b)) hs (fun _ hs=>lL hs [.v 7 qT] (ac hs [(0,0,5)] (.tuple #[qv (m9 a b),qT]) (by rw[show s.op=13 by omega];rfl))))))))
           have zB:=eq_of_beq zl;exact lB 68 zl (lL hs [.m 67 68] (ao (aa hs [.o 69 (qv a) 2 0 5,.o 70 (qv b) 1 0 5] (ag 71 hs (C0 a b (LQ.mono ha oM) (LQ.mono hb oM) _ _ hs.g) (fun _ _ hs=>lP 0 0 (qc (maxR a b)) hs (fun _ hs=>lL hs [.v 7 qT] (ac hs [(0,0,5)] (.tuple #[qv (maxR a b),qT]) (by rw[show s.op=12 by omega];rfl))))))))
          have zA:=eq_of_beq zk;refine lB 58 zk (lL hs [.m 57 58] (ao (cQ (cR 8 [] mixed hs av ?_))));refine eO 0 59 [(2,0,5)] (qv a) hs (eO 1 60 [(2,0,5)] (qv a) hs ?_);have zn:LQ (K) (dR a):=LQ.abs ha;refine aq 2 61 hs (fun _ _ hs=>B1 a (LQ.mono ha oM) _ _ hs.g) (fun _ _ hs=>aq 3 62 hs (fun _ _ hs=>tA 1 oM oM _ _ hs.g) (fun _ _ hs=>?_));have zo:=LQ.add zn (LQ.lit (z:=1) kD);refine aq 4 63 hs (fun _ _ hs=>AR (dR a) ((1:Int):Rat) (LQ.mono zn oM) (LQ.mono (LQ.lit (z:=1) kD) oM) _ _ hs.g hs.f.1) (fun _ _ hs=>?_);have hq40:=LQ.div ha zo;exact aq 5 64 hs (fun _ _ hs=>ti a ((dR a)+((1:Int):Rat)) (LQ.mono ha oM) (LQ.mono zo oM) (mP a) _ _ hs.g hs.f.1) (fun _ _ hs=>eV 6 65 (qv (a/((dR a)+((1:Int):Rat)))) (eV 7 66 qT (cC hs (fun _ _ hs=>tP 8 0 0 (qc (a/((dR a)+((1:Int):Rat)))) hs (fun _ hs=>tV 9 7 qT (tN (kX (hs.ret [(0,0,5)] (.tuple #[qv (a/((dR a)+((1:Int):Rat))),qT]) (by rw[show s.op=11 by omega];rfl)))))))))
         have zx:=eq_of_beq zj;exact lB 53 zj (lL hs [.m 52 53] (ao (aa hs [.o 54 (qv a) 2 0 5,.v 55 (qv 0)] (ag 56 hs (C0 a 0 (LQ.mono ha oM) (LQ.mono (LQ.lit (z:=0) kD) oM) _ _ hs.g) (fun _ _ hs=>lP 0 0 (qc (maxR a 0)) hs (fun _ hs=>lL hs [.v 7 qT] (ac hs [(0,0,5)] (.tuple #[qv (maxR a 0),qT]) (by rw[show s.op=10 by omega];rfl))))))))
        have zw:=eq_of_beq zi;refine lB 49 zi (lL hs [.m 48 49] (ao (aa hs [.o 50 (qv a) 2 0 5] ?_)));have hq49:LQ (K) (dR a):=LQ.abs ha;exact ag 51 hs (B1 a (LQ.mono ha oM) _ _ hs.g) (fun _ _ hs=>lP 0 0 (qc (dR a)) hs (fun _ hs=>lL hs [.v 7 qT] (ac hs [(0,0,5)] (.tuple #[qv (dR a),qT]) (by rw[show s.op=9 by omega];rfl))))
       have zv:=eq_of_beq zg;exact lB 41 zg (lL hs [.m 40 41] (ao (aa hs [.o 42 (qv a) 2 0 5,.v 43 (qP b1 1),.o 44 (iV s.n) 3 1 1] (ag 45 hs (xJ a s.n K hK ha (by have:=hn oM;omega) (hok.2 oM) _ _ hs.g hs.f.1) (fun _ _ hs=>lL hs [.v 46 (qv (it a s.n)),.v 47 qT] (lP 0 0 (qc (it a s.n)) hs (fun _ hs=>lL hs [.m 7 47] (ac hs [(0,0,5)] (.tuple #[qv (it a s.n),qT]) (by rw[show s.op=8 by omega];rfl)))))))))
      have zu:=eq_of_beq zf;refine lB 37 zf (lL hs [.m 36 37] (ao (aa hs [.o 38 (qv a) 2 0 5] ?_)));have hq56:LQ (K) (-a):=LQ.neg ha;exact ag 39 hs (Dl a (LQ.mono ha oM) _ _ hs.g) (fun _ _ hs=>lP 0 0 (qc (-a)) hs (fun _ hs=>lL hs [.v 7 qT] (ac hs [(0,0,5)] (.tuple #[qv (-a),qT]) (by rw[show s.op=7 by omega];rfl))))
     have zt:=eq_of_beq ze;refine lB 30 ze (lL hs [.m 29 30] (ao (aa hs [.o 31 (qv a) 2 0 5,.o 32 (qv b) 1 0 5] ?_)));have hq60:=LQ.div ha hb;exact ag 33 hs (ti a b (LQ.mono ha oM) (LQ.mono hb oM) (qr (hok.1 oM)) _ _ hs.g hs.f.1) (fun _ _ hs=>lL hs [.v 34 (qv (a/b)),.v 35 qT] (lP 0 0 (qc (a/b)) hs (fun _ hs=>lL hs [.m 7 35] (ac hs [(0,0,5)] (.tuple #[qv (a/b),qT]) (by rw[show s.op=6 by omega];rfl)))))
    have zs:=eq_of_beq zd;refine lB 25 zd (lL hs [.m 24 25] (ao (aa hs [.o 26 (qv a) 2 0 5,.o 27 (qv b) 1 0 5] ?_)));have hq64:=LQ.mul ha hb;exact ag 28 hs (sv a b (LQ.mono ha oM) (LQ.mono hb oM) _ _ hs.g hs.f.1) (fun _ _ hs=>lP 0 0 (qc (a*b)) hs (fun _ hs=>lL hs [.v 7 qT] (ac hs [(0,0,5)] (.tuple #[qv (a*b),qT]) (by rw[show s.op=5 by omega];rfl))))
   have zr:=eq_of_beq zc;refine lB 20 zc (lL hs [.m 19 20] (ao (aa hs [.o 21 (qv a) 2 0 5,.o 22 (qv b) 1 0 5] ?_)));have hq68:=LQ.sub ha hb;exact ag 23 hs (Ea a b (LQ.mono ha oM) (LQ.mono hb oM) _ _ hs.g hs.f.1) (fun _ _ hs=>lP 0 0 (qc (a-b)) hs (fun _ hs=>lL hs [.v 7 qT] (ac hs [(0,0,5)] (.tuple #[qv (a-b),qT]) (by rw[show s.op=4 by omega];rfl))))
  have zq:=eq_of_beq zb;refine lB 15 zb (lL hs [.m 14 15] (ao (aa hs [.o 16 (qv a) 2 0 5,.o 17 (qv b) 1 0 5] ?_)));have hq72:=LQ.add ha hb;exact ag 18 hs (AR a b (LQ.mono ha oM) (LQ.mono hb oM) _ _ hs.g hs.f.1) (fun _ _ hs=>lP 0 0 (qc (a+b)) hs (fun _ hs=>lL hs [.v 7 qT] (ac hs [(0,0,5)] (.tuple #[qv (a+b),qT]) (by rw[show s.op=3 by omega];rfl))))
 have zp:=eq_of_beq za;exact lB 11 za (lL hs [.m 10 11] (ao (aa hs [.v 12 (qP b1 2),.o 13 (qv s.q) 3 2 5] (lP 0 0 (qc s.q) hs (fun _ hs=>lL hs [.v 7 qT] (ac hs [(0,0,5)] (.tuple #[qv s.q,qT]) (by rw[show s.op=1 by omega];rfl)))))))
theorem uS (s:PTm)(a b:Rat)(K:Nat)(hK:14*K+20≤100000000)(ha:LQ K a)(hb:LQ K b)(hq:LQ 3000 s.q)(hK1:1≤K)(hop:s.op=6)(hz6:b=0)(w:World)(h:Hp)(g:G w h)(tb:Tab h):CV 33 #[aF s,qv a,qv b] w h (.tuple #[qv 0,.bool false]):=by
 have hs:=((sS g).aB tb);refine go Tryz.func33 [(0,aF s),(1,qv a),(2,qv b)] rfl (aE (lA 3 31 (aK s) hs (fun b1 w2 h3 hs=>lA 4 28 (qc a) hs (fun b4 w5 h6 hs=>lA 5 28 (qc b) hs (fun b7 w8 h9 hs=>lA 6 28 ([qF,uV 0,eS,uV 0,eS]) hs (fun b10 _ _ hs=>lL hs [.v 7 qF] (af (aa hs [.v 8 (pB b1),.o 9 (iV s.op) 3 0 1] (bn (aE ?_))))))))));have za:((s.op:Int) == (1:Int))=false:=cv oM;have phb13:=ai za;refine lB 11 za (lL hs [.m 10 11] (ah (aE ?_)));have zb:((s.op:Int) == (3:Int))=false:=cv oM;have phb14:=ai zb;refine lB 15 zb (lL hs [.m 14 15] (ah (aE ?_)));have zc:((s.op:Int) == (4:Int))=false:=cv oM;have phb15:=ai zc;refine lB 20 zc (lL hs [.m 19 20] (ah (aE ?_)));have zd:((s.op:Int) == (5:Int))=false:=cv oM;have phb16:=ai zd;refine lB 25 zd (lL hs [.m 24 25] (ah (aE ?_)));have ze:((s.op:Int) == (6:Int))=true:=jR oM;have phb17:=eq_of_beq ze;exact lB 30 ze (lL hs [.m 29 30] (ao (aa hs [.o 31 (qv a) 2 0 5,.o 32 (qv b) 1 0 5] (ag 33 hs (wN a b hz6 _ _ hs.g) (fun _ _ hs=>lL hs [.v 34 (qv 0),.v 35 qF] (lP 0 0 (qc 0) hs (fun _ hs=>lL hs [.m 7 35] (ac hs [(0,0,5)] (.tuple #[qv 0,qF]) rfl))))))))
theorem wk (s:PTm)(a b:Rat)(K:Nat)(hK:14*K+20≤100000000)(ha:LQ K a)(hb:LQ K b)(hq:LQ 3000 s.q)(hK1:1≤K)(hop:s.op=8)(hn : -12≤s.n∧s.n<0)(hz8:a=0)(w:World)(h:Hp)(g:G w h)(tb:Tab h):CV 33 #[aF s,qv a,qv b] w h (.tuple #[qv 0,.bool false]):=by
 have hs:=((sS g).aB tb);refine go Tryz.func33 [(0,aF s),(1,qv a),(2,qv b)] rfl (aE (lA 3 31 (aK s) hs (fun b1 w2 h3 hs=>lA 4 28 (qc a) hs (fun b4 w5 h6 hs=>lA 5 28 (qc b) hs (fun b7 w8 h9 hs=>lA 6 28 ([qF,uV 0,eS,uV 0,eS]) hs (fun b10 _ _ hs=>lL hs [.v 7 qF] (af (aa hs [.v 8 (pB b1),.o 9 (iV s.op) 3 0 1] (bn (aE ?_))))))))));have za:((s.op:Int) == (1:Int))=false:=cv oM;have phb13:=ai za;refine lB 11 za (lL hs [.m 10 11] (ah (aE ?_)));have zb:((s.op:Int) == (3:Int))=false:=cv oM;have phb14:=ai zb;refine lB 15 zb (lL hs [.m 14 15] (ah (aE ?_)));have zc:((s.op:Int) == (4:Int))=false:=cv oM;have phb15:=ai zc;refine lB 20 zc (lL hs [.m 19 20] (ah (aE ?_)));have zd:((s.op:Int) == (5:Int))=false:=cv oM;have phb16:=ai zd;refine lB 25 zd (lL hs [.m 24 25] (ah (aE ?_)));have ze:((s.op:Int) == (6:Int))=false:=cv oM;have phb17:=ai ze;refine lB 30 ze (lL hs [.m 29 30] (ah (aE ?_)));have zf:((s.op:Int) == (7:Int))=false:=cv oM;have phb18:=ai zf;refine lB 37 zf (lL hs [.m 36 37] (ah (aE ?_)));have zg:((s.op:Int) == (8:Int))=true:=jR oM;have phb19:=eq_of_beq zg;exact lB 41 zg (lL hs [.m 40 41] (ao (aa hs [.o 42 (qv a) 2 0 5,.v 43 (qP b1 1),.o 44 (iV s.n) 3 1 1] (ag 45 hs (uK a s.n K hK ha oM oM hz8 _ _ hs.g hs.f.1) (fun _ _ hs=>lL hs [.v 46 (qv 0),.v 47 qF] (lP 0 0 (qc 0) hs (fun _ hs=>lL hs [.m 7 47] (ac hs [(0,0,5)] (.tuple #[qv 0,qF]) rfl))))))))
theorem nM (s:PTm)(a b:Rat)(K:Nat)(hK:14*K+20≤100000000)(ha:LQ K a)(hb:LQ K b)(hq:LQ 3000 s.q)(hK1:1≤K)(hop:1≤s.op∧s.op≤13∧s.op≠2)(hn:s.op=8 → -12≤s.n∧s.n≤12)(w:World)(h:Hp)(g:G w h)(tb:Tab h):CV 33 #[aF s,qv a,qv b] w h (.tuple #[qv (jU s.op s.n s.q a b),.bool (decide (nP s.op s.n a b))]):=by
 by_cases hok:nP s.op s.n a b
 ·unfold jU;rw[if_pos hok,decide_eq_true hok];exact tI s a b K hK ha hb hq hK1 hop hn hok w h g tb
 ·unfold jU;rw[if_neg hok,decide_eq_false hok]
  by_cases h6:s.op=6∧b=0
  ·exact uS s a b K hK ha hb hq hK1 h6.1 h6.2 w h g tb
  ·by_cases h8:s.op=8∧s.n<0∧a=0
   ·exact wk s a b K hK ha hb hq hK1 h8.1 ⟨(hn h8.1).1,h8.2.1⟩ h8.2.2 w h g tb
   ·exact absurd ⟨fun x y=>h6 ⟨x,y⟩,fun x y z=>h8 ⟨x,y,z⟩⟩ hok
theorem DY {p:Prop}[Decidable p](h:(!decide p)=false):p:=by simpa using h
theorem Ef {p:Prop}[Decidable p](h:(!decide p)=true):¬p:=by simpa using h
theorem vR (LA:Option Addr)(cL:Nat)(L:List PLt)(d:Nat)(hLl:L.length≤1000)(cc:Nat)(hc3:3002≤cc)(hcm:cc≤7000)(hLq:∀ i,LQ (cc-2) (L.getD i bN).q)(n:Int)(q:Rat)(s:ByteArray)(A:Option Addr)(c:Nat)(ps:List PTm)(ks:List Tm)(w:World)(h:Hp)(g:G w h)(hK:SlO 9 aK ar h A ps)(hL:SlO 6 pA bN h LA L):CV 16 #[pW 2 n q s A ps.length c,.slice LA L.length cL] w h (.tuple #[qv (ay L (d+1) (.mk 2 n q s ks)).2,iV (ay L (d+1) (.mk 2 n q s ks)).1]):=by
 have hs:=(((sS g).aS hK).aS hL);refine go Tryz.func16 [(0,pW 2 n q s A ps.length c),(1,qS LA L.length cL)] rfl (aE (lA 2 31 (pG 2 n q s A ps.length c) hs (fun b1 w2 h3 hs=>lA 4 28 ([qF,uV 0,eS,uV 0,eS]) hs (fun b4 w5 h6 hs=>lL hs [.v 5 (iV 0)] (af (aa hs [.v 15 (pB b1),.o 16 (iV 2) 1 0 1,.v 17 qT] (ao (cQ (aa hs [.m 18 1,.v 19 (nV L.length),.v 20 (iV 0)] (bn ?_))))))))));refine bQ _ (CG.loop (fun μ_ Γ w_=>∃ (k:Nat) (h_:Hp),μ_=L.length-k∧Γ=[(1,qS LA L.length cL),(2,pB b1),(4,pB b4),(18,qS LA L.length cL),(19,nV L.length),(20,nV k)]∧SS w h w_ h_ [⟨b4,28,[qF,uV 0,eS,uV 0,eS]⟩,⟨b1,31,pG 2 n q s A ps.length c⟩] [] [fun h_=>SlO 6 pA bN h_ LA L,fun h_=>SlO 9 aK ar h_ A ps]∧k≤L.length∧(∀ i,i<k→(L.getD i bN).s≠s)) _ ⟨0,h6,rfl,rfl,hs.to _ _,Nat.zero_le _,(fun i hi=>absurd hi (Nat.not_lt_zero i))⟩ ?_);rintro _ _ w7 ⟨k,h8,hm9,rfl,hs,hk,hno⟩;refine aE ?_;cases za:(decide ((k:Int)<(L.length:Int)))
 ·
  have zc:=oF za;refine lB 21 za (af (cw (CG.exit ?_)))
  show CG _ _ _ _ _ _ _ _
  refine aa hs [.v 32 (.agg #[qF,uV 0,eS,uV 0,eS])] (lP 0 0 ([qF,uV 0,eS,uV 0,eS]) hs (fun _ hs=>lL hs [.v 5 (iV 11)] (lN (kX ?_))));have hkn:k=L.length:=by omega
  rw[hkn] at hno
  exact hs.ret [(0,0,5)] (.tuple #[.agg #[qF,uV 0,eS,uV 0,eS],iV 11]) (by rw[rt rfl (sc hno)];rfl)
 have zc:=oT za;refine lB 21 za (af (ce (cK (cQ (kZ (aE (lX 22 LA L.length cL 6 (k:Nat) k ((hs.f.1).ok oM) ?_)))))));refine lH 23 (.agg #[.string ((L.getD k bN).s),.bool (aD ((L.getD k bN).q).num),uV (lo (ab ((L.getD k bN).q).num)),.string (hi (ab ((L.getD k bN).q).num)),uV (lo (qd ((L.getD k bN).q))),.string (hi (qd ((L.getD k bN).q)))]) hs ((hs.f.1).el k oM) (lA 7 41 ([eS,qF,uV 0,eS,uV 0,eS]) hs (fun ze _ zf hs=>lP 0 0 ([.string ((L.getD k bN).s),.bool (aD ((L.getD k bN).q).num),uV (lo (ab ((L.getD k bN).q).num)),.string (hi (ab ((L.getD k bN).q).num)),uV (lo (qd ((L.getD k bN).q))),.string (hi (qd ((L.getD k bN).q)))]) hs (fun _ hs=>aG (lL hs [.v 24 (pB ze),.o 25 (.string ((L.getD k bN).s)) 0 0 1,.v 26 (qP b1 7),.o 27 (.string s) 2 7 1] ?_))));cases zb:(pE ((L.getD k bN).s) s)
 ·
  have zd:=rN zb;refine lB 28 zb (ah (cK (kQ (bH 31 ((k:Nat)+1) (k+1) ?_))));refine lL hs [.m 20 31] (lD ?_);intro a_ ka;replace hs:=hs.drop 1 0;refine ⟨_,_,?_,⟨k+1,zf,rfl,rfl,hs.to _ _,oM,(fun i hi=>by rcases Nat.lt_succ_iff_lt_or_eq.1 hi with h_|rfl;exact hno i h_;assumption)⟩,ka.to _ kR⟩
  omega
 have zd:=ru zb;exact lB 28 zb (ao (aa hs [.v 29 (qP ze 1),.o 30 (qv ((L.getD k bN).q)) 0 1 5] (lP 1 0 (qc ((L.getD k bN).q)) hs (fun _ hs=>lL hs [.v 5 (iV 0)] (ac hs [(1,0,5)] (.tuple #[qv ((L.getD k bN).q),iV 0]) (by rw[sb rfl (sK hno oM aM)]))))))
theorem uu  (ok:ByteArray→Prop)(d:Nat)(LA:Option Addr)(cL:Nat)(L:List PLt)(hLl:L.length≤1000)(cc:Nat)(hc3:3002≤cc)(hcm:cc≤7000)(hLq:∀ i,LQ (cc-2) (L.getD i bN).q)(ih:∀ (p:PTm) (t:Tm) (w:World) (h:Hp),G w h→TmH d h p t→WfT ok d t→ba d t≤1000→SlO 6 pA bN h LA L→Tab h→Calls Tryz.prog 16 #[aF p,.slice LA L.length cL] w (Ret w h (fun v _=>v=.tuple #[qv (ay L d t).2,iV (ay L d t).1])))(op n:Int)(q:Rat)(s:ByteArray)(A:Option Addr)(c:Nat)(hop:1≤op∧op≤13∧op≠2)(hn : -12≤n∧n≤12)(hq:LQ 3000 q)(w:World)(h:Hp)(g:G w h)(hK:SlO 9 aK ar h A ([]:List PTm))(hL:SlO 6 pA bN h LA L)(tb:Tab h):CV 16 #[pW op n q s A 0 c,.slice LA L.length cL] w h (.tuple #[qv (ay L (d+1) (.mk op n q s ([]:List Tm))).2,iV (ay L (d+1) (.mk op n q s ([]:List Tm))).1]):=by
 have hs:=((((sS g).aS hK).aS hL).aB tb);have hln:([]:List PTm).length=0:=rfl;refine go Tryz.func16 [(0,pW op n q s A 0 c),(1,qS LA L.length cL)] rfl (aE (lA 2 31 (pG op n q s A 0 c) hs (fun b1 w2 h3 hs=>lA 4 28 ([qF,uV 0,eS,uV 0,eS]) hs (fun b4 w5 h6 hs=>lL hs [.v 5 (iV 0)] (af (aa hs [.v 15 (pB b1),.o 16 (iV op) 1 0 1] ?_))))));have hb7:((op:Int) == (2:Int))=false:=cv oM;have phb7:=ai hb7;refine lB 17 hb7 (ah (cK (aE (lA 8 83 ([qF,uV 0,eS,uV 0,eS,qF,uV 0,eS,uV 0,eS]) hs (fun b8 w9 _ hs=>af (aa hs [.v 33 (qP b1 8),.o 34 (qS A 0 c) 2 8 1,.v 35 (iV 0),.v 36 (iV 0)] (bn (cU ?_))))))));refine cN (aa hs [.v 37 qF] (af (cw (CG.exit ?_))))
 show CG _ _ _ _ _ _ _ _
 refine aa hs [.o 56 (pW op n q s A 0 c) 2 0 9,.v 57 (pB b8),.o 58 (qv 0) 0 0 5,.v 59 (qP b8 5),.o 60 (qv 0) 0 5 5] (ag 61 hs (nM (⟨op,n,q,s,A,0,c⟩:PTm) 0 0 (cc*1000) oM (kh oM) (kh oM) hq oM (by show 1≤op∧op≤13∧op≠2;omega) (by show op=8 → -12≤n∧n≤12;omega) _ _ hs.g hs.f.1) (fun _ _ hs=>lL hs [.m 55 61,.v 62 (qv (jU op n q 0 0)),.v 63 (.bool (decide (nP op n 0 0)))] (lA 13 28 ([qF,uV 0,eS,uV 0,eS]) hs (fun b13 _ _ hs=>lP 0 0 (qc (jU op n q 0 0)) hs (fun _ hs=>lL hs [.m 14 63] (af (aa hs [.m 64 14] ?_)))))));cases za:(!(decide (nP op n 0 0)))
 ·
  exact lB 65 za (ah (cK (aa hs [.o 67 (qv (jU op n q 0 0)) 0 0 5] (lP 2 0 (qc (jU op n q 0 0)) hs (fun _ hs=>lL hs [.v 5 (iV 0)] (ac hs [(2,0,5)] (.tuple #[qv (jU op n q 0 0),iV 0]) (by rw[n3 oM,jK oM oM (DY aM)])))))))
 exact lB 65 za (ao (aa hs [.v 66 (.agg #[qF,uV 0,eS,uV 0,eS])] (lP 2 0 ([qF,uV 0,eS,uV 0,eS]) hs (fun _ hs=>lL hs [.v 5 (iV 6)] (ac hs [(2,0,5)] (.tuple #[.agg #[qF,uV 0,eS,uV 0,eS],iV 6]) (by rw[n3 oM,rx oM oM (Ef aM)];rfl))))))
theorem vM  (ok:ByteArray→Prop)(d:Nat)(LA:Option Addr)(cL:Nat)(L:List PLt)(hLl:L.length≤1000)(cc:Nat)(hc3:3002≤cc)(hcm:cc≤7000)(hLq:∀ i,LQ (cc-2) (L.getD i bN).q)(ih:∀ (p:PTm) (t:Tm) (w:World) (h:Hp),G w h→TmH d h p t→WfT ok d t→ba d t≤1000→SlO 6 pA bN h LA L→Tab h→Calls Tryz.prog 16 #[aF p,.slice LA L.length cL] w (Ret w h (fun v _=>v=.tuple #[qv (ay L d t).2,iV (ay L d t).1])))(op n:Int)(q:Rat)(s:ByteArray)(A:Option Addr)(c:Nat)(p1:PTm)(t1:Tm)(hw1:WfT ok d t1)(hg1:ba d t1≤1000)(hv1:LQ (cc*1000) (ay L d t1).2)(hop:1≤op∧op≤13∧op≠2)(hn : -12≤n∧n≤12)(hq:LQ 3000 q)(w:World)(h:Hp)(g:G w h)(hK:SlO 9 aK ar h A ([p1]:List PTm))(hp1:TmH d h p1 t1)(hL:SlO 6 pA bN h LA L)(tb:Tab h):CV 16 #[pW op n q s A 1 c,.slice LA L.length cL] w h (.tuple #[qv (ay L (d+1) (.mk op n q s ([t1]:List Tm))).2,iV (ay L (d+1) (.mk op n q s ([t1]:List Tm))).1]):=by
 have hs:=(((((sS g).aS hK).add (K:=fun h_=>TmH d h_ p1 t1) hp1).aS hL).aB tb);have hln:([p1]:List PTm).length=1:=rfl;refine go Tryz.func16 [(0,pW op n q s A 1 c),(1,qS LA L.length cL)] rfl (aE (lA 2 31 (pG op n q s A 1 c) hs (fun b1 w2 h3 hs=>lA 4 28 ([qF,uV 0,eS,uV 0,eS]) hs (fun b4 w5 h6 hs=>lL hs [.v 5 (iV 0)] (af (aa hs [.v 15 (pB b1),.o 16 (iV op) 1 0 1] ?_))))));have hb7:((op:Int) == (2:Int))=false:=cv oM;have phb7:=ai hb7;refine lB 17 hb7 (ah (cK (aE (lA 8 83 ([qF,uV 0,eS,uV 0,eS,qF,uV 0,eS,uV 0,eS]) hs (fun b8 w9 _ hs=>af (aa hs [.v 33 (qP b1 8),.o 34 (qS A 1 c) 2 8 1,.v 35 (iV 1),.v 36 (iV 0)] (bn (cU ?_))))))));refine cN (aa hs [.v 37 qT] (af (ce (cK (cQ (kZ (aa hs [.m 38 36] (lX 39 A 1 c 9 0 0 ((hs.f.r.2.1).ok oM) ?_))))))));refine lH 40 (aF (([p1]:List PTm).getD 0 ar)) hs ((hs.f.r.2.1).el 0 oM) (lA 10 31 ([iV 0,iV 0,qF,uV 0,eS,uV 0,eS,eS,sZ]) hs (fun zd _ _ hs=>lL hs [.m 9 38] (lP 0 0 (aK (([p1]:List PTm).getD 0 ar)) hs (fun _ hs=>aG (lL hs [.o 42 (aF (([p1]:List PTm).getD 0 ar)) 0 0 9,.m 43 1] (ag 44 hs (ih (([p1]:List PTm).getD 0 ar) t1 _ _ hs.g hs.f.r.1 hw1 hg1 hs.f.2.1 hs.f.1) (fun _ _ hs=>lL hs [.m 41 44,.v 45 (qv ((ay L d t1).2)),.v 46 (iV ((ay L d t1).1))] (lA 11 28 ([qF,uV 0,eS,uV 0,eS]) hs (fun ze _ _ hs=>lP 0 0 (qc ((ay L d t1).2)) hs (fun _ hs=>lL hs [.m 12 46] (af (aa hs [.m 47 12] ?_))))))))))));cases za:(((ay L d t1).1:Int) != (0:Int))
 ·
  have zc:=az za;refine lB 48 za (ah (cK (kQ (lL hs [.m 51 9,.o 52 (qv ((ay L d t1).2)) 0 0 5,.v 53 (pB b8)] (lP 2 0 (qc ((ay L d t1).2)) hs (fun _ hs=>lN (kQ (lL hs [.v 54 (iV 1),.m 36 54] (lD (CL.to [(1,qS LA L.length cL),(2,pB b1),(4,pB b4),(5,iV 0),(8,pB b8),(34,qS A 1 c),(35,iV 1),(36,iV 1),(37,qT),(38,iV 0),(39,.pointer (some ⟨(aB A),aO A+0*9,none⟩)),(40,aF (([p1]:List PTm).getD 0 ar)),(10,pB zd),(9,iV 0),(42,aF (([p1]:List PTm).getD 0 ar)),(43,qS LA L.length cL),(44,.tuple #[qv ((ay L d t1).2),iV ((ay L d t1).1)]),(41,.tuple #[qv ((ay L d t1).2),iV ((ay L d t1).1)]),(45,qv ((ay L d t1).2)),(46,iV ((ay L d t1).1)),(11,pB ze),(12,iV ((ay L d t1).1)),(47,iV ((ay L d t1).1)),(48,qF),(51,iV 0),(52,qv ((ay L d t1).2)),(53,pB b8),(54,iV 1)] ?_))))))))));replace hs:=hs.to [⟨ze,28,qc ((ay L d t1).2)⟩,⟨zd,31,aK (([p1]:List PTm).getD 0 ar)⟩,⟨b8,83,[.bool (aD ((ay L d t1).2).num),uV (lo (ab ((ay L d t1).2).num)),.string (hi (ab ((ay L d t1).2).num)),uV (lo (qd ((ay L d t1).2))),.string (hi (qd ((ay L d t1).2))),qF,uV 0,eS,uV 0,eS]⟩,⟨b4,28,[qF,uV 0,eS,uV 0,eS]⟩,⟨b1,31,pG op n q s A 1 c⟩] [];refine cN (aa hs [.v 37 qF] (af (cw (CG.exit ?_))))
  show CG _ _ _ _ _ _ _ _
  refine aa hs [.o 56 (pW op n q s A 1 c) 4 0 9,.v 57 (pB b8),.o 58 (qv ((ay L d t1).2)) 2 0 5,.v 59 (qP b8 5),.o 60 (qv 0) 2 5 5] (ag 61 hs (nM (⟨op,n,q,s,A,1,c⟩:PTm) ((ay L d t1).2) 0 (cc*1000) oM hv1 (kh oM) hq oM (by show 1≤op∧op≤13∧op≠2;omega) (by show op=8 → -12≤n∧n≤12;omega) _ _ hs.g hs.f.1) (fun _ _ hs=>lL hs [.m 55 61,.v 62 (qv (jU op n q ((ay L d t1).2) 0)),.v 63 (.bool (decide (nP op n ((ay L d t1).2) 0)))] (lA 13 28 ([qF,uV 0,eS,uV 0,eS]) hs (fun zf _ _ hs=>lP 0 0 (qc (jU op n q ((ay L d t1).2) 0)) hs (fun _ hs=>lL hs [.m 14 63] (af (aa hs [.m 64 14] ?_)))))));cases zb:(!(decide (nP op n ((ay L d t1).2) 0)))
  ·
   refine lB 65 zb (lN (bQ [(4,pB b4),(5,iV 0),(13,pB zf),(65,qF)] ?_));exact cw (cK (aa hs [.o 67 (qv (jU op n q ((ay L d t1).2) 0)) 0 0 5] (lP 4 0 (qc (jU op n q ((ay L d t1).2) 0)) hs (fun _ hs=>lL hs [.v 5 (iV 0)] (ac hs [(4,0,5)] (.tuple #[qv (jU op n q ((ay L d t1).2) 0),iV 0]) (by rw[j3 oM,jK oM oM (DY aM)]))))))
  refine lB 65 zb (lN (bQ [(4,pB b4),(5,iV 0),(13,pB zf),(65,qT)] ?_));exact ce (aa hs [.v 66 (.agg #[qF,uV 0,eS,uV 0,eS])] (lP 4 0 ([qF,uV 0,eS,uV 0,eS]) hs (fun _ hs=>lL hs [.v 5 (iV 6)] (ac hs [(4,0,5)] (.tuple #[.agg #[qF,uV 0,eS,uV 0,eS],iV 6]) (by rw[j3 oM,rx oM oM (Ef aM)];rfl)))))
 have zc:=aY za;exact lB 48 za (ao (aa hs [.v 49 (.agg #[qF,uV 0,eS,uV 0,eS]),.m 50 12] (lP 3 0 ([qF,uV 0,eS,uV 0,eS]) hs (fun _ hs=>lL hs [.m 5 50] (ac hs [(3,0,5)] (.tuple #[.agg #[qF,uV 0,eS,uV 0,eS],iV ((ay L d t1).1)]) (by rw[j3 oM,wD oM];rfl))))))
theorem tJ  (ok:ByteArray→Prop)(d:Nat)(LA:Option Addr)(cL:Nat)(L:List PLt)(hLl:L.length≤1000)(cc:Nat)(hc3:3002≤cc)(hcm:cc≤7000)(hLq:∀ i,LQ (cc-2) (L.getD i bN).q)(ih:∀ (p:PTm) (t:Tm) (w:World) (h:Hp),G w h→TmH d h p t→WfT ok d t→ba d t≤1000→SlO 6 pA bN h LA L→Tab h→Calls Tryz.prog 16 #[aF p,.slice LA L.length cL] w (Ret w h (fun v _=>v=.tuple #[qv (ay L d t).2,iV (ay L d t).1])))(op n:Int)(q:Rat)(s:ByteArray)(A:Option Addr)(c:Nat)(p1:PTm)(t1:Tm)(hw1:WfT ok d t1)(hg1:ba d t1≤1000)(hv1:LQ (cc*1000) (ay L d t1).2)(p2:PTm)(t2:Tm)(hw2:WfT ok d t2)(hg2:ba d t2≤1000)(hv2:LQ (cc*1000) (ay L d t2).2)(hop:1≤op∧op≤13∧op≠2)(hn : -12≤n∧n≤12)(hq:LQ 3000 q)(w:World)(h:Hp)(g:G w h)(hK:SlO 9 aK ar h A ([p1,p2]:List PTm))(hp1:TmH d h p1 t1)(hp2:TmH d h p2 t2)(hL:SlO 6 pA bN h LA L)(tb:Tab h):CV 16 #[pW op n q s A 2 c,.slice LA L.length cL] w h (.tuple #[qv (ay L (d+1) (.mk op n q s ([t1,t2]:List Tm))).2,iV (ay L (d+1) (.mk op n q s ([t1,t2]:List Tm))).1]):=by
 have hs:=((((((sS g).aS hK).add (K:=fun h_=>TmH d h_ p1 t1) hp1).add (K:=fun h_=>TmH d h_ p2 t2) hp2).aS hL).aB tb);have hln:([p1,p2]:List PTm).length=2:=rfl;refine go Tryz.func16 [(0,pW op n q s A 2 c),(1,qS LA L.length cL)] rfl (aE (lA 2 31 (pG op n q s A 2 c) hs (fun b1 w2 h3 hs=>lA 4 28 ([qF,uV 0,eS,uV 0,eS]) hs (fun b4 w5 h6 hs=>lL hs [.v 5 (iV 0)] (af (aa hs [.v 15 (pB b1),.o 16 (iV op) 1 0 1] ?_))))));have hb7:((op:Int) == (2:Int))=false:=cv oM;have phb7:=ai hb7;refine lB 17 hb7 (ah (cK (aE (lA 8 83 ([qF,uV 0,eS,uV 0,eS,qF,uV 0,eS,uV 0,eS]) hs (fun b8 w9 _ hs=>af (aa hs [.v 33 (qP b1 8),.o 34 (qS A 2 c) 2 8 1,.v 35 (iV 2),.v 36 (iV 0)] (bn (cU ?_))))))));refine cN (aa hs [.v 37 qT] (af (ce (cK (cQ (kZ (aa hs [.m 38 36] (lX 39 A 2 c 9 0 0 ((hs.f.q.1).ok oM) ?_))))))));refine lH 40 (aF (([p1,p2]:List PTm).getD 0 ar)) hs ((hs.f.q.1).el 0 oM) (lA 10 31 ([iV 0,iV 0,qF,uV 0,eS,uV 0,eS,eS,sZ]) hs (fun zc _ _ hs=>lL hs [.m 9 38] (lP 0 0 (aK (([p1,p2]:List PTm).getD 0 ar)) hs (fun _ hs=>aG (lL hs [.o 42 (aF (([p1,p2]:List PTm).getD 0 ar)) 0 0 9,.m 43 1] (ag 44 hs (ih (([p1,p2]:List PTm).getD 0 ar) t1 _ _ hs.g hs.f.r.2.1 hw1 hg1 hs.f.2.1 hs.f.1) (fun _ _ hs=>lL hs [.m 41 44,.v 45 (qv ((ay L d t1).2)),.v 46 (iV ((ay L d t1).1))] (lA 11 28 ([qF,uV 0,eS,uV 0,eS]) hs (fun zd _ _ hs=>lP 0 0 (qc ((ay L d t1).2)) hs (fun _ hs=>lL hs [.m 12 46] (af (aa hs [.m 47 12] ?_))))))))))));cases za:(((ay L d t1).1:Int) != (0:Int))
 ·
  have zf:=az za;refine lB 48 za (ah (cK (kQ (lL hs [.m 51 9,.o 52 (qv ((ay L d t1).2)) 0 0 5,.v 53 (pB b8)] (lP 2 0 (qc ((ay L d t1).2)) hs (fun _ hs=>lN (kQ (lL hs [.v 54 (iV 1),.m 36 54] (lD (CL.to [(1,qS LA L.length cL),(2,pB b1),(4,pB b4),(5,iV 0),(8,pB b8),(34,qS A 2 c),(35,iV 2),(36,iV 1),(37,qT),(38,iV 0),(39,.pointer (some ⟨(aB A),aO A+0*9,none⟩)),(40,aF (([p1,p2]:List PTm).getD 0 ar)),(10,pB zc),(9,iV 0),(42,aF (([p1,p2]:List PTm).getD 0 ar)),(43,qS LA L.length cL),(44,.tuple #[qv ((ay L d t1).2),iV ((ay L d t1).1)]),(41,.tuple #[qv ((ay L d t1).2),iV ((ay L d t1).1)]),(45,qv ((ay L d t1).2)),(46,iV ((ay L d t1).1)),(11,pB zd),(12,iV ((ay L d t1).1)),(47,iV ((ay L d t1).1)),(48,qF),(51,iV 0),(52,qv ((ay L d t1).2)),(53,pB b8),(54,iV 1)] ?_))))))))));replace hs:=hs.to [⟨zd,28,qc ((ay L d t1).2)⟩,⟨zc,31,aK (([p1,p2]:List PTm).getD 0 ar)⟩,⟨b8,83,[.bool (aD ((ay L d t1).2).num),uV (lo (ab ((ay L d t1).2).num)),.string (hi (ab ((ay L d t1).2).num)),uV (lo (qd ((ay L d t1).2))),.string (hi (qd ((ay L d t1).2))),qF,uV 0,eS,uV 0,eS]⟩,⟨b4,28,[qF,uV 0,eS,uV 0,eS]⟩,⟨b1,31,pG op n q s A 2 c⟩] [];refine cN (aa hs [.v 37 qT] (af (ce (cK (cQ (kZ (aa hs [.m 38 36] (lX 39 A 2 c 9 1 1 ((hs.f.q.1).ok oM) ?_))))))));refine lH 40 (aF (([p1,p2]:List PTm).getD 1 ar)) hs ((hs.f.q.1).el 1 oM) (lA 10 31 ([iV 0,iV 0,qF,uV 0,eS,uV 0,eS,eS,sZ]) hs (fun zi _ _ hs=>lL hs [.m 9 38] (lP 0 0 (aK (([p1,p2]:List PTm).getD 1 ar)) hs (fun _ hs=>aG (lL hs [.o 42 (aF (([p1,p2]:List PTm).getD 1 ar)) 0 0 9,.m 43 1] (ag 44 hs (ih (([p1,p2]:List PTm).getD 1 ar) t2 _ _ hs.g hs.f.r.1 hw2 hg2 hs.f.2.1 hs.f.1) (fun _ _ hs=>lL hs [.m 41 44,.v 45 (qv ((ay L d t2).2)),.v 46 (iV ((ay L d t2).1))] (lA 11 28 ([qF,uV 0,eS,uV 0,eS]) hs (fun zj _ _ hs=>lP 0 0 (qc ((ay L d t2).2)) hs (fun _ hs=>lL hs [.m 12 46] (af (aa hs [.m 47 12] ?_))))))))))));cases zb:(((ay L d t2).1:Int) != (0:Int))
  ·
   have zg:=az zb;refine lB 48 zb (ah (cK (kQ (lL hs [.m 51 9,.o 52 (qv ((ay L d t2).2)) 0 0 5,.v 53 (qP b8 5)] (lP 4 5 (qc ((ay L d t2).2)) hs (fun _ hs=>lN (kQ (lL hs [.v 54 (iV 2),.m 36 54] (lD (CL.to [(1,qS LA L.length cL),(2,pB b1),(4,pB b4),(5,iV 0),(8,pB b8),(34,qS A 2 c),(35,iV 2),(36,iV 2),(37,qT),(38,iV 1),(39,.pointer (some ⟨(aB A),aO A+1*9,none⟩)),(40,aF (([p1,p2]:List PTm).getD 1 ar)),(10,pB zi),(9,iV 1),(42,aF (([p1,p2]:List PTm).getD 1 ar)),(43,qS LA L.length cL),(44,.tuple #[qv ((ay L d t2).2),iV ((ay L d t2).1)]),(41,.tuple #[qv ((ay L d t2).2),iV ((ay L d t2).1)]),(45,qv ((ay L d t2).2)),(46,iV ((ay L d t2).1)),(11,pB zj),(12,iV ((ay L d t2).1)),(47,iV ((ay L d t2).1)),(48,qF),(51,iV 1),(52,qv ((ay L d t2).2)),(53,qP b8 5),(54,iV 2)] ?_))))))))));replace hs:=hs.to [⟨zj,28,qc ((ay L d t2).2)⟩,⟨zi,31,aK (([p1,p2]:List PTm).getD 1 ar)⟩,⟨zd,28,qc ((ay L d t1).2)⟩,⟨zc,31,aK (([p1,p2]:List PTm).getD 0 ar)⟩,⟨b8,83,[.bool (aD ((ay L d t1).2).num),uV (lo (ab ((ay L d t1).2).num)),.string (hi (ab ((ay L d t1).2).num)),uV (lo (qd ((ay L d t1).2))),.string (hi (qd ((ay L d t1).2))),.bool (aD ((ay L d t2).2).num),uV (lo (ab ((ay L d t2).2).num)),.string (hi (ab ((ay L d t2).2).num)),uV (lo (qd ((ay L d t2).2))),.string (hi (qd ((ay L d t2).2)))]⟩,⟨b4,28,[qF,uV 0,eS,uV 0,eS]⟩,⟨b1,31,pG op n q s A 2 c⟩] [];refine cN (aa hs [.v 37 qF] (af (cw (CG.exit ?_))))
   show CG _ _ _ _ _ _ _ _
   refine aa hs [.o 56 (pW op n q s A 2 c) 6 0 9,.v 57 (pB b8),.o 58 (qv ((ay L d t1).2)) 4 0 5,.v 59 (qP b8 5),.o 60 (qv ((ay L d t2).2)) 4 5 5] (ag 61 hs (nM (⟨op,n,q,s,A,2,c⟩:PTm) ((ay L d t1).2) ((ay L d t2).2) (cc*1000) oM hv1 hv2 hq oM (by show 1≤op∧op≤13∧op≠2;omega) (by show op=8 → -12≤n∧n≤12;omega) _ _ hs.g hs.f.1) (fun _ _ hs=>lL hs [.m 55 61,.v 62 (qv (jU op n q ((ay L d t1).2) ((ay L d t2).2))),.v 63 (.bool (decide (nP op n ((ay L d t1).2) ((ay L d t2).2))))] (lA 13 28 ([qF,uV 0,eS,uV 0,eS]) hs (fun zk _ _ hs=>lP 0 0 (qc (jU op n q ((ay L d t1).2) ((ay L d t2).2))) hs (fun _ hs=>lL hs [.m 14 63] (af (aa hs [.m 64 14] ?_)))))));cases ze:(!(decide (nP op n ((ay L d t1).2) ((ay L d t2).2))))
   ·
    refine lB 65 ze (lN (bQ [(4,pB b4),(5,iV 0),(13,pB zk),(65,qF)] ?_));exact cw (cK (aa hs [.o 67 (qv (jU op n q ((ay L d t1).2) ((ay L d t2).2))) 0 0 5] (lP 6 0 (qc (jU op n q ((ay L d t1).2) ((ay L d t2).2))) hs (fun _ hs=>lL hs [.v 5 (iV 0)] (ac hs [(6,0,5)] (.tuple #[qv (jU op n q ((ay L d t1).2) ((ay L d t2).2)),iV 0]) (by rw[ko oM,jK oM oM (DY aM)]))))))
   refine lB 65 ze (lN (bQ [(4,pB b4),(5,iV 0),(13,pB zk),(65,qT)] ?_));exact ce (aa hs [.v 66 (.agg #[qF,uV 0,eS,uV 0,eS])] (lP 6 0 ([qF,uV 0,eS,uV 0,eS]) hs (fun _ hs=>lL hs [.v 5 (iV 6)] (ac hs [(6,0,5)] (.tuple #[.agg #[qF,uV 0,eS,uV 0,eS],iV 6]) (by rw[ko oM,rx oM oM (Ef aM)];rfl)))))
  have zg:=aY zb;exact lB 48 zb (ao (aa hs [.v 49 (.agg #[qF,uV 0,eS,uV 0,eS]),.m 50 12] (lP 5 0 ([qF,uV 0,eS,uV 0,eS]) hs (fun _ hs=>lL hs [.m 5 50] (ac hs [(5,0,5)] (.tuple #[.agg #[qF,uV 0,eS,uV 0,eS],iV ((ay L d t2).1)]) (by rw[ko oM,Ci oM oM];rfl))))))
 have zf:=aY za;exact lB 48 za (ao (aa hs [.v 49 (.agg #[qF,uV 0,eS,uV 0,eS]),.m 50 12] (lP 3 0 ([qF,uV 0,eS,uV 0,eS]) hs (fun _ hs=>lL hs [.m 5 50] (ac hs [(3,0,5)] (.tuple #[.agg #[qF,uV 0,eS,uV 0,eS],iV ((ay L d t1).1)]) (by rw[ko oM,wD oM];rfl))))))
theorem tg (ok:ByteArray→Prop)(LA:Option Addr)(cL:Nat)(L:List PLt)(hLl:L.length≤1000)(cc:Nat)(hc3:3002≤cc)(hcm:cc≤7000)(hLq:∀ i,LQ (cc-2) (L.getD i bN).q):∀ (d:Nat) (p:PTm) (t:Tm) (w:World) (h:Hp),G w h→TmH d h p t→WfT ok d t→ba d t≤1000→SlO 6 pA bN h LA L→Tab h→Calls Tryz.prog 16 #[aF p,.slice LA L.length cL] w (Ret w h (fun v _=>v=.tuple #[qv (ay L d t).2,iV (ay L d t).1]))
  | 0,_,_,_,_,_,x,_,_,_,_=>x.elim
  | d + 1,p,t,w,h,g,x,wf,hw,hL,tb=>by
    obtain ⟨op,n,q,s,A,c,ps,ks,rfl,rfl,hc,hK,hKs⟩:=x.open;obtain ⟨w1,w2,w3,w4,w5,w6,w7,w8,w9⟩:=wf;replace w1:eF op=(ks.length:Nat):=w1;replace w9:∀ i,i<ks.length→WfT ok d (ks.getD i ca):=w9;have hac:=aT op;have ih:=fun p t w h=>tg ok LA cL L hLl cc hc3 hcm hLq d p t w h
    by_cases o2:op=2
    · subst o2;exact vR LA cL L d hLl cc hc3 hcm hLq n q s A c ps ks w h g hK hL
    · rcases jt w1 with rfl|⟨t1,rfl⟩|⟨t1,t2,rfl⟩
      · have e0:ps=[]:=List.eq_nil_of_length_eq_zero hKs.len
        subst e0
        simp only[List.length_nil] at w1
        exact uu ok d LA cL L hLl cc hc3 hcm hLq ih op n q s A c oM ⟨w7,w8⟩ w3 w h g hK hL tb
      · obtain ⟨p1,rfl⟩:=List.length_eq_one_iff.1 (show ps.length=1 from hKs.len)
        simp only[List.length_cons,List.length_nil] at w1
        have f1:WfT ok d t1:=w9 0 (Nat.succ_pos _);have g1:ba d t1≤1000:=mw hw;exact vM ok d LA cL L hLl cc hc3 hcm hLq ih op n q s A c p1 t1 f1 g1 (nL hc3 hLq f1 g1) oM ⟨w7,w8⟩ w3 w h g hK (hKs.at_ 0 (Nat.succ_pos _)) hL tb
      · obtain ⟨p1,p2,rfl⟩:=n8 (show ps.length=2 from hKs.len)
        simp only[List.length_cons,List.length_nil] at w1
        have f1:WfT ok d t1:=w9 0 (Nat.succ_pos _);have f2:WfT ok d t2:=w9 1 (by show 1<2;decide);obtain ⟨g1,g2⟩:=lh hw;exact tJ ok d LA cL L hLl cc hc3 hcm hLq ih op n q s A c p1 t1 f1 g1 (nL hc3 hLq f1 g1) p2 t2 f2 g2 (nL hc3 hLq f2 g2) oM ⟨w7,w8⟩ w3 w h g hK (hKs.at_ 0 (Nat.succ_pos _)) (hKs.at_ 1 (by show 1<2;decide)) hL tb
theorem s0 (isb:ByteArray→Bool)(sm:ByteArray→Prop)(pF:∀ s,sm s→∀ (w:World) (h:Hp),G w h→Calls Tryz.prog 11 #[.string s] w (Ret w h (fun v _=>∃ b,v=.bool b∧b=isb s)))(LA:Option Addr)(cL:Nat)(L:List PLt)(hLl:L.length≤1000)(cc:Nat)(hc3:3002≤cc)(hcm:cc≤7000)(hLq:∀ i,LQ (cc-2) (L.getD i bN).q)(d:Nat)(p:PTm)(t:Tm)(hd:d≤24)(w:World)(h:Hp)(g:G w h)(hT:TmH d h p t)(hS:lr sm d t)(hL:SlO 6 pA bN h LA L)(tb:Tab h):CR 5 #[aF p,.slice LA L.length cL] w h (fun v _=>∃ (e:Int) (x:Rat),v=.tuple #[qv x,iV e]∧EvR (fun s=>isb s=true) L d t e x):=by
 have hs:=((((sS g).add (K:=fun h_=>TmH d h_ p t) hT).aS hL).aB tb);refine go Tryz.func5 [(0,aF p),(1,qS LA L.length cL)] rfl (aE (lA 2 31 (aK p) hs (fun b1 w2 h3 hs=>lA 4 28 ([qF,uV 0,eS,uV 0,eS]) hs (fun b4 w5 h6 hs=>lL hs [.v 5 (iV 0)] (af (aa hs [.o 6 (aF p) 1 0 9] (lC 7 hs (oQ isb sm pF d p t hd _ _ hs.g hs.f.r.1 hS) ?_)))))));rintro _ w7 h8 hs ⟨ec,rfl,hec⟩;cases hb9:((ec:Int) != (0:Int))
 ·
  have phb9:=az hb9;exact lB 8 hb9 (ah (cK (aa hs [.o 10 (aF p) 1 0 9,.m 11 1] (ag 12 hs (tg (fun s=>isb s=true) LA cL L hLl cc hc3 hcm hLq d p t _ _ hs.g hs.f.r.1 (f8 hec oM).1 (f8 hec oM).2 hs.f.2.1 hs.f.1) (fun _ _ hs=>lL hs [.v 13 (qv ((ay L d t).2)),.v 14 (iV ((ay L d t).1))] (lP 0 0 (qc ((ay L d t).2)) hs (fun _ hs=>lL hs [.m 5 14] (ac hs [(0,0,5)] (.tuple #[qv ((ay L d t).2),iV ((ay L d t).1)]) (⟨_,_,rfl,.inl ⟨(f8 hec oM).1,(f8 hec oM).2,rfl,rfl⟩⟩)))))))))
 have phb9:=aY hb9;exact lB 8 hb9 (ao (aa hs [.v 9 (.agg #[qF,uV 0,eS,uV 0,eS])] (lP 0 0 ([qF,uV 0,eS,uV 0,eS]) hs (fun _ hs=>lL hs [.v 5 (iV 1)] (ac hs [(0,0,5)] (.tuple #[.agg #[qF,uV 0,eS,uV 0,eS],iV 1]) (⟨_,_,rfl,.inr ⟨ry hec oM,rfl,rfl⟩⟩))))))
theorem vO  (ok:ByteArray→Prop)(d:Nat)(ih:∀ (p:PTm) (t:Tm) (w:World) (h:Hp),G w h→TmH d h p t→WfT ok d t →  Calls Tryz.prog 18 #[aF p] w (Ret w h (fun v h1=>∃ p2,v=aF p2∧TmH d h1 p2 t)))(op n:Int)(q:Rat)(s:ByteArray)(A:Option Addr)(c:Nat)(ps:List PTm)(ks:List Tm)(hc:ps.length≤c)(hlp:ps.length≤2)(hari:eF op=(ks.length:Nat))(hq0:op≠1→q=0)(hq:LQ 3000 q)(hok:op=2→ok s)(hs0:op≠2→s=⟨#[]⟩)(hn0:op≠8→n=0)(hn1 : -12≤n)(hn2:n≤12)(hW:∀ i,i<ks.length→WfT ok d (ks.getD i ca))(w:World)(h:Hp)(g:G w h)(hK:SlO 9 aK ar h A ps)(hKs:Tms d h ps ks):CR 18 #[pW op n q s A ps.length c] w h (fun v h1=>∃ p2,v=aF p2∧TmH (d+1) h1 p2 (.mk op n q s ks)):=by
 have hs:=(((sS g).aS hK).add (K:=fun h_=>Tms d h_ ps ks) hKs);have hln:=(hs.f.1).len;refine go Tryz.func18 [(0,pW op n q s A ps.length c)] rfl (aE (lA 1 31 (pG op n q s A ps.length c) hs (fun b1 w2 h3 hs=>lA 2 31 ([iV 0,iV 0,qF,uV 0,eS,uV 0,eS,eS,sZ]) hs (fun b4 w5 h6 hs=>af (aa hs [.v 6 (qP b1 8),.o 7 (qS A ps.length c) 1 8 1,.v 8 (nV ps.length)] ?_)))));cases hb7:((ps.length:Int) == (0:Int))
 ·
  have phb7:=ai hb7;refine lB 9 hb7 (ah (cK (aa hs [.v 12 (qP b1 8),.o 13 (qS A ps.length c) 1 8 1,.v 14 (nV ps.length)] (lK 15 31 ps.length 9 112 (.agg #[iV 0,iV 0,qF,uV 0,eS,uV 0,eS,eS,sZ]) aK ar hs (fun b8 w9 zd hs=>?_)))));have hl11:(List.replicate ps.length ar).length=ps.length:=by simp
  refine lL hs [.m 3 15] (af (aa hs [.v 16 (qP b1 8),.o 17 (qS A ps.length c) 2 8 1,.v 18 (nV ps.length),.v 19 (iV 0)] (bn ?_)));replace hs:=hs.add (K:=fun h_=>TmsU d h_ 0 (List.replicate ps.length ar) ks) ((fun i hi=>absurd hi (Nat.not_lt_zero i)));refine bQ _ (CG.loop (fun μ_ Γ w_=>∃ (k:Nat) (L:List PTm) (h_:Hp),μ_=ps.length-k∧Γ=[(1,pB b1),(2,pB b4),(3,qS (sB b8) ps.length ps.length),(17,qS A ps.length c),(18,nV ps.length),(19,nV k)]∧SS w h w_ h_ [⟨b8,31,(L).flatMap aK⟩,⟨b4,31,[iV 0,iV 0,qF,uV 0,eS,uV 0,eS,eS,sZ]⟩,⟨b1,31,pG op n q s A ps.length c⟩] [] [fun h_=>TmsU d h_ k L ks,fun h_=>Tms d h_ ps ks,fun h_=>SlO 9 aK ar h_ A ps]∧k≤ps.length∧L.length=ps.length) _ ⟨0,List.replicate ps.length ar,zd,rfl,rfl,hs.to _ _,Nat.zero_le _,(by simp)⟩ ?_);rintro _ _ _ ⟨k,L,_,hm14,rfl,hs,hk,hLl⟩;refine aE ?_;cases za:(decide ((k:Int)<(ps.length:Int)))
  ·
   have zb:=oF za;refine lB 20 za (af (cw (CG.exit ?_)))
   show CG _ _ _ _ _ _ _ _
   refine aE ?_;have hkn:k=ps.length:=by omega
   obtain ⟨_,hs,sg17,lo18,bc19⟩:=hs.pub 0;replace hs:=(hs.to [⟨b4,31,[iV 0,iV 0,qF,uV 0,eS,uV 0,eS,eS,sZ]⟩,⟨b1,31,pG op n q s A ps.length c⟩] []).aS (SlO.of_flat (sz:=9) (f:=aK) (d:=ar) (b:=b8) (o:=0) (l:=L) (fun _=>rfl) sg17);exact lL hs [.m 30 3,.v 31 (qP b1 8)] (lP 1 8 ([qS (sB b8) ps.length ps.length]) hs (fun _ hs=>aG (lL hs [.o 32 (pW op n q s (sB b8) ps.length ps.length) 1 0 9] (lP 0 0 (pG op n q s (sB b8) ps.length ps.length) hs (fun _ hs=>ac hs [(0,0,9)] (pW op n q s (sB b8) ps.length ps.length) (⟨⟨op,n,q,s,sB b8,ps.length,ps.length⟩,rfl,by have h_:=TmH.mk (op:=op) (n:=n) (q:=q) (s:=s) (c:=L.length) (Tms.of_u oM oM hs.f.2.1) (nR _) (hs.f.1);rw[hLl] at h_;exact h_⟩))))))
  have zb:=oT za;refine lB 20 za (af (ce (cK (cQ (kZ (aa hs [.m 21 19] (lX 22 A ps.length c 9 (k:Nat) k ((hs.f.r.1).ok oM) ?_)))))));refine lH 23 (aF (ps.getD k ar)) hs ((hs.f.r.1).el k oM) (lA 5 31 ([iV 0,iV 0,qF,uV 0,eS,uV 0,eS,eS,sZ]) hs (fun ze _ _ hs=>lL hs [.m 4 21] (lP 0 0 (aK (ps.getD k ar)) hs (fun _ hs=>lN (kQ (lL hs [.m 24 3,.m 25 4,.o 26 (aF (ps.getD k ar)) 0 0 9] (lC 27 hs (ih (ps.getD k ar) (ks.getD k ca) _ _ hs.g ((hs.f.2.1).at_ k oM) (hW k oM)) ?_)))))));rintro _ _ zf hs ⟨pk,rfl,hpk⟩;replace hs:=(hs.add (K:=fun h_=>TmH d h_ pk (ks.getD k ca)) hpk);refine lX 28 (sB b8) ps.length ps.length 9 (k:Nat) k rfl (lW 1 L aK 9 k pk hs oM (fun _ hs=>?_));have zc:((L).set k pk).length=ps.length:=by rw[List.length_set];exact hLl
  replace hs:=hs.to [⟨ze,31,aK (ps.getD k ar)⟩,⟨b8,31,((L).set k pk).flatMap aK⟩,⟨b4,31,[iV 0,iV 0,qF,uV 0,eS,uV 0,eS,eS,sZ]⟩,⟨b1,31,pG op n q s A ps.length c⟩] [];refine lN (kQ (bH 29 ((k:Nat)+1) (k+1) ?_));refine lL hs [.m 19 29] (lD ?_);intro a_ ka;replace hs:=(hs.tl.tl.add (K:=fun h_=>TmsU d h_ (k+1) ((L).set k pk) ks) ((hs.f.2.1).set oM hs.f.1));replace hs:=hs.drop 1 0;refine ⟨_,_,?_,⟨k+1,(L).set k pk,zf,rfl,rfl,hs.to _ _,oM,zc⟩,ka.to _ kR⟩
  omega
 have phb7:=eq_of_beq hb7;exact lB 9 hb7 (ao (aa hs [.v 10 (qP b1 8)] (lP 1 8 ([sZ]) hs (fun _ hs=>aG (lL hs [.o 11 (.agg #[iV op,iV n,.bool (aD q.num),uV (lo (ab q.num)),.string (hi (ab q.num)),uV (lo (qd q)),.string (hi (qd q)),.string s,sZ]) 1 0 9] (lP 0 0 ([iV op,iV n,.bool (aD q.num),uV (lo (ab q.num)),.string (hi (ab q.num)),uV (lo (qd q)),.string (hi (qd q)),.string s,sZ]) hs (fun _ hs=>ac hs [(0,0,9)] (.agg #[iV op,iV n,.bool (aD q.num),uV (lo (ab q.num)),.string (hi (ab q.num)),uV (lo (qd q)),.string (hi (qd q)),.string s,sZ]) (⟨⟨op,n,q,s,none,0,0⟩,rfl,by obtain rfl:ks=[]:=List.eq_nil_of_length_eq_zero oM;exact TmH.mk (op:=op) (n:=n) (q:=q) (s:=s) (c:=0) Tms.nil (nR _) SlO.nil⟩))))))))
theorem rv (ok:ByteArray→Prop):∀ (d:Nat) (p:PTm) (t:Tm) (w:World) (h:Hp),G w h→TmH d h p t→WfT ok d t →  Calls Tryz.prog 18 #[aF p] w (Ret w h (fun v h1=>∃ p2,v=aF p2∧TmH d h1 p2 t))
  | 0,_,_,_,_,_,x,_=>x.elim
  | d + 1,p,t,w,h,g,x,wf=>by
    obtain ⟨op,n,q,s,A,c,ps,ks,rfl,rfl,hc,hK,hKs⟩:=x.open;obtain ⟨w1,w2,w3,w4,w5,w6,w7,w8,w9⟩:=wf
    have hl2:ps.length≤2:=by
      have e1:eF op=ks.length:=w1;have:=aT op;have:=hKs.len
      omega
    exact vO ok d (fun p t w h=>rv ok d p t w h) op n q s A c ps ks hc hl2 w1 w2 w3 w4 w5 w6 w7 w8 w9 w h g hK hKs
instance (s:ByteArray) (ns:List ByteArray):Decidable (s∈ns):=@List.instDecidableMemOfLawfulBEq ByteArray instBEqOfDecidableEq inferInstance s ns
structure LaidO (pl:ByteArray→Int) (d:Nat) (h:Hp) (rl:List RSt) (ss:List OSt) (l:List Stp):Prop where
  rs:RSs h rl ss
  mp:ss.map OSt.stp=l
  sm:DN ss
section
variable {pl:ByteArray→Int} {d k:Nat} {l:List Stp} {ks:List Tm} {za zb:Int}
end
section
variable {nm:Int→ByteArray} {l:List Stp} {inp:Int} {h:Hp} {k:Nat} {dp:Nat→Nat}
variable (hdp:DpS dp l) (hF:∀ k,k<l.length→gg inp k (l.getD k dl))
include hdp hF
end
section ro
variable {w0:World} {h0:Hp} {w:World} {h:Hp} {B:List Bx} {R:List Rw} {F:List (Hp→Prop)}
end ro
section
variable {okb amb:Nat→Bool} {n i:Nat}
end
theorem sa:∀ s,i8 s→∀ (w:World) (h:Hp),G w h→Calls Tryz.prog 11 #[.string s] w (Ret w h (fun v _=>∃ b,v=.bool b∧b=bg s)):=fun s hs w h g =>
 (pn s (by unfold i8 at hs;omega) w h g).mono fun e w' ⟨v,h',e1,u,e2⟩=>⟨v,h',e1,u,_,e2,rfl⟩
structure K7T (d:Nat) (h:Hp) (p:PTm) (t:Tm):Prop where
  get:p.op=7→p.m=1∧∃ pk,SlO 9 aK ar h p.A [pk]∧TmH d h pk (t.ks.getD 0 ca)
theorem K7T.gw {d:Nat}{h h':Hp}{p:PTm}{t:Tm}(x:K7T d h p t)(u:Gw h h'):K7T d h' p t:=⟨fun e=>by
 obtain ⟨h1,pk,h2,h3⟩:=x.get e;exact ⟨h1,pk,h2.gw u,h3.gw u⟩⟩
theorem Dh {ok:ByteArray→Prop}{d:Nat}{h:Hp}{p:PTm}{t:Tm}(ho:p.op=t.op)(hw:WfT ok d t)(x:TmH d h p t):K7T d h p t:=⟨fun e=>by
  cases d with
  | zero=>exact x.elim
  | succ d =>
    obtain ⟨g1,g2,g3,g4,g5,g6,psk,g7,g8,g9⟩:=x
    have hk1:t.ks.length=1:=by
      have a1:eF t.op=(t.ks.length:Nat):=hw.1;have a2:=aT t.op
      omega
    obtain ⟨pk,rfl⟩:=List.length_eq_one_iff.1 (g7.trans hk1);exact ⟨g5.trans hk1,pk,g8,TmH.mono (g9 0 oM) (Nat.le_succ d)⟩⟩
theorem n7 {c d:Nat}{ok:ByteArray→Prop}{op n:Int}{q:Rat}{s:ByteArray}{t1:Tm}{o1 e1:Int}{x1:Rat}{b:Bool}(h2:op≠2)(w1:WfQ c ok d t1)(ho1:o1=t1.op)(h1:o1=1)(he:ay [] (d+1) (.mk op n q s [t1])=(e1,x1))(hb:(e1 == 0)=b):(b=true↔d5 (.mk op n q s [t1]))∧(b=true→x1=(ay [] 2 (.mk op n q s [t1])).2):=by
 have o1':t1.op=1:=ho1▸h1;rw[jD h2 w1 o1'] at he
 have e2:ay [] 2 (.mk op n q s [t1])=(e1,x1):=by rw[jD h2 (w1.leaf1 o1') o1'];exact he
 refine ⟨⟨fun h=>⟨⟨Nat.succ_ne_zero _,o1',fun h_=>absurd h_ (by show ¬1<1;decide)⟩,?_⟩,fun h=>?_⟩,fun _=>by rw[e2]⟩
 ·rw[e2];rw[h] at hb;exact eq_of_beq hb
 ·have:=h.2;rw[e2] at this;rw[←hb];exact jR this
theorem oP {c d:Nat}{ok:ByteArray→Prop}{op n:Int}{q:Rat}{s:ByteArray}{t1 t2:Tm}{o1 o2 e1:Int}{x1:Rat}{b:Bool}(h2:op≠2)(w1:WfQ c ok d t1)(w2:WfQ c ok d t2)(ho1:o1=t1.op)(h1:o1=1)(ho2:o2=t2.op)(h3:o2=1)(he:ay [] (d+1) (.mk op n q s [t1,t2])=(e1,x1))(hb:(e1 == 0)=b):(b=true↔d5 (.mk op n q s [t1,t2]))∧(b=true→x1=(ay [] 2 (.mk op n q s [t1,t2])).2):=by
 have o1':t1.op=1:=ho1▸h1;have o2':t2.op=1:=ho2▸h3;rw[hJ h2 w1 o1' w2 o2'] at he
 have e2:ay [] 2 (.mk op n q s [t1,t2])=(e1,x1):=by rw[hJ h2 (w1.leaf1 o1') o1' (w2.leaf1 o2') o2'];exact he
 refine ⟨⟨fun h=>⟨⟨Nat.succ_ne_zero _,o1',fun _=>o2'⟩,?_⟩,fun h=>?_⟩,fun _=>by rw[e2]⟩
 ·rw[e2];rw[h] at hb;exact eq_of_beq hb
 ·have:=h.2;rw[e2] at this;rw[←hb];exact jR this
theorem kz {d:Nat}{t:Tm}(w:WfT (fun s=>bg s=true) d t):lr i8 d t:=w.sm (sm:=i8) (fun _ h=>ir h) pY
theorem xR {ok:ByteArray→Prop}{d:Nat}{t:Tm}(w:WfT ok d t):LQ 3000 t.q:=by
 cases d with
 | zero=>exact w.elim
 | succ d=>exact w.2.2.1
theorem nF {d:Nat}{h:Hp}{p:PTm}{t:Tm}(x:TmH d h p t):p.op=t.op:=by
 cases d with
 | zero=>exact x.elim
 | succ d=>exact x.1
theorem rc {d:Nat}{h:Hp}{p:PTm}{t:Tm}(x:TmH d h p t):p.q=t.q:=by
 cases d with
 | zero=>exact x.elim
 | succ d=>exact x.2.2.1
theorem xj {p:PTm}{t:Tm}{z:Rat}(ho:p.op=t.op)(hq:p.q=t.q):(p.op=1→(di p.q z == 0)=decide (eA t z))∧(p.op≠1→decide (eA t z)=false):=by
 refine ⟨fun h=>?_,fun h=>decide_eq_false (fun x=>h (ho.trans x.1))⟩
 by_cases e:t.q=z
 ·rw[decide_eq_true (show eA t z from ⟨ho.symm.trans h,e⟩),hq,e];exact jR (oU.2 rfl)
 ·rw[decide_eq_false (fun x=>e x.2),hq];exact cv (fun x=>e (oU.1 x))
theorem kO (p:PTm)(t:Tm)(z:Int)(hz : -1000≤z∧z≤1000){d:Nat}(ho:p.op=t.op)(hv:p.q=t.q)(hw:WfT (fun s=>bg s=true) d t)(w:World)(h:Hp)(g:G w h):CV 67 #[aF p,iV z] w h (.bool (decide (eA t ((z:Int):Rat)))) :=
 CN p z _ hz.1 hz.2 (by rw[hv];exact (xR hw).mono kD) (xj ho hv).1 (xj ho hv).2 w h g
theorem uO {ok:ByteArray→Prop}{d:Nat}{t:Tm}(w:WfT ok d t):WfT ok (d+1) (.mk 7 0 0 ⟨#[]⟩ [t]):=⟨rfl,fun _=>rfl,kh kD,fun h=>absurd (show (7:Int)=2 from h) kD,fun _=>rfl,fun _=>rfl,by show (-12:Int)≤0;decide,by show (0:Int)≤12;decide,fun i hi=>by
 have:i=0:=by have:i<1:=hi;omega
 subst this;exact w⟩
theorem tG {d m:Nat}{t:Tm}(h:ba d t≤m):ba (d+1) (.mk 7 0 0 ⟨#[]⟩ [t])≤m:=by rw[fB];show 1*_≤m;rw[Nat.one_mul];exact h
theorem vq {d:Nat}{op n:Int}{q:Rat}{s:ByteArray}{a b:Tm}:ba d b≤ba (d+1) (.mk op n q s [a,b]):=by
 rw[gm];exact Nat.le_trans (Nat.le_add_left _ _) (Nat.le_mul_of_pos_left _ (cg op n))
section
variable {op n:Int} {q:Rat} {s:ByteArray} {a b:Tm}
theorem rk:bc (.mk op n q s [a,b])=gG (.mk op n q s [a,b]) a b:=rfl
theorem xD:bc (.mk op n q s [a])=gG (.mk op n q s [a]) a ca:=rfl
abbrev dZ (a:Tm)(b:Bool):Prop:=decide (eA a ((0:Int):Rat))=b
abbrev dI (a:Tm)(b:Bool):Prop:=decide (eA a ((1:Int):Rat))=b
theorem uN {a:Tm}(h:dZ a true):eA a 0:=oT h
theorem wx {a:Tm}(h:dZ a false):¬eA a 0:=oF h
theorem Ee {a:Tm}(h:dI a true):eA a 1:=oT h
theorem DA {a:Tm}(h:dI a false):¬eA a 1:=oF h
theorem Eg (h:op=3):bc (.mk op n q s [a,b])=if eA a 0 then b else if eA b 0 then a else .mk op n q s [a,b]:=by rw[rk];exact if_pos h
theorem D8 (h:op=3)(x:dZ a true):bc (.mk op n q s [a,b])=b:=by rw[Eg h,if_pos (uN x)]
theorem DM (h:op=3)(x:dZ a false)(y:dZ b true):bc (.mk op n q s [a,b])=a:=by rw[Eg h,if_neg (wx x),if_pos (uN y)]
theorem D3 (h:op=3)(x:dZ a false)(y:dZ b false):bc (.mk op n q s [a,b])=.mk op n q s [a,b]:=by rw[Eg h,if_neg (wx x),if_neg (wx y)]
theorem Es (h:op=4):bc (.mk op n q s [a,b])=if eA b 0 then a else if eA a 0 then pR b else .mk op n q s [a,b]:=by rw[rk];subst h;rfl
theorem Dy (h:op=4)(y:dZ b true):bc (.mk op n q s [a,b])=a:=by rw[Es h,if_pos (uN y)]
theorem DL (h:op=4)(y:dZ b false)(x:dZ a false):bc (.mk op n q s [a,b])=.mk op n q s [a,b]:=by rw[Es h,if_neg (wx y),if_neg (wx x)]
theorem rz {b:Tm}(h:b.op≠1):dx (.mk 7 0 0 ⟨#[]⟩ [b])=pR b:=by
 rw[bY (t:=.mk 7 0 0 ⟨#[]⟩ [b]) (fun f=>h f.1.2.1)];rfl
theorem ED {c d:Nat}{ok:ByteArray→Prop}(h:op=4)(y:dZ b false)(x:dZ a true)(hf:¬d5 (.mk op n q s [a,b]))(wb:WfQ c ok d b)(wa:WfQ c ok d a):bc (.mk op n q s [a,b])=dx (.mk 7 0 0 ⟨#[]⟩ [b]):=by
 have hb:b.op≠1:=fun h1=>hf ⟨⟨Nat.succ_ne_zero _,(uN x).1,fun _=>h1⟩,by
  rw[hJ oM (wa.leaf1 (uN x).1) (uN x).1 (wb.leaf1 h1) h1,jK rfl rfl ⟨fun h=>absurd h oM,fun h=>absurd h oM⟩]⟩
 rw[Es h,if_neg (wx y),if_pos (uN x),rz hb]
theorem Dx (h:op=5):bc (.mk op n q s [a,b])=if eA a 0∨eA b 0 then fU ((0:Int):Rat) else if eA a 1 then b else if eA b 1 then a else .mk op n q s [a,b]:=by rw[rk];subst h;rfl
theorem vS (h:op=5)(x:dZ a true∨dZ b true):bc (.mk op n q s [a,b])=fU ((0:Int):Rat):=by rw[Dx h,if_pos (x.imp uN uN)]
theorem En (x:dZ a false)(y:dZ b false):¬(eA a 0∨eA b 0):=fun h=>h.elim (wx x) (wx y)
theorem EI (h:op=5)(x:dZ a false)(y:dZ b false)(z:dI a true):bc (.mk op n q s [a,b])=b:=by rw[Dx h,if_neg (En x y),if_pos (Ee z)]
theorem DV (h:op=5)(x:dZ a false)(y:dZ b false)(z:dI a false)(u:dI b true):bc (.mk op n q s [a,b])=a:=by rw[Dx h,if_neg (En x y),if_neg (DA z),if_pos (Ee u)]
theorem Ek (h:op=5)(x:dZ a false)(y:dZ b false)(z:dI a false)(u:dI b false):bc (.mk op n q s [a,b])=.mk op n q s [a,b]:=by rw[Dx h,if_neg (En x y),if_neg (DA z),if_neg (DA u)]
theorem CY (h:op=6):bc (.mk op n q s [a,b])=if eA b 1 then a else .mk op n q s [a,b]:=by rw[rk];subst h;rfl
theorem Fe (h:op=6)(u:dI b true):bc (.mk op n q s [a,b])=a:=by rw[CY h,if_pos (Ee u)]
theorem DX (h:op=6)(u:dI b false):bc (.mk op n q s [a,b])=.mk op n q s [a,b]:=by rw[CY h,if_neg (DA u)]
theorem D5 (h:op=12∨op=13):bc (.mk op n q s [a,b])=.mk op n q s [a,b]:=by rw[rk];rcases h with rfl|rfl<;>rfl
theorem Do (h:op=7):bc (.mk op n q s [a])=if a.op=7 then a.ks.getD 0 ca else .mk op n q s [a]:=by rw[xD];subst h;rfl
theorem Ft (h:op=7)(x:a.op=7):bc (.mk op n q s [a])=a.ks.getD 0 ca:=by rw[Do h,if_pos x]
theorem DJ (h:op=7)(x:a.op≠7):bc (.mk op n q s [a])=.mk op n q s [a]:=by rw[Do h,if_neg x]
theorem Ag (h:op=8):bc (.mk op n q s [a])=if n=0 then fU ((1:Int):Rat) else if n=1 then a else .mk op n q s [a]:=by rw[xD];subst h;rfl
theorem Er (h:op=8)(x:n=0):bc (.mk op n q s [a])=fU ((1:Int):Rat):=by rw[Ag h,if_pos x]
theorem Ep (h:op=8)(x:n=1):bc (.mk op n q s [a])=a:=by rw[Ag h,if_neg oM,if_pos x]
theorem Ev (h:op=8)(x:n≠0)(y:n≠1):bc (.mk op n q s [a])=.mk op n q s [a]:=by rw[Ag h,if_neg x,if_neg y]
theorem Fr (h:op=1∨op=2):bc (.mk op n q s [])=.mk op n q s []:=by rcases h with rfl|rfl<;>rfl
theorem Ff (h:op=9∨op=10∨op=11):bc (.mk op n q s [a])=.mk op n q s [a]:=by rw[xD];rcases h with rfl|rfl|rfl<;>rfl
end
theorem As (d:Nat)(op n:Int)(q:Rat)(s:ByteArray)(A:Option Addr)(c:Nat)(p1:PTm)(t1:Tm)(ho1:p1.op=t1.op)(hv1:p1.q=t1.q)(hw1:WfT (fun s=>bg s=true) d t1)(hd:d+1≤24)(hwf:WfT (fun s=>bg s=true) (d+1) (.mk op n q s ([t1]:List Tm):Tm))(hwg:ba (d+1) (.mk op n q s ([t1]:List Tm):Tm)≤1000)(hop:op=7∨op=8∨op=9∨op=10∨op=11)(w:World)(h:Hp)(g:G w h)(hK:SlO 9 aK ar h A ([p1]:List PTm))(hT:TmH (d+1) h (⟨op,n,q,s,A,1,c⟩:PTm) (.mk op n q s ([t1]:List Tm):Tm))(hp1:TmH d h p1 t1)(tb:Tab h):CR 65 #[aF ⟨op,n,q,s,A,1,c⟩] w h (fun v _=>∃ x b,v=.tuple #[qv x,.bool b]∧(b=true↔d5 (.mk op n q s ([t1]:List Tm):Tm))∧(b=true→x=(ay [] 2 (.mk op n q s ([t1]:List Tm):Tm)).2)):=by
 have hs:=(((((sS g).aS hK).add (K:=fun h_=>TmH (d+1) h_ (⟨op,n,q,s,A,1,c⟩:PTm) (.mk op n q s ([t1]:List Tm):Tm)) hT).add (K:=fun h_=>TmH d h_ p1 t1) hp1).aB tb);have hln:([p1]:List PTm).length=1:=rfl;refine go Tryz.func65 [(0,aF ⟨op,n,q,s,A,1,c⟩)] rfl (aE (lA 1 31 (aK ⟨op,n,q,s,A,1,c⟩) hs (fun b1 w2 h3 hs=>lA 2 28 ([qF,uV 0,eS,uV 0,eS]) hs (fun b4 w5 h6 hs=>lL hs [.v 3 qF] (af (aa hs [.v 8 (qP b1 8),.o 9 (qS A 1 c) 1 8 1,.v 10 (iV 1),.v 11 qF] (ah (cK (cQ (aa hs [.v 13 (qP b1 8),.o 14 (qS A 1 c) 1 8 1,.v 15 (iV 1),.v 16 (iV 0)] (bn (cU ?_))))))))))));refine cN (aa hs [.v 17 qT] (af (ce (cK (cQ (kZ (aE (lX 18 A 1 c 9 0 0 ((hs.f.r.2.1).ok oM) ?_))))))));refine lH 19 (aF (([p1]:List PTm).getD 0 ar)) hs ((hs.f.r.2.1).el 0 oM) (lA 5 31 ([iV 0,iV 0,qF,uV 0,eS,uV 0,eS,eS,sZ]) hs (fun b7 w8 h9 hs=>lP 0 0 (aK (([p1]:List PTm).getD 0 ar)) hs (fun _ hs=>aG (lL hs [.v 20 (pB b7),.o 21 (iV ((([p1]:List PTm).getD 0 ar).op)) 0 0 1] ?_))));cases za:(((([p1]:List PTm).getD 0 ar).op:Int) != (1:Int))
 ·
  have zc:=az za;refine lB 22 za (ah (cK (kQ (lL hs [.v 24 (iV 1),.m 16 24] (lD (CL.to [(1,pB b1),(2,pB b4),(3,qF),(14,qS A 1 c),(15,iV 1),(16,iV 1),(17,qT),(18,.pointer (some ⟨(aB A),aO A+0*9,none⟩)),(19,aF (([p1]:List PTm).getD 0 ar)),(5,pB b7),(20,pB b7),(21,iV ((([p1]:List PTm).getD 0 ar).op)),(22,qF),(24,iV 1)] ?_))))));replace hs:=hs.to [⟨b7,31,aK (([p1]:List PTm).getD 0 ar)⟩,⟨b4,28,[qF,uV 0,eS,uV 0,eS]⟩,⟨b1,31,aK ⟨op,n,q,s,A,1,c⟩⟩] [];refine cN (aa hs [.v 17 qF] (af (cw (CG.exit ?_))))
  show CG _ _ _ _ _ _ _ _
  refine aa hs [.o 26 (aF ⟨op,n,q,s,A,1,c⟩) 2 0 9] (lC 27 hs (s0 bg i8 sa none 0 [] kD 3002 kD kD (fun _=>(LQ.lit (z:=0) kD).mono kD) (d+1) (⟨op,n,q,s,A,1,c⟩:PTm) (.mk op n q s ([t1]:List Tm):Tm) hd _ _ hs.g hs.f.r.1 (kz hwf) SlO.nil hs.f.1) ?_);rintro _ _ _ hs ⟨e1,x1,rfl,hev⟩;have hev2:=hev.get ⟨hwf,hwg⟩;refine lL hs [.m 25 27,.v 28 (qv x1),.v 29 (iV e1)] (lA 6 28 ([qF,uV 0,eS,uV 0,eS]) hs (fun b14 _ _ hs=>lP 0 0 (qc x1) hs (fun _ hs=>lL hs [.m 7 29] (aG (lL hs [.o 30 (qv x1) 0 0 5,.m 31 7] ?_)))));cases zb:((e1:Int) == (0:Int))
  ·
   have zd:=ai zb;exact lB 32 zb (lP 2 0 (qc x1) hs (fun _ hs=>lL hs [.m 3 32] (ac hs [(2,0,5)] (.tuple #[qv x1,qF]) (⟨_,_,rfl,n7 oM hw1.wfq ho1 aM hev2 aM⟩))))
  have zd:=eq_of_beq zb;exact lB 32 zb (lP 2 0 (qc x1) hs (fun _ hs=>lL hs [.m 3 32] (ac hs [(2,0,5)] (.tuple #[qv x1,qT]) (⟨_,_,rfl,n7 oM hw1.wfq ho1 aM hev2 aM⟩))))
 have zc:=aY za;exact lB 22 za (ao (aa hs [.v 23 (.agg #[qF,uV 0,eS,uV 0,eS])] (lP 1 0 ([qF,uV 0,eS,uV 0,eS]) hs (fun _ hs=>lL hs [.v 3 qF] (ac hs [(1,0,5)] (.tuple #[.agg #[qF,uV 0,eS,uV 0,eS],qF]) (⟨0,false,rfl,⟨fun h_=>absurd h_ kD,fun h_=>(by have g1_:=h_.1.2.1;first|exact absurd (ho1.trans g1_) aM|exact absurd (ho2.trans (h_.1.2.2 (by show 1<2;decide))) aM)⟩,fun h_=>absurd h_ kD⟩))))))
theorem BG (d:Nat)(op n:Int)(q:Rat)(s:ByteArray)(A:Option Addr)(c:Nat)(p1:PTm)(t1:Tm)(ho1:p1.op=t1.op)(hv1:p1.q=t1.q)(hw1:WfT (fun s=>bg s=true) d t1)(p2:PTm)(t2:Tm)(ho2:p2.op=t2.op)(hv2:p2.q=t2.q)(hw2:WfT (fun s=>bg s=true) d t2)(hd:d+1≤24)(hwf:WfT (fun s=>bg s=true) (d+1) (.mk op n q s ([t1,t2]:List Tm):Tm))(hwg:ba (d+1) (.mk op n q s ([t1,t2]:List Tm):Tm)≤1000)(hop:op=3∨op=4∨op=5∨op=6∨op=12∨op=13)(w:World)(h:Hp)(g:G w h)(hK:SlO 9 aK ar h A ([p1,p2]:List PTm))(hT:TmH (d+1) h (⟨op,n,q,s,A,2,c⟩:PTm) (.mk op n q s ([t1,t2]:List Tm):Tm))(hp1:TmH d h p1 t1)(hp2:TmH d h p2 t2)(tb:Tab h):CR 65 #[aF ⟨op,n,q,s,A,2,c⟩] w h (fun v _=>∃ x b,v=.tuple #[qv x,.bool b]∧(b=true↔d5 (.mk op n q s ([t1,t2]:List Tm):Tm))∧(b=true→x=(ay [] 2 (.mk op n q s ([t1,t2]:List Tm):Tm)).2)):=by
 have hs:=((((((sS g).aS hK).add (K:=fun h_=>TmH (d+1) h_ (⟨op,n,q,s,A,2,c⟩:PTm) (.mk op n q s ([t1,t2]:List Tm):Tm)) hT).add (K:=fun h_=>TmH d h_ p1 t1) hp1).add (K:=fun h_=>TmH d h_ p2 t2) hp2).aB tb);have hln:([p1,p2]:List PTm).length=2:=rfl;refine go Tryz.func65 [(0,aF ⟨op,n,q,s,A,2,c⟩)] rfl (aE (lA 1 31 (aK ⟨op,n,q,s,A,2,c⟩) hs (fun b1 w2 h3 hs=>lA 2 28 ([qF,uV 0,eS,uV 0,eS]) hs (fun b4 w5 h6 hs=>lL hs [.v 3 qF] (af (aa hs [.v 8 (qP b1 8),.o 9 (qS A 2 c) 1 8 1,.v 10 (iV 2),.v 11 qF] (ah (cK (cQ (aa hs [.v 13 (qP b1 8),.o 14 (qS A 2 c) 1 8 1,.v 15 (iV 2),.v 16 (iV 0)] (bn (cU ?_))))))))))));refine cN (aa hs [.v 17 qT] (af (ce (cK (cQ (kZ (aE (lX 18 A 2 c 9 0 0 ((hs.f.q.1).ok oM) ?_))))))));refine lH 19 (aF (([p1,p2]:List PTm).getD 0 ar)) hs ((hs.f.q.1).el 0 oM) (lA 5 31 ([iV 0,iV 0,qF,uV 0,eS,uV 0,eS,eS,sZ]) hs (fun b7 w8 h9 hs=>lP 0 0 (aK (([p1,p2]:List PTm).getD 0 ar)) hs (fun _ hs=>aG (lL hs [.v 20 (pB b7),.o 21 (iV ((([p1,p2]:List PTm).getD 0 ar).op)) 0 0 1] ?_))));cases za:(((([p1,p2]:List PTm).getD 0 ar).op:Int) != (1:Int))
 ·
  have ze:=az za;refine lB 22 za (ah (cK (kQ (lL hs [.v 24 (iV 1),.m 16 24] (lD (CL.to [(1,pB b1),(2,pB b4),(3,qF),(14,qS A 2 c),(15,iV 2),(16,iV 1),(17,qT),(18,.pointer (some ⟨(aB A),aO A+0*9,none⟩)),(19,aF (([p1,p2]:List PTm).getD 0 ar)),(5,pB b7),(20,pB b7),(21,iV ((([p1,p2]:List PTm).getD 0 ar).op)),(22,qF),(24,iV 1)] ?_))))));replace hs:=hs.to [⟨b7,31,aK (([p1,p2]:List PTm).getD 0 ar)⟩,⟨b4,28,[qF,uV 0,eS,uV 0,eS]⟩,⟨b1,31,aK ⟨op,n,q,s,A,2,c⟩⟩] [];refine cN (aa hs [.v 17 qT] (af (ce (cK (cQ (kZ (aE (lX 18 A 2 c 9 1 1 ((hs.f.q.1).ok oM) ?_))))))));refine lH 19 (aF (([p1,p2]:List PTm).getD 1 ar)) hs ((hs.f.q.1).el 1 oM) (lA 5 31 ([iV 0,iV 0,qF,uV 0,eS,uV 0,eS,eS,sZ]) hs (fun zd _ _ hs=>lP 0 0 (aK (([p1,p2]:List PTm).getD 1 ar)) hs (fun _ hs=>aG (lL hs [.v 20 (pB zd),.o 21 (iV ((([p1,p2]:List PTm).getD 1 ar).op)) 0 0 1] ?_))));cases zb:(((([p1,p2]:List PTm).getD 1 ar).op:Int) != (1:Int))
  ·
   have zf:=az zb;refine lB 22 zb (ah (cK (kQ (lL hs [.v 24 (iV 2),.m 16 24] (lD (CL.to [(1,pB b1),(2,pB b4),(3,qF),(14,qS A 2 c),(15,iV 2),(16,iV 2),(17,qT),(18,.pointer (some ⟨(aB A),aO A+1*9,none⟩)),(19,aF (([p1,p2]:List PTm).getD 1 ar)),(5,pB zd),(20,pB zd),(21,iV ((([p1,p2]:List PTm).getD 1 ar).op)),(22,qF),(24,iV 2)] ?_))))));replace hs:=hs.to [⟨zd,31,aK (([p1,p2]:List PTm).getD 1 ar)⟩,⟨b7,31,aK (([p1,p2]:List PTm).getD 0 ar)⟩,⟨b4,28,[qF,uV 0,eS,uV 0,eS]⟩,⟨b1,31,aK ⟨op,n,q,s,A,2,c⟩⟩] [];refine cN (aa hs [.v 17 qF] (af (cw (CG.exit ?_))))
   show CG _ _ _ _ _ _ _ _
   refine aa hs [.o 26 (aF ⟨op,n,q,s,A,2,c⟩) 3 0 9] (lC 27 hs (s0 bg i8 sa none 0 [] kD 3002 kD kD (fun _=>(LQ.lit (z:=0) kD).mono kD) (d+1) (⟨op,n,q,s,A,2,c⟩:PTm) (.mk op n q s ([t1,t2]:List Tm):Tm) hd _ _ hs.g hs.f.r.2.1 (kz hwf) SlO.nil hs.f.1) ?_);rintro _ _ _ hs ⟨e1,x1,rfl,hev⟩;have hev2:=hev.get ⟨hwf,hwg⟩;refine lL hs [.m 25 27,.v 28 (qv x1),.v 29 (iV e1)] (lA 6 28 ([qF,uV 0,eS,uV 0,eS]) hs (fun b19 _ _ hs=>lP 0 0 (qc x1) hs (fun _ hs=>lL hs [.m 7 29] (aG (lL hs [.o 30 (qv x1) 0 0 5,.m 31 7] ?_)))));cases zc:((e1:Int) == (0:Int))
   ·
    have zg:=ai zc;exact lB 32 zc (lP 3 0 (qc x1) hs (fun _ hs=>lL hs [.m 3 32] (ac hs [(3,0,5)] (.tuple #[qv x1,qF]) (⟨_,_,rfl,oP oM hw1.wfq hw2.wfq ho1 aM ho2 aM hev2 aM⟩))))
   have zg:=eq_of_beq zc;exact lB 32 zc (lP 3 0 (qc x1) hs (fun _ hs=>lL hs [.m 3 32] (ac hs [(3,0,5)] (.tuple #[qv x1,qT]) (⟨_,_,rfl,oP oM hw1.wfq hw2.wfq ho1 aM ho2 aM hev2 aM⟩))))
  have zf:=aY zb;exact lB 22 zb (ao (aa hs [.v 23 (.agg #[qF,uV 0,eS,uV 0,eS])] (lP 2 0 ([qF,uV 0,eS,uV 0,eS]) hs (fun _ hs=>lL hs [.v 3 qF] (ac hs [(2,0,5)] (.tuple #[.agg #[qF,uV 0,eS,uV 0,eS],qF]) (⟨0,false,rfl,⟨fun h_=>absurd h_ kD,fun h_=>(by have g1_:=h_.1.2.1;first|exact absurd (ho1.trans g1_) aM|exact absurd (ho2.trans (h_.1.2.2 (by show 1<2;decide))) aM)⟩,fun h_=>absurd h_ kD⟩))))))
 have ze:=aY za;exact lB 22 za (ao (aa hs [.v 23 (.agg #[qF,uV 0,eS,uV 0,eS])] (lP 1 0 ([qF,uV 0,eS,uV 0,eS]) hs (fun _ hs=>lL hs [.v 3 qF] (ac hs [(1,0,5)] (.tuple #[.agg #[qF,uV 0,eS,uV 0,eS],qF]) (⟨0,false,rfl,⟨fun h_=>absurd h_ kD,fun h_=>(by have g1_:=h_.1.2.1;first|exact absurd (ho1.trans g1_) aM|exact absurd (ho2.trans (h_.1.2.2 (by show 1<2;decide))) aM)⟩,fun h_=>absurd h_ kD⟩))))))
theorem pZ (d:Nat)(op n:Int)(q:Rat)(s:ByteArray)(A:Option Addr)(c:Nat)(p1:PTm)(t1:Tm)(ho1:p1.op=t1.op)(hv1:p1.q=t1.q)(hw1:WfT (fun s=>bg s=true) d t1)(hd:d+1≤24)(hwf:WfT (fun s=>bg s=true) (d+1) (.mk op n q s ([t1]:List Tm):Tm))(hwg:ba (d+1) (.mk op n q s ([t1]:List Tm):Tm)≤1000)(hop:op=7∨op=8∨op=9∨op=10∨op=11)(w:World)(h:Hp)(g:G w h)(hK:SlO 9 aK ar h A ([p1]:List PTm))(hT:TmH (d+1) h (⟨op,n,q,s,A,1,c⟩:PTm) (.mk op n q s ([t1]:List Tm):Tm))(hp1:TmH d h p1 t1)(hk7:K7T d h p1 t1)(tb:Tab h):CR 35 #[aF ⟨op,n,q,s,A,1,c⟩] w h (fun v h1=>∃ pr,v=aF pr∧TmH (d+1) h1 pr (dx (.mk op n q s ([t1]:List Tm):Tm))):=by
 have hs:=((((((sS g).aS hK).add (K:=fun h_=>TmH (d+1) h_ (⟨op,n,q,s,A,1,c⟩:PTm) (.mk op n q s ([t1]:List Tm):Tm)) hT).add (K:=fun h_=>TmH d h_ p1 t1) hp1).add (K:=fun h_=>K7T d h_ p1 t1) hk7).aB tb);have hln:([p1]:List PTm).length=1:=rfl;have hp1o:(([p1]:List PTm).getD 0 ar).op=p1.op:=rfl;refine go Tryz.func35 [(0,aF ⟨op,n,q,s,A,1,c⟩)] rfl (aE (lA 1 31 (aK ⟨op,n,q,s,A,1,c⟩) hs (fun b1 w2 h3 hs=>lA 2 31 ([iV 0,iV 0,qF,uV 0,eS,uV 0,eS,eS,sZ]) hs (fun b4 w5 h6 hs=>af (aa hs [.o 6 (aF ⟨op,n,q,s,A,1,c⟩) 1 0 9] (lC 7 hs (As d op n q s A c p1 t1 ho1 hv1 hw1 hd hwf hwg hop _ _ hs.g hs.f.q.1 hs.f.r.2.1 hs.f.r.1 hs.f.1) ?_))))));rintro _ w7 h8 hs ⟨xf,bf,rfl,hfb,hfx⟩;refine lL hs [.m 5 7,.v 8 (qv xf),.v 9 (.bool bf)] (lA 3 28 ([qF,uV 0,eS,uV 0,eS]) hs (fun b9 _ zg hs=>lP 0 0 (qc xf) hs (fun _ hs=>lL hs [.m 4 9] (aG (lL hs [.m 10 4] (lN ?_))))));cases za:(bf)
 ·
  try rw[za] at hs
  try rw[za]
  refine cw (cK (CG.join (fun Γ w_=>∃  (h_:Hp),Γ=[(1,pB b1),(2,pB b4)]∧SS w h w_ h_ [⟨b9,28,qc xf⟩,⟨b4,31,[iV 0,iV 0,qF,uV 0,eS,uV 0,eS,eS,sZ]⟩,⟨b1,31,aK ⟨op,n,q,s,A,1,c⟩⟩] [] [fun h_=>Tab h_,fun h_=>K7T d h_ p1 t1,fun h_=>TmH d h_ p1 t1,fun h_=>TmH (d+1) h_ (⟨op,n,q,s,A,1,c⟩:PTm) (.mk op n q s ([t1]:List Tm):Tm),fun h_=>SlO 9 aK ar h_ A ([p1]:List PTm)]∧bc (.mk op n q s ([t1]:List Tm):Tm)=(.mk op n q s ([t1]:List Tm):Tm)) ?_ ?_))
  ·
   refine aa hs [.v 13 (pB b1),.o 14 (iV op) 2 0 1] (bn (aE ?_));have zi:((op:Int) == (3:Int))=false:=cv oM;have phb14:=ai zi;refine lB 16 zi (lL hs [.m 15 16] (ah (aE ?_)));have zj:((op:Int) == (4:Int))=false:=cv oM;have phb15:=ai zj;refine lB 36 zj (lL hs [.m 35 36] (ah (aE ?_)));have zk:((op:Int) == (5:Int))=false:=cv oM;have phb16:=ai zk;refine lB 58 zk (lL hs [.m 57 58] (ah (aE ?_)));have zl:((op:Int) == (6:Int))=false:=cv oM;have phb17:=ai zl;refine lB 91 zl (lL hs [.m 90 91] (ah (aE ?_)));cases zb:((op:Int) == (7:Int))
   ·
    have zm:=ai zb;refine lB 102 zb (lL hs [.m 101 102] (ah (aE ?_)));cases zc:((op:Int) == (8:Int))
    ·
     have zn:=ai zc;refine lB 117 zc (lL hs [.m 116 117] (ah (CG.skip ?_)));intro a_ ka;exact ⟨_,⟨zg,rfl,hs.to _ _,(Ff oM)⟩,ka.to _ kR⟩
    have zn:=eq_of_beq zc;refine lB 117 zc (lL hs [.m 116 117] (ao (cQ (aa hs [.v 118 (qP b1 1),.o 119 (iV n) 2 1 1] ?_))));cases zd:((n:Int) == (0:Int))
    ·
     have zo:=ai zd;refine lB 120 zd (ah (cK (aa hs [.v 122 (qP b1 1),.o 123 (iV n) 2 1 1] ?_)));cases ze:((n:Int) == (1:Int))
     ·
      have zp:=ai ze;refine lB 124 ze (ah (CG.skip ?_));intro a_ ka;exact ⟨_,⟨zg,rfl,hs.to _ _,(Ev oM oM oM)⟩,ka.to _ kR⟩
     have zp:=eq_of_beq ze;refine lB 124 ze (ao (aa hs [.v 125 (qP b1 8),.o 126 (qS A 1 c) 2 8 1] (lX 127 A 1 c 9 0 0 ((hs.f.q.1).ok oM) ?_)));exact lH 128 (aF (([p1]:List PTm).getD 0 ar)) hs ((hs.f.q.1).el 0 oM) (lP 1 0 (aK (([p1]:List PTm).getD 0 ar)) hs (fun _ hs=>ac hs [(1,0,9)] (aF (([p1]:List PTm).getD 0 ar)) (⟨_,rfl,by rw[bY (fun h_=>Bool.noConfusion ((hfb.2 h_).symm.trans aM)),show bc (.mk op n q s ([t1]:List Tm):Tm)=_ from Ep oM oM];exact (hs.f.r.1).mono (Nat.le_succ d)⟩)))
    have zo:=eq_of_beq zd;exact lB 120 zd (ao (aE (ag 121 hs (iA (1) kD kD _ _ hs.g) (fun _ _ hs=>lP 1 0 (aK (⟨1,0,(((1):Int):Rat),⟨#[]⟩,none,0,0⟩:PTm)) hs (fun _ hs=>ac hs [(1,0,9)] (aF (⟨1,0,(((1):Int):Rat),⟨#[]⟩,none,0,0⟩:PTm)) (⟨_,rfl,by rw[bY (fun h_=>Bool.noConfusion ((hfb.2 h_).symm.trans aM)),show bc (.mk op n q s ([t1]:List Tm):Tm)=fU ((1:Int):Rat) from Er oM oM];exact (TmH.mk (op:=1) (n:=0) (s:=⟨#[]⟩) (c:=0) Tms.nil (nR _) SlO.nil)⟩))))))
   have zm:=eq_of_beq zb;refine lB 102 zb (lL hs [.m 101 102] (ao (aa hs [.v 103 (qP b1 8),.o 104 (qS A 1 c) 2 8 1] (lX 105 A 1 c 9 0 0 ((hs.f.q.1).ok oM) ?_))));refine lL hs [.v 106 (.pointer (some ⟨(aB A),aO A+0*9,none⟩))] (lH 107 (iV ((([p1]:List PTm).getD 0 ar).op)) hs (((hs.f.q.1).el 0 oM).part 0 1) ?_);cases zf:(((([p1]:List PTm).getD 0 ar).op:Int) == (7:Int))
   ·
    have zq:=ai zf;refine lB 108 zf (ah (CG.skip ?_));intro a_ ka;exact ⟨_,⟨zg,rfl,hs.to _ _,(DJ oM (fun h_=>absurd (ho1.trans h_) oM))⟩,ka.to _ kR⟩
   have zq:=eq_of_beq zf;refine lB 108 zf (ao ?_);obtain ⟨hmk,pk,hKk,hpk⟩:=(hs.f.2.1).get oM;have hlk:([pk]:List PTm).length=1:=rfl;refine aa hs [.v 109 (qP b1 8),.o 110 (qS A 1 c) 2 8 1] (lX 111 A 1 c 9 0 0 ((hs.f.q.1).ok oM) ?_);refine lL hs [.v 112 (.pointer (some ⟨(aB A),aO A+0*9+8,none⟩))] (EY 113 (qS p1.A p1.m p1.c) hs (((hs.f.q.1).el 0 (Nat.succ_pos _)).part 8 1) (by rw[hmk]) ?_);exact lX 114 p1.A 1 p1.c 9 0 0 (hKk.ok oM) (lH 115 (aF (([pk]).getD 0 ar)) hs (hKk.el 0 oM) (lP 1 0 (aK (([pk]).getD 0 ar)) hs (fun _ hs=>ac hs [(1,0,9)] (aF (([pk]).getD 0 ar)) (⟨_,rfl,by rw[bY (fun h_=>Bool.noConfusion ((hfb.2 h_).symm.trans aM)),show bc (.mk op n q s ([t1]:List Tm):Tm)=_ from Ft oM (ho1.symm.trans oM)];exact hpk.mono (Nat.le_succ d)⟩))))
  rintro _ _ ⟨_,rfl,hs,hru⟩;exact aa hs [.o 129 (aF ⟨op,n,q,s,A,1,c⟩) 2 0 9] (lP 1 0 (aK ⟨op,n,q,s,A,1,c⟩) hs (fun _ hs=>ac hs [(1,0,9)] (aF ⟨op,n,q,s,A,1,c⟩) (⟨_,rfl,by rw[bY (fun h_=>Bool.noConfusion ((hfb.2 h_).symm.trans aM)),hru];exact hs.f.r.2.1⟩)))
 try rw[za] at hs
 try rw[za]
 exact ce (aa hs [.o 11 (qv xf) 0 0 5] (ag 12 hs (gN xf _ _ hs.g) (fun _ _ hs=>lP 1 0 (aK (⟨1,0,xf,⟨#[]⟩,none,0,0⟩:PTm)) hs (fun _ hs=>ac hs [(1,0,9)] (aF (⟨1,0,xf,⟨#[]⟩,none,0,0⟩:PTm)) (⟨_,rfl,by rw[i4 (hfb.1 aM),←hfx aM];exact TmH.mk (op:=1) (n:=0) (s:=⟨#[]⟩) (c:=0) Tms.nil (nR _) SlO.nil⟩)))))
theorem md (d:Nat)(op n:Int)(q:Rat)(s:ByteArray)(A:Option Addr)(c:Nat)(p1:PTm)(t1:Tm)(ho1:p1.op=t1.op)(hv1:p1.q=t1.q)(hw1:WfT (fun s=>bg s=true) d t1)(hd:d+1≤24)(hwf:WfT (fun s=>bg s=true) (d+1) (.mk op n q s ([t1]:List Tm):Tm))(hwg:ba (d+1) (.mk op n q s ([t1]:List Tm):Tm)≤1000)(hop:op=7∨op=8∨op=9∨op=10∨op=11)(hc:1≤c)(w:World)(h:Hp)(g:G w h)(hK:SlO 9 aK ar h A [p1])(hp1:TmH d h p1 t1)(tb:Tab h):Calls Tryz.prog 35 #[aF (⟨op,n,q,s,A,1,c⟩:PTm)] w (Ret w h (fun v h1=>∃ pr,v=aF pr∧TmH (d+1) h1 pr (dx (.mk op n q s ([t1]:List Tm):Tm)))):=by
 have hT:TmH (d+1) h (⟨op,n,q,s,A,1,c⟩:PTm) (.mk op n q s ([t1]:List Tm):Tm):=TmH.mk (ps:=[p1]) ⟨rfl,fun i hi=>by
  have:i=0:=by have:i<1:=hi;omega
  subst this;exact hp1⟩ hc hK
 exact pZ d op n q s A c p1 t1 ho1 hv1 hw1 hd hwf hwg hop w h g hK hT hp1 (Dh ho1 hw1 hp1) tb
theorem qA (d:Nat)(op n:Int)(q:Rat)(s:ByteArray)(A:Option Addr)(c:Nat)(p1:PTm)(t1:Tm)(ho1:p1.op=t1.op)(hv1:p1.q=t1.q)(hw1:WfT (fun s=>bg s=true) d t1)(p2:PTm)(t2:Tm)(ho2:p2.op=t2.op)(hv2:p2.q=t2.q)(hw2:WfT (fun s=>bg s=true) d t2)(hd:d+1≤24)(hwf:WfT (fun s=>bg s=true) (d+1) (.mk op n q s ([t1,t2]:List Tm):Tm))(hwg:ba (d+1) (.mk op n q s ([t1,t2]:List Tm):Tm)≤1000)(hop:op=3∨op=4∨op=5∨op=6∨op=12∨op=13)(w:World)(h:Hp)(g:G w h)(hK:SlO 9 aK ar h A ([p1,p2]:List PTm))(hT:TmH (d+1) h (⟨op,n,q,s,A,2,c⟩:PTm) (.mk op n q s ([t1,t2]:List Tm):Tm))(hp1:TmH d h p1 t1)(hp2:TmH d h p2 t2)(tb:Tab h):CR 35 #[aF ⟨op,n,q,s,A,2,c⟩] w h (fun v h1=>∃ pr,v=aF pr∧TmH (d+1) h1 pr (dx (.mk op n q s ([t1,t2]:List Tm):Tm))):=by
 have hs:=((((((sS g).aS hK).add (K:=fun h_=>TmH (d+1) h_ (⟨op,n,q,s,A,2,c⟩:PTm) (.mk op n q s ([t1,t2]:List Tm):Tm)) hT).add (K:=fun h_=>TmH d h_ p1 t1) hp1).add (K:=fun h_=>TmH d h_ p2 t2) hp2).aB tb);have hln:([p1,p2]:List PTm).length=2:=rfl;refine go Tryz.func35 [(0,aF ⟨op,n,q,s,A,2,c⟩)] rfl (aE (lA 1 31 (aK ⟨op,n,q,s,A,2,c⟩) hs (fun b1 w2 h3 hs=>lA 2 31 ([iV 0,iV 0,qF,uV 0,eS,uV 0,eS,eS,sZ]) hs (fun b4 w5 h6 hs=>af (aa hs [.o 6 (aF ⟨op,n,q,s,A,2,c⟩) 1 0 9] (lC 7 hs (BG d op n q s A c p1 t1 ho1 hv1 hw1 p2 t2 ho2 hv2 hw2 hd hwf hwg hop _ _ hs.g hs.f.q.1 hs.f.r.2.1 hs.f.r.1 hs.f.2.1 hs.f.1) ?_))))));rintro _ w7 h8 hs ⟨xf,bf,rfl,hfb,hfx⟩;refine lL hs [.m 5 7,.v 8 (qv xf),.v 9 (.bool bf)] (lA 3 28 ([qF,uV 0,eS,uV 0,eS]) hs (fun b9 _ zm hs=>lP 0 0 (qc xf) hs (fun _ hs=>lL hs [.m 4 9] (aG (lL hs [.m 10 4] (lN ?_))))));cases za:(bf)
 ·
  try rw[za] at hs
  try rw[za]
  refine cw (cK (CG.join (fun Γ w_=>∃  (h_:Hp),Γ=[(1,pB b1),(2,pB b4)]∧SS w h w_ h_ [⟨b9,28,qc xf⟩,⟨b4,31,[iV 0,iV 0,qF,uV 0,eS,uV 0,eS,eS,sZ]⟩,⟨b1,31,aK ⟨op,n,q,s,A,2,c⟩⟩] [] [fun h_=>Tab h_,fun h_=>TmH d h_ p2 t2,fun h_=>TmH d h_ p1 t1,fun h_=>TmH (d+1) h_ (⟨op,n,q,s,A,2,c⟩:PTm) (.mk op n q s ([t1,t2]:List Tm):Tm),fun h_=>SlO 9 aK ar h_ A ([p1,p2]:List PTm)]∧bc (.mk op n q s ([t1,t2]:List Tm):Tm)=(.mk op n q s ([t1,t2]:List Tm):Tm)) ?_ ?_))
  ·
   refine aa hs [.v 13 (pB b1),.o 14 (iV op) 2 0 1] (bn (aE ?_));cases zb:((op:Int) == (3:Int))
   ·
    have zi:=ai zb;refine lB 16 zb (lL hs [.m 15 16] (ah (aE ?_)));cases zc:((op:Int) == (4:Int))
    ·
     have zj:=ai zc;refine lB 36 zc (lL hs [.m 35 36] (ah (aE ?_)));cases zd:((op:Int) == (5:Int))
     ·
      have zk:=ai zd;refine lB 58 zd (lL hs [.m 57 58] (ah (aE ?_)));cases ze:((op:Int) == (6:Int))
      ·
       have zl:=ai ze;refine lB 91 ze (lL hs [.m 90 91] (ah (aE ?_)));have zf:((op:Int) == (7:Int))=false:=cv oM;have phb18:=ai zf;refine lB 102 zf (lL hs [.m 101 102] (ah (aE ?_)));have zg:((op:Int) == (8:Int))=false:=cv oM;have phb19:=ai zg;refine lB 117 zg (lL hs [.m 116 117] (ah (CG.skip ?_)));intro a_ ka;exact ⟨_,⟨zm,rfl,hs.to _ _,(D5 oM)⟩,ka.to _ kR⟩
      have zl:=eq_of_beq ze;refine lB 91 ze (lL hs [.m 90 91] (ao (aa hs [.v 92 (qP b1 8),.o 93 (qS A 2 c) 2 8 1] (lX 94 A 2 c 9 1 1 ((hs.f.q.1).ok oM) ?_))));refine lH 95 (aF (([p1,p2]:List PTm).getD 1 ar)) hs ((hs.f.q.1).el 1 oM) (ag 96 hs (kO p2 t2 1 kD ho2 hv2 hw2 _ _ hs.g) (fun _ zn hs=>?_));cases hb23:((decide (eA t2 ((1:Int):Rat))))
      ·
       refine ah (CG.skip ?_);intro a_ ka;exact ⟨_,⟨zn,rfl,hs.to _ _,(DX oM aM)⟩,ka.to _ kR⟩
      refine ao (aa hs [.v 97 (qP b1 8),.o 98 (qS A 2 c) 2 8 1] (lX 99 A 2 c 9 0 0 ((hs.f.q.1).ok oM) ?_));exact lH 100 (aF (([p1,p2]:List PTm).getD 0 ar)) hs ((hs.f.q.1).el 0 oM) (lP 1 0 (aK (([p1,p2]:List PTm).getD 0 ar)) hs (fun _ hs=>ac hs [(1,0,9)] (aF (([p1,p2]:List PTm).getD 0 ar)) (⟨_,rfl,by rw[bY (fun h_=>Bool.noConfusion ((hfb.2 h_).symm.trans aM)),show bc (.mk op n q s ([t1,t2]:List Tm):Tm)=_ from Fe oM aM];exact (hs.f.r.1).mono (Nat.le_succ d)⟩)))
     have zk:=eq_of_beq zd;refine lB 58 zd (lL hs [.m 57 58] (ao (cQ (aa hs [.v 59 (qP b1 8),.o 60 (qS A 2 c) 2 8 1] (lX 61 A 2 c 9 0 0 ((hs.f.q.1).ok oM) ?_)))));refine lH 62 (aF (([p1,p2]:List PTm).getD 0 ar)) hs ((hs.f.q.1).el 0 oM) (ag 63 hs (kO p1 t1 0 kD ho1 hv1 hw1 _ _ hs.g) (fun _ _ hs=>?_));cases hb28:((decide (eA t1 ((0:Int):Rat))))
     ·
      refine lL hs [.m 64 63,.v 65 (qP b1 8),.o 66 (qS A 2 c) 2 8 1] (lX 67 A 2 c 9 1 1 ((hs.f.q.1).ok oM) ?_);refine lH 68 (aF (([p1,p2]:List PTm).getD 1 ar)) hs ((hs.f.q.1).el 1 oM) (ag 69 hs (kO p2 t2 0 kD ho2 hv2 hw2 _ _ hs.g) (fun _ _ hs=>?_));cases hb31:((decide (eA t2 ((0:Int):Rat))))
      ·
       refine lL hs [.v 70 qF] (ah (cK (cQ (aa hs [.v 72 (qP b1 8),.o 73 (qS A 2 c) 2 8 1] (lX 74 A 2 c 9 0 0 ((hs.f.q.1).ok oM) ?_)))));refine lH 75 (aF (([p1,p2]:List PTm).getD 0 ar)) hs ((hs.f.q.1).el 0 oM) (ag 76 hs (kO p1 t1 1 kD ho1 hv1 hw1 _ _ hs.g) (fun _ _ hs=>?_));cases hb34:((decide (eA t1 ((1:Int):Rat))))
       ·
        refine ah (cK (aa hs [.v 81 (qP b1 8),.o 82 (qS A 2 c) 2 8 1] (lX 83 A 2 c 9 1 1 ((hs.f.q.1).ok oM) ?_)));refine lH 84 (aF (([p1,p2]:List PTm).getD 1 ar)) hs ((hs.f.q.1).el 1 oM) (ag 85 hs (kO p2 t2 1 kD ho2 hv2 hw2 _ _ hs.g) (fun _ zo hs=>?_));cases hb37:((decide (eA t2 ((1:Int):Rat))))
        ·
         refine lN (bQ [(1,pB b1),(2,pB b4),(85,qF)] ?_);refine cw (CG.skip ?_);intro a_ ka;exact ⟨_,⟨zo,rfl,hs.to _ _,(Ek oM aM aM aM aM)⟩,ka.to _ kR⟩
        refine lN (bQ [(1,pB b1),(2,pB b4),(85,qT)] ?_);refine ce (aa hs [.v 86 (qP b1 8),.o 87 (qS A 2 c) 2 8 1] (lX 88 A 2 c 9 0 0 ((hs.f.q.1).ok oM) ?_));exact lH 89 (aF (([p1,p2]:List PTm).getD 0 ar)) hs ((hs.f.q.1).el 0 oM) (lP 1 0 (aK (([p1,p2]:List PTm).getD 0 ar)) hs (fun _ hs=>ac hs [(1,0,9)] (aF (([p1,p2]:List PTm).getD 0 ar)) (⟨_,rfl,by rw[bY (fun h_=>Bool.noConfusion ((hfb.2 h_).symm.trans aM)),show bc (.mk op n q s ([t1,t2]:List Tm):Tm)=_ from DV oM aM aM aM aM];exact (hs.f.r.1).mono (Nat.le_succ d)⟩)))
       refine ao (aa hs [.v 77 (qP b1 8),.o 78 (qS A 2 c) 2 8 1] (lX 79 A 2 c 9 1 1 ((hs.f.q.1).ok oM) ?_));exact lH 80 (aF (([p1,p2]:List PTm).getD 1 ar)) hs ((hs.f.q.1).el 1 oM) (lP 1 0 (aK (([p1,p2]:List PTm).getD 1 ar)) hs (fun _ hs=>ac hs [(1,0,9)] (aF (([p1,p2]:List PTm).getD 1 ar)) (⟨_,rfl,by rw[bY (fun h_=>Bool.noConfusion ((hfb.2 h_).symm.trans aM)),show bc (.mk op n q s ([t1,t2]:List Tm):Tm)=_ from EI oM aM aM aM];exact (hs.f.2.1).mono (Nat.le_succ d)⟩)))
      exact lL hs [.v 70 qT] (ao (aE (ag 71 hs (iA (0) kD kD _ _ hs.g) (fun _ _ hs=>lP 1 0 (aK (⟨1,0,(((0):Int):Rat),⟨#[]⟩,none,0,0⟩:PTm)) hs (fun _ hs=>ac hs [(1,0,9)] (aF (⟨1,0,(((0):Int):Rat),⟨#[]⟩,none,0,0⟩:PTm)) (⟨_,rfl,by rw[bY (fun h_=>Bool.noConfusion ((hfb.2 h_).symm.trans aM)),show bc (.mk op n q s ([t1,t2]:List Tm):Tm)=fU ((0:Int):Rat) from by first|exact vS oM (.inl aM)|exact vS oM (.inr aM)];exact (TmH.mk (op:=1) (n:=0) (s:=⟨#[]⟩) (c:=0) Tms.nil (nR _) SlO.nil)⟩))))))
     refine lL hs [.m 64 63] (lG 65 ?_);exact lG 66 (lG 67 (lG 68 (lG 69 (lL hs [.v 70 qT] (ao (aE (ag 71 hs (iA (0) kD kD _ _ hs.g) (fun _ _ hs=>lP 1 0 (aK (⟨1,0,(((0):Int):Rat),⟨#[]⟩,none,0,0⟩:PTm)) hs (fun _ hs=>ac hs [(1,0,9)] (aF (⟨1,0,(((0):Int):Rat),⟨#[]⟩,none,0,0⟩:PTm)) (⟨_,rfl,by rw[bY (fun h_=>Bool.noConfusion ((hfb.2 h_).symm.trans aM)),show bc (.mk op n q s ([t1,t2]:List Tm):Tm)=fU ((0:Int):Rat) from by first|exact vS oM (.inl aM)|exact vS oM (.inr aM)];exact (TmH.mk (op:=1) (n:=0) (s:=⟨#[]⟩) (c:=0) Tms.nil (nR _) SlO.nil)⟩))))))))))
    have zj:=eq_of_beq zc;refine lB 36 zc (lL hs [.m 35 36] (ao (cQ (aa hs [.v 37 (qP b1 8),.o 38 (qS A 2 c) 2 8 1] (lX 39 A 2 c 9 1 1 ((hs.f.q.1).ok oM) ?_)))));refine lH 40 (aF (([p1,p2]:List PTm).getD 1 ar)) hs ((hs.f.q.1).el 1 oM) (ag 41 hs (kO p2 t2 0 kD ho2 hv2 hw2 _ _ hs.g) (fun _ _ hs=>?_));cases hb49:((decide (eA t2 ((0:Int):Rat))))
    ·
     refine ah (cK (aa hs [.v 46 (qP b1 8),.o 47 (qS A 2 c) 2 8 1] (lX 48 A 2 c 9 0 0 ((hs.f.q.1).ok oM) ?_)));refine lH 49 (aF (([p1,p2]:List PTm).getD 0 ar)) hs ((hs.f.q.1).el 0 oM) (ag 50 hs (kO p1 t1 0 kD ho1 hv1 hw1 _ _ hs.g) (fun _ zp hs=>?_));cases hb52:((decide (eA t1 ((0:Int):Rat))))
     ·
      refine ah (CG.skip ?_);intro a_ ka;exact ⟨_,⟨zp,rfl,hs.to _ _,(DL oM aM aM)⟩,ka.to _ kR⟩
     refine ao (aa hs [.v 51 (qP b1 8),.o 52 (qS A 2 c) 2 8 1] (lX 53 A 2 c 9 1 1 ((hs.f.q.1).ok oM) ?_));refine lH 54 (aF (([p1,p2]:List PTm).getD 1 ar)) hs ((hs.f.q.1).el 1 oM) (lC 55 hs (s7 7 p2 _ _ hs.g) ?_);rintro _ _ _ hs ⟨bo,rfl,hbo⟩;replace hs:=hs.aS hbo;refine lC 56 hs (md d 7 0 0 ⟨#[]⟩ (sB bo) 1 p2 t2 ho2 hv2 hw2 hd (uO hw2) (tG (Nat.le_trans (vq (d:=d) (op:=op) (n:=n) (q:=q) (s:=s) (a:=t1) (b:=t2)) hwg)) (.inl rfl) (nR _) _ _ hs.g hs.f.1 hs.f.r.1 hs.f.2.1) ?_;rintro _ _ _ hs ⟨pr,rfl,hpr⟩;replace hs:=(hs.add (K:=fun h_=>TmH (d+1) h_ pr (dx (.mk 7 0 0 ⟨#[]⟩ [t2]))) hpr);exact lP 1 0 (aK pr) hs (fun _ hs=>ac hs [(1,0,9)] (aF pr) (⟨_,rfl,by rw[bY (fun h_=>Bool.noConfusion ((hfb.2 h_).symm.trans aM)),show bc (.mk op n q s ([t1,t2]:List Tm):Tm)=_ from ED oM aM aM (fun h_=>Bool.noConfusion ((hfb.2 h_).symm.trans aM)) hw2.wfq hw1.wfq];exact hs.f.1⟩))
    refine ao (aa hs [.v 42 (qP b1 8),.o 43 (qS A 2 c) 2 8 1] (lX 44 A 2 c 9 0 0 ((hs.f.q.1).ok oM) ?_));exact lH 45 (aF (([p1,p2]:List PTm).getD 0 ar)) hs ((hs.f.q.1).el 0 oM) (lP 1 0 (aK (([p1,p2]:List PTm).getD 0 ar)) hs (fun _ hs=>ac hs [(1,0,9)] (aF (([p1,p2]:List PTm).getD 0 ar)) (⟨_,rfl,by rw[bY (fun h_=>Bool.noConfusion ((hfb.2 h_).symm.trans aM)),show bc (.mk op n q s ([t1,t2]:List Tm):Tm)=_ from Dy oM aM];exact (hs.f.r.1).mono (Nat.le_succ d)⟩)))
   have zi:=eq_of_beq zb;refine lB 16 zb (lL hs [.m 15 16] (ao (cQ (aa hs [.v 17 (qP b1 8),.o 18 (qS A 2 c) 2 8 1] (lX 19 A 2 c 9 0 0 ((hs.f.q.1).ok oM) ?_)))));refine lH 20 (aF (([p1,p2]:List PTm).getD 0 ar)) hs ((hs.f.q.1).el 0 oM) (ag 21 hs (kO p1 t1 0 kD ho1 hv1 hw1 _ _ hs.g) (fun _ _ hs=>?_));cases hb62:((decide (eA t1 ((0:Int):Rat))))
   ·
    refine ah (cK (aa hs [.v 26 (qP b1 8),.o 27 (qS A 2 c) 2 8 1] (lX 28 A 2 c 9 1 1 ((hs.f.q.1).ok oM) ?_)));refine lH 29 (aF (([p1,p2]:List PTm).getD 1 ar)) hs ((hs.f.q.1).el 1 oM) (ag 30 hs (kO p2 t2 0 kD ho2 hv2 hw2 _ _ hs.g) (fun _ zq hs=>?_));cases hb65:((decide (eA t2 ((0:Int):Rat))))
    ·
     refine ah (CG.skip ?_);intro a_ ka;exact ⟨_,⟨zq,rfl,hs.to _ _,(D3 oM aM aM)⟩,ka.to _ kR⟩
    refine ao (aa hs [.v 31 (qP b1 8),.o 32 (qS A 2 c) 2 8 1] (lX 33 A 2 c 9 0 0 ((hs.f.q.1).ok oM) ?_));exact lH 34 (aF (([p1,p2]:List PTm).getD 0 ar)) hs ((hs.f.q.1).el 0 oM) (lP 1 0 (aK (([p1,p2]:List PTm).getD 0 ar)) hs (fun _ hs=>ac hs [(1,0,9)] (aF (([p1,p2]:List PTm).getD 0 ar)) (⟨_,rfl,by rw[bY (fun h_=>Bool.noConfusion ((hfb.2 h_).symm.trans aM)),show bc (.mk op n q s ([t1,t2]:List Tm):Tm)=_ from DM oM aM aM];exact (hs.f.r.1).mono (Nat.le_succ d)⟩)))
   refine ao (aa hs [.v 22 (qP b1 8),.o 23 (qS A 2 c) 2 8 1] (lX 24 A 2 c 9 1 1 ((hs.f.q.1).ok oM) ?_));exact lH 25 (aF (([p1,p2]:List PTm).getD 1 ar)) hs ((hs.f.q.1).el 1 oM) (lP 1 0 (aK (([p1,p2]:List PTm).getD 1 ar)) hs (fun _ hs=>ac hs [(1,0,9)] (aF (([p1,p2]:List PTm).getD 1 ar)) (⟨_,rfl,by rw[bY (fun h_=>Bool.noConfusion ((hfb.2 h_).symm.trans aM)),show bc (.mk op n q s ([t1,t2]:List Tm):Tm)=_ from D8 oM aM];exact (hs.f.2.1).mono (Nat.le_succ d)⟩)))
  rintro _ _ ⟨_,rfl,hs,hru⟩;exact aa hs [.o 129 (aF ⟨op,n,q,s,A,2,c⟩) 2 0 9] (lP 1 0 (aK ⟨op,n,q,s,A,2,c⟩) hs (fun _ hs=>ac hs [(1,0,9)] (aF ⟨op,n,q,s,A,2,c⟩) (⟨_,rfl,by rw[bY (fun h_=>Bool.noConfusion ((hfb.2 h_).symm.trans aM)),hru];exact hs.f.r.2.1⟩)))
 try rw[za] at hs
 try rw[za]
 exact ce (aa hs [.o 11 (qv xf) 0 0 5] (ag 12 hs (gN xf _ _ hs.g) (fun _ _ hs=>lP 1 0 (aK (⟨1,0,xf,⟨#[]⟩,none,0,0⟩:PTm)) hs (fun _ hs=>ac hs [(1,0,9)] (aF (⟨1,0,xf,⟨#[]⟩,none,0,0⟩:PTm)) (⟨_,rfl,by rw[i4 (hfb.1 aM),←hfx aM];exact TmH.mk (op:=1) (n:=0) (s:=⟨#[]⟩) (c:=0) Tms.nil (nR _) SlO.nil⟩)))))
def Fd (ok:ByteArray→Prop)(d:Nat)(t:Tm)(er:Int):Prop:=((WfT ok d t∧ba d t≤1000)∧er=0)∨(¬(WfT ok d t∧ba d t≤1000)∧er=1)
theorem xt (d:Nat)(op n:Int)(q:Rat)(s:ByteArray)(A:Option Addr)(c:Nat)(w:World)(h:Hp)(g:G w h):CR 65 #[aF ⟨op,n,q,s,A,0,c⟩] w h (fun v _=>∃ x b,v=.tuple #[qv x,.bool b]∧(b=true↔d5 (.mk op n q s []:Tm))∧(b=true→x=(ay [] 2 (.mk op n q s []:Tm)).2)):=by
 have hs:=sS g;exact go Tryz.func65 [(0,aF ⟨op,n,q,s,A,0,c⟩)] rfl (aE (lA 1 31 (aK ⟨op,n,q,s,A,0,c⟩) hs (fun b1 w2 h3 hs=>lA 2 28 ([qF,uV 0,eS,uV 0,eS]) hs (fun b4 w5 h6 hs=>lL hs [.v 3 qF] (af (aa hs [.v 8 (qP b1 8),.o 9 (qS A 0 c) 1 8 1,.v 10 (iV 0),.v 11 qT] (ao (aa hs [.v 12 (.agg #[qF,uV 0,eS,uV 0,eS])] (lP 0 0 ([qF,uV 0,eS,uV 0,eS]) hs (fun w7 hs=>lL hs [.v 3 qF] (ac hs [(0,0,5)] (.tuple #[.agg #[qF,uV 0,eS,uV 0,eS],qF]) (⟨0,false,rfl,⟨fun h_=>absurd h_ kD,fun h_=>absurd rfl h_.1.1⟩,fun h_=>absurd h_ kD⟩))))))))))))
theorem qK (d:Nat)(op n:Int)(q:Rat)(s:ByteArray)(A:Option Addr)(c:Nat)(hop:op=1∨op=2)(w:World)(h:Hp)(g:G w h)(hT:TmH (d+1) h (⟨op,n,q,s,A,0,c⟩:PTm) (.mk op n q s [])):CR 35 #[aF ⟨op,n,q,s,A,0,c⟩] w h (fun v h1=>∃ pr,v=aF pr∧TmH (d+1) h1 pr (dx (.mk op n q s []))):=by
 have hs:=((sS g).add (K:=fun h_=>TmH (d+1) h_ (⟨op,n,q,s,A,0,c⟩:PTm) (.mk op n q s [])) hT);refine go Tryz.func35 [(0,aF ⟨op,n,q,s,A,0,c⟩)] rfl (aE (lA 1 31 (aK ⟨op,n,q,s,A,0,c⟩) hs (fun b1 w2 h3 hs=>lA 2 31 ([iV 0,iV 0,qF,uV 0,eS,uV 0,eS,eS,sZ]) hs (fun b4 w5 h6 hs=>af (aa hs [.o 6 (aF ⟨op,n,q,s,A,0,c⟩) 1 0 9] (lC 7 hs (xt d op n q s A c _ _ hs.g) ?_))))));rintro _ w7 h8 hs ⟨xf,bf,rfl,hfb,hfx⟩;refine lL hs [.m 5 7,.v 8 (qv xf),.v 9 (.bool bf)] (lA 3 28 ([qF,uV 0,eS,uV 0,eS]) hs (fun b9 _ _ hs=>lP 0 0 (qc xf) hs (fun _ hs=>lL hs [.m 4 9] (aG (lL hs [.m 10 4] (lN ?_))))));cases za:(bf)
 ·
  try rw[za] at hs
  try rw[za]
  refine cw (cK (cQ (aa hs [.v 13 (pB b1),.o 14 (iV op) 2 0 1] (bn (aE ?_)))));have zb:((op:Int) == (3:Int))=false:=cv oM;have phb14:=ai zb;refine lB 16 zb (lL hs [.m 15 16] (ah (aE ?_)));have zc:((op:Int) == (4:Int))=false:=cv oM;have phb15:=ai zc;refine lB 36 zc (lL hs [.m 35 36] (ah (aE ?_)));have zd:((op:Int) == (5:Int))=false:=cv oM;have phb16:=ai zd;refine lB 58 zd (lL hs [.m 57 58] (ah (aE ?_)));have ze:((op:Int) == (6:Int))=false:=cv oM;have phb17:=ai ze;refine lB 91 ze (lL hs [.m 90 91] (ah (aE ?_)));have zf:((op:Int) == (7:Int))=false:=cv oM;have phb18:=ai zf;refine lB 102 zf (lL hs [.m 101 102] (ah (aE ?_)));have zg:((op:Int) == (8:Int))=false:=cv oM;have phb19:=ai zg;exact lB 117 zg (lL hs [.m 116 117] (ah (cK (aa hs [.o 129 (aF ⟨op,n,q,s,A,0,c⟩) 2 0 9] (lP 1 0 (aK ⟨op,n,q,s,A,0,c⟩) hs (fun _ hs=>ac hs [(1,0,9)] (aF ⟨op,n,q,s,A,0,c⟩) (⟨_,rfl,by rw[bY (fun h_=>Bool.noConfusion ((hfb.2 h_).symm.trans aM)),show bc (.mk op n q s [])=.mk op n q s [] from Fr hop];exact hs.f.1⟩)))))))
 try rw[za] at hs
 try rw[za]
 exact ce (aa hs [.o 11 (qv xf) 0 0 5] (ag 12 hs (gN xf _ _ hs.g) (fun _ _ hs=>lP 1 0 (aK (⟨1,0,xf,⟨#[]⟩,none,0,0⟩:PTm)) hs (fun _ hs=>ac hs [(1,0,9)] (aF (⟨1,0,xf,⟨#[]⟩,none,0,0⟩:PTm)) (⟨_,rfl,absurd rfl (hfb.1 aM).1.1⟩)))))
theorem uy (d:Nat)(p:PTm)(t:Tm)(hd:d+1≤24)(w:World)(h:Hp)(g:G w h)(x:TmH (d+1) h p t)(hwf:WfT (fun s=>bg s=true) (d+1) t)(hwg:ba (d+1) t≤1000)(tb:Tab h):Calls Tryz.prog 35 #[aF p] w (Ret w h (fun v h1=>∃ pr,v=aF pr∧TmH (d+1) h1 pr (dx t))):=by
 have hT:=x;obtain ⟨op,n,q,s,A,c,ps,ks,rfl,rfl,hc,hK,hKs⟩:=x.open
 rcases hwf.wfq.split with ⟨rfl,ho⟩|⟨a,rfl,ho,ha⟩|⟨a,b,rfl,ho,ha,hb⟩
 ·have e0:ps=[]:=List.eq_nil_of_length_eq_zero hKs.len
  subst e0;exact qK d op n q s A c ho w h g hT
 ·obtain ⟨p1,rfl⟩:=List.length_eq_one_iff.1 (show ps.length=1 from hKs.len)
  have h1:TmH d h p1 a:=hKs.at_ 0 (Nat.succ_pos _);exact md d op n q s A c p1 a (nF h1) (rc h1) ha.wf hd hwf hwg ho hc w h g hK h1 tb
 ·obtain ⟨p1,p2,rfl⟩:=n8 (show ps.length=2 from hKs.len)
  have h1:TmH d h p1 a:=hKs.at_ 0 (Nat.succ_pos _);have h2:TmH d h p2 b:=hKs.at_ 1 (by show 1<2;decide);exact qA d op n q s A c p1 a (nF h1) (rc h1) ha.wf p2 b (nF h2) (rc h2) hb.wf hd hwf hwg ho w h g hK hT h1 h2 tb
theorem vu  (d:Nat)(hd:d+1≤24)(ih:∀ (p:PTm) (t:Tm) (w:World) (h:Hp),G w h→TmH d h p t→BQ (fun s=>bg s=true) d t→Tab h→Calls Tryz.prog 19 #[aF p] w (Ret w h (fun v h1=>∃ p2,v=aF p2∧TmH d h1 p2 (a8 d t))))(op n:Int)(q:Rat)(s:ByteArray)(A:Option Addr)(c:Nat)(ps:List PTm)(ks:List Tm)(hc:ps.length≤c)(hlp:ps.length≤3)(hkd:∀ i,i<ks.length→BQ (fun s=>bg s=true) d (ks.getD i ca))(hwf:WfT (fun s=>bg s=true) (d+1) (.mk op n q s (ks.map (a8 d)):Tm))(hwg:ba (d+1) (.mk op n q s (ks.map (a8 d)):Tm)≤1000)(w:World)(h:Hp)(g:G w h)(hK:SlO 9 aK ar h A ps)(hKs:Tms d h ps ks)(tb:Tab h):CR 19 #[aF ⟨op,n,q,s,A,ps.length,c⟩] w h (fun v h1=>∃ p2,v=aF p2∧TmH (d+1) h1 p2 (a8 (d+1) (.mk op n q s ks))):=by
 have hs:=((((sS g).aS hK).add (K:=fun h_=>Tms d h_ ps ks) hKs).aB tb);have hln:=(hs.f.2.1).len;refine go Tryz.func19 [(0,aF ⟨op,n,q,s,A,ps.length,c⟩)] rfl (aE (lA 1 31 (aK ⟨op,n,q,s,A,ps.length,c⟩) hs (fun b1 w2 h3 hs=>lA 2 31 ([iV 0,iV 0,qF,uV 0,eS,uV 0,eS,eS,sZ]) hs (fun b4 w5 h6 hs=>aG (lL hs [.v 6 (qP b1 8),.o 7 (qS A ps.length c) 1 8 1,.v 8 (nV ps.length)] (lK 9 31 ps.length 9 112 (.agg #[iV 0,iV 0,qF,uV 0,eS,uV 0,eS,eS,sZ]) aK ar hs (fun b7 w8 h9 hs=>?_)))))));have hl10:(List.replicate ps.length ar).length=ps.length:=by simp
 refine lL hs [.m 3 9] (af (aa hs [.v 10 (qP b1 8),.o 11 (qS A ps.length c) 2 8 1,.v 12 (nV ps.length),.v 13 (iV 0)] (bn ?_)));replace hs:=hs.add (K:=fun h_=>TmsU d h_ 0 (List.replicate ps.length ar) (ks.map (a8 d))) ((fun i hi=>absurd hi (Nat.not_lt_zero i)));refine bQ _ (CG.loop (fun μ_ Γ w_=>∃ (k:Nat) (L:List PTm) (h_:Hp),μ_=ps.length-k∧Γ=[(1,pB b1),(2,pB b4),(3,qS (sB b7) ps.length ps.length),(11,qS A ps.length c),(12,nV ps.length),(13,nV k)]∧SS w h w_ h_ [⟨b7,31,(L).flatMap aK⟩,⟨b4,31,[iV 0,iV 0,qF,uV 0,eS,uV 0,eS,eS,sZ]⟩,⟨b1,31,aK ⟨op,n,q,s,A,ps.length,c⟩⟩] [] [fun h_=>TmsU d h_ k L (ks.map (a8 d)),fun h_=>Tab h_,fun h_=>Tms d h_ ps ks,fun h_=>SlO 9 aK ar h_ A ps]∧k≤ps.length∧L.length=ps.length) _ ⟨0,List.replicate ps.length ar,h9,rfl,rfl,hs.to _ _,Nat.zero_le _,(by simp)⟩ ?_);rintro _ _ _ ⟨k,L,_,hm13,rfl,hs,hk,hLl⟩;refine aE ?_;cases za:(decide ((k:Int)<(ps.length:Int)))
 ·
  have zb:=oF za;refine lB 14 za (af (cw (CG.exit ?_)))
  show CG _ _ _ _ _ _ _ _
  refine aE ?_;have hkn:k=ps.length:=by omega
  obtain ⟨_,hs,sg16,lo17,bc18⟩:=hs.pub 0;replace hs:=(hs.to [⟨b4,31,[iV 0,iV 0,qF,uV 0,eS,uV 0,eS,eS,sZ]⟩,⟨b1,31,aK ⟨op,n,q,s,A,ps.length,c⟩⟩] []).aS (SlO.of_flat (sz:=9) (f:=aK) (d:=ar) (b:=b7) (o:=0) (l:=L) (fun _=>rfl) sg16);refine lL hs [.m 24 3,.v 25 (qP b1 8)] (lP 1 8 ([qS (sB b7) ps.length ps.length]) hs (fun _ hs=>lN ?_));replace hs:=hs.add (K:=fun h_=>TmH (d+1) h_ (⟨op,n,q,s,sB b7,ps.length,ps.length⟩:PTm) (.mk op n q s (ks.map (a8 d)):Tm)) (by have h_:=TmH.mk (op:=op) (n:=n) (q:=q) (s:=s) (c:=L.length) (Tms.of_u (by rw[List.length_map];omega) (by rw[List.length_map];omega) hs.f.2.1) (nR _) (hs.f.1);rw[hLl] at h_;exact h_);refine aa hs [.o 26 (aF ⟨op,n,q,s,sB b7,ps.length,ps.length⟩) 1 0 9] (lC 27 hs (uy d (⟨op,n,q,s,sB b7,ps.length,ps.length⟩:PTm) (.mk op n q s (ks.map (a8 d)):Tm) hd _ _ hs.g hs.f.1 hwf hwg hs.f.r.2.1) ?_);rintro _ _ _ hs ⟨pr,rfl,hpr⟩;replace hs:=(hs.add (K:=fun h_=>TmH (d+1) h_ pr (dx (.mk op n q s (ks.map (a8 d)):Tm))) hpr);exact lP 0 0 (aK pr) hs (fun _ hs=>ac hs [(0,0,9)] (aF pr) (⟨pr,rfl,hs.f.1⟩))
 have zb:=oT za;refine lB 14 za (af (ce (cK (cQ (kZ (aa hs [.m 15 13] (lX 16 A ps.length c 9 (k:Nat) k ((hs.f.r.2.1).ok oM) ?_)))))));refine lH 17 (aF (ps.getD k ar)) hs ((hs.f.r.2.1).el k oM) (lA 5 31 ([iV 0,iV 0,qF,uV 0,eS,uV 0,eS,eS,sZ]) hs (fun zd _ _ hs=>lL hs [.m 4 15] (lP 0 0 (aK (ps.getD k ar)) hs (fun _ hs=>lN (kQ (lL hs [.m 18 3,.m 19 4,.o 20 (aF (ps.getD k ar)) 0 0 9] (lC 21 hs (ih (ps.getD k ar) (ks.getD k ca) _ _ hs.g ((hs.f.r.1).at_ k oM) (hkd k oM) hs.f.2.1) ?_)))))));rintro _ _ ze hs ⟨pk,rfl,hpk⟩;replace hs:=(hs.add (K:=fun h_=>TmH d h_ pk (a8 d (ks.getD k ca))) hpk);refine lX 22 (sB b7) ps.length ps.length 9 (k:Nat) k rfl (lW 1 L aK 9 k pk hs oM (fun _ hs=>?_));have zc:((L).set k pk).length=ps.length:=by rw[List.length_set];exact hLl
 replace hs:=hs.to [⟨zd,31,aK (ps.getD k ar)⟩,⟨b7,31,((L).set k pk).flatMap aK⟩,⟨b4,31,[iV 0,iV 0,qF,uV 0,eS,uV 0,eS,eS,sZ]⟩,⟨b1,31,aK ⟨op,n,q,s,A,ps.length,c⟩⟩] [];refine lN (kQ (bH 23 ((k:Nat)+1) (k+1) ?_));refine lL hs [.m 13 23] (lD ?_);intro a_ ka;replace hs:=(hs.tl.tl.add (K:=fun h_=>TmsU d h_ (k+1) ((L).set k pk) (ks.map (a8 d))) ((hs.f.2.1).set oM (by rw[pP (a:=ca) oM];exact hs.f.1)));replace hs:=hs.drop 1 0;refine ⟨_,_,?_,⟨k+1,(L).set k pk,ze,rfl,rfl,hs.to _ _,oM,zc⟩,ka.to _ kR⟩
 omega
theorem qD:∀ (d:Nat),d≤24→∀ (p:PTm) (t:Tm) (w:World) (h:Hp),G w h→TmH d h p t→BQ (fun s=>bg s=true) d t→Tab h→Calls Tryz.prog 19 #[aF p] w (Ret w h (fun v h1=>∃ p2,v=aF p2∧TmH d h1 p2 (a8 d t)))
  | 0,_,_,_,_,_,_,x,_,_=>x.elim
  | d+1,hd,p,t,w,h,g,x,wf,tb=>by
    obtain ⟨op,n,q,s,A,c,ps,ks,rfl,rfl,hc,hK,hKs⟩:=x.open;obtain ⟨s1,s2,s3⟩:=wf;have s1_:eF op=((ks.map (a8 d)).length:Nat):=s1.1;have s4_:=aT op;rw[List.length_map] at s1_
    exact vu d hd (fun p t w h=>qD d oM p t w h) op n q s A c ps ks hc (by have:=hKs.len;omega) s3 s1 s2 w h g hK hKs tb
theorem wq (d:Nat)(p:PTm)(t:Tm)(hd:d≤24)(hPl:WfT (fun s=>bg s=true) d t∧ba d t≤1000→BQ (fun s=>bg s=true) d t∧WfT (fun s=>bg s=true) d (a8 d t))(w:World)(h:Hp)(g:G w h)(hT:TmH d h p t)(hS:lr i8 d t)(tb:Tab h):CR 7 #[aF p] w h (fun v h1=>∃ (p2:PTm) (er:Int),v=.tuple #[aF p2,iV er]∧Fd (fun s=>bg s=true) d t er∧(er=0→TmH d h1 p2 (a8 d t))∧(er≠0→p2=ar)):=by
 have hs:=(((sS g).add (K:=fun h_=>TmH d h_ p t) hT).aB tb);refine go Tryz.func7 [(0,aF p)] rfl (aE (lA 1 31 (aK p) hs (fun b1 w2 h3 hs=>lA 2 31 ([iV 0,iV 0,qF,uV 0,eS,uV 0,eS,eS,sZ]) hs (fun b4 w5 h6 hs=>lL hs [.v 3 (iV 0)] (af (aa hs [.o 4 (aF p) 1 0 9] (lC 5 hs (oQ bg i8 sa d p t hd _ _ hs.g hs.f.2.1 hS) ?_)))))));rintro _ w7 h8 hs ⟨ec,rfl,hec⟩;cases hb9:((ec:Int) != (0:Int))
 ·
  have phb9:=az hb9;refine lB 6 hb9 (ah (cK (aa hs [.o 8 (aF p) 1 0 9] (lC 9 hs (qD d hd p t _ _ hs.g hs.f.2.1 (hPl (f8 hec oM)).1 hs.f.1) ?_))));rintro _ _ _ hs ⟨pa,rfl,hpa⟩;replace hs:=(hs.add (K:=fun h_=>TmH d h_ pa (a8 d t)) hpa);refine lC 10 hs (rv (fun s=>bg s=true) d pa (a8 d t) _ _ hs.g hs.f.1 (hPl (f8 hec oM)).2) ?_;rintro _ _ _ hs ⟨pc,rfl,hpc⟩;replace hs:=(hs.add (K:=fun h_=>TmH d h_ pc (a8 d t)) hpc);exact lP 0 0 (aK pc) hs (fun _ hs=>lL hs [.v 3 (iV 0)] (ac hs [(0,0,9)] (.tuple #[aF pc,iV 0]) (⟨pc,_,rfl,.inl ⟨f8 hec oM,rfl⟩,(fun _=>(hs.f.1)),(fun h_=>absurd rfl h_)⟩)))
 have phb9:=aY hb9;exact lB 6 hb9 (ao (aa hs [.v 7 (.agg #[iV 0,iV 0,qF,uV 0,eS,uV 0,eS,eS,sZ])] (lP 0 0 ([iV 0,iV 0,qF,uV 0,eS,uV 0,eS,eS,sZ]) hs (fun _ hs=>lL hs [.v 3 (iV 1)] (ac hs [(0,0,9)] (.tuple #[.agg #[iV 0,iV 0,qF,uV 0,eS,uV 0,eS,eS,sZ],iV 1]) (⟨ar,_,rfl,.inr ⟨ry hec oM,rfl⟩,(fun h_=>absurd h_ kD),(fun _=>rfl)⟩))))))
section
variable {ok:ByteArray→Prop} {d:Nat}
theorem ei {q:Rat}(h:LQ 1 q):WfQ 1 ok (d+1) (bW q):=⟨rfl,fun h=>absurd rfl h,h,fun h=>absurd (show (1:Int)=2 from h) kD,fun _=>rfl,fun _=>rfl,by show (-12:Int)≤0;decide,by show (0:Int)≤12;decide,fun i hi=>absurd hi (Nat.not_lt_zero i)⟩
theorem il {s:ByteArray}(h:ok s):WfQ 1 ok (d+1) (bV s):=⟨rfl,fun _=>rfl,kh kD,fun _=>h,fun h=>absurd rfl h,fun _=>rfl,by show (-12:Int)≤0;decide,by show (0:Int)≤12;decide,fun i hi=>absurd hi (Nat.not_lt_zero i)⟩
theorem Bk {n:Int}{t:Tm}(x:WfQ 1 ok d t)(h1 : -12≤n)(h2:n≤12):WfQ 1 ok (d+1) (.mk 8 n 0 ⟨#[]⟩ [t]):=⟨rfl,fun _=>rfl,kh kD,fun h=>absurd (show (8:Int)=2 from h) kD,fun _=>rfl,fun h=>absurd rfl h,h1,h2,fun i hi=>by
 have:i=0:=by have:i<1:=hi;omega
 subst this;exact x⟩
theorem nH {op:Int}{t:Tm}(x:WfQ 1 ok d t)(ha:eF op=1)(h2:op≠2):WfQ 1 ok (d+1) (iq op t):=⟨ha,fun _=>rfl,kh kD,fun h=>absurd (show op=2 from h) h2,fun _=>rfl,fun _=>rfl,by show (-12:Int)≤0;decide,by show (0:Int)≤12;decide,fun i hi=>by
 have:i=0:=by have:i<1:=hi;omega
 subst this;exact x⟩
theorem dS {op:Int}{t u:Tm}(x:WfQ 1 ok d t)(y:WfQ 1 ok d u)(ha:eF op=2)(h2:op≠2):WfQ 1 ok (d+1) (bB op t u):=⟨ha,fun _=>rfl,kh kD,fun h=>absurd (show op=2 from h) h2,fun _=>rfl,fun _=>rfl,by show (-12:Int)≤0;decide,by show (0:Int)≤12;decide,fun i hi=>by
 have:i=0∨i=1:=by have:i<2:=hi;omega
 rcases this with rfl|rfl
 ·exact x
 ·exact y⟩
end
theorem TmH.cutS {sm:ByteArray→Prop}{h:Hp}:∀ {e d:Nat} {p:PTm} {t:Tm},TmH e h p t→lr sm d t→TmH d h p t
 | _,0,_,_,_,x=>x.elim
 | 0,_,_,_,x,_=>x.elim
 | e+1,d+1,p,t,⟨h1,h2,h3,h4,h5,h6,ps,h7,h8,h9⟩,⟨_,_,_,_,_,k⟩=>⟨h1,h2,h3,h4,h5,h6,ps,h7,h8,fun i hi=>(h9 i hi).cutS (k i hi)⟩
theorem PtH.cutS {sm:ByteArray→Prop}{h:Hp}{d:Nat}{p:PTm}{t:Tm}(x:PtH h p t)(y:lr sm d t):TmH d h p t:=by obtain ⟨e,x⟩:=x;exact x.cutS y
theorem Ct:LQ 1 (1/2:Rat):=⟨by rw[BH];show (wds 1).length≤1;rw[bj kD kD];decide,by rw[xy,bj kD kD];decide⟩
theorem ER {q:Rat}{n:Int}{d a:Nat}(h1:q.num=n)(h2:ab n=a)(h3:q.den=d)(ha:0<a∧a<18446744073709551616)(hd:0<d∧d<18446744073709551616):LQ 100000000 q:=⟨by rw[h1,h2,bj ha.1 ha.2];show 1≤_;decide,by rw[h3,bj hd.1 hd.2];show 1≤_;decide⟩
theorem Fs:LQ 100000000 (-37/2:Rat):=ER (n:=-37) (d:=2) (a:=37) kR rfl kR kD kD
theorem Fg:LQ 100000000 (-3/4:Rat):=ER (n:=-3) (d:=4) (a:=3) kR rfl kR kD kD
theorem BV (d:Nat)(p:PTm)(t:Tm)(hd:d≤24)(hN:¬WfT (fun s=>bg s=true) d t)(w:World)(h:Hp)(g:G w h)(hT:TmH d h p t)(hS:lr i8 d t):Calls Tryz.prog 15 #[aF p] w (Ret w h (fun v _=>v=iV 2)) :=
 (oQ bg i8 sa d p t hd w h g hT hS).mono fun e w' ⟨v,h',e1,u,e2,e3,e4⟩=>⟨v,h',e1,u,by
  rcases e4 with ⟨e4,_⟩|⟨_,e4⟩
  ·exact absurd e4 hN
  ·rw[e3,e4]⟩
theorem nT (nf bf:ByteArray→Option Rat)(hnf:lU nf)(hbf:wY bf)(s:ByteArray)(hsz:s.size≤65536)(n:Nat)(b:Nat)(hq:pre nf bf s n .sum 0=some b)(w:World)(h:Hp)(g:G w h)(tb:Tab h):CR 4 #[.string s] w h (fun v h1=>v=.tuple #[aF ar,.agg #[iV 2,iV 1,nV b]]):=by
 have hs:=((sS g).aB tb);refine go Tryz.func4 [(0,.string s)] rfl (aE (lA 2 31 ([iV 0,iV 0,qF,uV 0,eS,uV 0,eS,eS,sZ]) hs (fun b1 w2 h3 hs=>lA 3 34 ([iV 0,iV 0,iV 0]) hs (fun b4 w5 h6 hs=>af (aa hs [.m 7 0,.v 8 (nV s.size)] ?_)))));have hb7:(decide ((65536:Int)<(s.size:Int)))=false:=decide_eq_false oM;refine lB 9 hb7 (ah (cK (aa hs [.m 12 0,.v 13 (.agg #[.string s,iV 0,iV 0])] (lA 14 52 ([.string s,iV 0,iV 0]) hs (fun b8 w9 _ hs=>lL hs [.m 4 14] (aG (lL hs [.m 15 4] (cY 16 ((BZ hnf nJ hbf n).1 b8 s oM 0 (Nat.zero_le _) 0 b hq _ _ hs.g (hs.own 0) (hs.jk 0) hs.f.1) ?_))))))));rintro _ _ _ u13 ⟨ae,rfl,hae,hO⟩;replace hs:=(hs.stepM 0 u13 hO).to [⟨b8,52,[.string s,nV ae,nV b]⟩,⟨b4,34,[iV 0,iV 0,iV 0]⟩,⟨b1,31,[iV 0,iV 0,qF,uV 0,eS,uV 0,eS,eS,sZ]⟩] [];refine lL hs [.m 5 16] (af (aa hs [.m 17 5,.v 18 qF] (ah (cK (cQ (aa hs [.m 34 5,.v 35 qT] (ao (cQ ?_))))))));have hsr:=hs;refine tw 6 [] [b1,b4] mixed hs av (eV 0 36 (.agg #[iV 0,iV 0,qF,uV 0,eS,uV 0,eS,eS,sZ]) (eV 1 37 (pB b8) (eV 2 38 (pB b8) (eV 3 39 (qP b8 2) (ph 4 40 [(0,2,1)] (nV b) hsr hs ?_ (hM:=fun p hp=>by obtain rfl:=List.mem_singleton.1 hp;exact fun hm=>by rcases List.mem_cons.1 hm with e|hm;exact dj hs.st (i:=0) (j:=2) kR kR kR e;rcases List.mem_cons.1 hm with e|hm;exact dj hs.st (i:=0) (j:=1) kR kR kR e;cases hm))))));refine eV 5 41 (.agg #[iV 2,iV 1,nV b]) (cC hs (fun _ _ hs=>tP 6 2 0 ([iV 0,iV 0,qF,uV 0,eS,uV 0,eS,eS,sZ]) hs (fun _ hs=>?_) (hz:=cW (List.mem_cons_self))));refine tP 7 1 0 ([iV 2,iV 1,nV b]) hs (fun _ hs=>?_) (hz:=cW (List.mem_cons_of_mem _<|List.mem_cons_self));exact tN (kX (hs.ret [(2,0,9),(1,0,3)] (.tuple #[.agg #[iV 0,iV 0,qF,uV 0,eS,uV 0,eS,eS,sZ],.agg #[iV 2,iV 1,nV b]]) rfl))
end Go.Proofs.YtebkpkbmegcjeaaGreatDoor
