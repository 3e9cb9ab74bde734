/- Laws and contracts that the card of this claim stands on, part 6. No condition of ours. -/
import Derived.Test.YtnbjahmpennmkaaGreatDoorPp0
import Derived.Test.YtnbjahmpennmkaaGreatDoorPp1
import Derived.Test.YtnbjahmpennmkaaGreatDoorPp2
import Derived.Test.YtnbjahmpennmkaaGreatDoorPp3
import Derived.Test.YtnbjahmpennmkaaGreatDoorPp4
set_option maxRecDepth 100000
set_option maxHeartbeats 4000000
namespace Go.Proofs.YtnbjahmpennmkaaGreatDoor
open Go.RowKit
open Go.RowKit Go.Shelf
structure Poked (h h':Hp) (b:Nat):Prop where
  oth:∀ c,c≠b→c<h.size→h'[c]?=h[c]?
theorem Poked.of {h h':Hp}{b:Nat}(o:∀ c,c≠b→h'[c]?=(h.setIfInBounds b junk)[c]?):Poked h h' b:=⟨fun c hc _=>(o c hc).trans (Array.getElem?_setIfInBounds_ne (Ne.symm hc))⟩
theorem Poked.grab (h:Hp)(b:Nat):Poked h (h.setIfInBounds b junk) b:=⟨fun c hc _=>Array.getElem?_setIfInBounds_ne (Ne.symm hc)⟩
theorem Poked.via {h h1 h':Hp}{b:Nat}(g:Gr (h.setIfInBounds b junk) h1)(o:∀ c,c≠b→h'[c]?=h1[c]?):Poked h h' b:=⟨fun c hc hl=>(o c hc).trans ((g.blk c (by simpa using hl)).trans (Array.getElem?_setIfInBounds_ne (Ne.symm hc)))⟩
theorem Poked.cell {h h':Hp}{b:Nat}(p:Poked h h' b){c i:Nat}{v:Value}(hc:c≠b)(e:hcell h c i=some v):hcell h' c i=some v:=by
  obtain ⟨cs,t,g,h1,_⟩:=hcell_some e
  unfold hcell at *
  rw[p.oth c hc (lt_of_some h1)];exact e
theorem Poked.slo {α:Type}{sz:Nat}{f:α→List Value}{d:α}{h h':Hp}{b:Nat}{A:Option Addr}{l:List α}(p:Poked h h' b)(hA:aB A≠b)(s:SlO sz f d h A l):SlO sz f d h' A l :=
  ⟨s.ok,fun k hk i v hv=>p.cell hA (s.el k hk i v hv)⟩
theorem Poked.val {α:Type}{sz:Nat}{f:α→List Value}{d:α}{h h':Hp}{b:Nat}{A:Option Addr}{l:List α}(p:Poked h h' b)(s:SlO sz f d h A l)
    (hv:∀ i v,hcell h b i=some v→hcell h' b i=some v∨∀ x,v ∉ f x):SlO sz f d h' A l :=
  ⟨s.ok,fun k hk i v hi=>by
    have h1:=s.el k hk i v hi
    by_cases e:aB A=b
    · rw[e] at h1 ⊢
      rcases hv _ _ h1 with h2|h2
      · exact h2
      · exact absurd (List.mem_of_getElem? hi) (h2 _)
    · exact p.cell e h1⟩
theorem Whole.poke {lo:Nat}{h h':Hp}{b c:Nat}{ty:TypeId}{vs:List Value}(x:Whole lo h c ty vs)(p:Poked h h' b)(hc:c≠b):Whole lo h' c ty vs:=⟨x.lo,x.ty0,(p.oth c hc (lt_of_some x.at_)).trans x.at_⟩
section ss
variable {w0:World} {h0:Hp} {w:World} {h:Hp} {B:List Bx} {R:List Rw} {F:List (Hp→Prop)}
theorem SS.clear (s:SS w0 h0 w h B R F):SS w0 h0 w h B R []:=⟨s.g0,s.st,s.ro,s.ap,(fun p hp=>by cases hp),trivial⟩
theorem SS.sgw (s:SS w0 h0 w h B R F):Gw h0 h:=s.st.up.gr.gw
end ss
def SzLe (a:Nat)(h:Hp):Prop:=a≤h.size
theorem SzLe.gw {a:Nat}{h h':Hp}(x:SzLe a h)(u:Gw h h'):SzLe a h':=Nat.le_trans x u.size
def matp (n k:Nat)(f:Nat→Nat→Rat):List (List Rat):=(List.range k).map fun i=>vec n (f i)
theorem matp_len (n k:Nat)(f:Nat→Nat→Rat):(matp n k f).length=k:=by simp[matp]
theorem matp_row {n k i:Nat}(f:Nat→Nat→Rat)(h:i<k):(matp n k f).getD i []=vec n (f i):=by simp[matp,h]
theorem matp_snoc {h:Hp}{us:List Value}{n k:Nat}{f:Nat→Nat→Rat}(r:RVs h us (matp n k f)){v:Value}(hv:∃ A cap,∃ ts:List RT,v=.slice A ts.length cap∧ts.length≤cap∧SlO 3 rqc rqd h A ts∧RTs h ts (vec n (f k))):RVs h (us++[v]) (matp n (k+1) f):=by
  unfold matp
  rw[List.range_succ,List.map_append]
  exact r.snoc hv
theorem matf_at {h:Hp}{us:List Value}{n k:Nat}{f:Nat→Nat→Rat}(r:RVs h us (matf n f))(hk:k<n):∃ A cap,∃ ts:List RT,us.getD k undef=.slice A ts.length cap∧ts.length≤cap∧SlO 3 rqc rqd h A ts∧RTs h ts (vec n (f k)):=by
  have x:=r.at_ k (by rw[matf_len];exact hk)
  rw[matf_row f hk] at x
  exact x
theorem hcell_at {h:Hp}{b:Nat}{ty:TypeId}{cs:List Value}(e:h[b]?=some (.cells cs.toArray ty (0,0)))(i:Nat):hcell h b i=cs[i]?:=by
  unfold hcell;rw[e];simp
theorem Whole.seg {lo:Nat}{h:Hp}{b:Nat}{ty:TypeId}{cs sp:List Value}(x:Whole lo h b ty (cs++sp)):Seg h b 0 cs:=fun i v hv=>by
  have hi:i<cs.length:=by
    rcases Nat.lt_or_ge i cs.length with hl|hl
    · exact hl
    · rw[List.getElem?_eq_none hl] at hv;cases hv
  rw[Nat.zero_add,hcell_at x.at_,List.getElem?_append_left hi];exact hv
theorem Whole.slo {α:Type}{lo:Nat}{h:Hp}{b:Nat}{ty:TypeId}{sz:Nat}{f:α→List Value}{d:α}{l:List α}{sp:List Value}(hf:∀ x,(f x).length=sz)(x:Whole lo h b ty (l.flatMap f++sp)):SlO sz f d h (some ⟨b,0,none⟩) l:=SlO.of_flat hf x.seg
theorem Whole.up {lo l2:Nat}{h:Hp}{b:Nat}{ty:TypeId}{vs:List Value}(x:Whole l2 h b ty vs)(hl:lo≤l2):Whole lo h b ty vs:=⟨Nat.le_trans hl x.lo,x.ty0,x.at_⟩
structure Sep (lo:Nat) (h:Hp) (us:List Value) (n k:Nat) (F:Nat→Nat→Rat):Prop where
  len:us.length=k
  at_:∀ i,i<k→∃ b c,∃ ts:List RT,∃ sp,us.getD i undef=.slice (some ⟨b,0,none⟩) ts.length c∧ts.length≤c∧Whole lo h b 74 (ts.flatMap rqc++sp)∧RTs h ts (vec n (F i))
  ne:∀ i,i<k→∀ j,j<i→slB (us.getD i undef)≠slB (us.getD j undef)
theorem Sep.gw {lo:Nat}{h h':Hp}{us:List Value}{n k:Nat}{F:Nat→Nat→Rat}(x:Sep lo h us n k F)(u:Gw h h'):Sep lo h' us n k F:=⟨x.len,fun i hi=>by
  obtain ⟨b,c,ts,sp,h1,h2,h3,h4⟩:=x.at_ i hi
  exact ⟨b,c,ts,sp,h1,h2,h3.gw u,h4.gw u⟩,x.ne⟩
theorem Sep.up {lo l2:Nat}{h:Hp}{us:List Value}{n k:Nat}{F:Nat→Nat→Rat}(x:Sep l2 h us n k F)(hl:lo≤l2):Sep lo h us n k F:=⟨x.len,fun i hi=>by
  obtain ⟨b,c,ts,sp,h1,h2,h3,h4⟩:=x.at_ i hi
  exact ⟨b,c,ts,sp,h1,h2,h3.up hl,h4⟩,x.ne⟩
theorem Sep.nil {lo:Nat}{h:Hp}{n:Nat}{F:Nat→Nat→Rat}:Sep lo h [] n 0 F:=⟨rfl,fun i hi=>absurd hi (Nat.not_lt_zero i),fun i hi=>absurd hi (Nat.not_lt_zero i)⟩
theorem Sep.new {lo:Nat}{h:Hp}{us:List Value}{n k:Nat}{F:Nat→Nat→Rat}(x:Sep lo h us n k F){b:Nat}(hj:h[b]?=some junk):∀ i,i<k→slB (us.getD i undef)≠b:=fun i hi e=>by
  obtain ⟨b2,c,ts,sp,h1,h2,h3,h4⟩:=x.at_ i hi
  rw[h1] at e
  have e':b2=b:=e
  subst e'
  exact h3.nj hj
theorem Sep.snoc {lo:Nat}{h:Hp}{us:List Value}{n k:Nat}{F:Nat→Nat→Rat}(x:Sep lo h us n k F){b:Nat}{ts:List RT}{sp:List Value}(hW:Whole lo h b 74 (ts.flatMap rqc++sp))(hT:RTs h ts (vec n (F k))){v:Value}{c:Nat}(hv:v=.slice (some ⟨b,0,none⟩) ts.length c)(hc:ts.length≤c)(hne:∀ i,i<k→slB (us.getD i undef)≠b):Sep lo h (us++[v]) n (k+1) F:=by
  refine ⟨by rw[List.length_append,x.len];rfl,fun i hi=>?_,fun i hi j hj=>?_⟩
  · rw[getD_snoc,x.len]
    by_cases e:i<k
    · rw[if_pos e];exact x.at_ i e
    · rw[if_neg e,if_pos oM,show i=k by omega];exact ⟨b,c,ts,sp,hv,hc,hW,hT⟩
  · rw[getD_snoc,getD_snoc,x.len,if_pos (show j<k by omega)]
    by_cases e:i<k
    · rw[if_pos e];exact x.ne i e j hj
    · rw[if_neg e,if_pos oM,hv]
      exact fun e2=>hne j oM e2.symm
theorem Sep.rvs {lo:Nat}{h:Hp}{us:List Value}{n:Nat}{F:Nat→Nat→Rat}(x:Sep lo h us n n F):RVs h us (matf n F):=⟨by rw[matf_len];exact x.len,fun i hi=>by
  rw[matf_len] at hi
  obtain ⟨b,c,ts,sp,h1,h2,h3,h4⟩:=x.at_ i hi
  rw[matf_row F hi]
  exact ⟨_,c,ts,h1,h2,h3.slo (fun _=>rfl),h4⟩⟩
theorem Poked.rp {h h':Hp}{b:Nat}(p:Poked h h' b){v:Value}{z:Int}{n:Nat}(r:RP h v z n)(hv:∀ i x,hcell h b i=some x→hcell h' b i=some x∨∀ m:Int,x≠.int .u32 m):RP h' v z n:=by
  have key:∀ {A:Option Addr} {l:List Nat},SlO 1 u32c 0 h A l→SlO 1 u32c 0 h' A l:=fun s=>p.val s (fun i x hx=>by
    rcases hv i x hx with e|e
    · exact .inl e
    · exact .inr (fun y hy=>e _ (List.mem_singleton.1 hy)))
  obtain ⟨A,c,B,d,h1,h2,h3,h4,h5⟩:=r
  exact ⟨A,c,B,d,h1,h2,h3,key h4,key h5⟩
theorem Poked.rts {h h':Hp}{b:Nat}(p:Poked h h' b){ts:List RT}{qs:List Rat}(r:RTs h ts qs)(hv:∀ i x,hcell h b i=some x→hcell h' b i=some x∨∀ m:Int,x≠.int .u32 m):RTs h' ts qs:=⟨r.len,fun i hi=>p.rp (r.at_ i hi) hv⟩
theorem Sep.oth {lo:Nat}{h h':Hp}{us:List Value}{n:Nat}{F:Nat→Nat→Rat}(x:Sep lo h us n n F){b:Nat}(p:Poked h h' b)(hv:∀ i x,hcell h b i=some x→hcell h' b i=some x∨∀ m:Int,x≠.int .u32 m){i:Nat}(hi:i<n)(hne:slB (us.getD i undef)≠b) :
    ∃ A cap,∃ ts:List RT,us.getD i undef=.slice A ts.length cap∧ts.length≤cap∧SlO 3 rqc rqd h' A ts∧RTs h' ts (vec n (F i)):=by
  obtain ⟨b2,c,ts,sp,h1,h2,h3,h4⟩:=x.at_ i hi
  rw[h1] at hne
  exact ⟨_,c,ts,h1,h2,p.slo hne (h3.slo (fun _=>rfl)),p.rts h4 hv⟩
theorem Sep.put0 {lo:Nat}{h h':Hp}{us:List Value}{n:Nat}{F:Nat→Nat→Rat}(S:Sep lo h us n n F){at_:Nat}(hat:at_<n){b c:Nat}{t0:RT}{tl:List RT}{sp:List Value}(e:us.getD at_ undef=.slice (some ⟨b,0,none⟩) (t0::tl).length c)(hc:(t0::tl).length≤c)(hW:Whole lo h b 74 ([.bool t0.1,t0.2.1,t0.2.2]++(tl.flatMap rqc++sp)))(hT:RTs h (t0::tl) (vec n (F at_)))
    (p:Poked h h' b){t':RT}{q:Rat}(hq:RQ h (rtv t') q)(hb':h'[b]?=some (.cells (([.bool t'.1,t'.2.1,t'.2.2]:List Value)++(tl.flatMap rqc++sp)).toArray 74 (0,0))):RVs h' us ((matf n F).set at_ (((matf n F).getD at_ []).set 0 q)):=by
  have hlt:=hT.len
  rw[vec_len] at hlt
  have h0:RP h (rtv t0) (((vec n (F at_)).getD 0 0).num) (((vec n (F at_)).getD 0 0).den):=hT.at_ 0 (by rw[vec_len];omega)
  obtain ⟨A1,c1,B1,d1,h1,_,_,_,_⟩:=h0
  have h1':t0.2.1=.slice A1 (lim (iabs ((vec n (F at_)).getD 0 0).num)).length c1∧t0.2.2=.slice B1 (lim ((vec n (F at_)).getD 0 0).den).length d1:=by
    unfold rtv at h1
    injection h1 with h1
    have h2:=congrArg Array.toList h1
    simp at h2
    exact ⟨h2.2.1,h2.2.2⟩
  have hv:∀ i x,hcell h b i=some x→hcell h' b i=some x∨∀ m:Int,x≠.int .u32 m:=fun i x hx=>by
    rw[hcell_at hW.at_] at hx
    rw[hcell_at hb']
    match i,hx with
    | 0,hx=>right;simp at hx;subst hx;exact fun m e=>by cases e
    | 1,hx=>right;simp at hx;subst hx;rw[h1'.1];exact fun m e=>by cases e
    | 2,hx=>right;simp at hx;subst hx;rw[h1'.2];exact fun m e=>by cases e
    | j+3,hx=>left;exact hx
  refine ⟨by rw[List.length_set,matf_len];exact S.len,fun i hi=>?_⟩
  rw[List.length_set,matf_len] at hi
  rw[getD_setl,matf_len]
  by_cases e2:at_=i
  · subst e2
    rw[if_pos ⟨rfl,hat⟩,matf_row F hat]
    refine ⟨_,c,t'::tl,e,hc,SlO.of_flat (fun _=>rfl) (fun i v hv'=>?_),⟨by rw[List.length_set,vec_len,←hlt];rfl,fun j hj=>?_⟩⟩
    · rw[Nat.zero_add,hcell_at hb']
      have e3:(t'::tl).flatMap rqc=([.bool t'.1,t'.2.1,t'.2.2]:List Value)++tl.flatMap rqc:=rfl
      rw[e3] at hv'
      rw[←List.append_assoc]
      have hi2:i<(([.bool t'.1,t'.2.1,t'.2.2]:List Value)++tl.flatMap rqc).length:=by
        rcases Nat.lt_or_ge i (([.bool t'.1,t'.2.1,t'.2.2]:List Value)++tl.flatMap rqc).length with hl|hl
        · exact hl
        · rw[List.getElem?_eq_none hl] at hv';cases hv'
      rw[List.getElem?_append_left hi2];exact hv'
    · rw[List.length_set,vec_len] at hj
      rw[getD_setl,vec_len]
      cases j with
      | zero=>rw[if_pos ⟨rfl,by omega⟩];exact p.rp hq hv
      | succ j =>
        rw[if_neg (fun h=>by omega)]
        exact p.rp (hT.at_ (j+1) (by rw[vec_len];exact hj)) hv
  · rw[if_neg (fun h=>e2 h.1),matf_row F hi]
    refine S.oth p hv hi ?_
    rcases Nat.lt_or_ge i at_ with hl|hl
    · have:=S.ne at_ hat i hl
      rw[e] at this
      exact fun h=>this h.symm
    · have:=S.ne i hi at_ oM
      rw[e] at this
      exact this
theorem flat_vc (l:List Value):l.flatMap vc=l:=by induction l with|nil=>rfl|cons a l ih=>show a::l.flatMap vc=_;rw[ih]
theorem Sep.cut {lo:Nat}{h h':Hp}{us:List Value}{n:Nat}{F:Nat→Nat→Rat}(S:Sep lo h us n n F){at_:Nat}(hat:at_<n){bo b c:Nat}{ts:List RT}{sp:List Value}(e:us.getD at_ undef=.slice (some ⟨b,0,none⟩) ts.length c)(hc:ts.length≤c)(hT:RTs h ts (vec n (F at_)))(hR:SlO 3 rqc rqd h (some ⟨b,0,none⟩) ts)(hne:∀ i,i<n→slB (us.getD i undef)≠bo)
    (hW:Whole lo h bo 27 ((us++sp).flatMap vc))(p:Poked h h' bo){v:Value}(hv':v=.slice (if c=1 then some ⟨b,0,none⟩ else (some ⟨b,0,none⟩:Option Addr).map (·.add (1*3))) (ts.length-1) (c-1))(hb':h'[bo]?=some (.cells (((us++sp).set at_ v).flatMap vc).toArray 27 (0,0))) :
    RVs h' (us.set at_ v) ((matf n F).set at_ (((matf n F).getD at_ []).drop 1))∧SlO 1 vc undef h' (some ⟨bo,0,none⟩) (us.set at_ v):=by
  have hlt:=hT.len
  rw[vec_len] at hlt
  have hul:=S.len
  rw[flat_vc] at hW hb'
  have hv:∀ i x,hcell h bo i=some x→hcell h' bo i=some x∨∀ m:Int,x≠.int .u32 m:=fun i x hx=>by
    rw[hcell_at hW.at_] at hx
    rw[hcell_at hb']
    by_cases e2:at_=i
    · subst e2
      right
      have:x=us.getD at_ undef:=by
        rw[List.getElem?_append_left oM] at hx
        rw[List.getD_eq_getElem?_getD,hx];rfl
      rw[this,e];exact fun m h=>by cases h
    · left;rw[List.getElem?_set_ne e2];exact hx
  refine ⟨⟨by rw[List.length_set,List.length_set,matf_len];exact hul,fun i hi=>?_⟩,SlO.of_flat (fun _=>rfl) (fun i x hx=>?_)⟩
  · rw[List.length_set,matf_len] at hi
    rw[getD_setl,getD_setl,matf_len,hul]
    by_cases e2:at_=i
    · subst e2
      rw[if_pos ⟨rfl,hat⟩,if_pos ⟨rfl,hat⟩,matf_row F hat]
      have hbne:slB (us.getD at_ undef)≠bo:=hne at_ hat
      rw[e] at hbne
      have hR':SlO 3 rqc rqd h' (some ⟨b,0,none⟩) ts:=p.slo hbne hR
      have hT':=p.rts hT hv
      refine ⟨_,c-1,ts.drop 1,by rw[List.length_drop];exact hv',by rw[List.length_drop];omega,hR'.drop 1 c hc,⟨by rw[List.length_drop,List.length_drop,vec_len];omega,fun j hj=>?_⟩⟩
      rw[List.length_drop,vec_len] at hj
      have:=hT'.at_ (1+j) (by rw[vec_len];omega)
      rw[getD_drop1,getD_drop1]
      exact this
    · rw[if_neg (fun h=>e2 h.1),if_neg (fun h=>e2 h.1),matf_row F hi]
      exact S.oth p hv hi (hne i hi)
  · rw[flat_vc] at hx
    rw[Nat.zero_add,hcell_at hb']
    have hi:i<(us.set at_ v).length:=by
      rcases Nat.lt_or_ge i (us.set at_ v).length with hl|hl
      · exact hl
      · rw[List.getElem?_eq_none hl] at hx;cases hx
    rw[List.length_set] at hi
    by_cases e2:at_=i
    · subst e2
      rw[List.getElem?_set_self (by simpa using hi)] at hx
      rw[List.getElem?_set_self (by rw[List.length_append];omega)];exact hx
    · rw[List.getElem?_set_ne e2] at hx
      rw[List.getElem?_set_ne e2,List.getElem?_append_left hi];exact hx
theorem rRightF (A:Option Addr)(cap:Nat)(us:List Value)(f:Nat→Nat→Rat)(n:Nat)(h0n:0<n)(hn4:n≤5)(w:World)(h:Hp)(g:G w h)(hA:SlO 1 vc undef h A us)(hU:RVs h us (matf n f)):Calls Tryz.prog 69 #[.slice A us.length cap] w (Ret w h fun v _=>v=.bool true) :=
  rRightT A cap us (matf n f) (by rw[matf_len];omega) (fun i hi=>by rw[matf_len] at hi;rw[matf_row f hi,vec_len];omega) (matf_right f h0n) w h g hA hU
def RQk (h:Hp)(ts:List RT)(k:Nat)(q:Rat):Prop:=∀ i,i<k→RQ h (rtv (ts.getD i rqd)) q
theorem RQk.gw {h h':Hp}{ts:List RT}{k:Nat}{q:Rat}(x:RQk h ts k q)(u:Gw h h'):RQk h' ts k q:=fun i hi=>(x i hi).gw u
theorem RQk.nil {h:Hp}{ts:List RT}{q:Rat}:RQk h ts 0 q:=fun i hi=>absurd hi (Nat.not_lt_zero i)
theorem rq_set {h:Hp}{ts:List RT}{n k:Nat}{t:RT}{q:Rat}(hl:ts.length=n)(hk:k<n)(hT:RQk h ts k q)(hq:RQ h (rtv t) q):RQk h (ts.set k t) (k+1) q:=fun i hi=>by
  rw[getD_setl,hl]
  by_cases e:k=i
  · rw[if_pos ⟨e,hk⟩];exact hq
  · rw[if_neg (fun x=>e x.1)];exact hT i oM
theorem rts_cells {h:Hp}{ts:List RT}{qs:List Rat}(r:RTs h ts qs){x:Value}(hx:x∈ts.flatMap rqc):∀ m:Int,x≠.int .u32 m:=by
  obtain ⟨t,ht,hx⟩:=List.mem_flatMap.1 hx
  obtain ⟨i,hi,rfl⟩:=List.mem_iff_getElem.1 ht
  obtain ⟨A1,c1,B1,d1,h1,_,_,_,_⟩:RP h (rtv (ts.getD i rqd)) _ _:=r.at_ i (by rw[←r.len];exact hi)
  rw[show ts.getD i rqd=ts[i] by simp[hi]] at h1
  unfold rtv at h1
  injection h1 with h1
  have h2:=congrArg Array.toList h1
  simp at h2
  intro m e
  subst e
  unfold rqc at hx
  simp at hx
  rcases hx with e|e
  · rw[h2.2.1] at e;cases e
  · rw[h2.2.2] at e;cases e
theorem RTs.taken {h h':Hp}{b:Nat}{ty:TypeId}{ts:List RT}{qs:List Rat}(r:RTs h ts qs)(hb:h[b]?=some (.cells (ts.flatMap rqc).toArray ty (0,0)))(o:∀ c,c≠b→h'[c]?=h[c]?):RTs h' ts qs :=
  Poked.rts ⟨fun c hc _=>o c hc⟩ r (fun i x hx=>.inr (by
    rw[hcell_at hb] at hx
    exact rts_cells r (List.mem_of_getElem? hx)))
theorem eye_row {h:Hp}{ts:List RT}{n k:Nat}{t:RT}(hT:RTs h ts (vec n (fun _=>0)))(hk:k<n)(hq:RQ h (rtv t) ((1:Int):Rat)):RTs h (ts.set k t) (vec n (eyef k)):=by
  have hl:=hT.len
  rw[vec_len] at hl
  refine ⟨by rw[List.length_set,vec_len];exact hl,fun i hi=>?_⟩
  rw[vec_len] at hi
  rw[getD_setl,hl,vec_get _ hi]
  unfold eyef
  by_cases e:k=i
  · rw[if_pos ⟨e,hk⟩,if_pos e.symm];exact hq
  · rw[if_neg (fun x=>e x.1),if_neg (fun x=>e x.symm)]
    have:=hT.at_ i (by rw[vec_len];exact hi)
    rw[vec_get _ hi] at this;exact this
theorem rCol (A:Option Addr)(capA:Nat)(us:List Value)(W:List (List Rat))(hlW:W.length≤1000)(hlsW:∀ i,i<W.length→(W.getD i []).length≤1000)(n:Nat)(hn4:n≤5)(j:Nat)(hn:W.length=n)(hw:∀ i,i<n→j<(W.getD i []).length)(hj9:j≤1000)(w:World)(h:Hp)(g:G w h)(hA:SlO 1 vc undef h A us)(hUW:RVs h us W) :
    Calls Tryz.prog 70 #[.slice A us.length capA,.int .i64 (j:Nat)] w (Ret w h fun v h1=>∃ A c ts,v=.slice A (ts:List RT).length c∧ts.length≤c∧SlO 3 rqc rqd h1 A ts∧RTs h1 ts (vec n (fun i=>mA W i j))):=by
 have hs:=SS.start g
 replace hs:=((hs.a_SlO hA).add (K:=fun h_=>RVs h_ us W) hUW)
 have hlu:=(hs.f.1).len
 refine go Tryz.func70 [(0,.slice A us.length capA),(1,.int .i64 (j:Nat))] rfl ?_
 refine cSL (lL hs [.v 4 (.slice none 0 0)] (lNS (lL hs [.v 5 (.slice none 0 0)] (lN (CG.seq (cSL (lL hs [.v 6 (.int .i64 0)] (lN (CG.block ?_)))))))))
 replace hs:=hs.nil 74 3
 refine cTo [(0,.slice A us.length capA),(1,.int .i64 (j:Nat)),(4,.slice none 0 0),(6,.int .i64 0),(5,.slice none 0 0)] ?_
 replace hs:=hs.add (K:=fun h_=>RTs h_ ([]) (vec 0 (fun i=>mA W i j))) (RTs.nil)
 refine CG.loop (fun μ_ Γ w_=>∃ (k:Nat) (sA:Option Addr) (sc:Nat) (ts:List RT) (h_:Hp),μ_=n-k∧Γ=[(0,.slice A us.length capA),(1,.int .i64 (j:Nat)),(4,.slice none 0 0),(6,.int .i64 (k:Nat)),(5,.slice sA ((ts).length) sc)]∧SS w h w_ h_ [] [⟨74,3,sA,sc,(ts).length,(ts).flatMap rqc⟩] [fun h_=>RTs h_ ts (vec k (fun i=>mA W i j)),fun h_=>RVs h_ us W,fun h_=>SlO 1 vc undef h_ A us]∧(k≤n)) _ ⟨0,none,0,[],h,rfl,rfl,hs.to _ _,Nat.zero_le _⟩ ?_
 rintro _ _ w1 ⟨k,sA,sc,ts,h2,hm3,rfl,hs,hk⟩
 have hlT:=(hs.f.1).len
 rw[vec_len] at hlT
 have hwk:=hw k
 refine CG.seq (cSL (lL hs [.m 7 6,.m 8 0,.v 9 (.int .i64 (us.length:Nat))] ?_))
 cases hb4:(decide (((k:Nat):Int)<((us.length:Nat):Int)))
 ·
  have phb4:=oF hb4
  refine lB 10 hb4 ?_
  refine lN (cIF (CG.exit ?_))
  show CG _ _ _ _ _ _ _ _
  refine cSL (lL hs [.m 23 5,.m 4 23] (lN (CG.ret ?_)))
  have hkn:k=n:=by omega
  obtain ⟨h5,hs,hc6⟩:=hs.pubr 0 (A:=sA) (c:=sc) (l:=ts) (f:=rqc) (ty:=74) (sz:=3) rqd (fun _=>rfl)
  exact hs.ret [] (.slice sA ((ts).length) sc) (⟨_,_,ts,rfl,hc6,(hs.f.1),(by have q_:=(hs.f.2.1);rw[hkn] at q_;exact q_)⟩)
 have phb4:=oT hb4
 refine lB 10 hb4 ?_
 refine lN (cIT (CG.skipN (CG.seq (CG.block (CG.listed (lL hs [.m 13 5,.m 14 0,.m 15 6] (lX 16 A us.length capA 1 (k:Nat) k ((hs.f.2.2.1).ok oM) ?_)))))))
 obtain ⟨Arx,crx,trx,erx,hcrx,hRrx,hTrx⟩:=(hs.f.2.1).at_ k oM
 have hlrx:=hTrx.len
 replace hs:=((hs.a_SlO hRrx).add (K:=fun h_=>RTs h_ trx (W.getD k [])) hTrx)
 refine lHe 17 (us.getD k undef) hs ((hs.f.2.2.2.2.1).el k oM) erx ?_
 refine lL hs [.m 18 1] (lX 19 Arx trx.length crx 3 (j:Nat) j ((hs.f.2.1).ok oM) ?_)
 obtain ⟨Axe,cxe,Dxe,dxe,exe,hcxe,hdxe,hAxe,hDxe⟩:=(hs.f.1).at_ j oM
 replace hs:=((hs.a_SlO hAxe).a_SlO hDxe)
 refine lHe 20 (.agg #[.bool ((trx.getD j rqd).1),(trx.getD j rqd).2.1,(trx.getD j rqd).2.2]) hs ((hs.f.2.2.2.1).el j oM) exe ?_
 refine lR 21 74 1 ([.bool (ineg ((W.getD k []).getD j 0).num),.slice Axe ((lim (iabs ((W.getD k []).getD j 0).num)).length) cxe,.slice Dxe ((lim ((W.getD k []).getD j 0).den).length) dxe]) hs (fun b8 w9 h10 hs=>?_)
 refine lY 22 0 74 3 sc sA ts rqc ((ineg ((W.getD k []).getD j 0).num,.slice Axe ((lim (iabs ((W.getD k []).getD j 0).num)).length) cxe,.slice Dxe ((lim ((W.getD k []).getD j 0).den).length) dxe):RT) 56 b8 (.agg #[.bool false,.slice none 0 0,.slice none 0 0]) hs (hs.f.1) (fun A12 c13 w14 h15 hs=>?_)
 refine lL hs [.m 5 22] (lN (CG.listed (lL hs [.m 11 6] (lIn 12 ((k:Nat)+1) (k+1) ?_))))
 refine lL hs [.m 6 12] (lD ?_)
 intro a_ ka
 have q17:RTs h15 (ts++[((ineg ((W.getD k []).getD j 0).num,.slice Axe ((lim (iabs ((W.getD k []).getD j 0).num)).length) cxe,.slice Dxe ((lim ((W.getD k []).getD j 0).den).length) dxe):RT)]) (vec (k+1) (fun i=>mA W i j)):=(vec_step (hs.f.2.2.2.2.2.1) (rqOk hcxe hdxe (hs.f.2.2.1) (hs.f.2.1)))
 have q18:(k+1)≤n:=by omega
 replace hs:=(hs.tl.tl.tl.tl.tl.tl.add (K:=fun h_=>RTs h_ (ts++[((ineg ((W.getD k []).getD j 0).num,.slice Axe ((lim (iabs ((W.getD k []).getD j 0).num)).length) cxe,.slice Dxe ((lim ((W.getD k []).getD j 0).den).length) dxe):RT)]) (vec (k+1) (fun i=>mA W i j))) q17)
 refine ⟨_,_,?_,⟨k+1,A12,c13,ts++[((ineg ((W.getD k []).getD j 0).num,.slice Axe ((lim (iabs ((W.getD k []).getD j 0).num)).length) cxe,.slice Dxe ((lim ((W.getD k []).getD j 0).den).length) dxe):RT)],h15,rfl,rfl,hs.to _ _,q18⟩,ka.to [(0,.slice A us.length capA),(1,.int .i64 (j:Nat)),(4,.slice none 0 0),(6,.int .i64 ((k+1):Nat)),(5,.slice A12 (((ts++[((ineg ((W.getD k []).getD j 0).num,.slice Axe ((lim (iabs ((W.getD k []).getD j 0).num)).length) cxe,.slice Dxe ((lim ((W.getD k []).getD j 0).den).length) dxe):RT)])).length) c13)] kR⟩
 omega
theorem rColF (A:Option Addr)(cap:Nat)(us:List Value)(f:Nat→Nat→Rat)(n:Nat)(hn4:n≤5)(j:Nat)(hj:j<n)(w:World)(h:Hp)(g:G w h)(hA:SlO 1 vc undef h A us)(hU:RVs h us (matf n f)):Calls Tryz.prog 70 #[.slice A us.length cap,.int .i64 (j:Nat)] w (Ret w h fun v h1=>∃ A c ts,v=.slice A (ts:List RT).length c∧ts.length≤c∧SlO 3 rqc rqd h1 A ts∧RTs h1 ts (vec n fun i=>f i j)):=by
  have x:=rCol A cap us (matf n f) (by rw[matf_len];omega) (fun i hi=>by rw[matf_len] at hi;rw[matf_row f hi,vec_len];omega) n hn4 j (matf_len n f) (fun i hi=>by rw[matf_row f hi,vec_len];exact hj) oM w h g hA hU
  rw[vec_congr (f:=fun i=>mA (matf n f) i j) (g:=fun i=>f i j) (fun i hi=>matf_get f hi hj)] at x
  exact x
theorem rTurn (n:Nat)(h0n:0<n)(hn4:n≤5)(A:Option Addr)(capA:Nat)(us:List Value)(f:Nat→Nat→Rat)(w:World)(h:Hp)(g:G w h)(hA:SlO 1 vc undef h A us)(hUf:RVs h us (matf n f)) :
    Calls Tryz.prog 23 #[.slice A us.length capA] w (Ret w h fun v h1=>∃ A c us,v=.tuple #[.slice A (us:List Value).length c,.int .i64 0]∧us.length≤c∧SlO 1 vc undef h1 A us∧RVs h1 us (matf n (fun i j=>f j i))):=by
 have hs:=SS.start g
 replace hs:=((hs.a_SlO hA).add (K:=fun h_=>RVs h_ us (matf n f)) hUf)
 have hlus:=(hs.f.1).len
 rw[matf_len] at hlus
 have hlmf:=matf_len n f
 refine go Tryz.func23 [(0,.slice A us.length capA)] rfl ?_
 refine cSL (lL hs [.v 2 (.slice none 0 0),.v 3 (.int .i64 0)] (lN (CG.seq (cSL (lL hs [.m 6 0] (lC 7 hs (rRightF A capA us f n h0n hn4 _ _ hs.g (hs.f.2.1) (hs.f.1)) ?_))))))
 rintro _ w1 h2 hs rfl
 refine lL hs [.v 8 (.bool false)] (lN (cIF (CG.skipN (cSL (lL hs [.v 4 (.slice none 0 0)] (lN (CG.seq (cSL (lL hs [.v 5 (.int .i64 0)] (lN (CG.block ?_)))))))))))
 replace hs:=hs.nil 27 1
 refine cTo [(0,.slice A us.length capA),(2,.slice none 0 0),(3,.int .i64 0),(5,.int .i64 0),(4,.slice none 0 0)] ?_
 replace hs:=hs.add (K:=fun h_=>RVs h_ ([]) (matp n 0 (fun i j=>f j i))) (RVs.nil)
 refine CG.loop (fun μ_ Γ w_=>∃ (k:Nat) (smA:Option Addr) (smc:Nat) (um:List Value) (h_:Hp),μ_=n-k∧Γ=[(0,.slice A us.length capA),(2,.slice none 0 0),(3,.int .i64 0),(5,.int .i64 (k:Nat)),(4,.slice smA ((um).length) smc)]∧SS w h w_ h_ [] [⟨27,1,smA,smc,(um).length,(um).flatMap vc⟩] [fun h_=>RVs h_ um (matp n k (fun i j=>f j i)),fun h_=>RVs h_ us (matf n f),fun h_=>SlO 1 vc undef h_ A us]∧(k≤n)) _ ⟨0,none,0,[],h2,rfl,rfl,hs.to _ _,Nat.zero_le _⟩ ?_
 rintro _ _ w3 ⟨k,smA,smc,um,h4,hm5,rfl,hs,hk⟩
 have hlum:=(hs.f.1).len
 rw[matp_len] at hlum
 refine CG.seq (cSL (lL hs [.m 9 5,.m 10 0] (lX 11 A us.length capA 1 0 0 ((hs.f.2.2.1).ok oM) ?_)))
 obtain ⟨Arz,crz,trz,erz,hcrz,hRrz,hTrz⟩:=matf_at (hs.f.2.1) (k:=0) oM
 have hlrz:=hTrz.len
 rw[vec_len] at hlrz
 have hvnz:=vec_len n (f 0)
 replace hs:=((hs.a_SlO hRrz).add (K:=fun h_=>RTs h_ trz (vec n (f 0))) hTrz)
 refine lHe 12 (us.getD 0 undef) hs ((hs.f.2.2.2.2.1).el 0 oM) erz ?_
 refine lL hs [.v 13 (.int .i64 (trz.length:Nat))] ?_
 cases hb6:(decide (((k:Nat):Int)<((trz.length:Nat):Int)))
 ·
  have phb6:=oF hb6
  refine lB 14 hb6 ?_
  refine lN (cIF (CG.exit ?_))
  show CG _ _ _ _ _ _ _ _
  refine cSL (lL hs [.m 23 4,.m 2 23,.v 3 (.int .i64 0)] (lN (CG.ret ?_)))
  have hkn:k=n:=by omega
  obtain ⟨h7,hs,hc8⟩:=hs.pubr 0 (A:=smA) (c:=smc) (l:=um) (f:=vc) (ty:=27) (sz:=1) undef (fun _=>rfl)
  exact hs.ret [] (.tuple #[.slice smA ((um).length) smc,.int .i64 0]) (⟨_,_,um,rfl,hc8,(hs.f.1),(by have q_:=(hs.f.2.2.2.1);rw[hkn] at q_;exact q_)⟩)
 have phb6:=oT hb6
 refine lB 14 hb6 ?_
 refine lN (cIT (CG.skipN (CG.seq (CG.block (CG.listed (lL hs [.m 17 4,.m 18 0,.m 19 5] (lC 20 hs (rColF A capA us f n hn4 k oM _ _ hs.g (hs.f.2.2.2.2.1) (hs.f.2.2.2.1)) ?_)))))))
 rintro _ w10 h11 hs ⟨Ac,ccl,tc,rfl,hccl,hAc,hTc⟩
 replace hs:=((hs.a_SlO hAc).add (K:=fun h_=>RTs h_ tc (vec n (fun i=>f i k))) hTc)
 refine lR 21 27 1 ([.slice Ac tc.length ccl]) hs (fun b12 w13 h14 hs=>?_)
 refine lY 22 0 27 1 smc smA um vc (.slice Ac tc.length ccl:Value) 24 b12 (.slice none 0 0) hs (hs.f.1) (fun A16 c17 w18 h19 hs=>?_)
 refine lL hs [.m 4 22] (lN (CG.listed (lL hs [.m 15 5] (lIn 16 ((k:Nat)+1) (k+1) ?_))))
 refine lL hs [.m 5 16] (lD ?_)
 intro a_ ka
 have q21:RVs h19 (um++[(.slice Ac tc.length ccl:Value)]) (matp n (k+1) (fun i j=>f j i)):=(matp_snoc (hs.f.2.2.2.2.2.1) ⟨_,_,tc,rfl,hccl,(hs.f.2.2.1),(hs.f.2.1)⟩)
 have q22:(k+1)≤n:=by omega
 replace hs:=(hs.tl.tl.tl.tl.tl.tl.add (K:=fun h_=>RVs h_ (um++[(.slice Ac tc.length ccl:Value)]) (matp n (k+1) (fun i j=>f j i))) q21)
 refine ⟨_,_,?_,⟨k+1,A16,c17,um++[(.slice Ac tc.length ccl:Value)],h19,rfl,rfl,hs.to _ _,q22⟩,ka.to [(0,.slice A us.length capA),(2,.slice none 0 0),(3,.int .i64 0),(5,.int .i64 ((k+1):Nat)),(4,.slice A16 (((um++[(.slice Ac tc.length ccl:Value)])).length) c17)] kR⟩
 omega
theorem rMulF (n:Nat)(h0n:0<n)(hn4:n≤5)(A:Option Addr)(capA:Nat)(us:List Value)(f:Nat→Nat→Rat)(D:Option Addr)(capD:Nat)(vs:List Value)(g_:Nat→Nat→Rat)(hf3:∀ i j,LQ 3 (f i j))(hg3:∀ i j,LQ 3 (g_ i j))(w:World)(h:Hp)(g:G w h)(hA:SlO 1 vc undef h A us)(hUf:RVs h us (matf n f))(hD:SlO 1 vc undef h D vs)(hUg_:RVs h vs (matf n g_)) :
    Calls Tryz.prog 24 #[.slice A us.length capA,.slice D vs.length capD] w (Ret w h fun v h1=>∃ bo c us sp,v=.tuple #[.slice (some ⟨bo,0,none⟩) (us:List Value).length c,.int .i64 0]∧us.length≤c∧Whole h.size h1 bo 27 (us.flatMap vc++sp)∧(∀ i,i<n→slB (us.getD i undef)≠bo)∧Sep h.size h1 us n n (fun i_ k_=>dt n (f i_) (fun j=>g_ j k_))):=by
 have hs:=SS.start g
 replace hs:=((((hs.a_SlO hA).add (K:=fun h_=>RVs h_ us (matf n f)) hUf).a_SlO hD).add (K:=fun h_=>RVs h_ vs (matf n g_)) hUg_)
 have hlus:=(hs.f.2.2.1).len
 rw[matf_len] at hlus
 have hlmf:=matf_len n f
 have hlvs:=(hs.f.1).len
 rw[matf_len] at hlvs
 have hlmg_:=matf_len n g_
 refine go Tryz.func24 [(0,.slice A us.length capA),(1,.slice D vs.length capD)] rfl ?_
 refine cSL (lL hs [.v 4 (.slice none 0 0),.v 5 (.int .i64 0)] (lN (CG.seq (cSL (lL hs [.m 10 0] (lC 11 hs (rRightF A capA us f n h0n hn4 _ _ hs.g (hs.f.2.2.2.1) (hs.f.2.2.1)) ?_))))))
 rintro _ w1 h2 hs rfl
 refine lL hs [.v 12 (.bool false),.m 13 12,.m 14 1] (lC 15 hs (rRightF D capD vs g_ n h0n hn4 _ _ hs.g (hs.f.2.1) (hs.f.1)) ?_)
 rintro _ w3 h4 hs rfl
 refine lL hs [.v 16 (.bool false),.v 17 (.bool false),.m 18 17,.m 19 0] (lX 20 A us.length capA 1 0 0 ((hs.f.2.2.2.1).ok oM) ?_)
 obtain ⟨Arv,crv,trv,erv,hcrv,hRrv,hTrv⟩:=matf_at (hs.f.2.2.1) (k:=0) oM
 have hlrv:=hTrv.len
 rw[vec_len] at hlrv
 have hvnv:=vec_len n (f 0)
 replace hs:=((hs.a_SlO hRrv).add (K:=fun h_=>RTs h_ trv (vec n (f 0))) hTrv)
 refine lHe 21 (us.getD 0 undef) hs ((hs.f.2.2.2.2.2.1).el 0 oM) erv ?_
 refine lL hs [.v 22 (.int .i64 (trv.length:Nat)),.m 23 1,.v 24 (.int .i64 (vs.length:Nat))] ?_
 have hb5:(((trv.length:Nat):Int) != ((vs.length:Nat):Int))=false:=bneF oM
 have phb5:=eqOfBne hb5
 refine lB 25 hb5 ?_
 refine lL hs [.v 26 (.bool false)] (lN (cIF (CG.skipN (cSL (lL hs [.v 6 (.slice none 0 0)] (lN (CG.seq (cSL (lL hs [.v 7 (.int .i64 0)] (lN (CG.block ?_)))))))))))
 replace hs:=hs.nil 27 1
 refine cTo [(0,.slice A us.length capA),(1,.slice D vs.length capD),(4,.slice none 0 0),(5,.int .i64 0),(7,.int .i64 0),(6,.slice none 0 0)] ?_
 replace hs:=hs.add (K:=fun h_=>Sep h.size h_ ([]) n 0 (fun i_ k_=>dt n (f i_) (fun j=>g_ j k_))) (Sep.nil)
 refine CG.loop (fun μ_ Γ w_=>∃ (i:Nat) (smA:Option Addr) (smc:Nat) (um:List Value) (h_:Hp),μ_=n-i∧Γ=[(0,.slice A us.length capA),(1,.slice D vs.length capD),(4,.slice none 0 0),(5,.int .i64 0),(7,.int .i64 (i:Nat)),(6,.slice smA ((um).length) smc)]∧SS w h w_ h_ [] [⟨27,1,smA,smc,(um).length,(um).flatMap vc⟩] [fun h_=>Sep h.size h_ um n i (fun i_ k_=>dt n (f i_) (fun j=>g_ j k_)),fun h_=>RTs h_ trv (vec n (f 0)),fun h_=>SlO 3 rqc rqd h_ Arv trv,fun h_=>RVs h_ vs (matf n g_),fun h_=>SlO 1 vc undef h_ D vs,fun h_=>RVs h_ us (matf n f),fun h_=>SlO 1 vc undef h_ A us]∧(i≤n)) _ ⟨0,none,0,[],h4,rfl,rfl,hs.to _ _,Nat.zero_le _⟩ ?_
 rintro _ _ w6 ⟨i,smA,smc,um,h7,hm8,rfl,hs,hi⟩
 have hlum:=(hs.f.1).len
 refine CG.seq (cSL (lL hs [.m 27 7,.m 28 0,.v 29 (.int .i64 (us.length:Nat))] ?_))
 cases hb9:(decide (((i:Nat):Int)<((us.length:Nat):Int)))
 ·
  have phb9:=oF hb9
  refine lB 30 hb9 ?_
  refine lN (cIF (CG.exit ?_))
  show CG _ _ _ _ _ _ _ _
  refine cSL (lL hs [.m 56 6,.m 4 56,.v 5 (.int .i64 0)] (lN (CG.ret ?_)))
  have hin:i=n:=by omega
  have hlum2:=(hs.f.1).len
  have hS0:=(hs.f.1)
  obtain ⟨h10,bo,spo,hAbo,hjo,hs,hco⟩:=hs.pubrS 0 (A:=smA) (c:=smc) (l:=um) (f:=vc) (ty:=27) (sz:=1) undef (fun _=>rfl) oM kD
  have hneo:=hS0.new hjo
  subst hAbo
  rw[hin] at hneo
  exact hs.ret [] (.tuple #[.slice (some ⟨bo,0,none⟩) ((um).length) smc,.int .i64 0]) (⟨bo,_,um,spo,rfl,hco,(hs.f.1),hneo,(by have q_:=(hs.f.2.2.1);rw[hin] at q_;exact q_)⟩)
 have phb9:=oT hb9
 refine lB 30 hb9 ?_
 refine lN (cIT (CG.skipN (CG.seq (CG.block (cSL (lL hs [.v 8 (.slice none 0 0)] (lN (CG.seq (cSL (lL hs [.v 9 (.int .i64 0)] (lN (CG.block ?_))))))))))))
 replace hs:=hs.nil 74 3
 refine cTo [(0,.slice A us.length capA),(1,.slice D vs.length capD),(4,.slice none 0 0),(5,.int .i64 0),(7,.int .i64 (i:Nat)),(6,.slice smA ((um).length) smc),(9,.int .i64 0),(8,.slice none 0 0)] ?_
 replace hs:=hs.add (K:=fun h_=>RTs h_ ([]) (vec 0 (fun k_=>dt n (f i) (fun j=>g_ j k_)))) (RTs.nil)
 refine CG.loop (fun μ_ Γ w_=>∃ (k:Nat) (sA:Option Addr) (sc:Nat) (ts:List RT) (h_:Hp),μ_=n-k∧Γ=[(0,.slice A us.length capA),(1,.slice D vs.length capD),(4,.slice none 0 0),(5,.int .i64 0),(7,.int .i64 (i:Nat)),(6,.slice smA ((um).length) smc),(9,.int .i64 (k:Nat)),(8,.slice sA ((ts).length) sc)]∧SS w h w_ h_ [] [⟨74,3,sA,sc,(ts).length,(ts).flatMap rqc⟩,⟨27,1,smA,smc,(um).length,(um).flatMap vc⟩] [fun h_=>RTs h_ ts (vec k (fun k_=>dt n (f i) (fun j=>g_ j k_))),fun h_=>Sep h.size h_ um n i (fun i_ k_=>dt n (f i_) (fun j=>g_ j k_)),fun h_=>RTs h_ trv (vec n (f 0)),fun h_=>SlO 3 rqc rqd h_ Arv trv,fun h_=>RVs h_ vs (matf n g_),fun h_=>SlO 1 vc undef h_ D vs,fun h_=>RVs h_ us (matf n f),fun h_=>SlO 1 vc undef h_ A us]∧(k≤n)) _ ⟨0,none,0,[],h7,rfl,rfl,hs.to _ _,Nat.zero_le _⟩ ?_
 rintro _ _ w11 ⟨k,sA,sc,ts,h12,hm13,rfl,hs,hk⟩
 have hlT:=(hs.f.1).len
 rw[vec_len] at hlT
 refine CG.seq (cSL (lL hs [.m 33 9,.m 34 1] (lX 35 D vs.length capD 1 0 0 ((hs.f.2.2.2.2.2.1).ok oM) ?_)))
 obtain ⟨Arz,crz,trz,erz,hcrz,hRrz,hTrz⟩:=matf_at (hs.f.2.2.2.2.1) (k:=0) oM
 have hlrz:=hTrz.len
 rw[vec_len] at hlrz
 have hvnz:=vec_len n (g_ 0)
 replace hs:=((hs.a_SlO hRrz).add (K:=fun h_=>RTs h_ trz (vec n (g_ 0))) hTrz)
 refine lHe 36 (vs.getD 0 undef) hs ((hs.f.2.2.2.2.2.2.2.1).el 0 oM) erz ?_
 refine lL hs [.v 37 (.int .i64 (trz.length:Nat))] ?_
 cases hb14:(decide (((k:Nat):Int)<((trz.length:Nat):Int)))
 ·
  have phb14:=oF hb14
  refine lB 38 hb14 ?_
  refine lN (cIF (CG.exit ?_))
  show CG _ _ _ _ _ _ _ _
  refine CG.listed (lL hs [.m 52 6,.m 53 8] ?_)
  have hkn:k=n:=by omega
  have hlT2:=(hs.f.2.2.1).len
  rw[vec_len] at hlT2
  have hS0:=(hs.f.2.2.2.1)
  obtain ⟨h15,br,spr,hAbr,hjr,hs,hcr⟩:=hs.pubrS 0 (A:=sA) (c:=sc) (l:=ts) (f:=rqc) (ty:=74) (sz:=3) rqd (fun _=>rfl) oM kD
  have hner:=hS0.new hjr
  replace hs:=hs.add (K:=fun h_=>RTs h_ ts (vec n (fun k_=>dt n (f i) (fun j=>g_ j k_)))) (by have q_:=(hs.f.2.2.2.2.1);rw[hkn] at q_;exact q_)
  refine lR 54 27 1 ([.slice sA ((ts).length) sc]) hs (fun b16 w17 h18 hs=>?_)
  refine lY 55 0 27 1 smc smA um vc (.slice sA ((ts).length) sc:Value) 24 b16 (.slice none 0 0) hs (hs.f.1) (fun A20 c21 w22 h23 hs=>?_)
  refine lL hs [.m 6 55] (lN (CG.listed (lL hs [.m 31 7] (lIn 32 ((i:Nat)+1) (i+1) ?_))))
  refine lL hs [.m 7 32] (lD ?_)
  intro a_ ka
  have q25:Sep h.size h23 (um++[(.slice sA ((ts).length) sc:Value)]) n (i+1) (fun i_ k_=>dt n (f i_) (fun j=>g_ j k_)):=(Sep.snoc (hs.f.2.2.2.2.2.2.2.1) (hs.f.2.2.1) (hs.f.2.1) (by rw[hAbr]) hcr hner)
  have q26:(i+1)≤n:=by omega
  replace hs:=(hs.tl.tl.tl.tl.tl.tl.tl.tl.add (K:=fun h_=>Sep h.size h_ (um++[(.slice sA ((ts).length) sc:Value)]) n (i+1) (fun i_ k_=>dt n (f i_) (fun j=>g_ j k_))) q25)
  refine ⟨_,_,?_,⟨i+1,A20,c21,um++[(.slice sA ((ts).length) sc:Value)],h23,rfl,rfl,hs.to _ _,q26⟩,ka.to [(0,.slice A us.length capA),(1,.slice D vs.length capD),(4,.slice none 0 0),(5,.int .i64 0),(7,.int .i64 ((i+1):Nat)),(6,.slice A20 (((um++[(.slice sA ((ts).length) sc:Value)])).length) c21)] kR⟩
  omega
 have phb14:=oT hb14
 refine lB 38 hb14 ?_
 refine lN (cIT (CG.skipN (CG.seq (CG.block (CG.region ⟨((Value.slice sA ((ts).length) sc).ownBlock.toList),none⟩ 11 [] mixed kR hs.g al_nil (hs.ro_lt 0 (ty:=74) (sz:=3) (A:=sA) (c:=sc) (m:=(ts).length) (cs:=(ts).flatMap rqc)) ?_)))))
 refine eV 0 41 (.slice sA ((ts).length) sc) ?_
 refine eV 1 42 (.slice A us.length capA) ?_
 refine eV 2 43 (.int .i64 (i:Nat)) ?_
 refine eX 3 44 A us.length capA 1 (i:Nat) i ((hs.f.2.2.2.2.2.2.2.2.2.1).ok oM) ?_
 obtain ⟨Arx,crx,trx,erx,hcrx,hRrx,hTrx⟩:=matf_at (hs.f.2.2.2.2.2.2.2.2.1) (k:=i) oM
 have hlrx:=hTrx.len
 rw[vec_len] at hlrx
 have hvnx:=vec_len n (f i)
 replace hs:=((hs.a_SlO hRrx).add (K:=fun h_=>RTs h_ trx (vec n (f i))) hTrx)
 refine eHe 4 45 (us.getD i undef) hs ((hs.f.2.2.2.2.2.2.2.2.2.2.2.1).el i oM) erx ?_ (hM:=hs.ro_jk 0 (ty:=74) (sz:=3) (A:=sA) (c:=sc) (m:=(ts).length) (cs:=(ts).flatMap rqc))
 refine eV 5 46 (.slice D vs.length capD) ?_
 refine eV 6 47 (.int .i64 (k:Nat)) ?_
 refine eC 7 48 hs (fun _ _ hs=>rColF D capD vs g_ n hn4 k oM _ _ hs.g (hs.f.2.2.2.2.2.2.2.2.2.1) (hs.f.2.2.2.2.2.2.2.2.1)) ?_
 rintro _ _ _ w27 h28 hs ⟨Ac,ccl,tc,rfl,hccl,hAc,hTc⟩
 replace hs:=((hs.a_SlO hAc).add (K:=fun h_=>RTs h_ tc (vec n (fun j=>g_ j k))) hTc)
 refine eC 8 49 hs (fun _ _ hs=>rDotV (f i) (fun j=>g_ j k) n Arx crx trx Ac ccl tc 3 3 hn4 kD (fun j _=>hf3 i j) (fun j _=>hg3 j k) _ _ hs.g (hs.f.2.2.2.1) (hs.f.2.2.1) (hs.f.2.1) (hs.f.1)) ?_
 rintro _ _ _ w37 h38 hs ⟨A29,c30,A33,c34,rfl,hc31,hc35,hA32,hA36⟩
 replace hs:=((hs.a_SlO hA32).a_SlO hA36)
 refine eR 9 50 74 1 ([.bool (ineg (dt n (f i) (fun j=>g_ j k)).num),.slice A29 ((lim (iabs (dt n (f i) (fun j=>g_ j k)).num)).length) c30,.slice A33 ((lim (dt n (f i) (fun j=>g_ j k)).den).length) c34]) hs (fun b39 w40 h41 hs=>?_)
 refine eY 10 51 0 74 3 sc sA ts rqc ((ineg (dt n (f i) (fun j=>g_ j k)).num,.slice A29 ((lim (iabs (dt n (f i) (fun j=>g_ j k)).num)).length) c30,.slice A33 ((lim (dt n (f i) (fun j=>g_ j k)).den).length) c34):RT) 56 b39 (.agg #[.bool false,.slice none 0 0,.slice none 0 0]) hs (fun _ f_=>f_.1) (fun b hb=>Option.mem_toList.2 hb) (fun A43 c44 w45 h46 hs=>?_)
 refine eD0 hs (fun w48 h49 hs=>?_)
 refine tV 11 8 (.slice A43 ((ts++[((ineg (dt n (f i) (fun j=>g_ j k)).num,.slice A29 ((lim (iabs (dt n (f i) (fun j=>g_ j k)).num)).length) c30,.slice A33 ((lim (dt n (f i) (fun j=>g_ j k)).den).length) c34):RT)]).length) c44) ?_
 refine tN (CG.listed (lL hs [.m 39 9] (lIn 40 ((k:Nat)+1) (k+1) ?_)))
 refine lL hs [.m 9 40] (lD ?_)
 intro a_ ka
 have q50:RTs h49 (ts++[((ineg (dt n (f i) (fun j=>g_ j k)).num,.slice A29 ((lim (iabs (dt n (f i) (fun j=>g_ j k)).num)).length) c30,.slice A33 ((lim (dt n (f i) (fun j=>g_ j k)).den).length) c34):RT)]) (vec (k+1) (fun k_=>dt n (f i) (fun j=>g_ j k_))):=(vec_step (hs.f.2.2.2.2.2.2.2.2.2.1) (rqOk hc31 hc35 (hs.f.2.2.1) (hs.f.2.1)))
 have q51:(k+1)≤n:=by omega
 replace hs:=(hs.tl.tl.tl.tl.tl.tl.tl.tl.tl.tl.add (K:=fun h_=>RTs h_ (ts++[((ineg (dt n (f i) (fun j=>g_ j k)).num,.slice A29 ((lim (iabs (dt n (f i) (fun j=>g_ j k)).num)).length) c30,.slice A33 ((lim (dt n (f i) (fun j=>g_ j k)).den).length) c34):RT)]) (vec (k+1) (fun k_=>dt n (f i) (fun j=>g_ j k_)))) q50)
 refine ⟨_,_,?_,⟨k+1,A43,c44,ts++[((ineg (dt n (f i) (fun j=>g_ j k)).num,.slice A29 ((lim (iabs (dt n (f i) (fun j=>g_ j k)).num)).length) c30,.slice A33 ((lim (dt n (f i) (fun j=>g_ j k)).den).length) c34):RT)],h49,rfl,rfl,hs.to _ _,q51⟩,ka.to [(0,.slice A us.length capA),(1,.slice D vs.length capD),(4,.slice none 0 0),(5,.int .i64 0),(7,.int .i64 (i:Nat)),(6,.slice smA ((um).length) smc),(9,.int .i64 ((k+1):Nat)),(8,.slice A43 (((ts++[((ineg (dt n (f i) (fun j=>g_ j k)).num,.slice A29 ((lim (iabs (dt n (f i) (fun j=>g_ j k)).num)).length) c30,.slice A33 ((lim (dt n (f i) (fun j=>g_ j k)).den).length) c34):RT)])).length) c44)] kR⟩
 omega
theorem rZeros (n:Nat)(hn4:n≤5)(w:World)(h:Hp)(g:G w h) :
    Calls Tryz.prog 74 #[.int .i64 (n:Nat)] w (Ret w h fun v h1=>∃ b,∃ ts:List RT,v=.slice (some ⟨b,0,none⟩) n n∧h.size≤b∧h1[b]?=some (.cells (ts.flatMap rqc).toArray 74 (0,0))∧ts.length=n∧RTs h1 ts (vec n (fun _=>0))):=by
 have hs:=SS.start g
 refine go Tryz.func74 [(0,.int .i64 (n:Nat))] rfl ?_
 refine cSL (lL hs [.v 2 (.slice none 0 0)] (lNS (lL hs [.m 5 0] (lK 6 74 n 3 56 (.agg #[.bool false,.slice none 0 0,.slice none 0 0]) rqc ((false,.slice none 0 0,.slice none 0 0):RT) hs (fun b1 w2 h3 hs=>?_)))))
 have hl4:(List.replicate n ((false,.slice none 0 0,.slice none 0 0):RT)).length=n:=by simp
 refine lL hs [.m 3 6] (lN (CG.seq (cSL (lL hs [.v 4 (.int .i64 0)] (lN (CG.block (cTo [(0,.int .i64 (n:Nat)),(2,.slice none 0 0),(3,.slice (some ⟨b1,0,none⟩) n n),(4,.int .i64 0)] ?_)))))))
 replace hs:=hs.add (K:=fun h_=>RQk h_ (List.replicate n ((false,.slice none 0 0,.slice none 0 0):RT)) 0 0) (RQk.nil)
 refine CG.loop (fun μ_ Γ w_=>∃ (k:Nat) (ts:List RT) (h_:Hp),μ_=n-k∧Γ=[(0,.int .i64 (n:Nat)),(2,.slice none 0 0),(3,.slice (some ⟨b1,0,none⟩) n n),(4,.int .i64 (k:Nat))]∧SS w h w_ h_ [⟨b1,74,(ts).flatMap rqc⟩] [] [fun h_=>RQk h_ ts k 0]∧(k≤n)∧(ts.length=n)) _ ⟨0,List.replicate n ((false,.slice none 0 0,.slice none 0 0):RT),h3,rfl,rfl,hs.to _ _,Nat.zero_le _,(by simp)⟩ ?_
 rintro _ _ w5 ⟨k,ts,h6,hm7,rfl,hs,hk,hlt⟩
 refine CG.seq (cSL (lL hs [.m 7 4,.m 8 0] ?_))
 cases hb8:(decide (((k:Nat):Int)<((n:Nat):Int)))
 ·
  have phb8:=oF hb8
  refine lB 9 hb8 ?_
  refine lN (cIF (CG.exit ?_))
  show CG _ _ _ _ _ _ _ _
  refine cSL (lL hs [.m 16 3,.m 2 16] (lN (CG.ret ?_)))
  have hkn:k=n:=by omega
  obtain ⟨h9,hs,sg10,lo11,bc12⟩:=hs.pub 0
  replace hs:=(hs.to [] []).a_SlO (SlO.of_flat (sz:=3) (f:=rqc) (d:=rqd) (b:=b1) (o:=0) (l:=ts) (fun _=>rfl) sg10)
  exact hs.ret [] (.slice (some ⟨b1,0,none⟩) n n) (⟨_,ts,rfl,lo11,bc12,hlt,⟨by rw[vec_len];exact hlt,fun i hi=>by rw[vec_len] at hi;rw[vec_get _ hi];exact (hs.f.2.1) i oM⟩⟩)
 have phb8:=oT hb8
 refine lB 9 hb8 ?_
 refine lN (cIT (CG.skipN (CG.seq (CG.block (CG.listed (lL hs [.m 12 3,.m 13 4] (lC 14 hs (rOf 0 oM oM _ _ hs.g) ?_)))))))
 rintro _ w22 h23 hs ⟨A14,c15,A18,c19,rfl,hc16,hc20,hA17,hA21⟩
 replace hs:=((hs.a_SlO hA17).a_SlO hA21)
 refine lX 15 (some ⟨b1,0,none⟩) n n 3 (k:Nat) k rfl ?_
 refine lW 0 ts rqc 3 k ((ineg ((0:Int):Rat).num,.slice A14 ((lim (iabs ((0:Int):Rat).num)).length) c15,.slice A18 ((lim ((0:Int):Rat).den).length) c19):RT) hs oM (fun w24 hs=>?_)
 have hl25:((ts).set k ((ineg ((0:Int):Rat).num,.slice A14 ((lim (iabs ((0:Int):Rat).num)).length) c15,.slice A18 ((lim ((0:Int):Rat).den).length) c19):RT)).length=n:=by rw[List.length_set];exact hlt
 replace hs:=hs.to [⟨b1,74,((ts).set k ((ineg ((0:Int):Rat).num,.slice A14 ((lim (iabs ((0:Int):Rat).num)).length) c15,.slice A18 ((lim ((0:Int):Rat).den).length) c19):RT)).flatMap rqc⟩] []
 refine lN (CG.listed (lL hs [.m 10 4] (lIn 11 ((k:Nat)+1) (k+1) ?_)))
 refine lL hs [.m 4 11] (lD ?_)
 intro a_ ka
 have q26:RQk h23 ((ts).set k ((ineg ((0:Int):Rat).num,.slice A14 ((lim (iabs ((0:Int):Rat).num)).length) c15,.slice A18 ((lim ((0:Int):Rat).den).length) c19):RT)) (k+1) 0:=(rq_set hlt oM (hs.f.2.2.1) (RQ.eq (rqOk hc16 hc20 (hs.f.2.1) (hs.f.1)) rfl))
 have q27:(k+1)≤n:=by omega
 have q28:((ts).set k ((ineg ((0:Int):Rat).num,.slice A14 ((lim (iabs ((0:Int):Rat).num)).length) c15,.slice A18 ((lim ((0:Int):Rat).den).length) c19):RT)).length=n:=hl25
 replace hs:=(hs.tl.tl.tl.add (K:=fun h_=>RQk h_ ((ts).set k ((ineg ((0:Int):Rat).num,.slice A14 ((lim (iabs ((0:Int):Rat).num)).length) c15,.slice A18 ((lim ((0:Int):Rat).den).length) c19):RT)) (k+1) 0) q26)
 refine ⟨_,_,?_,⟨k+1,(ts).set k ((ineg ((0:Int):Rat).num,.slice A14 ((lim (iabs ((0:Int):Rat).num)).length) c15,.slice A18 ((lim ((0:Int):Rat).den).length) c19):RT),h23,rfl,rfl,hs.to _ _,q27,q28⟩,ka.to [(0,.int .i64 (n:Nat)),(2,.slice none 0 0),(3,.slice (some ⟨b1,0,none⟩) n n),(4,.int .i64 ((k+1):Nat))] kR⟩
 omega
theorem rEye (n:Nat)(h0n:0<n)(hn4:n≤5)(w:World)(h:Hp)(g:G w h) :
    Calls Tryz.prog 27 #[.int .i64 (n:Nat)] w (Ret w h fun v h1=>∃ A c us,v=.slice A (us:List Value).length c∧us.length≤c∧SlO 1 vc undef h1 A us∧RVs h1 us (matf n eyef)):=by
 have hs:=SS.start g
 refine go Tryz.func27 [(0,.int .i64 (n:Nat))] rfl ?_
 refine cSL (lL hs [.v 2 (.slice none 0 0)] (lN (CG.seq (cSL (lL hs [.m 6 0] ?_)))))
 have ⟨hb1,phb1⟩:=dF (p:=((n:Nat):Int)<(1:Int)) oM
 refine lB 7 hb1 ?_
 refine lL hs [.m 8 7,.m 9 0] ?_
 have ⟨hb2,phb2⟩:=dF (p:=(300:Int)<((n:Nat):Int)) oM
 refine lB 10 hb2 ?_
 refine lL hs [.v 11 (.bool false)] (lN (cIF (CG.skipN (cSL (lL hs [.v 3 (.slice none 0 0)] (lN (CG.seq (cSL (lL hs [.v 4 (.int .i64 0)] (lN (CG.block ?_)))))))))))
 replace hs:=hs.nil 27 1
 refine cTo [(0,.int .i64 (n:Nat)),(2,.slice none 0 0),(4,.int .i64 0),(3,.slice none 0 0)] ?_
 replace hs:=hs.add (K:=fun h_=>RVs h_ ([]) (matp n 0 eyef)) (RVs.nil)
 refine CG.loop (fun μ_ Γ w_=>∃ (k:Nat) (smA:Option Addr) (smc:Nat) (um:List Value) (h_:Hp),μ_=n-k∧Γ=[(0,.int .i64 (n:Nat)),(2,.slice none 0 0),(4,.int .i64 (k:Nat)),(3,.slice smA ((um).length) smc)]∧SS w h w_ h_ [] [⟨27,1,smA,smc,(um).length,(um).flatMap vc⟩] [fun h_=>RVs h_ um (matp n k eyef)]∧(k≤n)) _ ⟨0,none,0,[],h,rfl,rfl,hs.to _ _,Nat.zero_le _⟩ ?_
 rintro _ _ w3 ⟨k,smA,smc,um,h4,hm5,rfl,hs,hk⟩
 have hlum:=(hs.f.1).len
 rw[matp_len] at hlum
 refine CG.seq (cSL (lL hs [.m 12 4,.m 13 0] ?_))
 cases hb6:(decide (((k:Nat):Int)<((n:Nat):Int)))
 ·
  have phb6:=oF hb6
  refine lB 14 hb6 ?_
  refine lN (cIF (CG.exit ?_))
  show CG _ _ _ _ _ _ _ _
  refine cSL (lL hs [.m 27 3,.m 2 27] (lN (CG.ret ?_)))
  have hkn:k=n:=by omega
  obtain ⟨h7,hs,hc8⟩:=hs.pubr 0 (A:=smA) (c:=smc) (l:=um) (f:=vc) (ty:=27) (sz:=1) undef (fun _=>rfl)
  exact hs.ret [] (.slice smA ((um).length) smc) (⟨_,_,um,rfl,hc8,(hs.f.1),(by have q_:=(hs.f.2.1);rw[hkn] at q_;exact q_)⟩)
 have phb6:=oT hb6
 refine lB 14 hb6 ?_
 refine lN (cIT (CG.skipN (CG.seq (CG.block (cSL (lL hs [.m 17 0] (lCu 18 (rZeros n hn4 _ _ hs.g) ?_)))))))
 rintro _ w10 h11 u12 ⟨bz,tz,rfl,hloz,hbcz,hlz,hTz⟩
 obtain ⟨h13,hs,hoz,-⟩:=hs.take u12 hloz hbcz
 have hTy:=RTs.taken hTz hbcz hoz
 replace hs:=hs.to [⟨bz,74,(tz).flatMap rqc⟩] [⟨27,1,smA,smc,(um).length,(um).flatMap vc⟩]
 replace hs:=(hs.add (K:=fun h_=>RTs h_ tz (vec n (fun _=>0))) hTy)
 refine lL hs [.m 5 18] (lNS (lL hs [.m 19 5,.m 20 4] (lC 21 hs (rOf 1 oM oM _ _ hs.g) ?_)))
 rintro _ w22 h23 hs ⟨A14,c15,A18,c19,rfl,hc16,hc20,hA17,hA21⟩
 replace hs:=((hs.a_SlO hA17).a_SlO hA21)
 refine lX 22 (some ⟨bz,0,none⟩) n n 3 (k:Nat) k rfl ?_
 refine lW 0 tz rqc 3 k ((ineg ((1:Int):Rat).num,.slice A14 ((lim (iabs ((1:Int):Rat).num)).length) c15,.slice A18 ((lim ((1:Int):Rat).den).length) c19):RT) hs oM (fun w24 hs=>?_)
 have hl25:((tz).set k ((ineg ((1:Int):Rat).num,.slice A14 ((lim (iabs ((1:Int):Rat).num)).length) c15,.slice A18 ((lim ((1:Int):Rat).den).length) c19):RT)).length=n:=by rw[List.length_set];exact hlz
 replace hs:=hs.to [⟨bz,74,((tz).set k ((ineg ((1:Int):Rat).num,.slice A14 ((lim (iabs ((1:Int):Rat).num)).length) c15,.slice A18 ((lim ((1:Int):Rat).den).length) c19):RT)).flatMap rqc⟩] [⟨27,1,smA,smc,(um).length,(um).flatMap vc⟩]
 refine lN (CG.listed (lL hs [.m 23 3,.m 24 5] ?_))
 obtain ⟨h26,hs,sg27,lo28,bc29⟩:=hs.pub 0
 replace hs:=(hs.to [] [⟨27,1,smA,smc,(um).length,(um).flatMap vc⟩]).a_SlO (SlO.of_flat (sz:=3) (f:=rqc) (d:=rqd) (b:=bz) (o:=0) (l:=(tz).set k ((ineg ((1:Int):Rat).num,.slice A14 ((lim (iabs ((1:Int):Rat).num)).length) c15,.slice A18 ((lim ((1:Int):Rat).den).length) c19):RT)) (fun _=>rfl) sg27)
 replace hs:=hs.a_SlO (hs.f.1)
 refine lR 25 27 1 ([.slice (some ⟨bz,0,none⟩) n n]) hs (fun b31 w32 h33 hs=>?_)
 refine lY 26 0 27 1 smc smA um vc (.slice (some ⟨bz,0,none⟩) n n:Value) 24 b31 (.slice none 0 0) hs (hs.f.1) (fun A35 c36 w37 h38 hs=>?_)
 refine lL hs [.m 3 26] (lN (CG.listed (lL hs [.m 15 4] (lIn 16 ((k:Nat)+1) (k+1) ?_))))
 refine lL hs [.m 4 16] (lD ?_)
 intro a_ ka
 have q40:RVs h38 (um++[(.slice (some ⟨bz,0,none⟩) n n:Value)]) (matp n (k+1) eyef):=(matp_snoc (hs.f.2.2.2.2.2.2.1) ⟨_,n,(tz).set k ((ineg ((1:Int):Rat).num,.slice A14 ((lim (iabs ((1:Int):Rat).num)).length) c15,.slice A18 ((lim ((1:Int):Rat).den).length) c19):RT),sl_len (by rw[List.length_set];exact hlz.symm),(by rw[List.length_set];exact Nat.le_of_eq hlz),(hs.f.2.1),(eye_row (hs.f.2.2.2.2.2.1) oM (rqOk hc16 hc20 (hs.f.2.2.2.2.1) (hs.f.2.2.2.1)))⟩)
 have q41:(k+1)≤n:=by omega
 replace hs:=(hs.tl.tl.tl.tl.tl.tl.tl.add (K:=fun h_=>RVs h_ (um++[(.slice (some ⟨bz,0,none⟩) n n:Value)]) (matp n (k+1) eyef)) q40)
 refine ⟨_,_,?_,⟨k+1,A35,c36,um++[(.slice (some ⟨bz,0,none⟩) n n:Value)],h38,rfl,rfl,hs.to _ _,q41⟩,ka.to [(0,.int .i64 (n:Nat)),(2,.slice none 0 0),(4,.int .i64 ((k+1):Nat)),(3,.slice A35 (((um++[(.slice (some ⟨bz,0,none⟩) n n:Value)])).length) c36)] kR⟩
 omega
theorem rAlike (n:Nat)(h0n:0<n)(hn4:n≤5)(A:Option Addr)(capA:Nat)(us:List Value)(f:Nat→Nat→Rat)(D:Option Addr)(capD:Nat)(vs:List Value)(g_:Nat→Nat→Rat)(w:World)(h:Hp)(g:G w h)(hA:SlO 1 vc undef h A us)(hUf:RVs h us (matf n f))(hD:SlO 1 vc undef h D vs)(hUg_:RVs h vs (matf n g_)) :
    Calls Tryz.prog 72 #[.slice A us.length capA,.slice D vs.length capD] w (Ret w h fun v _=>v=.bool true):=by
 have hs:=SS.start g
 replace hs:=((((hs.a_SlO hA).add (K:=fun h_=>RVs h_ us (matf n f)) hUf).a_SlO hD).add (K:=fun h_=>RVs h_ vs (matf n g_)) hUg_)
 have hlus:=(hs.f.2.2.1).len
 rw[matf_len] at hlus
 have hlmf:=matf_len n f
 have hlvs:=(hs.f.1).len
 rw[matf_len] at hlvs
 have hlmg_:=matf_len n g_
 refine go Tryz.func72 [(0,.slice A us.length capA),(1,.slice D vs.length capD)] rfl ?_
 refine cSL (lL hs [.v 4 (.bool false)] (lN (CG.seq (cR 24 [] mixed hs al_nil ?_))))
 refine eV 0 5 (.slice A us.length capA) ?_
 refine eC 1 6 hs (fun _ _ hs=>rRightF A capA us f n h0n hn4 _ _ hs.g (hs.f.2.2.2.1) (hs.f.2.2.1)) ?_
 rintro _ _ _ w1 h2 hs rfl
 refine eV 2 7 (.bool true) ?_
 refine eV 3 8 (.slice D vs.length capD) ?_
 refine eC 4 9 hs (fun _ _ hs=>rRightF D capD vs g_ n h0n hn4 _ _ hs.g (hs.f.2.1) (hs.f.1)) ?_
 rintro _ _ _ w3 h4 hs rfl
 refine eV 5 10 (.bool true) ?_
 refine eV 6 11 (.bool true) ?_
 refine eV 7 12 (.slice A us.length capA) ?_
 refine eV 8 13 (.int .i64 (us.length:Nat)) ?_
 refine eV 9 14 (.slice D vs.length capD) ?_
 refine eV 10 15 (.int .i64 (vs.length:Nat)) ?_
 have hb5:(((us.length:Nat):Int) == ((vs.length:Nat):Int))=true:=(by simp;omega)
 have phb5:=eq_of_beq hb5
 refine eB 11 16 hb5 ?_
 refine eV 12 17 (.bool true) ?_
 refine eV 13 18 (.bool true) ?_
 refine eV 14 19 (.slice A us.length capA) ?_
 refine eX 15 20 A us.length capA 1 0 0 ((hs.f.2.2.2.1).ok oM) ?_
 obtain ⟨Arv,crv,trv,erv,hcrv,hRrv,hTrv⟩:=matf_at (hs.f.2.2.1) (k:=0) oM
 have hlrv:=hTrv.len
 rw[vec_len] at hlrv
 have hvnv:=vec_len n (f 0)
 replace hs:=((hs.a_SlO hRrv).add (K:=fun h_=>RTs h_ trv (vec n (f 0))) hTrv)
 refine eHe 16 21 (us.getD 0 undef) hs ((hs.f.2.2.2.2.2.1).el 0 oM) erv ?_
 refine eV 17 22 (.int .i64 (trv.length:Nat)) ?_
 refine eV 18 23 (.slice D vs.length capD) ?_
 refine eX 19 24 D vs.length capD 1 0 0 ((hs.f.2.2.2.1).ok oM) ?_
 obtain ⟨Arz,crz,trz,erz,hcrz,hRrz,hTrz⟩:=matf_at (hs.f.2.2.1) (k:=0) oM
 have hlrz:=hTrz.len
 rw[vec_len] at hlrz
 have hvnz:=vec_len n (g_ 0)
 replace hs:=((hs.a_SlO hRrz).add (K:=fun h_=>RTs h_ trz (vec n (g_ 0))) hTrz)
 refine eHe 20 25 (vs.getD 0 undef) hs ((hs.f.2.2.2.2.2.1).el 0 oM) erz ?_
 refine eV 21 26 (.int .i64 (trz.length:Nat)) ?_
 have hb6:(((trv.length:Nat):Int) == ((trz.length:Nat):Int))=true:=(by simp;omega)
 have phb6:=eq_of_beq hb6
 refine eB 22 27 hb6 ?_
 refine eV 23 28 (.bool true) ?_
 refine eD0 hs (fun w7 h8 hs=>?_)
 refine tV 24 4 (.bool true) ?_
 exact tN (CG.ret (hs.ret [] (.bool true) rfl))
theorem rMix (n:Nat)(h0n:0<n)(hn4:n≤5)(A:Option Addr)(capA:Nat)(us:List Value)(f:Nat→Nat→Rat)(D:Option Addr)(capD:Nat)(vs:List Value)(g_:Nat→Nat→Rat)(q:Rat)(A1:Option Addr)(c1:Nat)(D1:Option Addr)(d1:Nat)(hc1:(lim (iabs q.num)).length≤c1)(hd1:(lim q.den).length≤d1)(hf3:∀ i j,LQ 3 (f i j))(hg3:∀ i j,LQ 3 (g_ i j))(hq1:LQ 1 q)(w:World)(h:Hp)(g:G w h)(hA:SlO 1 vc undef h A us)(hUf:RVs h us (matf n f))(hD:SlO 1 vc undef h D vs)(hUg_:RVs h vs (matf n g_))(hA1:SlO 1 u32c 0 h A1 (lim (iabs q.num)))(hD1:SlO 1 u32c 0 h D1 (lim q.den)) :
    Calls Tryz.prog 73 #[.slice A us.length capA,.slice D vs.length capD,.agg #[.bool (ineg q.num),.slice A1 ((lim (iabs q.num)).length) c1,.slice D1 ((lim q.den).length) d1]] w (Ret w h fun v h1=>∃ A c us,v=.slice A (us:List Value).length c∧us.length≤c∧SlO 1 vc undef h1 A us∧RVs h1 us (matf n (fun i_ j_=>f i_ j_+q*g_ i_ j_))):=by
 have hs:=SS.start g
 replace hs:=((((((hs.a_SlO hA).add (K:=fun h_=>RVs h_ us (matf n f)) hUf).a_SlO hD).add (K:=fun h_=>RVs h_ vs (matf n g_)) hUg_).a_SlO hA1).a_SlO hD1)
 have hlus:=(hs.f.2.2.2.2.1).len
 rw[matf_len] at hlus
 have hlmf:=matf_len n f
 have hlvs:=(hs.f.2.2.1).len
 rw[matf_len] at hlvs
 have hlmg_:=matf_len n g_
 refine go Tryz.func73 [(0,.slice A us.length capA),(1,.slice D vs.length capD),(2,.agg #[.bool (ineg q.num),.slice A1 ((lim (iabs q.num)).length) c1,.slice D1 ((lim q.den).length) d1])] rfl ?_
 refine cSL (lA 5 74 ([.bool (ineg q.num),.slice A1 ((lim (iabs q.num)).length) c1,.slice D1 ((lim q.den).length) d1]) hs (fun b1 w2 h3 hs=>?_))
 refine lL hs [.v 6 (.slice none 0 0)] (lNS (lL hs [.v 7 (.slice none 0 0)] (lN (CG.seq (cSL (lL hs [.v 8 (.int .i64 0)] (lN (CG.block ?_))))))))
 replace hs:=hs.nil 27 1
 refine cTo [(0,.slice A us.length capA),(1,.slice D vs.length capD),(5,.pointer (some ⟨b1,0,none⟩)),(6,.slice none 0 0),(8,.int .i64 0),(7,.slice none 0 0)] ?_
 replace hs:=hs.add (K:=fun h_=>RVs h_ ([]) (matp n 0 (fun i_ j_=>f i_ j_+q*g_ i_ j_))) (RVs.nil)
 refine CG.loop (fun μ_ Γ w_=>∃ (i:Nat) (smA:Option Addr) (smc:Nat) (um:List Value) (h_:Hp),μ_=n-i∧Γ=[(0,.slice A us.length capA),(1,.slice D vs.length capD),(5,.pointer (some ⟨b1,0,none⟩)),(6,.slice none 0 0),(8,.int .i64 (i:Nat)),(7,.slice smA ((um).length) smc)]∧SS w h w_ h_ [⟨b1,74,[.bool (ineg q.num),.slice A1 ((lim (iabs q.num)).length) c1,.slice D1 ((lim q.den).length) d1]⟩] [⟨27,1,smA,smc,(um).length,(um).flatMap vc⟩] [fun h_=>RVs h_ um (matp n i (fun i_ j_=>f i_ j_+q*g_ i_ j_)),fun h_=>SlO 1 u32c 0 h_ D1 (lim q.den),fun h_=>SlO 1 u32c 0 h_ A1 (lim (iabs q.num)),fun h_=>RVs h_ vs (matf n g_),fun h_=>SlO 1 vc undef h_ D vs,fun h_=>RVs h_ us (matf n f),fun h_=>SlO 1 vc undef h_ A us]∧(i≤n)) _ ⟨0,none,0,[],h3,rfl,rfl,hs.to _ _,Nat.zero_le _⟩ ?_
 rintro _ _ w4 ⟨i,smA,smc,um,h5,hm6,rfl,hs,hi⟩
 have hlum:=(hs.f.1).len
 rw[matp_len] at hlum
 refine CG.seq (cSL (lL hs [.m 11 8,.m 12 0,.v 13 (.int .i64 (us.length:Nat))] ?_))
 cases hb7:(decide (((i:Nat):Int)<((us.length:Nat):Int)))
 ·
  have phb7:=oF hb7
  refine lB 14 hb7 ?_
  refine lN (cIF (CG.exit ?_))
  show CG _ _ _ _ _ _ _ _
  refine cSL (lL hs [.m 50 7,.m 6 50] (lN (CG.ret ?_)))
  obtain ⟨h8,hs,hc9⟩:=hs.pubr 0 (A:=smA) (c:=smc) (l:=um) (f:=vc) (ty:=27) (sz:=1) undef (fun _=>rfl)
  exact hs.ret [] (.slice smA ((um).length) smc) (⟨_,_,um,rfl,hc9,(hs.f.1),(by have q_:=(hs.f.2.1);rw[show i=n by omega] at q_;exact q_)⟩)
 have phb7:=oT hb7
 refine lB 14 hb7 ?_
 refine lN (cIT (CG.skipN (CG.seq (CG.block (cSL (lL hs [.v 9 (.slice none 0 0)] (lN (CG.seq (cSL (lL hs [.v 10 (.int .i64 0)] (lN (CG.block ?_))))))))))))
 replace hs:=hs.nil 74 3
 refine cTo [(0,.slice A us.length capA),(1,.slice D vs.length capD),(5,.pointer (some ⟨b1,0,none⟩)),(6,.slice none 0 0),(8,.int .i64 (i:Nat)),(7,.slice smA ((um).length) smc),(10,.int .i64 0),(9,.slice none 0 0)] ?_
 replace hs:=hs.add (K:=fun h_=>RTs h_ ([]) (vec 0 (fun j=>f i j+q*g_ i j))) (RTs.nil)
 refine CG.loop (fun μ_ Γ w_=>∃ (k:Nat) (sA:Option Addr) (sc:Nat) (ts:List RT) (h_:Hp),μ_=n-k∧Γ=[(0,.slice A us.length capA),(1,.slice D vs.length capD),(5,.pointer (some ⟨b1,0,none⟩)),(6,.slice none 0 0),(8,.int .i64 (i:Nat)),(7,.slice smA ((um).length) smc),(10,.int .i64 (k:Nat)),(9,.slice sA ((ts).length) sc)]∧SS w h w_ h_ [⟨b1,74,[.bool (ineg q.num),.slice A1 ((lim (iabs q.num)).length) c1,.slice D1 ((lim q.den).length) d1]⟩] [⟨74,3,sA,sc,(ts).length,(ts).flatMap rqc⟩,⟨27,1,smA,smc,(um).length,(um).flatMap vc⟩] [fun h_=>RTs h_ ts (vec k (fun j=>f i j+q*g_ i j)),fun h_=>RVs h_ um (matp n i (fun i_ j_=>f i_ j_+q*g_ i_ j_)),fun h_=>SlO 1 u32c 0 h_ D1 (lim q.den),fun h_=>SlO 1 u32c 0 h_ A1 (lim (iabs q.num)),fun h_=>RVs h_ vs (matf n g_),fun h_=>SlO 1 vc undef h_ D vs,fun h_=>RVs h_ us (matf n f),fun h_=>SlO 1 vc undef h_ A us]∧(k≤n)) _ ⟨0,none,0,[],h5,rfl,rfl,hs.to _ _,Nat.zero_le _⟩ ?_
 rintro _ _ w11 ⟨k,sA,sc,ts,h12,hm13,rfl,hs,hk⟩
 have hlT:=(hs.f.1).len
 rw[vec_len] at hlT
 refine CG.seq (cSL (lL hs [.m 17 10,.m 18 0,.m 19 8] (lX 20 A us.length capA 1 (i:Nat) i ((hs.f.2.2.2.2.2.2.2.1).ok oM) ?_)))
 obtain ⟨Arz,crz,trz,erz,hcrz,hRrz,hTrz⟩:=matf_at (hs.f.2.2.2.2.2.2.1) (k:=i) oM
 have hlrz:=hTrz.len
 rw[vec_len] at hlrz
 have hvnz:=vec_len n (f i)
 replace hs:=((hs.a_SlO hRrz).add (K:=fun h_=>RTs h_ trz (vec n (f i))) hTrz)
 refine lHe 21 (us.getD i undef) hs ((hs.f.2.2.2.2.2.2.2.2.2.1).el i oM) erz ?_
 refine lL hs [.v 22 (.int .i64 (trz.length:Nat))] ?_
 cases hb14:(decide (((k:Nat):Int)<((trz.length:Nat):Int)))
 ·
  have phb14:=oF hb14
  refine lB 23 hb14 ?_
  refine lN (cIF (CG.exit ?_))
  show CG _ _ _ _ _ _ _ _
  refine CG.listed (lL hs [.m 46 7,.m 47 9] ?_)
  obtain ⟨h15,hs,hc16⟩:=hs.pubr 0 (A:=sA) (c:=sc) (l:=ts) (f:=rqc) (ty:=74) (sz:=3) rqd (fun _=>rfl)
  refine lR 48 27 1 ([.slice sA ((ts).length) sc]) hs (fun b18 w19 h20 hs=>?_)
  refine lY 49 0 27 1 smc smA um vc (.slice sA ((ts).length) sc:Value) 24 b18 (.slice none 0 0) hs (hs.f.1) (fun A22 c23 w24 h25 hs=>?_)
  refine lL hs [.m 7 49] (lN (CG.listed (lL hs [.m 15 8] (lIn 16 ((i:Nat)+1) (i+1) ?_))))
  refine lL hs [.m 8 16] (lD ?_)
  intro a_ ka
  have q27:RVs h25 (um++[(.slice sA ((ts).length) sc:Value)]) (matp n (i+1) (fun i_ j_=>f i_ j_+q*g_ i_ j_)):=(matp_snoc (hs.f.2.2.2.2.2.1) ⟨_,_,ts,rfl,hc16,(hs.f.2.1),(by have q_:=(hs.f.2.2.2.2.1);rw[show k=n by omega] at q_;exact q_)⟩)
  have q28:(i+1)≤n:=by omega
  replace hs:=(hs.tl.tl.tl.tl.tl.tl.add (K:=fun h_=>RVs h_ (um++[(.slice sA ((ts).length) sc:Value)]) (matp n (i+1) (fun i_ j_=>f i_ j_+q*g_ i_ j_))) q27)
  refine ⟨_,_,?_,⟨i+1,A22,c23,um++[(.slice sA ((ts).length) sc:Value)],h25,rfl,rfl,hs.to _ _,q28⟩,ka.to [(0,.slice A us.length capA),(1,.slice D vs.length capD),(5,.pointer (some ⟨b1,0,none⟩)),(6,.slice none 0 0),(8,.int .i64 ((i+1):Nat)),(7,.slice A22 (((um++[(.slice sA ((ts).length) sc:Value)])).length) c23)] kR⟩
  omega
 have phb14:=oT hb14
 refine lB 23 hb14 ?_
 refine lN (cIT (CG.skipN (CG.seq (CG.block (CG.region ⟨((Value.slice sA ((ts).length) sc).ownBlock.toList),none⟩ 20 [] mixed kR hs.g al_nil (hs.ro_lt 0 (ty:=74) (sz:=3) (A:=sA) (c:=sc) (m:=(ts).length) (cs:=(ts).flatMap rqc)) ?_)))))
 refine eV 0 26 (.slice sA ((ts).length) sc) ?_
 refine eV 1 27 (.slice A us.length capA) ?_
 refine eV 2 28 (.int .i64 (i:Nat)) ?_
 refine eX 3 29 A us.length capA 1 (i:Nat) i ((hs.f.2.2.2.2.2.2.2.2.2.1).ok oM) ?_
 obtain ⟨Arx,crx,trx,erx,hcrx,hRrx,hTrx⟩:=matf_at (hs.f.2.2.2.2.2.2.2.2.1) (k:=i) oM
 have hlrx:=hTrx.len
 rw[vec_len] at hlrx
 have hvnx:=vec_len n (f i)
 replace hs:=((hs.a_SlO hRrx).add (K:=fun h_=>RTs h_ trx (vec n (f i))) hTrx)
 refine eHe 4 30 (us.getD i undef) hs ((hs.f.2.2.2.2.2.2.2.2.2.2.2.1).el i oM) erx ?_ (hM:=hs.ro_jk 0 (ty:=74) (sz:=3) (A:=sA) (c:=sc) (m:=(ts).length) (cs:=(ts).flatMap rqc))
 refine eV 5 31 (.int .i64 (k:Nat)) ?_
 refine eX 6 32 Arx trx.length crx 3 (k:Nat) k ((hs.f.2.1).ok oM) ?_
 obtain ⟨Axe,cxe,Dxe,dxe,exe,hcxe,hdxe,hAxe,hDxe⟩:=(hs.f.1).at_ k oM
 replace hs:=((hs.a_SlO hAxe).a_SlO hDxe)
 refine eHe 7 33 (.agg #[.bool ((trx.getD k rqd).1),(trx.getD k rqd).2.1,(trx.getD k rqd).2.2]) hs ((hs.f.2.2.2.1).el k oM) exe ?_ (hM:=hs.ro_jk 0 (ty:=74) (sz:=3) (A:=sA) (c:=sc) (m:=(ts).length) (cs:=(ts).flatMap rqc))
 refine eO 8 34 [(0,0,3)] (.agg #[.bool (ineg q.num),.slice A1 ((lim (iabs q.num)).length) c1,.slice D1 ((lim q.den).length) d1]) hs ?_ (hM:=fun p hp=>by obtain rfl:=List.mem_singleton.1 hp;exact hs.ro_ne 0 0 (ty:=74) (sz:=3) (A:=sA) (c:=sc) (m:=(ts).length) (cs:=(ts).flatMap rqc))
 refine eV 9 35 (.slice D vs.length capD) ?_
 refine eV 10 36 (.int .i64 (i:Nat)) ?_
 refine eX 11 37 D vs.length capD 1 (i:Nat) i ((hs.f.2.2.2.2.2.2.2.2.2.2.2.1).ok oM) ?_
 obtain ⟨Arv,crv,trv,erv,hcrv,hRrv,hTrv⟩:=matf_at (hs.f.2.2.2.2.2.2.2.2.2.2.1) (k:=i) oM
 have hlrv:=hTrv.len
 rw[vec_len] at hlrv
 have hvnv:=vec_len n (g_ i)
 replace hs:=((hs.a_SlO hRrv).add (K:=fun h_=>RTs h_ trv (vec n (g_ i))) hTrv)
 refine eHe 12 38 (vs.getD i undef) hs ((hs.f.2.2.2.2.2.2.2.2.2.2.2.2.2.1).el i oM) erv ?_ (hM:=hs.ro_jk 0 (ty:=74) (sz:=3) (A:=sA) (c:=sc) (m:=(ts).length) (cs:=(ts).flatMap rqc))
 refine eV 13 39 (.int .i64 (k:Nat)) ?_
 refine eX 14 40 Arv trv.length crv 3 (k:Nat) k ((hs.f.2.1).ok oM) ?_
 obtain ⟨Ave,cve,Dve,dve,eve,hcve,hdve,hAve,hDve⟩:=(hs.f.1).at_ k oM
 replace hs:=((hs.a_SlO hAve).a_SlO hDve)
 refine eHe 15 41 (.agg #[.bool ((trv.getD k rqd).1),(trv.getD k rqd).2.1,(trv.getD k rqd).2.2]) hs ((hs.f.2.2.2.1).el k oM) eve ?_ (hM:=hs.ro_jk 0 (ty:=74) (sz:=3) (A:=sA) (c:=sc) (m:=(ts).length) (cs:=(ts).flatMap rqc))
 have hq29:=LQ.mul hq1 (show LQ 3 ((vec n (g_ i)).getD k 0) from by rw[vec_get (g_ i) oM];exact hg3 i k)
 refine eC 16 42 hs (fun _ _ hs=>rMul q A1 c1 D1 d1 hc1 hd1 (LQ.ln (LQ.mono hq1 oM)) (LQ.ld (LQ.mono hq1 oM)) ((vec n (g_ i)).getD k 0) Ave cve Dve dve hcve hdve (LQ.ln (LQ.mono (show LQ 3 ((vec n (g_ i)).getD k 0) from by rw[vec_get (g_ i) oM];exact hg3 i k) oM)) (LQ.ld (LQ.mono (show LQ 3 ((vec n (g_ i)).getD k 0) from by rw[vec_get (g_ i) oM];exact hg3 i k) oM)) _ _ hs.g (hs.f.2.2.2.2.2.2.2.2.2.2.2.2.2.1) (hs.f.2.2.2.2.2.2.2.2.2.2.2.2.1) (hs.f.2.1) (hs.f.1)) ?_
 rintro _ _ _ w38 h39 hs ⟨A30,c31,A34,c35,rfl,hc32,hc36,hA33,hA37⟩
 replace hs:=((hs.a_SlO hA33).a_SlO hA37)
 have hq40:=LQ.add (show LQ 3 ((vec n (f i)).getD k 0) from by rw[vec_get (f i) oM];exact hf3 i k) hq29
 refine eC 17 43 hs (fun _ _ hs=>rAdd ((vec n (f i)).getD k 0) Axe cxe Dxe dxe hcxe hdxe (LQ.ln (LQ.mono (show LQ 3 ((vec n (f i)).getD k 0) from by rw[vec_get (f i) oM];exact hf3 i k) oM)) (LQ.ld (LQ.mono (show LQ 3 ((vec n (f i)).getD k 0) from by rw[vec_get (f i) oM];exact hf3 i k) oM)) (q*((vec n (g_ i)).getD k 0)) A30 c31 A34 c35 hc32 hc36 (LQ.ln (LQ.mono hq29 oM)) (LQ.ld (LQ.mono hq29 oM)) _ _ hs.g (hs.f.2.2.2.2.2.2.2.1) (hs.f.2.2.2.2.2.2.1) (hs.f.2.1) (hs.f.1)) ?_
 rintro _ _ _ w49 h50 hs ⟨A41,c42,A45,c46,rfl,hc43,hc47,hA44,hA48⟩
 replace hs:=((hs.a_SlO hA44).a_SlO hA48)
 refine eR 18 44 74 1 ([.bool (ineg (((vec n (f i)).getD k 0)+(q*((vec n (g_ i)).getD k 0))).num),.slice A41 ((lim (iabs (((vec n (f i)).getD k 0)+(q*((vec n (g_ i)).getD k 0))).num)).length) c42,.slice A45 ((lim (((vec n (f i)).getD k 0)+(q*((vec n (g_ i)).getD k 0))).den).length) c46]) hs (fun b51 w52 h53 hs=>?_)
 refine eY 19 45 0 74 3 sc sA ts rqc ((ineg (((vec n (f i)).getD k 0)+(q*((vec n (g_ i)).getD k 0))).num,.slice A41 ((lim (iabs (((vec n (f i)).getD k 0)+(q*((vec n (g_ i)).getD k 0))).num)).length) c42,.slice A45 ((lim (((vec n (f i)).getD k 0)+(q*((vec n (g_ i)).getD k 0))).den).length) c46):RT) 56 b51 (.agg #[.bool false,.slice none 0 0,.slice none 0 0]) hs (fun _ f_=>f_.1) (fun b hb=>Option.mem_toList.2 hb) (fun A55 c56 w57 h58 hs=>?_)
 refine eD0 hs (fun w60 h61 hs=>?_)
 refine tV 20 9 (.slice A55 ((ts++[((ineg (((vec n (f i)).getD k 0)+(q*((vec n (g_ i)).getD k 0))).num,.slice A41 ((lim (iabs (((vec n (f i)).getD k 0)+(q*((vec n (g_ i)).getD k 0))).num)).length) c42,.slice A45 ((lim (((vec n (f i)).getD k 0)+(q*((vec n (g_ i)).getD k 0))).den).length) c46):RT)]).length) c56) ?_
 refine tN (CG.listed (lL hs [.m 24 10] (lIn 25 ((k:Nat)+1) (k+1) ?_)))
 refine lL hs [.m 10 25] (lD ?_)
 intro a_ ka
 have q62:RTs h61 (ts++[((ineg (((vec n (f i)).getD k 0)+(q*((vec n (g_ i)).getD k 0))).num,.slice A41 ((lim (iabs (((vec n (f i)).getD k 0)+(q*((vec n (g_ i)).getD k 0))).num)).length) c42,.slice A45 ((lim (((vec n (f i)).getD k 0)+(q*((vec n (g_ i)).getD k 0))).den).length) c46):RT)]) (vec (k+1) (fun j=>f i j+q*g_ i j)):=(vec_step (hs.f.2.2.2.2.2.2.2.2.2.2.2.2.2.2.2.1) (RQ.eq (rqOk hc43 hc47 (hs.f.2.2.1) (hs.f.2.1)) (by rw[vec_get (f i) oM,vec_get (g_ i) oM])))
 have q63:(k+1)≤n:=by omega
 replace hs:=(hs.tl.tl.tl.tl.tl.tl.tl.tl.tl.tl.tl.tl.tl.tl.tl.tl.add (K:=fun h_=>RTs h_ (ts++[((ineg (((vec n (f i)).getD k 0)+(q*((vec n (g_ i)).getD k 0))).num,.slice A41 ((lim (iabs (((vec n (f i)).getD k 0)+(q*((vec n (g_ i)).getD k 0))).num)).length) c42,.slice A45 ((lim (((vec n (f i)).getD k 0)+(q*((vec n (g_ i)).getD k 0))).den).length) c46):RT)]) (vec (k+1) (fun j=>f i j+q*g_ i j))) q62)
 refine ⟨_,_,?_,⟨k+1,A55,c56,ts++[((ineg (((vec n (f i)).getD k 0)+(q*((vec n (g_ i)).getD k 0))).num,.slice A41 ((lim (iabs (((vec n (f i)).getD k 0)+(q*((vec n (g_ i)).getD k 0))).num)).length) c42,.slice A45 ((lim (((vec n (f i)).getD k 0)+(q*((vec n (g_ i)).getD k 0))).den).length) c46):RT)],h61,rfl,rfl,hs.to _ _,q63⟩,ka.to [(0,.slice A us.length capA),(1,.slice D vs.length capD),(5,.pointer (some ⟨b1,0,none⟩)),(6,.slice none 0 0),(8,.int .i64 (i:Nat)),(7,.slice smA ((um).length) smc),(10,.int .i64 ((k+1):Nat)),(9,.slice A55 (((ts++[((ineg (((vec n (f i)).getD k 0)+(q*((vec n (g_ i)).getD k 0))).num,.slice A41 ((lim (iabs (((vec n (f i)).getD k 0)+(q*((vec n (g_ i)).getD k 0))).num)).length) c42,.slice A45 ((lim (((vec n (f i)).getD k 0)+(q*((vec n (g_ i)).getD k 0))).den).length) c46):RT)])).length) c56)] kR⟩
 omega
theorem rAddF (n:Nat)(h0n:0<n)(hn4:n≤5)(A:Option Addr)(capA:Nat)(us:List Value)(f:Nat→Nat→Rat)(D:Option Addr)(capD:Nat)(vs:List Value)(g_:Nat→Nat→Rat)(hf3:∀ i j,LQ 3 (f i j))(hg3:∀ i j,LQ 3 (g_ i j))(w:World)(h:Hp)(g:G w h)(hA:SlO 1 vc undef h A us)(hUf:RVs h us (matf n f))(hD:SlO 1 vc undef h D vs)(hUg_:RVs h vs (matf n g_)) :
    Calls Tryz.prog 26 #[.slice A us.length capA,.slice D vs.length capD] w (Ret w h fun v h1=>∃ A c us,v=.tuple #[.slice A (us:List Value).length c,.int .i64 0]∧us.length≤c∧SlO 1 vc undef h1 A us∧RVs h1 us (matf n (fun i j=>f i j+g_ i j))):=by
 have hs:=SS.start g
 replace hs:=((((hs.a_SlO hA).add (K:=fun h_=>RVs h_ us (matf n f)) hUf).a_SlO hD).add (K:=fun h_=>RVs h_ vs (matf n g_)) hUg_)
 refine go Tryz.func26 [(0,.slice A us.length capA),(1,.slice D vs.length capD)] rfl ?_
 refine cSL (lL hs [.v 4 (.slice none 0 0),.v 5 (.int .i64 0)] (lN (CG.seq (cSL (lL hs [.m 6 0,.m 7 1] (lC 8 hs (rAlike n h0n hn4 A capA us f D capD vs g_ _ _ hs.g (hs.f.2.2.2.1) (hs.f.2.2.1) (hs.f.2.1) (hs.f.1)) ?_))))))
 rintro _ w1 h2 hs rfl
 refine lL hs [.v 9 (.bool false)] (lN (cIF (CG.skipN (cSL (lL hs [.m 10 0,.m 11 1] (lC 12 hs (rOf 1 oM oM _ _ hs.g) ?_))))))
 rintro _ w11 h12 hs ⟨A3,c4,A7,c8,rfl,hc5,hc9,hA6,hA10⟩
 replace hs:=((hs.a_SlO hA6).a_SlO hA10)
 refine lC 13 hs (rMix n h0n hn4 A capA us f D capD vs g_ ((1:Int):Rat) A3 c4 A7 c8 hc5 hc9 hf3 hg3 (LQ.lit (z:=1) kD) _ _ hs.g (hs.f.2.2.2.2.2.1) (hs.f.2.2.2.2.1) (hs.f.2.2.2.1) (hs.f.2.2.1) (hs.f.2.1) (hs.f.1)) ?_
 rintro _ w13 h14 hs ⟨Am,cm,um,rfl,hcm,hAm,hUm⟩
 replace hs:=((hs.a_SlO hAm).add (K:=fun h_=>RVs h_ um (matf n (fun i j=>f i j+((1:Int):Rat)*g_ i j))) hUm)
 exact lL hs [.m 4 13,.v 5 (.int .i64 0)] (lN (CG.ret (hs.ret [] (.tuple #[.slice Am um.length cm,.int .i64 0]) (⟨_,_,um,rfl,hcm,(hs.f.2.1),(by have q_:=(hs.f.1);rw[matf_congr (g:=(fun i j=>f i j+g_ i j)) (fun i _ j _=>by rw[show ((1:Int):Rat)=1 from rfl,Rat.one_mul])] at q_;exact q_)⟩))))
abbrev Mtx:=Nat→Nat→Rat
def swp (M:Mtx)(a b:Nat):Mtx:=fun i=>if i=a then M b else if i=b then M a else M i
def scl (M:Mtx)(a:Nat)(d:Rat)(j:Nat):Mtx:=fun i k=>if i=a∧k<j then M i k*d else M i k
def rdc (M:Mtx)(a c i0:Nat):Mtx:=fun i k=>if i<i0∧i≠a then M i k-M i c*M a k else M i k
def stp (M:Mtx)(a b c m n:Nat):Mtx:=rdc (scl (swp M a b) a (((1:Int):Rat)/swp M a b a c) m) a c n
def rp (m:Nat)(M:Mtx)(y:Nat→Rat)(i:Nat):Rat:=sig (fun k=>M i k*y k) m
def NS (m n:Nat)(M0 M:Mtx):Prop:=∀ y,(∀ i,i<n→rp m M y i=0)→∀ i,i<n→rp m M0 y i=0
theorem NS.refl (m n:Nat)(M:Mtx):NS m n M M:=fun _ h=>h
theorem NS.swp {m n a b:Nat}{M0 M:Mtx}(h:NS m n M0 M)(ha:a<n)(hb:b<n):NS m n M0 (swp M a b):=fun y hy=>h y (fun i hi=>by
  by_cases e1:i=a
  · subst e1
    have:=hy b hb
    unfold rp Go.Proofs.YtnbjahmpennmkaaGreatDoor.swp at this
    by_cases e2:b=i
    · subst e2;rw[if_pos rfl] at this;exact this
    · rw[if_neg e2,if_pos rfl] at this;exact this
  · by_cases e2:i=b
    · subst e2
      have:=hy a ha
      unfold rp Go.Proofs.YtnbjahmpennmkaaGreatDoor.swp at this
      rw[if_pos rfl] at this;exact this
    · have:=hy i hi
      unfold rp Go.Proofs.YtnbjahmpennmkaaGreatDoor.swp at this
      rw[if_neg e1,if_neg e2] at this;exact this)
theorem NS.scl {m n a:Nat}{d:Rat}{M0 M:Mtx}(h:NS m n M0 M)(hd:d≠0):NS m n M0 (scl M a d m):=fun y hy=>h y (fun i hi=>by
  have:=hy i hi
  unfold rp Go.Proofs.YtnbjahmpennmkaaGreatDoor.scl at this
  by_cases e1:i=a
  · rw[sig_congr (g:=fun k=>d*(M i k*y k)) (fun k hk=>by rw[if_pos ⟨e1,hk⟩];grind),sig_mul] at this
    rcases Rat.mul_eq_zero.1 this with e|e
    · exact absurd e hd
    · exact e
  · rw[sig_congr (g:=fun k=>M i k*y k) (fun k hk=>by rw[if_neg (fun x=>e1 x.1)])] at this
    exact this)
theorem rdc_row {M:Mtx}{a c i0 i:Nat}(h:¬(i<i0∧i≠a)):rdc M a c i0 i=M i:=by
  funext k;unfold rdc;rw[if_neg h]
theorem NS.rdc {m n a c:Nat}{M0 M:Mtx}(h:NS m n M0 M)(ha:a<n):NS m n M0 (rdc M a c n):=fun y hy=>h y (by
  have h0:rp m M y a=0:=by
    have:=hy a ha
    unfold rp at this ⊢
    rw[rdc_row (fun x=>x.2 rfl)] at this;exact this
  intro i hi
  by_cases e1:i=a
  · rw[e1];exact h0
  · have:=hy i hi
    unfold rp Go.Proofs.YtnbjahmpennmkaaGreatDoor.rdc at this
    rw[sig_congr (g:=fun k=>M i k*y k+(-M i c)*(M a k*y k)) (fun k hk=>by rw[if_pos ⟨hi,e1⟩];grind),sig_lin] at this
    unfold rp at h0 ⊢
    rw[h0] at this
    grind)
theorem NS.stp {m n a b c:Nat}{M0 M:Mtx}(h:NS m n M0 M)(ha:a<n)(hb:b<n)(hp:M b c≠0):NS m n M0 (stp M a b c m n):=by
  refine ((h.swp ha hb).scl ?_).rdc ha
  have:Go.Proofs.YtnbjahmpennmkaaGreatDoor.swp M a b a c=M b c:=by unfold Go.Proofs.YtnbjahmpennmkaaGreatDoor.swp;rw[if_pos rfl]
  rw[this,show ((1:Int):Rat)=1 from rfl]
  grind
def Ech (n:Nat)(M:Mtx)(c:Nat):Prop:=∀ j,j<c→∀ i,i<n→M i j=if i=j then 1 else 0
theorem Ech.stp {m n b c:Nat}{M:Mtx}(h:Ech n M c)(hc:c<n)(hm:c<m)(hcb:c≤b)(hb:b<n)(hp:M b c≠0):Ech n (stp M c b c m n) (c+1):=by
  have hs:∀ j,j<c→∀ i,i<n→Go.Proofs.YtnbjahmpennmkaaGreatDoor.swp M c b i j=if i=j then 1 else 0:=fun j hj i hi=>by
    unfold Go.Proofs.YtnbjahmpennmkaaGreatDoor.swp
    by_cases e1:i=c
    · rw[if_pos e1,h j hj b hb,if_neg oM,if_neg oM]
    · rw[if_neg e1]
      by_cases e2:i=b
      · rw[if_pos e2,h j hj c hc,if_neg oM,if_neg oM]
      · rw[if_neg e2];exact h j hj i hi
  have hpc:Go.Proofs.YtnbjahmpennmkaaGreatDoor.swp M c b c c=M b c:=by unfold Go.Proofs.YtnbjahmpennmkaaGreatDoor.swp;rw[if_pos rfl]
  obtain ⟨S,hS⟩:∃ S,S=Go.Proofs.YtnbjahmpennmkaaGreatDoor.swp M c b:=⟨_,rfl⟩
  have hd:(((1:Int):Rat)/S c c)*S c c=1:=by
    rw[hS,hpc,show ((1:Int):Rat)=1 from rfl];grind
  unfold Go.Proofs.YtnbjahmpennmkaaGreatDoor.stp
  rw[←hS] at hs ⊢
  generalize ((1:Int):Rat)/S c c=d at *
  intro j hj i hi
  unfold Go.Proofs.YtnbjahmpennmkaaGreatDoor.rdc
  have hcj:∀ j,j<c+1→Go.Proofs.YtnbjahmpennmkaaGreatDoor.scl S c d m c j=if c=j then 1 else 0:=fun j hj=>by
    unfold Go.Proofs.YtnbjahmpennmkaaGreatDoor.scl
    rw[if_pos ⟨rfl,by omega⟩]
    by_cases e:j=c
    · subst e;rw[if_pos rfl];grind
    · rw[hs j oM c hc,if_neg oM,Rat.zero_mul]
  have hij:∀ j,i≠c→Go.Proofs.YtnbjahmpennmkaaGreatDoor.scl S c d m i j=S i j:=fun j hi=>by
    unfold Go.Proofs.YtnbjahmpennmkaaGreatDoor.scl;rw[if_neg (fun x=>hi x.1)]
  by_cases e1:i=c
  · rw[if_neg (fun x=>x.2 e1),e1];exact hcj j hj
  · rw[if_pos ⟨hi,e1⟩,hij j e1,hij c e1,hcj j hj]
    by_cases e2:j=c
    · subst e2
      rw[if_pos rfl,if_neg e1];grind
    · rw[if_neg (fun x=>e2 x.symm),hs j oM i hi];grind
theorem sig_first {f:Nat→Rat}{c:Nat}:∀ {m:Nat},c≤m→(∀ k,c≤k→k<m→f k=0)→sig f m=sig f c
  | 0,h,_=>by
    obtain rfl:c=0:=by omega
    rfl
  | m + 1,h,hz=>by
    by_cases e:c=m+1
    · rw[e]
    · show sig f m+f m=_
      rw[sig_first oM (fun k h1 h2=>hz k h1 oM),hz m oM oM];grind
def Reg (n:Nat)(A:Mtx):Prop:=∀ y,(∀ i,i<n→mv n A y i=0)→∀ i,i<n→y i=0
def aug (n:Nat)(A:Mtx)(b:Nat→Rat):Mtx:=fun i k=>if k<n then A i k else b i
theorem aug_rp {n:Nat}{A:Mtx}{b y:Nat→Rat}(i:Nat):rp (n+1) (aug n A b) y i=mv n A y i+b i*y n:=by
  show sig _ n+aug n A b i n*y n=_
  rw[sig_congr (g:=fun k=>A i k*y k) (fun k hk=>by unfold aug;rw[if_pos hk])]
  unfold aug
  rw[if_neg (Nat.lt_irrefl n)];rfl
theorem piv_ex {n c:Nat}{A M:Mtx}{b:Nat→Rat}(hR:Reg n A)(h:NS (n+1) n (aug n A b) M)(he:Ech n M c)(hc:c<n):¬∀ i,c≤i→i<n→M i c=0:=fun hz=>by
  obtain ⟨y,hy⟩:∃ y:Nat→Rat,y=fun k=>if k<c then -M k c else if k=c then 1 else 0:=⟨_,rfl⟩
  have y1:y c=1:=by rw[hy];simp
  have y2:∀ k,c<k→y k=0:=fun k hk=>by rw[hy];show (if k<c then _ else _)=_;rw[if_neg oM,if_neg oM]
  have y0:∀ k,k<c→y k = -M k c:=fun k hk=>by rw[hy];show (if k<c then _ else _)=_;rw[if_pos hk]
  have key:∀ i,i<n→rp (n+1) M y i=0:=fun i hi=>by
    unfold rp
    rw[sig_first (c:=c+1) oM (fun k h1 h2=>by rw[y2 k oM,Rat.mul_zero])]
    show sig _ c+M i c*y c=0
    rw[y1,sig_congr (g:=fun k=>(if k=i then 1 else 0)*(-M k c)) (fun k hk=>by
      rw[he k hk i hi,y0 k hk]
      by_cases e:i=k
      · rw[if_pos e,if_pos e.symm]
      · rw[if_neg e,if_neg (fun x=>e x.symm)])]
    by_cases e:i<c
    · rw[sig_pick (fun k=>-M k c) e];grind
    · rw[sig_zero (fun k hk=>by rw[if_neg oM,Rat.zero_mul]),hz i oM hi];grind
  have h2:=h y key
  have h3:=hR y (fun i hi=>by
    have:=h2 i hi
    rw[aug_rp,y2 n hc,Rat.mul_zero,Rat.add_zero] at this;exact this) c hc
  rw[y1] at h3
  exact absurd h3 kD
theorem solved {n:Nat}{A M:Mtx}{b:Nat→Rat}(h:NS (n+1) n (aug n A b) M)(he:Ech n M n):∀ i,i<n→mv n A (fun i=>M i n) i=b i:=fun i hi=>by
  have:=h (fun k=>if k<n then M k n else -1) (fun i hi=>by
    show sig _ n+M i n*(if n<n then _ else -1)=0
    rw[if_neg (Nat.lt_irrefl n),sig_congr (g:=fun k=>(if k=i then 1 else 0)*M k n) (fun k hk=>by
      show M i k*(if k<n then M k n else -1)=_
      rw[he k hk i hi,if_pos hk]
      by_cases e:i=k
      · rw[if_pos e,if_pos e.symm]
      · rw[if_neg e,if_neg (fun x=>e x.symm)]),sig_pick (fun k=>M k n) hi]
    grind) i hi
  rw[aug_rp,if_neg (Nat.lt_irrefl n)] at this
  have e:mv n A (fun k=>if k<n then M k n else -1) i=mv n A (fun i=>M i n) i:=by
    unfold mv
    exact sig_congr (fun k hk=>by show A i k*(if k<n then M k n else -1)=_;rw[if_pos hk])
  rw[e] at this
  grind
def eb:Nat→Nat
  | 0=>3
  | c+1=>6*eb c+4
theorem eb_le {c:Nat}(h:c≤5):eb c≤100000:=by
  rcases (by omega:c=0∨c=1∨c=2∨c=3∨c=4∨c=5) with rfl|rfl|rfl|rfl|rfl|rfl<;>decide
theorem lq_swp {K:Nat}{M:Mtx}(h:∀ i k,LQ K (M i k))(a b i k:Nat):LQ K (swp M a b i k):=by
  unfold swp
  by_cases e1:i=a
  · rw[if_pos e1];exact h _ _
  · rw[if_neg e1]
    by_cases e2:i=b
    · rw[if_pos e2];exact h _ _
    · rw[if_neg e2];exact h _ _
theorem lq_scl {K L:Nat}{M:Mtx}{d:Rat}(h:∀ i k,LQ K (M i k))(hd:LQ L d)(a j i k:Nat):LQ (K+L) (scl M a d j i k):=by
  unfold scl
  split
  · exact (h i k).mul hd
  · exact (h i k).mono oM
theorem lq_rdc {K:Nat}{M:Mtx}(h:∀ i k,LQ K (M i k))(a c i0 i k:Nat):LQ (3*K+1) (rdc M a c i0 i k):=by
  unfold rdc
  split
  · have x:=(h i c).mul (h a k)
    exact ((h i k).sub x).mono oM
  · exact (h i k).mono oM
theorem slThree {P:Program}{Γ:Env}{o:Oper}{t e:TypeId}{x hi' mx':Operand}{A:Option Addr}{len cap sz:Nat}{j m:Int}(b c:Nat)(ho:o.op=.slice t x none (some hi') (some mx'))(hx:ev Γ x=.slice A len cap)(hh:ev Γ hi'=.int .i64 j)(hm:ev Γ mx'=.int .i64 m)
    (hu:P.underlying t=some (.slice e))(hs:(P.info? e).map (·.size)=some sz)(hj:j=b)(hmc:m=c)(hbc:b≤c)(hcc:c≤cap)(w:World) :
    (execOp (ev Γ) o).run P w=.ok (.value (.slice A b c)) w:=by
  subst hj hmc
  cases hinf:P.info? e with
  | none=>rw[hinf] at hs;cases hs
  | some inf =>
    rw[hinf] at hs
    simp at hs
    unfold execOp
    simp only[ho,Option.map_none,Option.map_some]
    rw[hx,hh,hm]
    have e0:∀ a:Addr,a.add 0=a:=fun a=>by unfold Addr.add;simp
    simp[Instr.sliceAt,Instr.slice,Instr.sliceBounds,Instr.sliceBound,run_underlying hu,asIntOf,sizeOf,typeInfo,hinf,Result.andThen,hbc,hcc,hs]
    intro _
    cases A<;>simp[e0]
theorem slThreeP {P:Program}{Γ:Env}{o:Oper}{t e:TypeId}{x lo' hi' mx':Operand}{A:Option Addr}{len cap sz:Nat}{i j m:Int}(a b c:Nat)(ho:o.op=.slice t x (some lo') (some hi') (some mx'))(hx:ev Γ x=.slice A len cap)(hl:ev Γ lo'=.int .i64 i)(hh:ev Γ hi'=.int .i64 j)(hm:ev Γ mx'=.int .i64 m)
    (hu:P.underlying t=some (.slice e))(hs:(P.info? e).map (·.size)=some sz)(hi:i=a)(hj:j=b)(hmc:m=c)(hab:a≤b)(hbc:b≤c)(hcc:c≤cap)(w:World) :
    (execOp (ev Γ) o).run P w=.ok (.value (.slice (if c=a then A else A.map (·.add (a*sz))) (b-a) (c-a))) w:=by
  subst hi hj hmc
  cases hinf:P.info? e with
  | none=>rw[hinf] at hs;cases hs
  | some inf =>
    rw[hinf] at hs
    simp at hs
    unfold execOp
    simp only[ho,Option.map_some]
    rw[hx,hl,hh,hm]
    simp[Instr.sliceAt,Instr.slice,Instr.sliceBounds,Instr.sliceBound,run_underlying hu,asIntOf,sizeOf,typeInfo,hinf,Result.andThen,hab,hbc,hcc,hs]
def sl3E (P:Program)(ρ:Operand→Value)(o:Oper):Option (Value × Option Value × Value × Value × Nat) :=
  match o.op with
  | .slice t x lo' (some hi') (some mx')=>match P.underlying t with
    | some (.slice e)=>(P.info? e).map fun i=>(ρ x,lo'.map ρ,ρ hi',ρ mx',i.size)
    | _=>none
  | _=>none
theorem sl3_to {P:Program}{Γ:Env}{o:Oper}{A:Option Addr}{len cap sz:Nat}{j m:Int}(b c:Nat)(h:sl3E P (ev Γ) o=some (.slice A len cap,none,.int .i64 j,.int .i64 m,sz))(hj:j=b)(hmc:m=c)(hbc:b≤c)(hcc:c≤cap)(w:World) :
    (execOp (ev Γ) o).run P w=.ok (.value (.slice A b c)) w:=by
  unfold sl3E at h
  split at h
  · rename_i t x l r q ho
    split at h
    · rename_i e hu
      cases hi:P.info? e with
      | none=>rw[hi] at h;cases h
      | some inf =>
        rw[hi] at h
        simp only[Option.map_some,Option.some.injEq,Prod.mk.injEq,Option.map_eq_none_iff] at h
        obtain ⟨h1,rfl,h3,h4,h5⟩:=h
        exact slThree (P:=P) (sz:=sz) b c ho h1 h3 h4 hu (by rw[hi];simp[h5]) hj hmc hbc hcc w
    · cases h
  · cases h
theorem sl3_part {P:Program}{Γ:Env}{o:Oper}{A:Option Addr}{len cap sz:Nat}{i j m:Int}(a b c:Nat)(h:sl3E P (ev Γ) o=some (.slice A len cap,some (.int .i64 i),.int .i64 j,.int .i64 m,sz))(hi':i=a)(hj:j=b)(hmc:m=c)(hab:a≤b)(hbc:b≤c)(hcc:c≤cap)(w:World) :
    (execOp (ev Γ) o).run P w=.ok (.value (.slice (if c=a then A else A.map (·.add (a*sz))) (b-a) (c-a))) w:=by
  unfold sl3E at h
  split at h
  · rename_i t x l r q ho
    split at h
    · rename_i e hu
      cases hi:P.info? e with
      | none=>rw[hi] at h;cases h
      | some inf =>
        rw[hi] at h
        simp only[Option.map_some,Option.some.injEq,Prod.mk.injEq,Option.map_eq_some_iff] at h
        obtain ⟨h1,⟨y,rfl,h2⟩,h3,h4,h5⟩:=h
        exact slThreeP (P:=P) (sz:=sz) a b c ho h1 h2 h3 h4 hu (by rw[hi];simp[h5]) hi' hj hmc hab hbc hcc w
    · cases h
  · cases h
section laws
variable {M:Ms} {P:Program} {n:Nat} {N R:Po} {X:Nat→Po} {ops:Array Oper} {k k0:Nat} {hr:Hp} {AL:List Al} {L:Array Bool} {Γ:Env} {w:World} {h:Hp} {w0:World} {h0:Hp} {B:List Bx} {Rs:List Rw} {F:List (Hp→Prop)}
theorem lT3 (t:Nat)(A:Option Addr)(len cap sz:Nat)(x y:Int)(b c:Nat)(H:LG P n N R X ops (k+1) ((t,.slice A b c)::Γ) w)(hc:cL ops Γ k t n=true:=by kernel_rfl)(he:sl3E P (ev Γ) (opAt ops k)=some (.slice A len cap,none,.int .i64 x,.int .i64 y,sz):=by kernel_rfl)(hx:x=b:=by omega)(hy:y=c:=by omega)(h1:b≤c:=by omega)(h2:c≤cap:=by omega):LG P n N R X ops k Γ w :=
  LG.val t _ w (cL_1 hc).1 (cL_1 hc).2 (sl3_to b c he hx hy h1 h2 w) H
theorem lB3 (t:Nat)(A:Option Addr)(len cap sz:Nat)(z x y:Int)(a b c:Nat)(H:LG P n N R X ops (k+1) ((t,.slice (if c=a then A else A.map (·.add (a*sz))) (b-a) (c-a))::Γ) w)(hc:cL ops Γ k t n=true:=by kernel_rfl)(he:sl3E P (ev Γ) (opAt ops k)=some (.slice A len cap,some (.int .i64 z),.int .i64 x,.int .i64 y,sz):=by kernel_rfl)(hz:z=a:=by omega)(hx:x=b:=by omega)(hy:y=c:=by omega)(h0:a≤b:=by omega)(h1:b≤c:=by omega)(h2:c≤cap:=by omega):LG P n N R X ops k Γ w :=
  LG.val t _ w (cL_1 hc).1 (cL_1 hc).2 (sl3_part a b c he hz hx hy h0 h1 h2 w) H
theorem eT3 (i t:Nat)(A:Option Addr)(len cap sz:Nat)(x y:Int)(b c:Nat)(H:EG M P n N R X ops k0 hr AL (L.setIfInBounds i true) ((t,.slice A b c)::Γ) w h)(hc:cE n ops k0 AL L Γ i t=true:=by kernel_rfl)(he:sl3E P (ev Γ) (opAt ops i)=some (.slice A len cap,none,.int .i64 x,.int .i64 y,sz):=by kernel_rfl)(hx:x=b:=by omega)(hy:y=c:=by omega)(h1:b≤c:=by omega)(h2:c≤cap:=by omega):EG M P n N R X ops k0 hr AL L Γ w h :=
  Rg.pure i t _ (cE_1 hc).1 (cE_1 hc).2 (sl3_to b c he hx hy h1 h2) H
theorem SS.appF (s:SS w0 h0 w h B Rs F){o:Oper}{ty:TypeId}{sz bt c2:Nat}{z:Value}{α:Type}{f:α→List Value}{d:α}{A A2:Option Addr}{l m:List α}(he:apE P (ev Γ) o=some (.slice A l.length l.length,.slice A2 m.length c2,ty,z,sz,bt))(s0:SlO sz f d h A l)(so:SlO sz f d h A2 m)(hl0:0<l.length)(hm0:0<m.length)(h1:∀ x∈m,(f x).all (·.oneCell')=true)(hf:∀ x,(f x).length=sz)(hzs:z.cells.size=sz)(hpos:0<sz)(hm:l.length+m.length≤1099511627776)(hb:(l.length+m.length)*bt≤140737488355328) :
    ∃ A' c' w' h',(execOp (ev Γ) o).run P w=.ok (.value (.slice A' (l++m).length c')) w'∧Up w h w' h'∧SS w0 h0 w' h' B (⟨ty,sz,A',c',(l++m).length,(l++m).flatMap f⟩::Rs) F:=by
  rw[so.ok hm0,s0.ok hl0] at he
  obtain ⟨x',y,ty',ho,hx,hy,hu,i,hi,hi0,hi1,hi2⟩:∃ x y t,o.op=.call { callee:=.builtin .append,args:=#[x,y],argTypes:=#[t,t] }∧ev Γ x=.slice (some ⟨aB A,aO A,none⟩) l.length l.length∧ev Γ y=.slice (some ⟨aB A2,aO A2,none⟩) m.length c2∧P.underlying t=some (.slice ty)∧∃ i,P.info? ty=some i∧i.zero=some z∧i.size=sz∧i.bytes=bt:=by
    obtain ⟨x',y,ty',ho,hx,hy,hu,hi⟩:=apE_op he
    obtain ⟨i,hi,e⟩:=Option.map_eq_some_iff.1 hi
    simp only[Prod.mk.injEq] at e
    exact ⟨x',y,ty',ho,hx,hy,hu,i,hi,e.1,e.2.1,e.2.2⟩
  obtain ⟨v',w',hrun,ow,gr⟩:=run_append_arg_grows (P:=P) w ty' o.type ty i z sz bt hu hi hi0 hi1 hi2 hzs hpos ⟨aB A,aO A,none⟩ l.length l.length (l.flatMap f) (len_flat hf l) (seg_newsO s.g (s0.flat hf)) ⟨aB A2,aO A2,none⟩ m.length c2 (m.flatMap f) (len_flat hf m) (seg_newsO s.g (so.flat hf)) oM (by unfold maxLen;omega) hb
  have hcs:l.flatMap f++m.flatMap f=(l++m).flatMap f:=flat_row
  have hn:l.length+m.length=(l++m).length:=by simp
  rw[hcs,hn] at ow
  have r:Gro h0 (B.map (·.b)) w h ty sz (.slice none 0 0) 0 []:=Gro.nil
  obtain ⟨h',hh,s',hjk⟩:=grown_st s.st s.g0 r (by simpa [Value.ownBlock] using gr)
  have hsz:=s.g.size
  have hge:∀ b,v'.ownBlock=some b→h.size≤b∧b<w'.heap.size:=fun b hb=>by
    refine ⟨?_,own_lt ow hb⟩
    rcases ow with ⟨_,⟨rfl,_⟩|⟨g,cap,cur,rfl,hbb,_⟩⟩
    · simp[Value.ownBlock] at hb
    · simp[Value.ownBlock] at hb;omega
  have hsl:∃ A c,v'=.slice A (l++m).length c:=by
    rcases ow with ⟨_,⟨e,e2⟩|⟨g,cap,cur,e,_⟩⟩
    · exact ⟨none,0,by rw[e,e2]⟩
    · exact ⟨_,_,e⟩
  obtain ⟨A',c',rfl⟩:=hsl
  have ow':w'.ownsRow h0.size ty sz (.slice A' (l++m).length c') (l++m).length ((l++m).flatMap f):=by
    rcases ow with ⟨q1,q2|⟨g,cap,cur,e,hbb,q3⟩⟩
    · exact ⟨q1,.inl q2⟩
    · exact ⟨q1,.inr ⟨g,cap,cur,e,by have:=s.st.up.gr.size;omega,q3⟩⟩
  refine ⟨A',c',w',h',?_,⟨⟨gr.os,gr.tape,gr.output,gr.size,fun c hc=>gr.block c hc (by simp)⟩,hh,s'.g⟩,⟨s.g0,s',fun q hq=>?_,List.pairwise_cons.2 ⟨fun q hq b hb hb'=>?_,s.ap⟩,s.mo,s.f.gw s.mo hh.gw⟩⟩
  · unfold execOp
    simp only[ho,resolve,invoke,builtin,Sem.run_bind,Sem.run_pure,Result.andThen_ok,List.map_toArray,List.map_cons,List.map_nil,hx,hy,hrun]
  · rcases List.mem_cons.1 hq with rfl|hq
    · refine ⟨ow',fun b hb=>hjk b (hge b hb).1 (hge b hb).2,fun b hb hm=>?_⟩
      obtain ⟨y,hy',e⟩:=List.mem_map.1 hm
      have h2:=lt_of_some (s.st.jk y hy')
      have h3:=(hge b hb).1
      have e':y.b=b:=e
      omega
    · exact (s.ro q hq).app gr hh (fun b _ e=>by cases e)
  · have h2:=(s.ro q hq).lt hb'
    have h3:=(hge b hb).1
    omega
theorem eYf {α:Type}(i t:Nat)(ty:TypeId)(sz:Nat)(f:α→List Value)(d:α)(A A2:Option Addr)(l m:List α)(c2 bt:Nat)(z:Value)(s:SS w0 h0 w h B Rs F)(s0:∀ h,AllF F h→SlO sz f d h A l)(so:∀ h,AllF F h→SlO sz f d h A2 m)(hl0:0<l.length)(hm0:0<m.length)(h1:∀ x∈m,(f x).all (·.oneCell')=true)
    (H:∀ A' c' w' h',SS w0 h0 w' h' B (⟨ty,sz,A',c',(l++m).length,(l++m).flatMap f⟩::Rs) F→EG M P n N R X ops k0 hr AL (L.setIfInBounds i true) ((t,.slice A' (l++m).length c')::Γ) w' h')
    (hc:cEv n ops k0 AL L Γ i t=true:=by kernel_rfl)(he:apE P (ev Γ) (opAt ops i)=some (.slice A l.length l.length,.slice A2 m.length c2,ty,z,sz,bt):=by kernel_rfl)(hf:∀ x,(f x).length=sz:=by intro _;rfl)(hzs:z.cells.size=sz:=by kernel_rfl)(hpos:0<sz:=by decide)(hm:l.length+m.length≤1099511627776:=by omega)(hb:(l.length+m.length)*bt≤140737488355328:=by omega):EG M P n N R X ops k0 hr AL L Γ w h:=by
  refine Rg.event i t (cEv_1 hc).1 (cEv_1 hc).2 (fun w1 h1' u=>?_)
  have s1:=s.step u
  obtain ⟨A',c',w',h',hrun,u2,s'⟩:=s1.appF (P:=P) he (s0 _ s1.f) (so _ s1.f) hl0 hm0 h1 hf hzs hpos hm hb
  exact .inl ⟨_,w',h',hrun,u2.m M.l,H A' c' w' h' s'⟩
theorem putAt_sp {α:Type}{f:α→List Value}{sz:Nat}(hf:∀ x,(f x).length=sz)(l:List α)(sp:List Value)(e:Nat)(x:α)(he:e<l.length):putAt (l.flatMap f++sp) (0+e*sz) (f x)=(l.set e x).flatMap f++sp:=by
  obtain ⟨a,y,b,rfl,hle⟩:∃ a y b,l=a++y::b∧a.length=e:=⟨l.take e,l[e],l.drop (e+1),by rw[List.getElem_cons_drop,List.take_append_drop],by rw[List.length_take];omega⟩
  subst hle
  have h1:(a++y::b).flatMap f++sp=a.flatMap f++(f y++(b.flatMap f++sp)):=by simp
  have h2:((a++y::b).set a.length x).flatMap f++sp=a.flatMap f++(f x++(b.flatMap f++sp)):=by simp
  rw[h1,h2,Nat.zero_add]
  have h3:=putAt_append (f x) (a.flatMap f) (f y++(b.flatMap f++sp)) 0
  rw[len_flat hf,Nat.add_zero] at h3
  rw[h3,putAt_pre _ _ _ (by rw[hf,hf])]
theorem tWs {α:Type}(i j:Nat)(l:List α)(f:α→List Value)(sz e:Nat)(x:α)(sp:List Value)(s:SS w0 h0 w h B Rs F)(hk:e<l.length)(H:∀ w',SS w0 h0 w' h (setV B j ((l.set e x).flatMap f++sp)) Rs F→AG M P n N R X ops k0 (L.setIfInBounds i true) Γ w')(hc:cTs ops k0 L Γ i=true:=by kernel_rfl)
    (hj:decide (j<B.length)=true:=by kernel_rfl)(hB:(bxAt B j).vs=l.flatMap f++sp:=by kernel_rfl)(hf:∀ x,(f x).length=sz:=by intro _;rfl)
    (he:evalW P (execOp (ev Γ) (opAt ops i))=some (.skip,mkl (bxAt B j).b (0+e*sz) (f x)):=by kernel_rfl)(hz:∀ K bs,M.z=some (K,bs)→K≤(bxAt B j).b∨(bxAt B j).b∈bs:=by intro _ _ e;cases e):AG M P n N R X ops k0 L Γ w:=by
  refine tP i j (0+e*sz) (f x) s (fun w' s'=>H w' ?_) hc ?_ he hz
  · have e1:setB B j (0+e*sz) (f x)=setV B j ((l.set e x).flatMap f++sp):=by
      unfold setB setV
      rw[hB,putAt_sp hf l sp e x hk]
    rw[←e1];exact s'
  · rw[hj,hB,Bool.true_and]
    refine decide_eq_true ?_
    rw[hf,List.length_append,len_flat hf]
    have:=Nat.mul_le_mul_right sz (show e+1≤l.length from hk)
    rw[Nat.add_mul] at this
    omega
theorem tC (i t:Nat){f:FuncId}{args:Array Value}(c:Calls P f args w fun e w'=>∃ v,e=.returned v∧Tl M w w'∧AG M P n N R X ops k0 (L.setIfInBounds i true) ((t,v)::Γ) w')(hc:(chkT ops k0 L i && knownOp Γ (opAt ops i) && ((opAt ops i).dst == some t) && decide (t<n))=true:=by kernel_rfl)(hw:wantE ops Γ (opAt ops i)=some true:=by kernel_rfl)
    (hr:(execOp (ev Γ) (opAt ops i)).run P w=.ok (.enter f args) w:=by kernel_rfl):AG M P n N R X ops k0 L Γ w:=by
  simp only[Bool.and_eq_true,decide_eq_true_eq,beq_iff_eq] at hc
  obtain ⟨⟨⟨h1,h2⟩,h3⟩,h4⟩:=hc
  obtain ⟨hg,hs⟩:=chkT_get h1
  intro a ka
  refine A.one h1 hg (R':=fun v w'=>Tl M w w'∧AG M P n N R X ops k0 (L.setIfInBounds i true) ((t,v)::Γ) w') ⟨ka.want hw,.inr (.inr ⟨f,args,?_,c⟩)⟩ (fun v w' hq=>hq.1) (fun v w' hq=>?_)
  · rw[ka.exec (Region.noSelect_spec hs i _ · · hg) h2];exact hr
  · rw[h3];exact hq.2 _ (ka.put h4 v)
theorem tCm {hz:Hp}{rb:Nat}(i t:Nat){f:FuncId}{args:Array Value}{Φ:Value→World→Hp→Prop}(c:Calls P f args w (RetM rb w h Φ))(hsz:hz.size≤w.heap.size)(H:∀ v w' h',UpM [rb] w h w' h'→Φ v w' h'→AG (Mz hz [rb]) P n N R X ops k0 (L.setIfInBounds i true) ((t,v)::Γ) w')(hc:(chkT ops k0 L i && knownOp Γ (opAt ops i) && ((opAt ops i).dst == some t) && decide (t<n))=true:=by kernel_rfl)(hw:wantE ops Γ (opAt ops i)=some true:=by kernel_rfl)
    (hr:(execOp (ev Γ) (opAt ops i)).run P w=.ok (.enter f args) w:=by kernel_rfl):AG (Mz hz [rb]) P n N R X ops k0 L Γ w :=
  tC i t (c.mono fun e w' ⟨v,h',he,u,hΦ⟩=>⟨v,he,fun K' bs' e'=>by
    injection e' with e';injection e' with e1 e2
    subst e1 e2
    exact ⟨u.mo.size,fun b hb hnm=>u.mo.blk b (Nat.lt_of_lt_of_le hb hsz) hnm⟩,H v w' h' u hΦ⟩) hc hw hr
theorem eHze {bs:List Nat}(i t:Nat)(v:Value){u:Value}{b o:Nat}{cs:List Value}(s:SS w0 h0 w h B Rs F)(sg:Seg h b o cs)(e:v=u)(hb:b<hr.size)(H:EG (Mz hr bs) P n N R X ops k0 hr AL (L.setIfInBounds i true) ((t,u)::Γ) w h)(hM:b ∉ bs:=by exact List.not_mem_nil)(hc:cE n ops k0 AL L Γ i t=true:=by kernel_rfl)(he:evalL P (execOp (ev Γ) (opAt ops i)) cs=some (.value v,mka b o cs.length):=by kernel_rfl):EG (Mz hr bs) P n N R X ops k0 hr AL L Γ w h:=by
  subst e
  exact eHz i t v s sg hb H hM hc he
theorem aQs {α:Type}(i t j:Nat)(l:List α)(f:α→List Value)(sz:Nat)(d:α)(e:Nat)(v:Value)(sp:List Value)(s:SS w0 h0 w h B Rs F)(hk:e<l.length)(H:AG M P n N R X ops k0 (L.setIfInBounds i true) ((t,v)::Γ) w)(hM:(bxAt B j).b ∉ M.l:=by exact List.not_mem_nil)(hc:cEl n ops k0 [] L Γ i t=true:=by kernel_rfl)
    (hj:decide (j<B.length)=true:=by kernel_rfl)(hB:(bxAt B j).vs=l.flatMap f++sp:=by kernel_rfl)(hf:∀ x,(f x).length=sz:=by intro _;rfl)
    (he:evalL P (execOp (ev Γ) (opAt ops i)) (f (l.getD e d))=some (.value v,mka (bxAt B j).b (0+e*sz) (f (l.getD e d)).length):=by kernel_rfl):AG M P n N R X ops k0 L Γ w :=
  aL i t v (fun w' hx=>evalL_run _ _ _ _ he (fun q a u ha hu=>by
    rw[mka_get _ _ _ _ _ ha,((s.st.own _ (bxAt_mem (oT hj))).mo hx hM).cell,hB]
    rw[←drop_flat hf d l e hk] at hu
    have hq:q<sz:=by
      rcases Nat.lt_or_ge q sz with hl|hl
      · exact hl
      · rw[List.getElem?_eq_none (by simp;omega)] at hu;cases hu
    rw[List.getElem?_take_of_lt hq,List.getElem?_drop] at hu
    have h2:=Nat.mul_le_mul_right sz (show e+1≤l.length from hk)
    rw[Nat.add_mul] at h2
    rw[Nat.zero_add,List.getElem?_append_left (by rw[len_flat hf];omega)];exact hu)) H hc
theorem tWsu {α:Type}(i j:Nat)(l:List α)(f:α→List Value)(sz e:Nat)(x:α)(sp:List Value)(s:SS w0 h0 w h B Rs F)(hk:e<l.length)(H:∀ w',Put (bxAt B j).b w w'→SS w0 h0 w' h (setV B j ((l.set e x).flatMap f++sp)) Rs F→AG M P n N R X ops k0 (L.setIfInBounds i true) Γ w')(hc:cTs ops k0 L Γ i=true:=by kernel_rfl)
    (hj:decide (j<B.length)=true:=by kernel_rfl)(hB:(bxAt B j).vs=l.flatMap f++sp:=by kernel_rfl)(hf:∀ x,(f x).length=sz:=by intro _;rfl)
    (he:evalW P (execOp (ev Γ) (opAt ops i))=some (.skip,mkl (bxAt B j).b (0+e*sz) (f x)):=by kernel_rfl)(hz:∀ K bs,M.z=some (K,bs)→K≤(bxAt B j).b∨(bxAt B j).b∈bs:=by intro _ _ e;cases e):AG M P n N R X ops k0 L Γ w:=by
  have hj2:(decide (j<B.length) && decide (0+e*sz+(f x).length≤(bxAt B j).vs.length))=true:=by
    rw[hj,hB,Bool.true_and]
    refine decide_eq_true ?_
    rw[hf,List.length_append,len_flat hf]
    have:=Nat.mul_le_mul_right sz (show e+1≤l.length from hk)
    rw[Nat.add_mul] at this
    omega
  refine T.put i j (0+e*sz) (f x) s.st s.g0 (cTs_1 hc).1 (cTs_1 hc).2 hj2 he (fun w' p s'=>H w' p ?_) hz
  have s2:=s.put0 (oT hj) p s' (setB_b (oT hj))
  have e1:setB B j (0+e*sz) (f x)=setV B j ((l.set e x).flatMap f++sp):=by
    unfold setB setV
    rw[hB,putAt_sp hf l sp e x hk]
  rw[←e1];exact s2
theorem lAu (t:Nat)(ty:TypeId)(vs:List Value)(s:SS w0 h0 w h B Rs F)(H:∀ b w' h',Up w h w' h'→h.size≤b→SS w0 h0 w' h' (⟨b,ty,vs⟩::B) Rs F→LG P n N R X ops (k+1) ((t,.pointer (some ⟨b,0,none⟩))::Γ) w')(hc:cL ops Γ k t n=true:=by kernel_rfl)
    (hr:(execOp (ev Γ) (opAt ops k)).run P w=.ok (.value (.pointer (some ⟨w.heap.size,0,none⟩))) (w.alloc (.cells vs.toArray ty (0,0))):=by kernel_rfl):LG P n N R X ops k Γ w :=
  LG.var t ty vs s.st (cL_1 hc).1 (cL_1 hc).2 hr (fun b w' h' hb u s'=>H b w' h' u hb (s.new u hb s'))
theorem UpM.put2 {M2:List Nat}{wa w':World}{ha:Hp}{b:Nat}(u:UpM M2 wa ha w h)(p:Put b w w')(hb:ha.size≤b)(ga:G wa ha)(g:G w' h):UpM M2 wa ha w' h :=
  ⟨⟨p.os.trans u.mo.os,p.tape.trans u.mo.tape,p.output.trans u.mo.output,by rw[p.size];exact u.mo.size,fun c hc hm=>(p.blk c (fun e=>by subst e;have:=ga.size;omega)).trans (u.mo.blk c hc hm)⟩,u.gr,g⟩
end laws
theorem sl_both {A:Option Addr}{a b:Nat}(h:a=b):Value.slice A a a=.slice A b b:=by rw[h]
theorem vec_getD {m:Nat}(f:Nat→Rat)(k:Nat):(vec m f).getD k 0=if k<m then f k else 0:=by
  by_cases h:k<m
  · rw[if_pos h,vec_get f h]
  · rw[if_neg h,vec_out f oM]
theorem qm_at {h:Hp}{us:List Value}{n m k:Nat}{M:Mtx}(x:QVs h us (matp m n M))(hk:k<n):∃ A cap,us.getD k undef=.slice A m cap∧m≤cap∧SlO 5 qc 0 h A (vec m (M k)):=by
  obtain ⟨A,cap,h1,h2,h3⟩:=x.at_ k (by rw[matp_len];exact hk)
  rw[matp_row M hk] at h1 h2 h3
  rw[vec_len] at h1 h2
  exact ⟨A,cap,h1,h2,h3⟩
def RowsQ (h:Hp)(us:List Value)(k m:Nat)(M:Mtx):Prop:=∀ i,i<k→∃ A cap,us.getD i undef=.slice A m cap∧m≤cap∧SlO 5 qc 0 h A (vec m (M i))
theorem RowsQ.gw {h h':Hp}{us:List Value}{k m:Nat}{M:Mtx}(x:RowsQ h us k m M)(u:Gw h h'):RowsQ h' us k m M:=fun i hi=>by
  obtain ⟨A,cap,h1,h2,h3⟩:=x i hi
  exact ⟨A,cap,h1,h2,h3.gw u⟩
theorem RowsQ.nil {h:Hp}{us:List Value}{m:Nat}{M:Mtx}:RowsQ h us 0 m M:=fun i hi=>absurd hi (Nat.not_lt_zero i)
theorem RowsQ.put {h:Hp}{us:List Value}{k m:Nat}{M:Mtx}(x:RowsQ h us k m M)(hk:k<us.length){v:Value}(hv:∃ A cap,v=.slice A m cap∧m≤cap∧SlO 5 qc 0 h A (vec m (M k))):RowsQ h (us.set k v) (k+1) m M:=fun i hi=>by
  rw[getD_setl]
  by_cases e:k=i
  · subst e;rw[if_pos ⟨rfl,hk⟩];exact hv
  · rw[if_neg (fun h=>e h.1)];exact x i oM
theorem RowsQ.qvs {h:Hp}{us:List Value}{n m:Nat}{M:Mtx}(x:RowsQ h us n m M)(hl:us.length=n):QVs h us (matp m n M):=⟨by rw[matp_len];exact hl,fun i hi=>by
  rw[matp_len] at hi
  obtain ⟨A,cap,h1,h2,h3⟩:=x i hi
  rw[matp_row M hi]
  exact ⟨A,cap,by rw[h1,vec_len],by rw[vec_len];exact h2,h3⟩⟩
theorem col_row {h:Hp}{X:Option Addr}{n i:Nat}{b:Nat→Rat}(hX:SlO 5 qc 0 h X (vec n b))(hi:i<n):∃ A cap,(.slice (if i+1=i then X else X.map (·.add (i*5))) (i+1-i) (i+1-i):Value)=.slice A 1 cap∧1≤cap∧SlO 5 qc 0 h A (vec 1 (fun _=>b i)):=by
  have h1:=(hX.drop i (n+1) (by rw[vec_len];omega)).take 1
  rw[if_neg oM] at h1
  refine ⟨X.map (·.add (i*5)),1,?_,Nat.le_refl _,?_⟩
  · rw[if_neg oM,show i+1-i=1 by omega]
  · have e:((vec n b).drop i).take 1=vec 1 (fun _=>b i):=by
      refine vec_eq (by rw[List.length_take,List.length_drop,vec_len];omega) (fun k hk=>?_)
      obtain rfl:k=0:=by omega
      rw[List.getD_eq_getElem?_getD,List.getElem?_take_of_lt oM,List.getElem?_drop,←List.getD_eq_getElem?_getD]
      exact vec_get b hi
    rw[e] at h1;exact h1
structure SepQ (lo:Nat) (h:Hp) (us:List Value) (k m:Nat) (M:Mtx):Prop where
  at_:∀ i,i<k→∃ b c sp,us.getD i undef=.slice (some ⟨b,0,none⟩) m c∧m≤c∧Whole lo h b 56 ((vec m (M i)).flatMap qc++sp)
  ne:∀ i,i<k→∀ j,j<i→slB (us.getD i undef)≠slB (us.getD j undef)
theorem SepQ.gw {lo:Nat}{h h':Hp}{us:List Value}{k m:Nat}{M:Mtx}(x:SepQ lo h us k m M)(u:Gw h h'):SepQ lo h' us k m M:=⟨fun i hi=>by
  obtain ⟨b,c,sp,h1,h2,h3⟩:=x.at_ i hi
  exact ⟨b,c,sp,h1,h2,h3.gw u⟩,x.ne⟩
theorem SepQ.up {lo l2:Nat}{h:Hp}{us:List Value}{k m:Nat}{M:Mtx}(x:SepQ l2 h us k m M)(hl:lo≤l2):SepQ lo h us k m M:=⟨fun i hi=>by
  obtain ⟨b,c,sp,h1,h2,h3⟩:=x.at_ i hi
  exact ⟨b,c,sp,h1,h2,h3.up hl⟩,x.ne⟩
theorem SepQ.nil {lo:Nat}{h:Hp}{us:List Value}{m:Nat}{M:Mtx}:SepQ lo h us 0 m M:=⟨fun i hi=>absurd hi (Nat.not_lt_zero i),fun i hi=>absurd hi (Nat.not_lt_zero i)⟩
theorem SepQ.lt {lo:Nat}{h:Hp}{us:List Value}{k m:Nat}{M:Mtx}(x:SepQ lo h us k m M):∀ i,i<k→slB (us.getD i undef)<h.size:=fun i hi=>by
  obtain ⟨b,c,sp,h1,h2,h3⟩:=x.at_ i hi
  rw[h1];exact lt_of_some h3.at_
theorem SepQ.new {lo:Nat}{h:Hp}{us:List Value}{k m:Nat}{M:Mtx}(x:SepQ lo h us k m M){b:Nat}(hj:h[b]?=some junk):∀ i,i<k→slB (us.getD i undef)≠b:=fun i hi e=>by
  obtain ⟨b2,c,sp,h1,h2,h3⟩:=x.at_ i hi
  rw[h1] at e
  have e':b2=b:=e
  subst e'
  exact h3.nj hj
theorem SepQ.put {lo:Nat}{h:Hp}{us:List Value}{k m:Nat}{M:Mtx}(x:SepQ lo h us k m M)(hk:k<us.length){v:Value}{b c:Nat}{sp:List Value}(hv:v=.slice (some ⟨b,0,none⟩) m c)(hc:m≤c)(hW:Whole lo h b 56 ((vec m (M k)).flatMap qc++sp))(hne:∀ i,i<k→slB (us.getD i undef)≠b):SepQ lo h (us.set k v) (k+1) m M:=by
  refine ⟨fun i hi=>?_,fun i hi j hj=>?_⟩
  · rw[getD_setl]
    by_cases e:k=i
    · subst e;rw[if_pos ⟨rfl,hk⟩];exact ⟨b,c,sp,hv,hc,hW⟩
    · rw[if_neg (fun h=>e h.1)];exact x.at_ i oM
  · rw[getD_setl,getD_setl,if_neg (fun h=>by omega:¬(k=j∧k<us.length))]
    by_cases e:k=i
    · subst e;rw[if_pos ⟨rfl,hk⟩,hv]
      exact fun e2=>hne j hj e2.symm
    · rw[if_neg (fun h=>e h.1)];exact x.ne i oM j hj
theorem SepQ.rows {lo:Nat}{h:Hp}{us:List Value}{n m:Nat}{M:Mtx}(x:SepQ lo h us n m M):RowsQ h us n m M:=fun i hi=>by
  obtain ⟨b,c,sp,h1,h2,h3⟩:=x.at_ i hi
  exact ⟨_,c,h1,h2,h3.slo (fun _=>rfl)⟩
theorem red_step {L:List Rat}{m i:Nat}{f g:Nat→Rat}{q:Rat}(hl:L.length=m)(h:∀ k,L.getD k 0=if k<m then (if k<i then f k-q*g k else f k) else 0)(hi:i<m){L':List Rat}(hx:L'=L.set i (L.getD i 0-q*(vec m g).getD i 0)∨L'=L∧((vec m g).getD i 0).num.sign=0):∀ k,L'.getD k 0=if k<m then (if k<i+1 then f k-q*g k else f k) else 0:=fun k=>by
  rcases hx with rfl|⟨rfl,hz⟩
  · rw[getD_setl,hl]
    by_cases e:i=k
    · subst e
      rw[if_pos ⟨rfl,hi⟩,if_pos hi,if_pos oM,h i,if_pos hi,if_neg oM,vec_get g hi]
    · rw[if_neg (fun x=>e x.1),h k]
      by_cases hk:k<m
      · rw[if_pos hk,if_pos hk]
        by_cases e2:k<i
        · rw[if_pos e2,if_pos oM]
        · rw[if_neg e2,if_neg oM]
      · rw[if_neg hk,if_neg hk]
  · rw [h k]
    by_cases hk:k<m
    · rw[if_pos hk,if_pos hk]
      by_cases e2:k<i
      · rw[if_pos e2,if_pos oM]
      · rw[if_neg e2]
        by_cases e3:k<i+1
        · obtain rfl:k=i:=by omega
          rw[if_pos e3]
          rw[vec_get g hi] at hz
          have:g k=0:=Rat.num_eq_zero.1 (Int.sign_eq_zero_iff_zero.1 hz)
          rw[this];grind
        · rw[if_neg e3]
    · rw[if_neg hk,if_neg hk]
theorem piv_ne {q:Rat}(h:q.num.sign≠0):q≠0:=fun e=>h (by rw[e];rfl)
theorem red_q0 {q:Rat}(h:q.num.sign=0):q=0:=Rat.num_eq_zero.1 (Int.sign_eq_zero_iff_zero.1 h)
theorem mCopyQ (n m:Nat)(hn9:n≤1000)(hm0:0<m)(hm9:m≤1000)(A:Option Addr)(capA:Nat)(us:List Value)(M:Mtx)(w:World)(h:Hp)(g:G w h)(hA:SlO 1 vc undef h A us)(hUM:QVs h us (matp m n M)) :
    Calls Tryz.prog 94 #[.slice A us.length capA] w (Ret w h fun v h1=>∃ bo,∃ us:List Value,v=.slice (some ⟨bo,0,none⟩) n n∧us.length=n∧Whole h.size h1 bo 35 (us.flatMap vc)∧(∀ i,i<n→slB (us.getD i undef)≠bo)∧SepQ h.size h1 us n m M):=by
 have hs:=SS.start g
 replace hs:=((hs.a_SlO hA).add (K:=fun h_=>QVs h_ us (matp m n M)) hUM)
 have hlus:=(hs.f.1).len
 rw[matp_len] at hlus
 refine go Tryz.func94 [(0,.slice A us.length capA)] rfl ?_
 refine cSL (lL hs [.v 2 (.slice none 0 0)] (lNS (lL hs [.m 6 0,.v 7 (.int .i64 (us.length:Nat))] (lK 8 35 us.length 1 24 (.slice none 0 0) vc (.slice none 0 0:Value) hs (fun b1 w2 h3 hs=>?_)))))
 have hl4:(List.replicate us.length (.slice none 0 0:Value)).length=us.length:=by simp
 refine lL hs [.m 3 8] (lN (CG.seq (cSL (lL hs [.m 9 0,.v 10 (.int .i64 (us.length:Nat)),.v 11 (.int .i64 0)] (lN (CG.block (cTo [(2,.slice none 0 0),(3,.slice (some ⟨b1,0,none⟩) us.length us.length),(9,.slice A us.length capA),(10,.int .i64 (us.length:Nat)),(11,.int .i64 0)] ?_)))))))
 replace hs:=hs.add (K:=fun h_=>SepQ h.size h_ (List.replicate us.length (.slice none 0 0:Value)) 0 m M) (SepQ.nil)
 refine CG.loop (fun μ_ Γ w_=>∃ (i:Nat) (L:List Value) (h_:Hp),μ_=n-i∧Γ=[(2,.slice none 0 0),(3,.slice (some ⟨b1,0,none⟩) us.length us.length),(9,.slice A us.length capA),(10,.int .i64 (us.length:Nat)),(11,.int .i64 (i:Nat))]∧SS w h w_ h_ [⟨b1,35,(L).flatMap vc⟩] [] [fun h_=>SepQ h.size h_ L i m M,fun h_=>QVs h_ us (matp m n M),fun h_=>SlO 1 vc undef h_ A us]∧(i≤n)∧(L.length=us.length)) _ ⟨0,List.replicate us.length (.slice none 0 0:Value),h3,rfl,rfl,hs.to _ _,Nat.zero_le _,(by simp)⟩ ?_
 rintro _ _ w5 ⟨i,L,h6,hm7,rfl,hs,hi,hLl⟩
 refine cSL ?_
 cases hb8:(decide (((i:Nat):Int)<((us.length:Nat):Int)))
 ·
  have phb8:=oF hb8
  refine lB 12 hb8 ?_
  refine lN (CG.seq (cIF (CG.exit ?_)))
  show CG _ _ _ _ _ _ _ _
  refine cSL (lL hs [.m 22 3,.m 2 22] (lN (CG.ret ?_)))
  have hin:i=n:=by omega
  have hne:=SepQ.new (hs.f.1) (hs.jk 0)
  obtain ⟨h9,hs,sg10,lo11,bc12⟩:=hs.pub 0
  replace hs:=(hs.to [] []).a_SlO (SlO.of_flat (sz:=1) (f:=vc) (d:=undef) (b:=b1) (o:=0) (l:=L) (fun _=>rfl) sg10)
  exact hs.ret [] (.slice (some ⟨b1,0,none⟩) us.length us.length) (⟨b1,L,sl_both oM,by omega,⟨lo11,by decide,bc12⟩,(by rw[hin] at hne;exact hne),(by have q_:=(hs.f.2.1);rw[hin] at q_;exact q_)⟩)
 have phb8:=oT hb8
 refine lB 12 hb8 ?_
 refine lN (CG.seq (cIT (CG.skipN (CG.seq (CG.block (cSL (lL hs [.m 13 11] (lX 14 A us.length capA 1 (i:Nat) i ((hs.f.2.2.1).ok oM) ?_))))))))
 obtain ⟨Arx,crx,erx,hcrx,hRrx⟩:=qm_at (hs.f.2.1) (k:=i) oM
 have hvnx:=vec_len m (M i)
 replace hs:=(hs.a_SlO hRrx)
 refine lHe 15 (us.getD i undef) hs ((hs.f.2.2.2.1).el i oM) erx ?_
 refine lL hs [.m 4 13,.m 5 15] (lN (CG.listed (lL hs [.m 16 3,.m 17 4,.m 18 5] ?_)))
 have hlt_:=(hs.f.2.1).lt
 have hlo_:=hs.st.up.gr.size
 refine lC 19 hs (sClone Arx m crx (vec m (M i)) (vec_len _ _) hm0 oM _ _ hs.g (hs.f.1)) ?_
 rintro _ w14 h15 hs ⟨bq,cq,spq,rfl,hcq,hNq⟩
 replace hs:=(hs.add (K:=fun h_=>Nw h6.size h_ bq 56 ((vec m (M i)).flatMap qc++spq)) hNq)
 refine lX 20 (some ⟨b1,0,none⟩) us.length us.length 1 (i:Nat) i rfl ?_
 refine lW 0 L vc 1 i (.slice (some ⟨bq,0,none⟩) ((vec m (M i)).length) cq:Value) hs oM (fun w16 hs=>?_)
 have hl17:((L).set i (.slice (some ⟨bq,0,none⟩) ((vec m (M i)).length) cq:Value)).length=us.length:=by rw[List.length_set];exact hLl
 replace hs:=hs.to [⟨b1,35,((L).set i (.slice (some ⟨bq,0,none⟩) ((vec m (M i)).length) cq:Value)).flatMap vc⟩] []
 refine lN (CG.listed (lIn 21 ((i:Nat)+1) (i+1) ?_))
 refine lL hs [.m 11 21] (lD ?_)
 intro a_ ka
 have q18:SepQ h.size h15 ((L).set i (.slice (some ⟨bq,0,none⟩) ((vec m (M i)).length) cq:Value)) (i+1) m M:=(SepQ.put (hs.f.2.2.1) oM (sl_len (vec_len _ _)) (by rw[←vec_len m (M i)];exact hcq) ⟨Nat.le_trans hlo_ (hs.f.1).1,by decide,(hs.f.1).2.2⟩ (fun j hj=>by have:=hlt_ j hj;have:=(hs.f.1).1;omega))
 have q19:(i+1)≤n:=by omega
 have q20:((L).set i (.slice (some ⟨bq,0,none⟩) ((vec m (M i)).length) cq:Value)).length=us.length:=hl17
 replace hs:=(hs.tl.tl.tl.add (K:=fun h_=>SepQ h.size h_ ((L).set i (.slice (some ⟨bq,0,none⟩) ((vec m (M i)).length) cq:Value)) (i+1) m M) q18)
 refine ⟨_,_,?_,⟨i+1,(L).set i (.slice (some ⟨bq,0,none⟩) ((vec m (M i)).length) cq:Value),h15,rfl,rfl,hs.to _ _,q19,q20⟩,ka.to [(2,.slice none 0 0),(3,.slice (some ⟨b1,0,none⟩) us.length us.length),(9,.slice A us.length capA),(10,.int .i64 (us.length:Nat)),(11,.int .i64 ((i+1):Nat))] kR⟩
 omega
theorem ePivot (n m:Nat)(hn9:n≤1000)(hm0:0<m)(hm9:m≤1000)(A:Option Addr)(capA:Nat)(us:List Value)(M:Mtx)(top col:Nat)(ht:top≤n)(hcm:col<m)(hq:∀ i k,LQ 100000000 (M i k))(w:World)(h:Hp)(g:G w h)(hA:SlO 1 vc undef h A us)(hUM:QVs h us (matp m n M)) :
    Calls Tryz.prog 95 #[.slice A us.length capA,.int .i64 (top:Nat),.int .i64 (col:Nat)] w (Ret w h fun v _=>∃ p:Int,v=.int .i64 p∧(p = -1∧(∀ i,top≤i→i<n→M i col=0)∨∃ k:Nat,p=k∧top≤k∧k<n∧M k col≠0)):=by
 have hs:=SS.start g
 replace hs:=((hs.a_SlO hA).add (K:=fun h_=>QVs h_ us (matp m n M)) hUM)
 have hlus:=(hs.f.1).len
 rw[matp_len] at hlus
 refine go Tryz.func95 [(0,.slice A us.length capA),(1,.int .i64 (top:Nat)),(2,.int .i64 (col:Nat))] rfl ?_
 refine cSL (lL hs [.v 6 (.int .i64 0)] (lN (CG.seq (cSL (lL hs [.m 8 1,.m 7 8] (lN (CG.block (cTo [(0,.slice A us.length capA),(2,.int .i64 (col:Nat)),(7,.int .i64 (top:Nat))] ?_))))))))
 refine CG.loop (fun μ_ Γ w_=>∃ (i:Nat) (h_:Hp),μ_=n-i∧Γ=[(0,.slice A us.length capA),(2,.int .i64 (col:Nat)),(7,.int .i64 (i:Nat))]∧SS w h w_ h_ [] [] [fun h_=>QVs h_ us (matp m n M),fun h_=>SlO 1 vc undef h_ A us]∧(top≤i∧i≤n)∧(∀ j,top≤j→j<i→M j col=0)) _ ⟨top,h,rfl,rfl,hs.to _ _,⟨Nat.le_refl _,ht⟩,(fun j h1 h2=>absurd h1 oM)⟩ ?_
 rintro _ _ w1 ⟨i,h2,hm3,rfl,hs,hi,hz⟩
 refine CG.seq (cSL (lL hs [.m 9 7,.m 10 0,.v 11 (.int .i64 (us.length:Nat))] ?_))
 cases hb4:(decide (((i:Nat):Int)<((us.length:Nat):Int)))
 ·
  have phb4:=oF hb4
  refine lB 12 hb4 ?_
  refine lN (cIF (CG.exit ?_))
  show CG _ _ _ _ _ _ _ _
  exact cSL (lL hs [.v 6 (.int .i64 (-1))] (lN (CG.ret (hs.ret [] (.int .i64 (-1)) (⟨_,rfl,.inl ⟨rfl,fun j h1 h2=>hz j h1 oM⟩⟩)))))
 have phb4:=oT hb4
 refine lB 12 hb4 ?_
 refine lN (cIT (CG.skipN (CG.seq (CG.block (cSL (lL hs [.m 15 0,.m 16 7] (lX 17 A us.length capA 1 (i:Nat) i ((hs.f.2.1).ok oM) ?_)))))))
 obtain ⟨Arx,crx,erx,hcrx,hRrx⟩:=qm_at (hs.f.1) (k:=i) oM
 have hvnx:=vec_len m (M i)
 replace hs:=(hs.a_SlO hRrx)
 refine lHe 18 (us.getD i undef) hs ((hs.f.2.2.1).el i oM) erx ?_
 refine lL hs [.m 19 2] (lX 20 Arx m crx 5 (col:Nat) col ((hs.f.1).ok oM) ?_)
 refine lHe 21 (qv ((vec m (M i)).getD col 0)) hs ((hs.f.1).el col oM) (congrArg qv (vec_get _ oM)) ?_
 refine lC 22 hs (fSign (M i col) (hq _ _) _ _ hs.g) ?_
 rintro _ w5 h6 hs rfl
 cases hb7:(((M i col).num.sign:Int) != (0:Int))
 ·
  have phb7:=eqOfBne hb7
  refine lB 23 hb7 ?_
  refine lN (cIF (CG.skipN (CG.listed (lL hs [.m 13 7] (lIn 14 ((i:Nat)+1) (i+1) ?_)))))
  refine lL hs [.m 7 14] (lD ?_)
  intro a_ ka
  have q8:top≤(i+1)∧(i+1)≤n:=by omega
  have q9:∀ j,top≤j→j<(i+1)→M j col=0:=(fun j h1 h2=>by by_cases e_:j=i;(rw[e_];exact red_q0 oM);exact hz j h1 oM)
  replace hs:=hs.tl
  refine ⟨_,_,?_,⟨i+1,h6,rfl,rfl,hs.to _ _,q8,q9⟩,ka.to [(0,.slice A us.length capA),(2,.int .i64 (col:Nat)),(7,.int .i64 ((i+1):Nat))] kR⟩
  omega
 have phb7:=neOfBne hb7
 refine lB 23 hb7 ?_
 exact lN (cIT (cSL (lL hs [.m 24 7,.m 6 24] (lN (CG.ret (hs.ret [] (.int .i64 (i:Nat)) (⟨_,rfl,.inr ⟨i,rfl,by omega,by omega,piv_ne oM⟩⟩)))))))
theorem eReduce (rb c m:Nat)(f:Nat→Rat)(sp:List Value)(D:Option Addr)(cD:Nat)(g_:Nat→Rat)(q:Rat)(hm9:m≤1000)(hmc:m≤c)(K:Nat)(hK:3*K+1≤100000000)(hf:∀ k,LQ K (f k))(hg_:∀ k,LQ K (g_ k))(hq:LQ K q)(w:World)(h:Hp)(g:G w h)(ho:Own w rb 56 ((vec m f).flatMap qc++sp))(hj:h[rb]?=some junk)(hD:SlO 5 qc 0 h D (vec m g_))(tb:Tab h) :
    Calls Tryz.prog 96 #[.slice (some ⟨rb,0,none⟩) m c,.slice D m cD,qv q] w (RetM rb w h fun v w' h1=>Own w' rb 56 ((vec m (fun k_=>f k_-q*g_ k_)).flatMap qc++sp)):=by
 have hmo:UpM [rb] w h w h:=UpM.refl g
 obtain ⟨wz,hz,hs⟩:=SS.at_ g ho hj
 have hvg:=vec_len m g_
 have hvf:=vec_len m f
 replace hs:=((hs.a_SlO hD).add (K:=fun h_=>Tab h_) tb)
 refine go Tryz.func96 [(0,.slice (some ⟨rb,0,none⟩) m c),(1,.slice D m cD),(2,qv q)] rfl ?_
 refine cSL (lAu 5 56 (qc q) hs (fun b1 w2 h3 u4 hlo_b1 hs=>?_))
 replace hlo_b1:=Nat.le_trans hmo.gr.size hlo_b1
 replace hmo:=hmo.trans (u4.m _)
 refine lN (CG.seq (cSL (lL hs [.o 8 (qv q) 0 0 5] (lCu 9 (fSign q (LQ.mono hq oM) _ _ hs.g) ?_))))
 rintro _ w5 h6 u7 rfl
 replace hmo:=hmo.trans (u7.m _)
 replace hs:=hs.step u7
 cases hb8:((q.num.sign:Int) == (0:Int))
 ·
  have phb8:=neOfBeq hb8
  refine lB 10 hb8 ?_
  refine lN (cIF (CG.skipN (cSL (lL hs [.m 11 1,.v 12 (.int .i64 (m:Nat)),.v 13 (.int .i64 0)] (lN (CG.block (cTo [(0,.slice (some ⟨rb,0,none⟩) m c),(5,.pointer (some ⟨b1,0,none⟩)),(11,.slice D m cD),(12,.int .i64 (m:Nat)),(13,.int .i64 0)] ?_)))))))
  refine CG.loop (fun μ_ Γ w_=>∃ (i:Nat) (L:List Rat) (h_:Hp),μ_=m-i∧Γ=[(0,.slice (some ⟨rb,0,none⟩) m c),(5,.pointer (some ⟨b1,0,none⟩)),(11,.slice D m cD),(12,.int .i64 (m:Nat)),(13,.int .i64 (i:Nat))]∧SS wz hz w_ h_ [⟨b1,56,qc q⟩,⟨rb,56,(L).flatMap qc++sp⟩] [] [fun h_=>Tab h_,fun h_=>SlO 5 qc 0 h_ D (vec m g_)]∧(i≤m)∧(UpM [rb] w h w_ h_)∧(L.length=m)∧(∀ k_,L.getD k_ 0=if k_<m then (if k_<i then f k_-q*g_ k_ else f k_) else 0)) _ ⟨0,(vec m f),h6,rfl,rfl,hs.to _ _,Nat.zero_le _,hmo,(vec_len m f),(fun k_=>by rw[if_neg (Nat.not_lt_zero k_)];exact vec_getD f k_)⟩ ?_
  rintro _ _ w9 ⟨i,L,h10,hm11,rfl,hs,hi,hmo,hLl,hLv⟩
  refine cSL ?_
  cases hb12:(decide (((i:Nat):Int)<((m:Nat):Int)))
  ·
   have phb12:=oF hb12
   refine lB 14 hb12 ?_
   refine lN (CG.seq (cIF (CG.exit ?_)))
   have ho_:=hs.own 1
   exact hs.retM hmo [] (.tuple #[]) (by have q_:=ho_;rw[show L=vec m (fun k_=>f k_-q*g_ k_) from vec_eq hLl (fun k_ hk=>by rw[hLv k_,if_pos hk,if_pos oM])] at q_;exact q_)
  have phb12:=oT hb12
  refine lB 14 hb12 ?_
  refine lN (CG.seq (cIT (CG.skipN (CG.seq (CG.block (cSL (lL hs [.m 15 13] (lX 16 D m cD 5 (i:Nat) i ((hs.f.2.1).ok oM) ?_))))))))
  refine lH 17 (qv ((vec m g_).getD i 0)) hs ((hs.f.2.1).el i oM) ?_
  refine lAu 7 56 ([.bool false,.int .u64 0,.string ⟨#[]⟩,.int .u64 0,.string ⟨#[]⟩]) hs (fun b13 w14 h15 u16 hlo_b13 hs=>?_)
  replace hlo_b13:=Nat.le_trans hmo.gr.size hlo_b13
  replace hmo:=hmo.trans (u16.m _)
  refine lL hs [.m 6 15] (lPu 0 0 (qc ((vec m g_).getD i 0)) hs (fun w17 pu hs=>?_))
  replace hmo:=hmo.put2 pu hlo_b13 g hs.g
  refine lNS (lL hs [.o 18 (qv ((vec m g_).getD i 0)) 0 0 5] (lCu 19 (fSign ((vec m g_).getD i 0) (LQ.mono (show LQ K ((vec m g_).getD i 0) from by rw[vec_get g_ oM];exact hg_ i) oM) _ _ hs.g) ?_))
  rintro _ w18 h19 u20 rfl
  replace hmo:=hmo.trans (u20.m _)
  replace hs:=hs.step u20
  cases hb21:((((vec m g_).getD i 0).num.sign:Int) != (0:Int))
  ·
   have phb21:=eqOfBne hb21
   refine lB 20 hb21 ?_
   refine lN (cIF (CG.skipN (CG.listed (lIn 32 ((i:Nat)+1) (i+1) ?_))))
   refine lL hs [.m 13 32] (lD ?_)
   intro a_ ka
   have q22:(i+1)≤m:=by omega
   have q23:UpM [rb] w h w18 h19:=hmo
   have q24:L.length=m:=hLl
   have q25:∀ k_,L.getD k_ 0=if k_<m then (if k_<(i+1) then f k_-q*g_ k_ else f k_) else 0:=(red_step hLl hLv oM (.inr ⟨rfl,by assumption⟩))
   replace hs:=hs.drop 1 0
   refine ⟨_,_,?_,⟨i+1,L,h19,rfl,rfl,hs.to _ _,q22,q23,q24,q25⟩,ka.to [(0,.slice (some ⟨rb,0,none⟩) m c),(5,.pointer (some ⟨b1,0,none⟩)),(11,.slice D m cD),(12,.int .i64 (m:Nat)),(13,.int .i64 ((i+1):Nat))] kR⟩
   omega
  have phb21:=neOfBne hb21
  refine lB 20 hb21 ?_
  refine lN (cIT (cRa ⟨[],none⟩ 10 mixed ?_))
  replace hmo:=hmo.trans ((Up.drew (Up.refl hs.g)).m _)
  replace hs:=hs.drew
  refine aV 0 21 (.slice (some ⟨rb,0,none⟩) m c) ?_
  refine aV 1 22 (.int .i64 (i:Nat)) ?_
  refine aV 2 23 (.slice (some ⟨rb,0,none⟩) m c) ?_
  refine aV 3 24 (.int .i64 (i:Nat)) ?_
  refine aX 4 25 (some ⟨rb,0,none⟩) m c 5 (i:Nat) i rfl ?_
  refine aQs 5 26 2 L qc 5 0 i (qv ((L).getD i 0)) sp hs oM ?_
  refine aOw 6 27 [(1,0,5)] (qv q) hs ?_
  refine aOw 7 28 [(0,0,5)] (qv ((vec m g_).getD i 0)) hs ?_
  have hq26:=LQ.mul hq (show LQ K ((vec m g_).getD i 0) from by rw[vec_get g_ oM];exact hg_ i)
  refine aCu 8 29 (fMul q ((vec m g_).getD i 0) (LQ.mono hq oM) (LQ.mono (show LQ K ((vec m g_).getD i 0) from by rw[vec_get g_ oM];exact hg_ i) oM) _ _ hs.g (hs.f.1)) ?_
  rintro _ w27 h28 u29 rfl
  replace hmo:=hmo.trans (u29.m _)
  replace hs:=hs.step u29
  have hq30:=LQ.sub (show LQ K (L.getD i 0) from by rw[hLv i,if_pos oM,if_neg oM];exact hf i) hq26
  refine aCu 9 30 (fSub ((L).getD i 0) (q*((vec m g_).getD i 0)) (LQ.mono (show LQ K (L.getD i 0) from by rw[hLv i,if_pos oM,if_neg oM];exact hf i) oM) (LQ.mono hq26 oM) _ _ hs.g (hs.f.1)) ?_
  rintro _ w31 h32 u33 rfl
  replace hmo:=hmo.trans (u33.m _)
  replace hs:=hs.step u33
  refine tX 10 31 (some ⟨rb,0,none⟩) m c 5 (i:Nat) i rfl ?_
  refine tWsu 11 2 L qc 5 i (((L).getD i 0)-(q*((vec m g_).getD i 0))) sp hs oM (fun w34 pu hs=>?_)
  replace hmo:=hmo.put pu (List.mem_singleton.2 rfl) hs.g
  have hl35:((L).set i (((L).getD i 0)-(q*((vec m g_).getD i 0)))).length=m:=by rw[List.length_set];exact hLl
  replace hs:=hs.to [⟨b13,56,qc ((vec m g_).getD i 0)⟩,⟨b1,56,qc q⟩,⟨rb,56,((L).set i (((L).getD i 0)-(q*((vec m g_).getD i 0)))).flatMap qc++sp⟩] []
  refine tN (CG.listed (lIn 32 ((i:Nat)+1) (i+1) ?_))
  refine lL hs [.m 13 32] (lD ?_)
  intro a_ ka
  have q36:(i+1)≤m:=by omega
  have q37:UpM [rb] w h w34 h32:=hmo
  have q38:((L).set i (((L).getD i 0)-(q*((vec m g_).getD i 0)))).length=m:=hl35
  have q39:∀ k_,((L).set i (((L).getD i 0)-(q*((vec m g_).getD i 0)))).getD k_ 0=if k_<m then (if k_<(i+1) then f k_-q*g_ k_ else f k_) else 0:=(red_step hLl hLv oM (.inl rfl))
  replace hs:=hs.drop 1 0
  refine ⟨_,_,?_,⟨i+1,(L).set i (((L).getD i 0)-(q*((vec m g_).getD i 0))),h32,rfl,rfl,hs.to _ _,q36,q37,q38,q39⟩,ka.to [(0,.slice (some ⟨rb,0,none⟩) m c),(5,.pointer (some ⟨b1,0,none⟩)),(11,.slice D m cD),(12,.int .i64 (m:Nat)),(13,.int .i64 ((i+1):Nat))] kR⟩
  omega
 have phb8:=eq_of_beq hb8
 refine lB 10 hb8 ?_
 refine lN (cIT (CG.ret ?_))
 have ho_:=hs.own 1
 exact hs.retM hmo [] (.tuple #[]) (by have q_:=ho_;rw[show vec m f=vec m (fun k_=>f k_-q*g_ k_) from vec_congr (fun k_ _=>by rw[red_q0 (q:=q) oM];grind)] at q_;exact q_)
theorem eColumn (n:Nat)(hn9:n≤1000)(X:Option Addr)(cX:Nat)(b:Nat→Rat)(hnc:n≤cX)(w:World)(h:Hp)(g:G w h)(hX:SlO 5 qc 0 h X (vec n b)) :
    Calls Tryz.prog 52 #[.slice X ((vec n b).length) cX] w (Ret w h fun v h1=>∃ A,∃ us:List Value,v=.slice A n n∧SlO 1 vc undef h1 A us∧QVs h1 us (matp 1 n (fun i_ _=>b i_))):=by
 have hs:=SS.start g
 replace hs:=(hs.a_SlO hX)
 have hvl:=vec_len n b
 refine go Tryz.func52 [(0,.slice X ((vec n b).length) cX)] rfl ?_
 refine cSL (lL hs [.v 2 (.slice none 0 0)] (lNS (lL hs [.m 5 0,.v 6 (.int .i64 ((vec n b).length:Nat))] (lK 7 35 ((vec n b).length) 1 24 (.slice none 0 0) vc (.slice none 0 0:Value) hs (fun b1 w2 h3 hs=>?_)))))
 have hl4:(List.replicate ((vec n b).length) (.slice none 0 0:Value)).length=((vec n b).length):=by simp
 refine lL hs [.m 3 7] (lN (CG.seq (cSL (lL hs [.m 8 0,.v 9 (.int .i64 ((vec n b).length:Nat)),.v 10 (.int .i64 0)] (lN (CG.block (cTo [(0,.slice X ((vec n b).length) cX),(2,.slice none 0 0),(3,.slice (some ⟨b1,0,none⟩) ((vec n b).length) ((vec n b).length)),(9,.int .i64 ((vec n b).length:Nat)),(10,.int .i64 0)] ?_)))))))
 replace hs:=hs.add (K:=fun h_=>RowsQ h_ (List.replicate ((vec n b).length) (.slice none 0 0:Value)) 0 1 (fun i_ _=>b i_)) (RowsQ.nil)
 refine CG.loop (fun μ_ Γ w_=>∃ (i:Nat) (L:List Value) (h_:Hp),μ_=n-i∧Γ=[(0,.slice X ((vec n b).length) cX),(2,.slice none 0 0),(3,.slice (some ⟨b1,0,none⟩) ((vec n b).length) ((vec n b).length)),(9,.int .i64 ((vec n b).length:Nat)),(10,.int .i64 (i:Nat))]∧SS w h w_ h_ [⟨b1,35,(L).flatMap vc⟩] [] [fun h_=>RowsQ h_ L i 1 (fun i_ _=>b i_),fun h_=>SlO 5 qc 0 h_ X (vec n b)]∧(i≤n)∧(L.length=((vec n b).length))) _ ⟨0,List.replicate ((vec n b).length) (.slice none 0 0:Value),h3,rfl,rfl,hs.to _ _,Nat.zero_le _,(by simp)⟩ ?_
 rintro _ _ w5 ⟨i,L,h6,hm7,rfl,hs,hi,hLl⟩
 refine cSL ?_
 cases hb8:(decide (((i:Nat):Int)<(((vec n b).length:Nat):Int)))
 ·
  have phb8:=oF hb8
  refine lB 11 hb8 ?_
  refine lN (CG.seq (cIF (CG.exit ?_)))
  show CG _ _ _ _ _ _ _ _
  refine cSL (lL hs [.m 24 3,.m 2 24] (lN (CG.ret ?_)))
  have hin:i=n:=by omega
  obtain ⟨h9,hs,sg10,lo11,bc12⟩:=hs.pub 0
  replace hs:=(hs.to [] []).a_SlO (SlO.of_flat (sz:=1) (f:=vc) (d:=undef) (b:=b1) (o:=0) (l:=L) (fun _=>rfl) sg10)
  exact hs.ret [] (.slice (some ⟨b1,0,none⟩) ((vec n b).length) ((vec n b).length)) (⟨_,L,sl_both oM,(hs.f.1),(by have q_:=(hs.f.2.1);rw[hin] at q_;exact q_.qvs oM)⟩)
 have phb8:=oT hb8
 refine lB 11 hb8 ?_
 refine lN (CG.seq (cIT (CG.skipN (CG.seq (CG.block (cSL (lL hs [.m 12 10,.m 4 12] (lN (CG.listed (lL hs [.m 13 3,.m 14 4,.m 15 0,.m 16 4,.m 17 4] (lIn 18 ((i:Nat)+1) (i+1) ?_)))))))))))
 refine lL hs [.m 19 4] (lIn 20 ((i:Nat)+1) (i+1) ?_)
 refine lB3 21 X ((vec n b).length) cX 5 (i:Nat) ((i+1:Nat):Int) ((i+1:Nat):Int) i (i+1) (i+1) ?_
 refine lX 22 (some ⟨b1,0,none⟩) ((vec n b).length) ((vec n b).length) 1 (i:Nat) i rfl ?_
 refine lW 0 L vc 1 i (.slice (if i+1=i then X else X.map (·.add (i*5))) (i+1-i) (i+1-i):Value) hs oM (fun w14 hs=>?_)
 have hl15:((L).set i (.slice (if i+1=i then X else X.map (·.add (i*5))) (i+1-i) (i+1-i):Value)).length=((vec n b).length):=by rw[List.length_set];exact hLl
 replace hs:=hs.to [⟨b1,35,((L).set i (.slice (if i+1=i then X else X.map (·.add (i*5))) (i+1-i) (i+1-i):Value)).flatMap vc⟩] []
 refine lN (CG.listed (lIn 23 ((i:Nat)+1) (i+1) ?_))
 refine lL hs [.m 10 23] (lD ?_)
 intro a_ ka
 have q16:RowsQ h6 ((L).set i (.slice (if i+1=i then X else X.map (·.add (i*5))) (i+1-i) (i+1-i):Value)) (i+1) 1 (fun i_ _=>b i_):=(RowsQ.put (hs.f.1) oM (col_row (hs.f.2.1) oM))
 have q17:(i+1)≤n:=by omega
 have q18:((L).set i (.slice (if i+1=i then X else X.map (·.add (i*5))) (i+1-i) (i+1-i):Value)).length=((vec n b).length):=hl15
 replace hs:=(hs.tl.add (K:=fun h_=>RowsQ h_ ((L).set i (.slice (if i+1=i then X else X.map (·.add (i*5))) (i+1-i) (i+1-i):Value)) (i+1) 1 (fun i_ _=>b i_)) q16)
 refine ⟨_,_,?_,⟨i+1,(L).set i (.slice (if i+1=i then X else X.map (·.add (i*5))) (i+1-i) (i+1-i):Value),h6,rfl,rfl,hs.to _ _,q17,q18⟩,ka.to [(0,.slice X ((vec n b).length) cX),(2,.slice none 0 0),(3,.slice (some ⟨b1,0,none⟩) ((vec n b).length) ((vec n b).length)),(9,.int .i64 ((vec n b).length:Nat)),(10,.int .i64 ((i+1):Nat))] kR⟩
 omega
def RR1 (n:Nat)(s:Cst)(h:Hp)(t:TV):Prop:=(∃ A c,∃ ts:List RT,t.1=.slice A ts.length c∧SlO 3 rqc rqd h A ts∧RTs h ts (vec n s.x))∧(∃ A c,∃ ts:List RT,t.2.1=.slice A ts.length c∧SlO 3 rqc rqd h A ts∧RTs h ts (vec n s.r))∧∃ A c,∃ ts:List RT,t.2.2=.slice A ts.length c∧SlO 3 rqc rqd h A ts∧RTs h ts (vec n s.w)
structure CRr (n:Nat) (A:Nat→Nat→Rat) (b x:Nat→Rat) (h:Hp) (al:List TV):Prop where
  at_:∀ i,i<al.length→RR1 n (cg n A b x i) h (al.getD i tv0)
section
variable {n:Nat} {A:Nat→Nat→Rat} {b x:Nat→Rat} {t:Nat}
end
theorem i64s_drop {zs:List Int}(h:I64s zs)(n:Nat):I64s (zs.drop n):=fun k=>by rw[show (zs.drop n).getD k 0=zs.getD (n+k) 0 by rw[List.getD_eq_getElem?_getD,List.getElem?_drop,←List.getD_eq_getElem?_getD]];exact h _
def rowsq (zs:List Int)(n w:Nat):List (List Rat):=(List.range n).map fun k=>rowq (zs.drop (min zs.length (k*w))) w
theorem rowsq_matf (zs:List Int)(n:Nat):rowsq zs n n=matf n (rawf zs n):=by
  unfold rowsq matf
  exact List.map_congr_left (fun i _=>vec_eq (rowq_len _ _) (fun j _=>rfl))
theorem lq_tw {D E:Nat}(h0:0<D)(hD:D≤262144)(hE:E≤262144){q:Rat}(h:Tw D E q):LQ 3 q:=by
  obtain ⟨N,a,b⟩:=h
  exact (SD.lq (e:=18) (k:=1) ⟨N,D,h0,hD,Nat.le_trans a hE,b⟩ kD).mono kD
theorem lq_raw (zs:List Int)(n i j:Nat):LQ 3 (rawf zs n i j):=lq_tw kD kD kD (tw_raw zs n i j)
theorem lq_gram {n:Nat}(hn:n≤4)(zs:List Int)(i j:Nat):LQ 3 (gram zs n i j):=lq_tw kD kD kD (tw_gram hn zs i j)
theorem lq_eye (i j:Nat):LQ 3 (eyef i j):=lq_tw kD kD kD (tw_eye i j)
theorem cons_of {α:Type}{l:List α}(h:0<l.length):∃ a t,l=a::t:=by
  cases l with
  | nil=>exact absurd h (Nat.lt_irrefl 0)
  | cons a t=>exact ⟨a,t,rfl⟩
theorem LQ.up8 {q:Rat}(h:LQ 1 q):LQ 100000000 q:=h.mono kD
theorem hRows (A:Option Addr)(c:Nat)(zs:List Int)(n m:Nat)(hn:n≤1000)(hm:m≤1000)(hl:zs.length≤9223372036854775807)(hz:I64s zs)(hc:zs.length≤c)(w:World)(h:Hp)(g:G w h)(hA:SlO 1 i64c 0 h A zs) :
    Calls Tryz.prog 22 #[.slice A zs.length c,.int .i64 (n:Nat),.int .i64 (m:Nat)] w (Ret w h fun v h1=>∃ A c,∃ us:List Value,v=.slice A us.length c∧us.length≤c∧SlO 1 vc undef h1 A us∧RVs h1 us (rowsq zs n m)):=by
 have hs:=SS.start g
 replace hs:=(hs.a_SlO hA)
 refine go Tryz.func22 [(0,.slice A zs.length c),(1,.int .i64 (n:Nat)),(2,.int .i64 (m:Nat))] rfl ?_
 refine cSL (lL hs [.v 6 (.slice none 0 0)] (lNS (lL hs [.v 7 (.slice none 0 0)] (lN (CG.seq (cSL (lL hs [.v 8 (.int .i64 0)] (lN (CG.block ?_)))))))))
 replace hs:=hs.nil 27 1
 refine cTo [(0,.slice A zs.length c),(1,.int .i64 (n:Nat)),(2,.int .i64 (m:Nat)),(6,.slice none 0 0),(8,.int .i64 0),(7,.slice none 0 0)] ?_
 replace hs:=hs.add (K:=fun h_=>RVs h_ ([]) (rowsq zs 0 m)) (RVs.nil)
 refine CG.loop (fun μ_ Γ w_=>∃ (k:Nat) (sA:Option Addr) (sc:Nat) (us:List Value) (h_:Hp),μ_=n-k∧Γ=[(0,.slice A zs.length c),(1,.int .i64 (n:Nat)),(2,.int .i64 (m:Nat)),(6,.slice none 0 0),(8,.int .i64 (k:Nat)),(7,.slice sA ((us).length) sc)]∧SS w h w_ h_ [] [⟨27,1,sA,sc,(us).length,(us).flatMap vc⟩] [fun h_=>RVs h_ us (rowsq zs k m),fun h_=>SlO 1 i64c 0 h_ A zs]∧(k≤n)) _ ⟨0,none,0,[],h,rfl,rfl,hs.to _ _,Nat.zero_le _⟩ ?_
 rintro _ _ w1 ⟨k,sA,sc,us,h2,hm3,rfl,hs,hk⟩
 have hlU:=(hs.f.1).len
 have hlr:(rowsq zs k m).length=k:=by simp[rowsq]
 refine CG.seq (cSL (lL hs [.m 9 8,.m 10 1] ?_))
 cases hb4:(decide (((k:Nat):Int)<((n:Nat):Int)))
 ·
  have phb4:=oF hb4
  refine lB 11 hb4 ?_
  refine lN (cIF (CG.exit ?_))
  show CG _ _ _ _ _ _ _ _
  refine cSL (lL hs [.m 27 7,.m 6 27] (lN (CG.ret ?_)))
  have hkq:k=n:=by omega
  subst hkq
  obtain ⟨h5,hs,hc6⟩:=hs.pubr 0 (A:=sA) (c:=sc) (l:=us) (f:=vc) (ty:=27) (sz:=1) undef (fun _=>rfl)
  exact hs.ret [] (.slice sA ((us).length) sc) (⟨_,_,us,rfl,hc6,(hs.f.1),(hs.f.2.1)⟩)
 have phb4:=oT hb4
 refine lB 11 hb4 ?_
 refine lN (cIT (CG.skipN (CG.seq (CG.block (CG.listed ?_)))))
 have hkm:k*m≤1000*1000:=Nat.mul_le_mul oM oM
 have hkm2:((k*m:Nat):Int)=(k:Nat)*(m:Nat):=Int.natCast_mul k m
 refine lL hs [.m 14 7,.m 15 0,.m 16 0,.v 17 (.int .i64 (zs.length:Nat)),.m 18 8,.m 19 2] (lIn 20 ((k:Nat)*(m:Nat)) (k*m) ?_)
 refine lV 21 (.int .i64 (min ((zs.length:Nat):Int) ((k*m:Nat):Int))) ?_ (hr:=rint (n:=(if ((k*m:Nat):Int)<((zs.length:Nat):Int) then ((k*m:Nat):Int) else ((zs.length:Nat):Int))) kR (by simp only[imin2]))
 refine lF 22 A zs.length c 1 (min ((zs.length:Nat):Int) ((k*m:Nat):Int)) (min zs.length (k*m)) ?_
 refine lL hs [.m 23 2] (lC 24 hs ((by have q_:=hRow (if c=(min zs.length (k*m)) then A else A.map (·.add ((min zs.length (k*m))*1))) (c-(min zs.length (k*m))) (zs.drop ((min zs.length (k*m)))) m oM (by rw[List.length_drop];omega) (i64s_drop hz _) _ _ hs.g ((hs.f.2.1).drop ((min zs.length (k*m))) c hc);rw[List.length_drop] at q_;exact q_)) ?_)
 rintro _ w8 h9 hs ⟨Ar,cr,tr,rfl,hcr,hAr,hTr⟩
 replace hs:=((hs.a_SlO hAr).add (K:=fun h_=>RTs h_ tr (rowq (zs.drop (min zs.length (k*m))) m)) hTr)
 refine lR 25 27 1 ([.slice Ar tr.length cr]) hs (fun b10 w11 h12 hs=>?_)
 refine lY 26 0 27 1 sc sA us vc (.slice Ar tr.length cr:Value) 24 b10 (.slice none 0 0) hs (hs.f.1) (fun A14 c15 w16 h17 hs=>?_)
 refine lL hs [.m 7 26] (lN (CG.listed (lL hs [.m 12 8] (lIn 13 ((k:Nat)+1) (k+1) ?_))))
 refine lL hs [.m 8 13] (lD ?_)
 intro a_ ka
 have q19:RVs h17 (us++[(.slice Ar tr.length cr:Value)]) (rowsq zs (k+1) m):=(by unfold rowsq;rw[List.range_succ,List.map_append];exact (hs.f.2.2.2.1).snoc ⟨_,_,tr,rfl,hcr,(hs.f.2.2.1),(hs.f.2.1)⟩)
 have q20:(k+1)≤n:=by omega
 replace hs:=(hs.tl.tl.tl.tl.add (K:=fun h_=>RVs h_ (us++[(.slice Ar tr.length cr:Value)]) (rowsq zs (k+1) m)) q19)
 refine ⟨_,_,?_,⟨k+1,A14,c15,us++[(.slice Ar tr.length cr:Value)],h17,rfl,rfl,hs.to _ _,q20⟩,ka.to [(0,.slice A zs.length c),(1,.int .i64 (n:Nat)),(2,.int .i64 (m:Nat)),(6,.slice none 0 0),(8,.int .i64 ((k+1):Nat)),(7,.slice A14 (((us++[(.slice Ar tr.length cr:Value)])).length) c15)] kR⟩
 omega
theorem lDef (A:Option Addr)(c:Nat)(zs:List Int)(n_ way at_ by_:Int)(n:Nat)(hn_:n=pick n_ 4+1)(hl:zs.length≤9223372036854775807)(hz:I64s zs)(hc:zs.length≤c)(hb0 : -9223372036854775808≤by_)(hb1:by_≤9223372036854775807)(w:World)(h:Hp)(g:G w h)(hA:SlO 1 i64c 0 h A zs) :
    Calls Tryz.prog 5 #[.slice A zs.length c,.int .i64 n_,.int .i64 way,.int .i64 at_,.int .i64 by_] w (Ret w h fun v h1=>∃ A c,∃ us:List Value,∃ W,v=.slice A us.length c∧us.length≤c∧SlO 1 vc undef h1 A us∧RVs h1 us W∧Dfn n W∧(3≤pick way 8→W=matf n fun i j=>gram zs n i j+eyef i j)):=by
 have hs:=SS.start g
 replace hs:=(hs.a_SlO hA)
 have hp4:=pick_lt n_ 4 oM
 have hp8:=pick_lt way 8 oM
 have h0n:0<n:=by omega
 have hn5:n≤5:=by omega
 refine go Tryz.func5 [(0,.slice A zs.length c),(1,.int .i64 n_),(2,.int .i64 way),(3,.int .i64 at_),(4,.int .i64 by_)] rfl ?_
 refine cSL (lL hs [.v 10 (.slice none 0 0)] (lNS (lL hs [.m 16 1] (lC 17 hs (hPick (n_) 4 oM oM _ _ hs.g) ?_))))
 rintro _ w2 h3 hs rfl
 have lp1:=pick_lt (n_) 4 oM
 refine lIn 18 ((pick (n_) 4:Nat)+1) n ?_
 refine lL hs [.m 1 18] (lNS (lL hs [.m 19 0,.m 20 1,.m 21 1] (lC 22 hs (hRows A c zs n n oM oM hl hz hc _ _ hs.g (hs.f.1)) ?_)))
 rintro _ w4 h5 hs ⟨Ar,cr,ur,rfl,hcr,hAr,hUr0⟩
 have hUr:=hUr0
 rw[rowsq_matf] at hUr
 replace hs:=((hs.a_SlO hAr).add (K:=fun h_=>RVs h_ ur (matf n (rawf zs n))) hUr)
 refine lL hs [.m 11 22] (lNS (lL hs [.m 24 11] (lC 25 hs (rTurn n h0n hn5 Ar cr ur (rawf zs n) _ _ hs.g (hs.f.2.1) (hs.f.1)) ?_)))
 rintro _ w6 h7 hs ⟨At,ct,ut,rfl,hct,hAt,hUt⟩
 replace hs:=((hs.a_SlO hAt).add (K:=fun h_=>RVs h_ ut (matf n (fun i j=>rawf zs n j i))) hUt)
 refine lL hs [.m 23 25,.v 26 (.slice At ut.length ct),.v 27 (.int .i64 0),.m 12 26,.m 13 27] (lNS (lL hs [.m 29 11,.m 30 12] ?_))
 have hlo_:=hs.st.up.gr.size
 refine lC 31 hs (rMulF n h0n hn5 Ar cr ur (rawf zs n) At ct ut (fun i j=>rawf zs n j i) (fun i j=>lq_raw zs n i j) (fun i j=>lq_raw zs n j i) _ _ hs.g (hs.f.2.2.2.1) (hs.f.2.2.1) (hs.f.2.1) (hs.f.1)) ?_
 rintro _ w8 h9 hs ⟨bo,ca,ua,spo,rfl,hca,hWo0,hneo,hSp0⟩
 have hWo:Whole h.size _ bo 27 (ua.flatMap vc++spo):=hWo0.up hlo_
 have hSp:Sep h.size _ ua n n (gram zs n):=hSp0.up hlo_
 have hAa:SlO 1 vc undef _ (some ⟨bo,0,none⟩) ua:=hWo.slo (fun _=>rfl)
 have hlua:=hSp.len
 replace hs:=(((hs.add (K:=fun h_=>Whole h.size h_ bo 27 (ua.flatMap vc++spo)) hWo).add (K:=fun h_=>Sep h.size h_ ua n n (gram zs n)) hSp).a_SlO hAa)
 refine lL hs [.m 28 31,.v 32 (.slice (some ⟨bo,0,none⟩) ua.length ca),.v 33 (.int .i64 0),.m 14 32,.m 15 33] (lNS (lL hs [.m 34 3,.m 35 1] (lC 36 hs (hPick (at_) n oM oM _ _ hs.g) ?_)))
 rintro _ w11 h12 hs rfl
 have lp10:=pick_lt (at_) n oM
 refine lL hs [.m 3 36] (lN (CG.seq (cSL (lL hs [.m 37 2] (lC 38 hs (hPick (way) 8 oM oM _ _ hs.g) ?_)))))
 rintro _ w14 h15 hs rfl
 have lp13:=pick_lt (way) 8 oM
 refine lN (CG.block (cSL ?_))
 cases hb16:(((pick (way) 8:Nat):Int) == (0:Int))
 ·
  have phb16:=neOfBeq hb16
  refine lB 47 hb16 ?_
  refine lL hs [.m 46 47] (lN (cIF (cSL ?_)))
  cases hb17:(((pick (way) 8:Nat):Int) == (1:Int))
  ·
   have phb17:=neOfBeq hb17
   refine lB 56 hb17 ?_
   refine lL hs [.m 55 56] (lN (cIF (cSL ?_)))
   cases hb18:(((pick (way) 8:Nat):Int) == (2:Int))
   ·
    have phb18:=neOfBeq hb18
    refine lB 66 hb18 ?_
    refine lL hs [.m 65 66] (lN (cIF (CG.listed (lL hs [.m 40 14,.m 41 1] (lC 42 hs (rEye n h0n hn5 _ _ hs.g) ?_)))))
    rintro _ w19 h20 hs ⟨Ae,ce,ue,rfl,hce,hAe,hUe⟩
    replace hs:=((hs.a_SlO hAe).add (K:=fun h_=>RVs h_ ue (matf n eyef)) hUe)
    refine lC 43 hs (rAddF n h0n hn5 (some ⟨bo,0,none⟩) ca ua (gram zs n) Ae ce ue eyef (fun i j=>lq_gram oM zs i j) (fun i j=>lq_eye i j) _ _ hs.g (hs.f.2.2.1) ((hs.f.2.2.2.1)).rvs (hs.f.2.1) (hs.f.1)) ?_
    rintro _ w21 h22 hs ⟨Am,cm,um,rfl,hcm,hAm,hUm⟩
    replace hs:=((hs.a_SlO hAm).add (K:=fun h_=>RVs h_ um (matf n (fun i j=>gram zs n i j+eyef i j))) hUm)
    refine lL hs [.m 39 43,.v 44 (.slice Am um.length cm),.v 45 (.int .i64 0),.m 14 44] (lN (cTo [(10,.slice none 0 0),(14,.slice Am um.length cm)] ?_))
    exact cSL (lL hs [.m 67 14,.m 10 67] (lN (CG.ret (hs.ret [] (.slice Am um.length cm) (⟨_,_,um,_,rfl,hcm,(hs.f.2.1),(hs.f.1),(dfn_more oM zs),fun _=>rfl⟩)))))
   have phb18:=eq_of_beq hb18
   refine lB 66 hb18 ?_
   refine lL hs [.m 65 66] (lN (cIT (CG.skipN (cSL (lL hs [.m 67 14,.m 10 67] (lN (cTo [(10,.slice (some ⟨bo,0,none⟩) ua.length ca)] ?_)))))))
   exact CG.ret (hs.ret [] (.slice (some ⟨bo,0,none⟩) ua.length ca) (⟨_,_,ua,_,rfl,hca,(hs.f.1),((hs.f.2.1)).rvs,(dfn_gram oM zs),(fun h_=>absurd h_ oM)⟩))
  have phb17:=eq_of_beq hb17
  refine lB 56 hb17 ?_
  refine lL hs [.m 55 56] (lN (cIT (CG.listed (lL hs [.m 57 14,.m 58 3,.m 59 14,.m 60 3] (lX 61 (some ⟨bo,0,none⟩) ua.length ca 1 (pick (at_) n:Nat) (pick (at_) n) ((hs.f.1).ok oM) ?_)))))
  obtain ⟨bq,cq,tq,spq,eq_,hcq,hWq0,hTq0⟩:=(hs.f.2.1).at_ (pick (at_) n) oM
  have hlq:=hTq0.len
  rw[vec_len] at hlq
  have hRq0:SlO 3 rqc rqd _ (some ⟨bq,0,none⟩) tq:=hWq0.slo (fun _=>rfl)
  replace hs:=hs.add (K:=fun h_=>Whole h.size h_ bq 74 (tq.flatMap rqc++spq)) hWq0
  replace hs:=hs.add (K:=fun h_=>RTs h_ tq (vec n ((gram zs n) (pick (at_) n)))) hTq0
  replace hs:=hs.a_SlO hRq0
  refine lHe 62 (ua.getD (pick (at_) n) undef) hs ((hs.f.2.2.2.1).el (pick (at_) n) oM) eq_ ?_
  refine lF 63 (some ⟨bq,0,none⟩) tq.length cq 3 1 1 ?_
  refine lX 64 (some ⟨bo,0,none⟩) ua.length ca 1 (pick (at_) n:Nat) (pick (at_) n) ((hs.f.2.2.2.1).ok oM) ?_
  have hS1:=(hs.f.2.2.2.2.1)
  have hT1:=(hs.f.2.1)
  have hR1:=(hs.f.1)
  have hW1:Whole h.size h15 bo 27 ((ua++spo).flatMap vc):=by have q_:=(hs.f.2.2.2.2.2.1);rw[flat_vc] at q_;rw[flat_vc];exact q_
  replace hs:=hs.grab hW1
  refine lW 0 (ua++spo) vc 1 (pick (at_) n) (.slice (if cq=1 then some ⟨bq,0,none⟩ else (some ⟨bq,0,none⟩:Option Addr).map (·.add (1*3))) (tq.length-1) (cq-1):Value) hs (by rw[List.length_append];omega) (fun w23 hs=>?_)
  obtain ⟨hN,hs,-,hcN,hoN⟩:=hs.pubY 0
  have hP:=Poked.of (b:=bo) hoN
  obtain ⟨hV,hAo⟩:=hS1.cut oM eq_ hcq hT1 hR1 hneo hW1 hP rfl hcN
  replace hs:=(hs.to [] []).a_SlO (A:=some ⟨bo,0,none⟩) (l:=ua.set (pick (at_) n) (.slice (if cq=1 then some ⟨bq,0,none⟩ else (some ⟨bq,0,none⟩:Option Addr).map (·.add (1*3))) (tq.length-1) (cq-1):Value)) (sz:=1) (f:=vc) (d:=undef) hAo
  replace hs:=hs.add (K:=fun h_=>RVs h_ (ua.set (pick (at_) n) (.slice (if cq=1 then some ⟨bq,0,none⟩ else (some ⟨bq,0,none⟩:Option Addr).map (·.add (1*3))) (tq.length-1) (cq-1):Value)) ((matf n (gram zs n)).set (pick (at_) n) (((matf n (gram zs n)).getD (pick (at_) n) []).drop 1))) hV
  refine lN (cTo [(10,.slice none 0 0),(14,.slice (some ⟨bo,0,none⟩) ua.length ca)] ?_)
  exact cSL (lL hs [.m 67 14,.m 10 67] (lN (CG.ret (hs.ret [] (.slice (some ⟨bo,0,none⟩) ua.length ca) (⟨some ⟨bo,0,none⟩,ca,ua.set (pick (at_) n) (.slice (if cq=1 then some ⟨bq,0,none⟩ else (some ⟨bq,0,none⟩:Option Addr).map (·.add (1*3))) (tq.length-1) (cq-1):Value),_,sl_len (by rw[List.length_set]),(by rw[List.length_set];exact hca),(hs.f.2.1),(hs.f.1),(dfn_gram oM zs).cut _,(fun h_=>absurd h_ oM)⟩)))))
 have phb16:=eq_of_beq hb16
 refine lB 47 hb16 ?_
 refine lL hs [.m 46 47] (lN (cIT (cR 6 [] mixed hs al_nil ?_)))
 refine eV 0 48 (.slice (some ⟨bo,0,none⟩) ua.length ca) ?_
 refine eV 1 49 (.int .i64 (pick (at_) n:Nat)) ?_
 refine eX 2 50 (some ⟨bo,0,none⟩) ua.length ca 1 (pick (at_) n:Nat) (pick (at_) n) ((hs.f.1).ok oM) ?_
 obtain ⟨bq,cq,tq,spq,eq_,hcq,hWq0,hTq0⟩:=(hs.f.2.1).at_ (pick (at_) n) oM
 have hlq:=hTq0.len
 rw[vec_len] at hlq
 have hRq0:SlO 3 rqc rqd _ (some ⟨bq,0,none⟩) tq:=hWq0.slo (fun _=>rfl)
 replace hs:=hs.add (K:=fun h_=>Whole h.size h_ bq 74 (tq.flatMap rqc++spq)) hWq0
 replace hs:=hs.add (K:=fun h_=>RTs h_ tq (vec n ((gram zs n) (pick (at_) n)))) hTq0
 replace hs:=hs.a_SlO hRq0
 refine eHe 3 51 (ua.getD (pick (at_) n) undef) hs ((hs.f.2.2.2.1).el (pick (at_) n) oM) eq_ ?_
 refine eV 4 52 (.int .i64 by_) ?_
 refine eC 5 53 hs (fun _ _ hs=>hR by_ hb0 hb1 _ _ hs.g) ?_
 rintro _ _ _ w32 h33 hs ⟨A24,c25,A28,c29,rfl,hc26,hc30,hA27,hA31⟩
 replace hs:=((hs.a_SlO hA27).a_SlO hA31)
 refine eD0 hs (fun w34 h35 hs=>?_)
 refine tX 6 54 (some ⟨bq,0,none⟩) tq.length cq 3 0 0 rfl ?_
 obtain ⟨t0,tl,ht0⟩:=cons_of (l:=tq) oM
 have hS1:=(hs.f.2.2.2.2.2.2.1)
 have hT1:=(hs.f.2.2.2.1)
 have hW1:=(hs.f.2.2.2.2.1)
 have hA1_:=(hs.f.2.2.2.2.2.1)
 have hq1:RQ _ (rtv ((ineg (handRq by_).num,.slice A24 ((lim (iabs (handRq by_).num)).length) c25,.slice A28 ((lim (handRq by_).den).length) c29):RT)) (handRq by_):=rqOk hc26 hc30 (hs.f.2.1) (hs.f.1)
 rw[ht0] at hT1 hW1
 have hW2:Whole h.size h35 bq 74 ([.bool t0.1,t0.2.1,t0.2.2]++(tl.flatMap rqc++spq)):=hW1
 replace hs:=hs.grab hW2
 refine tP 7 0 0 [.bool (ineg (handRq by_).num),.slice A24 ((lim (iabs (handRq by_).num)).length) c25,.slice A28 ((lim (handRq by_).den).length) c29] hs (fun w36 hs=>?_)
 obtain ⟨hN,hs,-,hcN,hoN⟩:=hs.pubY 0
 have hP:=Poked.of (b:=bq) hoN
 have hV:=hS1.put0 oM (by rw[←ht0];exact eq_) (by rw[←ht0];exact hcq) hW2 hT1 hP hq1 hcN
 have hAo:=hP.slo (fun e_=>hneo (pick (at_) n) oM (by rw[eq_];exact e_.symm)) hA1_
 replace hs:=(hs.to [] []).a_SlO (A:=some ⟨bo,0,none⟩) (l:=ua) (sz:=1) (f:=vc) (d:=undef) hAo
 replace hs:=hs.add (K:=fun h_=>RVs h_ ua ((matf n (gram zs n)).set (pick (at_) n) (((matf n (gram zs n)).getD (pick (at_) n) []).set 0 (handRq by_)))) hV
 refine tN (cTo [(10,.slice none 0 0),(14,.slice (some ⟨bo,0,none⟩) ua.length ca)] ?_)
 exact cSL (lL hs [.m 67 14,.m 10 67] (lN (CG.ret (hs.ret [] (.slice (some ⟨bo,0,none⟩) ua.length ca) (⟨_,_,ua,_,rfl,hca,(hs.f.2.1),(hs.f.1),(dfn_gram oM zs).put _ (tw_hand144 _),(fun h_=>absurd h_ oM)⟩)))))
theorem lQ_ (A:Option Addr)(c:Nat)(zs:List Int)(hl:zs.length≤1000)(hz:I64s zs)(w:World)(h:Hp)(g:G w h)(hA:SlO 1 i64c 0 h A zs) :
    Calls Tryz.prog 46 #[.slice A zs.length c] w (Ret w h fun v h1=>∃ A c,v=.slice A (zs.map (fun z:Int=>(z:Rat))).length c∧(zs.map (fun z:Int=>(z:Rat))).length≤c∧SlO 5 qc 0 h1 A (zs.map (fun z:Int=>(z:Rat)))):=by
 have hs:=SS.start g
 replace hs:=(hs.a_SlO hA)
 refine go Tryz.func46 [(0,.slice A zs.length c)] rfl ?_
 refine cSL (lL hs [.v 2 (.slice none 0 0)] (lNS (lL hs [.v 3 (.slice none 0 0)] (lN (CG.seq (cSL (lL hs [.v 4 (.int .i64 0)] (lN (CG.block ?_)))))))))
 replace hs:=hs.nil 56 5
 refine cTo [(0,.slice A zs.length c),(2,.slice none 0 0),(4,.int .i64 0),(3,.slice none 0 0)] ?_
 refine CG.loop (fun μ_ Γ w_=>∃ (k:Nat) (sA:Option Addr) (sc:Nat) (ql:List Rat) (h_:Hp),μ_=zs.length-k∧Γ=[(0,.slice A zs.length c),(2,.slice none 0 0),(4,.int .i64 (k:Nat)),(3,.slice sA ((ql).length) sc)]∧SS w h w_ h_ [] [⟨56,5,sA,sc,(ql).length,(ql).flatMap qc⟩] [fun h_=>SlO 1 i64c 0 h_ A zs]∧(k≤zs.length)∧(ql=(zs.take k).map (fun z:Int=>(z:Rat)))) _ ⟨0,none,0,[],h,rfl,rfl,hs.to _ _,Nat.zero_le _,rfl⟩ ?_
 rintro _ _ w1 ⟨k,sA,sc,ql,h2,hm3,rfl,hs,hk,hql⟩
 have htk:ql.length=k:=by rw[hql];simp;omega
 refine CG.seq (cSL (lL hs [.m 5 4,.m 6 0,.v 7 (.int .i64 (zs.length:Nat))] ?_))
 cases hb4:(decide (((k:Nat):Int)<((zs.length:Nat):Int)))
 ·
  have phb4:=oF hb4
  refine lB 8 hb4 ?_
  refine lN (cIF (CG.exit ?_))
  show CG _ _ _ _ _ _ _ _
  refine cSL (lL hs [.m 19 3,.m 2 19] (lN (CG.ret ?_)))
  have hkq:ql=(zs.map (fun z:Int=>(z:Rat))):=by rw[hql,List.take_of_length_le oM]
  obtain ⟨h5,hs,hc6⟩:=hs.pubr 0 (A:=sA) (c:=sc) (l:=ql) (f:=qc) (ty:=56) (sz:=5) 0 (fun _=>rfl)
  exact hs.ret [] (.slice sA ((ql).length) sc) (by rw[←hkq];exact ⟨_,_,rfl,hc6,(hs.f.1)⟩)
 have phb4:=oT hb4
 refine lB 8 hb4 ?_
 refine lN (cIT (CG.skipN (CG.seq (CG.block (CG.listed (lL hs [.m 11 3,.m 12 0,.m 13 4] (lX 14 A zs.length c 1 (k:Nat) k ((hs.f.1).ok oM) ?_)))))))
 refine lH 15 (.int .i64 (zs.getD k 0)) hs ((hs.f.1).el k oM) ?_
 refine lC 16 hs (fOf (zs.getD k 0) (hz k).1 (hz k).2 _ _ hs.g) ?_
 rintro _ w8 h9 hs rfl
 refine lR 17 56 1 (qc ((zs.getD k 0:Int):Rat)) hs (fun b10 w11 h12 hs=>?_)
 refine lY 18 0 56 5 sc sA ql qc ((zs.getD k 0:Int):Rat) 56 b10 (.agg #[.bool false,.int .u64 0,.string ⟨#[]⟩,.int .u64 0,.string ⟨#[]⟩]) hs (hs.f.1) (fun A14 c15 w16 h17 hs=>?_)
 refine lL hs [.m 3 18] (lN (CG.listed (lL hs [.m 9 4] (lIn 10 ((k:Nat)+1) (k+1) ?_))))
 refine lL hs [.m 4 10] (lD ?_)
 intro a_ ka
 have q19:(k+1)≤zs.length:=by omega
 have q20:(ql++[((zs.getD k 0:Int):Rat)])=(zs.take (k+1)).map (fun z:Int=>(z:Rat)):=(by rw[take_snoc' 0 oM,List.map_append,hql];rfl)
 replace hs:=hs.tl
 refine ⟨_,_,?_,⟨k+1,A14,c15,ql++[((zs.getD k 0:Int):Rat)],h17,rfl,rfl,hs.to _ _,q19,q20⟩,ka.to [(0,.slice A zs.length c),(2,.slice none 0 0),(4,.int .i64 ((k+1):Nat)),(3,.slice A14 (((ql++[((zs.getD k 0:Int):Rat)])).length) c15)] kR⟩
 omega
def CjR (W:List (List Rat))(bl xl:List Rat)(t:Nat)(e:Int):Prop:=(SymP W∧bl.length=W.length∧xl.length=W.length)∧CjEnd W.length (mA W) (fun i=>bl.getD i 0) (fun i=>xl.getD i 0) t e∨¬(SymP W∧bl.length=W.length∧xl.length=W.length)∧t=0∧e=cjE W bl xl
theorem CjR.uniq {W:List (List Rat)}{bl xl:List Rat}{t t':Nat}{e e':Int}(h:CjR W bl xl t e)(h':CjR W bl xl t' e'):t=t'∧e=e':=by
  rcases h with ⟨a,b⟩|⟨a,b,c⟩<;>rcases h' with ⟨a',b'⟩|⟨a',b',c'⟩
  · exact b.uniq b'
  · exact absurd a a'
  · exact absurd a' a
  · exact ⟨by rw[b,b'],by rw[c,c']⟩
theorem cjE_ne (W:List (List Rat))(bl xl:List Rat):cjE W bl xl≠0:=by unfold cjE;split<;>decide
structure Rwq (l:List Rat):Prop where
  len:l.length≤5
  cd:∀ n,CD n 8 (fun i=>l.getD i 0)
theorem Rwq.lq {l:List Rat}(h:Rwq l)(i:Nat):LQ 1 (l.getD i 0):=((h.cd (i+1)).at_ (Nat.lt_succ_self i)).lq kD
theorem rwq_row (zs:List Int){n:Nat}(hn:n≤5):Rwq (rowq zs n):=⟨by rw[rowq_len];exact hn,fun m=>cd_row zs n m⟩
theorem cj_B {n:Nat}{W:List (List Rat)}(hD:Dfn n W)(hn:n≤4){bl xl:List Rat}(hb:Rwq bl)(hx:Rwq xl){t:Nat}(ht:t≤W.length):CgB W.length (mA W) (fun i=>bl.getD i 0) (fun i=>xl.getD i 0) t:=cg_B (by have:=hD.len;omega) hD.md (hb.cd _) (hx.cd _) (by have:=hD.len;omega)
theorem cConjA (A:Option Addr)(cap:Nat)(us:List Value)(W:List (List Rat))(n:Nat)(hD:Dfn n W)(hn:n≤4)(D:Option Addr)(cD:Nat)(bl:List Rat)(X:Option Addr)(cX:Nat)(xl:List Rat)(hb:Rwq bl)(hx:Rwq xl)(w:World)(h:Hp)(g:G w h)(hA:SlO 1 vc undef h A us)(hU:QVs h us W)(hDb:SlO 5 qc 0 h D bl)(hX:SlO 5 qc 0 h X xl)(tb:Tab h) :
    Calls Tryz.prog 8 #[.slice A us.length cap,.slice D bl.length cD,.slice X xl.length cX] w (Ret w h fun v h1=>∃ (t:Nat) (e:Int) (A:Option Addr) (c:Nat) (al:List TV),CjR W bl xl t e∧v=.tuple #[.slice A al.length c,.int .i64 e]∧SlO 3 tvc tv0 h1 A al∧CTr W.length (mA W) (fun i=>bl.getD i 0) (fun i=>xl.getD i 0) h1 al∧al.length=(if e=0 then t+1 else 0)):=by
  have hlW:=hD.len
  have hl:W.length≤1000:=by omega
  have hls:∀ i,i<W.length→(W.getD i []).length≤1000:=fun i _=>by have:=hD.wd i;omega
  have hbl:=hb.len;have hxl:=hx.len
  by_cases hc:SymP W∧bl.length=W.length∧xl.length=W.length
  · have e1:bl=vec W.length (fun i=>bl.getD i 0):=vec_eq hc.2.1 (fun _ _=>rfl)
    have e2:xl=vec W.length (fun i=>xl.getD i 0):=vec_eq hc.2.2 (fun _ _=>rfl)
    rw[e1] at hDb
    rw[e2] at hX
    have x:=cConj0 A cap us W hl hls (fun i=>bl.getD i 0) (fun i=>xl.getD i 0) W.length oM D cD X cX hc.1 rfl (fun i j=>hD.lq i j) (fun i _=>(hb.lq i).mono kD) (fun i _=>(hx.lq i).mono kD) (fun t ht=>cj_B hD hn hb hx ht) w h g hA hU hDb hX tb
    rw[←e1,←e2] at x
    refine x.mono ?_
    rintro _ w' ⟨v,h',rfl,u,t,e,A',c',al,k1,k2,k3,k4,k5⟩
    exact ⟨v,h',rfl,u,t,e,A',c',al,.inl ⟨hc,k1⟩,k2,k3,k4,k5⟩
  · have x:=cConjE A cap us W hl hls D cD bl X cX xl oM oM (fun i j=>(hD.lq i j).mono kD) (by
      by_cases a:SymP W
      · by_cases b:bl.length=W.length
        · exact .inr (.inr (fun c=>hc ⟨a,b,c⟩))
        · exact .inr (.inl b)
      · exact .inl a) w h g hA hU hDb hX tb
    refine x.mono ?_
    rintro _ w' ⟨v,h',rfl,u,k⟩
    exact ⟨v,h',rfl,u,0,_,none,0,[],.inr ⟨hc,rfl,rfl⟩,k,SlO.nil,CTr.nil,by rw[if_neg (cjE_ne _ _ _)];rfl⟩
def knW:List (List Rat):=[[((2:Int):Rat),((0:Int):Rat)],[((0:Int):Rat),((1:Int):Rat)]]
def knb:List Rat:=[((2:Int):Rat),((1:Int):Rat)]
def knx:List Rat:=[((0:Int):Rat),((0:Int):Rat)]
theorem kn_tw (i j:Nat):Tw 144 262144 ((knW.getD i []).getD j 0):=by
  have h0:∀ z:Int,z.natAbs≤2→Tw 144 262144 ((z:Int):Rat):=fun z hz=>⟨z*144,by rw[Int.natAbs_mul];exact Nat.le_trans (Nat.mul_le_mul_right _ hz) kD,by rw[Rat.intCast_mul];rfl⟩
  match i,j with
  | 0,0=>exact h0 2 kD
  | 0,1=>exact h0 0 kD
  | 0,j+2=>exact Tw.zero
  | 1,0=>exact h0 0 kD
  | 1,1=>exact h0 1 kD
  | 1,j+2=>exact Tw.zero
  | i+2,j=>exact Tw.zero
theorem kn_dfn:Dfn 2 knW:=⟨rfl,fun i=>by
  match i with
  | 0=>exact Nat.le_refl _
  | 1=>exact Nat.le_refl _
  | i+2=>exact Nat.zero_le _,kn_tw⟩
theorem kn_cd (n:Nat){a b:Int}(ha:a.natAbs≤2)(hb:b.natAbs≤2):CD n 8 (fun i=>([(a:Rat),(b:Rat)]:List Rat).getD i 0):=⟨1,by decide,by decide,fun i _=>by
  match i with
  | 0=>exact ⟨a,Nat.le_trans ha kD,by show (a:Rat)*((1:Nat):Rat)=_;rw[show ((1:Nat):Rat)=1 from rfl,Rat.mul_one]⟩
  | 1=>exact ⟨b,Nat.le_trans hb kD,by show (b:Rat)*((1:Nat):Rat)=_;rw[show ((1:Nat):Rat)=1 from rfl,Rat.mul_one]⟩
  | i+2=>exact ⟨0,Nat.zero_le _,by show (0:Rat)*_=_;rw[Rat.zero_mul];rfl⟩⟩
theorem kn_sym:SymP knW:=⟨⟨⟨by decide,by decide,fun i hi=>by
  match i,hi with
  | 0,_=>rfl
  | 1,_=>rfl
  | i+2,hi=>exact absurd hi (by show ¬i+2<2;omega)⟩,rfl⟩,fun i hi k hk=>by
  match i,hi with
  | 0,_=>exact absurd hk (Nat.not_lt_zero _)
  | 1,_ =>
    obtain rfl:k=0:=by omega
    rfl
  | i+2,hi=>exact absurd hi (by show ¬i+2<2;omega)⟩
abbrev knC (t:Nat):Cst:=cg 2 (mA knW) (fun i=>knb.getD i 0) (fun i=>knx.getD i 0) t
theorem kn_0:dt 2 (knC 0).r (knC 0).r≠0∧0<(dt 2 (knC 0).w (mv 2 (mA knW) (knC 0).w)).num:=by decide +kernel
theorem kn_1:dt 2 (knC 1).r (knC 1).r≠0∧0<(dt 2 (knC 1).w (mv 2 (mA knW) (knC 1).w)).num:=by decide +kernel
theorem kn_2:dt 2 (knC 2).r (knC 2).r=0∧(knC 2).x 0=1∧(knC 2).x 1=1:=by decide +kernel
theorem kn_end:CjR knW knb knx 2 0:=.inl ⟨⟨kn_sym,rfl,rfl⟩,fun i hi=>by
  rcases (by omega:i=0∨i=1) with rfl|rfl
  · exact kn_0
  · exact kn_1,.inl ⟨rfl,kn_2.1⟩⟩
theorem kn_rows {h:Hp}{Q1 Q2:Option Addr}{c1 c2:Nat}(h1:SlO 5 qc 0 h Q1 (([2,0]:List Int).map (fun z:Int=>(z:Rat))))(h2:SlO 5 qc 0 h Q2 (([0,1]:List Int).map (fun z:Int=>(z:Rat))))(hc1:(([2,0]:List Int).map (fun z:Int=>(z:Rat))).length≤c1)(hc2:(([0,1]:List Int).map (fun z:Int=>(z:Rat))).length≤c2):∀ i,i<knW.length→∃ A cap,([.slice Q1 2 c1,.slice Q2 2 c2]:List Value).getD i undef=.slice A (knW.getD i []).length cap∧(knW.getD i []).length≤cap∧SlO 5 qc 0 h A (knW.getD i []):=fun i hi=>by
  match i,hi with
  | 0,_=>exact ⟨Q1,c1,rfl,hc1,h1⟩
  | 1,_=>exact ⟨Q2,c2,rfl,hc2,h2⟩
  | i+2,hi=>exact absurd hi (by show ¬i+2<2;omega)
theorem cConjK (A:Option Addr)(cap:Nat)(us:List Value)(D:Option Addr)(cD:Nat)(X:Option Addr)(cX:Nat)(w:World)(h:Hp)(g:G w h)(hA:SlO 1 vc undef h A us)(hU:QVs h us knW)(hDb:SlO 5 qc 0 h D knb)(hX:SlO 5 qc 0 h X knx)(tb:Tab h) :
    Calls Tryz.prog 8 #[.slice A 2 cap,.slice D 2 cD,.slice X 2 cX] w (Ret w h fun v h1=>∃ (A:Option Addr) (c:Nat) (al:List TV) (B:Option Addr) (d:Nat),v=.tuple #[.slice A 3 c,.int .i64 0]∧al.length=3∧(al.getD 2 tv0).1=.slice B 2 d∧SlO 3 tvc tv0 h1 A al∧SlO 5 qc 0 h1 B [1,1]):=by
  have x:=cConjA A cap us knW 2 kn_dfn kD D cD knb X cX knx ⟨by decide,fun n=>kn_cd n kD kD⟩ ⟨by decide,fun n=>kn_cd n kD kD⟩ w h g hA hU hDb hX tb
  rw[show us.length=2 from hU.len] at x
  refine x.mono ?_
  rintro _ w' ⟨v,h',rfl,u,t,e,A',c',al,k1,k2,k3,k4,k5⟩
  obtain ⟨rfl,rfl⟩:=k1.uniq kn_end
  rw[if_pos rfl] at k5
  obtain ⟨⟨B,d,e1,s1⟩,_,_⟩:=k4.at_ 2 oM
  refine ⟨v,h',rfl,u,A',c',al,B,d,by rw[k2,k5],k5,?_,k3,?_⟩
  · rw[e1,vec_len];rfl
  · have e2:vec knW.length (cg knW.length (mA knW) (fun i=>knb.getD i 0) (fun i=>knx.getD i 0) 2).x=[1,1]:=by
      show [(knC 2).x 0,(knC 2).x 1]=[1,1]
      rw[kn_2.2.1,kn_2.2.2]
    rw[e2] at s1
    exact s1
theorem lKnown29  (w:World)(h:Hp)(g:G w h)(tb:Tab h) :
    Calls Tryz.prog 12 #[] w (Ret w h fun v _=>v=.bool true):=by
 have hs:=SS.start g
 replace hs:=(hs.add (K:=fun h_=>Tab h_) tb)
 refine go Tryz.func12 [] rfl ?_
 refine cSL (lL hs [.v 0 (.bool false)] (lNS (lR 4 2 2 ([.int .i64 2,.int .i64 0]) hs (fun b1 w2 h3 hs=>?_))))
 replace hs:=hs.a_SlO (SlO.of_flat (sz:=1) (f:=i64c) (d:=0) (b:=b1) (o:=0) (l:=([2,0]:List Int)) (fun _=>rfl) (hs.f.1))
 refine lC 5 hs (lQ_ (some ⟨b1,0,none⟩) 2 ([2,0]:List Int) kD (by intro k_;rcases k_ with _|_|_<;>simp[List.getD]) _ _ hs.g (hs.f.1)) ?_
 rintro _ w6 h7 hs ⟨Q1,cQ1,rfl,hcQ1,hQ1⟩
 replace hs:=(hs.a_SlO hQ1)
 refine lR 6 2 2 ([.int .i64 0,.int .i64 1]) hs (fun b8 w9 h10 hs=>?_)
 replace hs:=hs.a_SlO (SlO.of_flat (sz:=1) (f:=i64c) (d:=0) (b:=b8) (o:=0) (l:=([0,1]:List Int)) (fun _=>rfl) (hs.f.1))
 refine lC 7 hs (lQ_ (some ⟨b8,0,none⟩) 2 ([0,1]:List Int) kD (by intro k_;rcases k_ with _|_|_<;>simp[List.getD]) _ _ hs.g (hs.f.1)) ?_
 rintro _ w13 h14 hs ⟨Q2,cQ2,rfl,hcQ2,hQ2⟩
 replace hs:=(hs.a_SlO hQ2)
 refine lR 8 35 2 ([.slice Q1 2 cQ1,.slice Q2 2 cQ2]) hs (fun b15 w16 h17 hs=>?_)
 replace hs:=hs.a_SlO (SlO.of_flat (sz:=1) (f:=vc) (d:=undef) (b:=b15) (o:=0) (l:=([.slice Q1 2 cQ1,.slice Q2 2 cQ2]:List Value)) (fun _=>rfl) (hs.f.1))
 refine lR 9 2 2 ([.int .i64 2,.int .i64 1]) hs (fun b19 w20 h21 hs=>?_)
 replace hs:=hs.a_SlO (SlO.of_flat (sz:=1) (f:=i64c) (d:=0) (b:=b19) (o:=0) (l:=([2,1]:List Int)) (fun _=>rfl) (hs.f.1))
 refine lC 10 hs (lQ_ (some ⟨b19,0,none⟩) 2 ([2,1]:List Int) kD (by intro k_;rcases k_ with _|_|_<;>simp[List.getD]) _ _ hs.g (hs.f.1)) ?_
 rintro _ w24 h25 hs ⟨Q3,cQ3,rfl,hcQ3,hQ3⟩
 replace hs:=(hs.a_SlO hQ3)
 refine lR 11 2 2 ([.int .i64 0,.int .i64 0]) hs (fun b26 w27 h28 hs=>?_)
 replace hs:=hs.a_SlO (SlO.of_flat (sz:=1) (f:=i64c) (d:=0) (b:=b26) (o:=0) (l:=([0,0]:List Int)) (fun _=>rfl) (hs.f.1))
 refine lC 12 hs (lQ_ (some ⟨b26,0,none⟩) 2 ([0,0]:List Int) kD (by intro k_;rcases k_ with _|_|_<;>simp[List.getD]) _ _ hs.g (hs.f.1)) ?_
 rintro _ w31 h32 hs ⟨Q4,cQ4,rfl,hcQ4,hQ4⟩
 replace hs:=(hs.a_SlO hQ4)
 refine lC 13 hs (cConjK (some ⟨b15,0,none⟩) 2 _ Q3 cQ3 Q4 cQ4 _ _ hs.g (hs.f.2.2.2.2.2.2.1) ⟨rfl,kn_rows (hs.f.2.2.2.2.2.2.2.2.2.2.2.1) (hs.f.2.2.2.2.2.2.2.2.1) hcQ1 hcQ2⟩ (hs.f.2.2.2.1) (hs.f.1) (hs.f.2.2.2.2.2.2.2.2.2.2.2.2.2.2.1)) ?_
 rintro _ w33 h34 hs ⟨Ak,ck,alk,Bk,dk,rfl,hl3,ek,hAk,hBk⟩
 replace hs:=((hs.a_SlO hAk).a_SlO hBk)
 have hl2_:([1,1]:List Rat).length=2:=rfl
 refine lL hs [.m 3 13,.v 14 (.slice Ak 3 ck),.v 15 (.int .i64 0),.m 1 14,.m 2 15] (lNS (lL hs [.m 16 2,.v 17 (.bool true),.m 18 17,.m 19 1,.v 20 (.int .i64 3),.v 21 (.bool true),.v 22 (.bool true),.m 23 22,.m 24 1] (lX 25 Ak 3 ck 3 2 2 ((hs.f.2.1).ok oM) ?_)))
 refine lL hs [.v 26 (.pointer (some ⟨(aB Ak),aO Ak+2*3,none⟩))] (lHe 27 ((alk.getD 2 tv0).1) hs (((hs.f.2.1).el 2 oM).part 0 1) ek ?_)
 refine lL hs [.v 28 (.int .i64 2),.v 29 (.bool true),.v 30 (.bool true),.m 31 30,.m 32 1] (lX 33 Ak 3 ck 3 2 2 ((hs.f.2.1).ok oM) ?_)
 refine lL hs [.v 34 (.pointer (some ⟨(aB Ak),aO Ak+2*3,none⟩))] (lHe 35 ((alk.getD 2 tv0).1) hs (((hs.f.2.1).el 2 oM).part 0 1) ek ?_)
 refine lX 36 Bk 2 dk 5 0 0 ((hs.f.1).ok oM) ?_
 refine lH 37 (qv 1) hs ((hs.f.1).el 0 kD) ?_
 refine lC 38 hs (hIs 1 1 1 (LQ.lit (z:=1) kD).up8 kD kD kD kD kD _ _ hs.g) ?_
 rintro _ w35 h36 hs rfl
 have hb37:(sameQ 1 (mkR 1 1))=true:=(decide_eq_true (by decide +kernel))
 rw[hb37]
 refine lL hs [.v 39 (.bool true),.m 40 39,.m 41 1] (lX 42 Ak 3 ck 3 2 2 ((hs.f.2.1).ok oM) ?_)
 refine lL hs [.v 43 (.pointer (some ⟨(aB Ak),aO Ak+2*3,none⟩))] (lHe 44 ((alk.getD 2 tv0).1) hs (((hs.f.2.1).el 2 oM).part 0 1) ek ?_)
 refine lX 45 Bk 2 dk 5 1 1 ((hs.f.1).ok oM) ?_
 refine lH 46 (qv 1) hs ((hs.f.1).el 1 kD) ?_
 refine lC 47 hs (hIs 1 1 1 (LQ.lit (z:=1) kD).up8 kD kD kD kD kD _ _ hs.g) ?_
 rintro _ w38 h39 hs rfl
 have hb40:(sameQ 1 (mkR 1 1))=true:=(decide_eq_true (by decide +kernel))
 rw[hb40]
 refine lL hs [.v 48 (.bool true),.m 0 48] (lN (cTo [(0,.bool true)] ?_))
 exact CG.ret (hs.ret [] (.bool true) rfl)
def pdf (zs:List Int)(n:Nat):Mtx:=fun i j=>gram zs n i j+eyef i j
section
variable {zs:List Int} {n:Nat} {A:Mtx} (hA:∀ i,i<n→∀ j,j<n→A i j=pdf zs n i j)
include hA
theorem pd_mv (w:Nat→Rat){i:Nat}(hi:i<n):mv n A w i=sig (fun k=>rawf zs n i k*sig (fun j=>rawf zs n j k*w j) n) n+w i:=by
  unfold mv
  rw[sig_congr (g:=fun j=>sig (fun k=>rawf zs n i k*(rawf zs n j k*w j)) n+(if j=i then 1 else 0)*w j) (fun j hj=>by
    rw[hA i hi j hj]
    show (dt n (rawf zs n i) (rawf zs n j)+eyef i j)*w j=_
    rw[sig_congr (g:=fun k=>w j*(rawf zs n i k*rawf zs n j k)) (fun k _=>by grind),sig_mul]
    unfold dt eyef
    grind),sig_add,sig_pick w hi,sig_swap (fun j k=>rawf zs n i k*(rawf zs n j k*w j)) n n]
  rw[sig_congr (f:=fun k=>sig (fun j=>rawf zs n i k*(rawf zs n j k*w j)) n) (g:=fun k=>rawf zs n i k*sig (fun j=>rawf zs n j k*w j) n) (fun k _=>sig_mul _ _ _)]
theorem pd_dt (w:Nat→Rat):dt n w (mv n A w)=dt n (fun k=>sig (fun j=>rawf zs n j k*w j) n) (fun k=>sig (fun j=>rawf zs n j k*w j) n)+dt n w w:=by
  obtain ⟨u,hu⟩:∃ u:Nat→Rat,u=fun k=>sig (fun j=>rawf zs n j k*w j) n:=⟨_,rfl⟩
  rw[←hu]
  unfold dt
  rw[sig_congr (g:=fun i=>sig (fun k=>(rawf zs n i k*w i)*u k) n+w i*w i) (fun i hi=>by
    rw[pd_mv hA w hi,hu]
    rw[sig_congr (f:=fun k=>(rawf zs n i k*w i)*sig (fun j=>rawf zs n j k*w j) n) (g:=fun k=>w i*(rawf zs n i k*sig (fun j=>rawf zs n j k*w j) n)) (fun k _=>by grind),sig_mul]
    grind),sig_add,sig_swap (fun i k=>(rawf zs n i k*w i)*u k) n n]
  rw[sig_congr (f:=fun k=>sig (fun i=>(rawf zs n i k*w i)*u k) n) (g:=fun k=>u k*u k) (fun k _=>by
    rw[sig_congr (g:=fun i=>u k*(rawf zs n i k*w i)) (fun i _=>by grind),sig_mul,hu])]
theorem pd_le (w:Nat→Rat):dt n w w≤dt n w (mv n A w):=by
  rw[pd_dt hA w]
  have:=dt_nn n (fun k=>sig (fun j=>rawf zs n j k*w j) n)
  grind
theorem pd_pos {w:Nat→Rat}(h:dt n w w≠0):0<dt n w (mv n A w):=by
  have h1:=pd_le hA w
  have h2:=dt_nn n w
  grind
theorem pd_reg:Reg n A:=fun y hy=>by
  have h1:=pd_le hA y
  have h2:dt n y (mv n A y)=0:=sig_zero (fun i hi=>by rw[hy i hi];grind)
  rw[h2] at h1
  have h3:=dt_nn n y
  exact dt_zero.1 (by grind)
theorem pd_sym:∀ i,i<n→∀ j,j<n→A i j=A j i:=fun i hi j hj=>by
  rw[hA i hi j hj,hA j hj i hi]
  unfold pdf gram eyef
  rw[dt_comm]
  by_cases e:i=j
  · rw[if_pos e,if_pos e.symm]
  · rw[if_neg e,if_neg (fun x=>e x.symm)]
end
theorem num_posi {q:Rat}:0<q↔0<q.num:=by rw[Rat.lt_iff];simp
section
variable {zs:List Int} {n:Nat} {A:Mtx} {b x:Nat→Rat} {t:Nat} {e:Int} (hA:∀ i,i<n→∀ j,j<n→A i j=pdf zs n i j) (hE:CjEnd n A b x t e)
include hA hE
theorem cjp_orth:Orth n A b x t:=orth_all (pd_sym hA) t (fun i hi=>goes_of (hE.1 i hi))
theorem cjp_e:e=0∧dt n (cg n A b x t).r (cg n A b x t).r=0:=by
  rcases hE.2 with h|⟨_,h1,h2⟩
  · exact h
  · exfalso
    have O:=(cjp_orth hA hE).own t (Nat.le_refl _)
    refine h2 (num_posi.1 (pd_pos hA (fun e0=>h1 ?_)))
    rw[←O]
    exact sig_zero (fun i hi=>by rw[dt_zero.1 e0 i hi];grind)
theorem cjp_le:t≤n:=cg_ends (pd_sym hA) (fun i hi=>goes_of (hE.1 i hi))
theorem cjp_sol:∀ i,i<n→mv n A (cg n A b x t).x i=b i:=fun i hi=>by
  have h:=dt_zero.1 (cjp_e hA hE).2 i hi
  rw[cg_r] at h
  unfold cgR at h
  rw[show ((-1:Int):Rat) = -1 from rfl] at h
  grind
theorem cjp_up {i k:Nat}(hi:i≤t)(hk:k<i):dt n (cg n A b x i).r (cg n A b x k).r=0:=(cjp_orth hA hE).rr i hi k hk
end
def phi (n:Nat)(A:Mtx)(b x:Nat→Rat):Rat:=dt n x (mv n A x)-(dt n b x+dt n b x)
theorem phi_step {n:Nat}{A:Mtx}(hs:∀ i,i<n→∀ j,j<n→A i j=A j i)(b x w:Nat→Rat)(k:Rat):phi n A b (fun i=>x i+w i*k)=phi n A b x+2*k*(dt n w (mv n A x)-dt n b w)+k*k*dt n w (mv n A w):=by
  have e0:∀ v,dt n (fun i=>x i+w i*k) v=dt n x v+k*dt n w v:=fun v=>by
    rw[←dt_lin];exact dt_congr (fun i _=>by grind) (fun _ _=>rfl)
  have e1:∀ u,dt n u (mv n A (fun i=>x i+w i*k))=dt n u (mv n A x)+k*dt n u (mv n A w):=fun u=>by
    rw[dt_comm,dt_comm n u (mv n A x),dt_comm n u (mv n A w),←dt_lin]
    refine dt_congr (fun i _=>?_) (fun _ _=>rfl)
    rw[←mv_lin]
    unfold mv
    exact sig_congr (fun j _=>by grind)
  unfold phi
  rw[e0,e1,e1,dt_comm n b (fun i=>x i+w i*k),e0,dt_comm n x b,dt_comm n w b,mv_sym hs x w]
  grind
theorem cjp_down {zs:List Int}{n:Nat}{A:Mtx}{b x:Nat→Rat}{t:Nat}{e:Int}(hA:∀ i,i<n→∀ j,j<n→A i j=pdf zs n i j)(hE:CjEnd n A b x t e){i:Nat}(hi:i<t):phi n A b (cg n A b x (i+1)).x<phi n A b (cg n A b x i).x:=by
  have hs:=pd_sym hA
  obtain ⟨g1,g2⟩:=hE.1 i hi
  have O:=(cjp_orth hA hE).own i oM
  have hw:0<dt n (cg n A b x i).w (mv n A (cg n A b x i).w):=num_posi.2 g2
  have hr:0<dt n (cg n A b x i).r (cg n A b x i).r:=by
    have:=dt_nn n (cg n A b x i).r
    grind
  have e1:phi n A b (cg n A b x (i+1)).x=phi n A b (fun j=>(cg n A b x i).x j+(cg n A b x i).w j*cgK n A (cg n A b x i)):=rfl
  have e2:dt n (cg n A b x i).w (mv n A (cg n A b x i).x)-dt n b (cg n A b x i).w = -dt n (cg n A b x i).r (cg n A b x i).r:=by
    rw[←O,dt_comm n (cg n A b x i).r,cg_r i]
    have:dt n (cgR n A b (cg n A b x i).x) (cg n A b x i).w=dt n b (cg n A b x i).w+(-1)*dt n (mv n A (cg n A b x i).x) (cg n A b x i).w:=by
      rw[←dt_lin]
      refine dt_congr (fun j _=>?_) (fun _ _=>rfl)
      unfold cgR
      rw[show ((-1:Int):Rat) = -1 from rfl];grind
    rw[dt_comm n (cg n A b x i).w (cgR n A b (cg n A b x i).x),this,dt_comm n (mv n A _)]
    grind
  rw[e1,phi_step hs,e2]
  have hk:cgK n A (cg n A b x i)*dt n (cg n A b x i).w (mv n A (cg n A b x i).w)=dt n (cg n A b x i).r (cg n A b x i).r:=by unfold cgK;grind
  have hk0:0<cgK n A (cg n A b x i):=by
    unfold cgK
    rw[Rat.div_def]
    exact Rat.mul_pos hr (Rat.inv_pos.2 hw)
  have h3:=Rat.mul_pos hk0 hr
  generalize dt n (cg n A b x i).w (mv n A (cg n A b x i).w)=y at *
  generalize dt n (cg n A b x i).r (cg n A b x i).r=r at *
  generalize cgK n A (cg n A b x i)=k at *
  have:k*k*y=k*r:=by rw[Rat.mul_assoc,hk]
  rw[this]
  grind
theorem vec_app_len {m:Nat}(f g:Nat→Rat):(vec m f++vec 1 g).length=m+1:=by rw[List.length_append,vec_len,vec_len]
theorem vec_app {m i:Nat}{M:Mtx}{b:Nat→Rat}:vec m (M i)++vec 1 (fun _=>b i)=vec (m+1) ((fun i_ k_=>if k_<m then M i_ k_ else b i_) i):=by
  refine vec_eq (vec_app_len _ _) (fun k hk=>?_)
  show _=if k<m then M i k else b i
  rw[List.getD_eq_getElem?_getD]
  by_cases h:k<m
  · rw[if_pos h,List.getElem?_append_left (by rw[vec_len];exact h),←List.getD_eq_getElem?_getD];exact vec_get _ h
  · rw[if_neg h,List.getElem?_append_right (by rw[vec_len];omega),vec_len,←List.getD_eq_getElem?_getD];exact vec_get _ oM
theorem matp_right {m n:Nat}(M:Mtx)(hn:0<n)(hm:0<m):RightP (matp m n M):=⟨by rw[matp_len];exact hn,by rw[matp_row M hn,vec_len];exact hm,fun i hi=>by rw[matp_len] at hi;rw[matp_row M hi,matp_row M hn,vec_len,vec_len]⟩
def leads (n:Nat):List Int:=(List.range n).map fun k:Nat=>((k:Nat):Int)
theorem leads_len (n:Nat):(leads n).length=n:=by simp[leads]
theorem leads_get {n k:Nat}(h:k<n):(leads n).getD k 0=(k:Int):=by simp[leads,h]
theorem leads_succ (n:Nat):leads n++[(n:Int)]=leads (n+1):=by unfold leads;rw[List.range_succ,List.map_append];rfl
theorem Whole.seg_slo {α:Type}{lo:Nat}{h:Hp}{b:Nat}{ty:TypeId}{sz:Nat}{f:α→List Value}{d:α}{l:List α}(x:Whole lo h b ty (l.flatMap f))(hf:∀ x,(f x).length=sz):SlO sz f d h (some ⟨b,0,none⟩) l:=Whole.slo (sp:=[]) hf (by rw[List.append_nil];exact x)
theorem swp_a {M:Mtx}{a b c:Nat}:swp M a b a c=M b c:=by unfold swp;rw[if_pos rfl]
section sep
variable {lo:Nat} {h h':Hp} {us:List Value} {n m:Nat} {M:Mtx}
theorem SepQ.atv (x:SepQ lo h us n m M){i b c:Nat}(hi:i<n)(e:us.getD i undef=.slice (some ⟨b,0,none⟩) m c):∃ sp,Whole lo h b 56 ((vec m (M i)).flatMap qc++sp):=by
  obtain ⟨b2,c2,sp,h1,h2,h3⟩:=x.at_ i hi
  rw[e] at h1
  have e2:slB (.slice (some ⟨b,0,none⟩) m c)=slB (.slice (some ⟨b2,0,none⟩) m c2):=by rw[h1]
  have e3:b=b2:=e2
  subst e3
  exact ⟨sp,h3⟩
theorem SepQ.inj (x:SepQ lo h us n m M){i j:Nat}(hi:i<n)(hj:j<n)(e:slB (us.getD i undef)=slB (us.getD j undef)):i=j:=by
  rcases Nat.lt_trichotomy i j with h1|h1|h1
  · exact absurd e.symm (x.ne j hj i h1)
  · exact h1
  · exact absurd e (x.ne i hi j h1)
theorem SepQ.poke (x:SepQ lo h us n m M){b:Nat}(p:Poked h h' b)(hne:∀ i,i<n→slB (us.getD i undef)≠b):SepQ lo h' us n m M:=⟨fun i hi=>by
  obtain ⟨b2,c2,sp,h1,h2,h3⟩:=x.at_ i hi
  refine ⟨b2,c2,sp,h1,h2,h3.poke p (fun e=>hne i hi ?_)⟩
  rw[h1];exact e,x.ne⟩
theorem SepQ.congr (x:SepQ lo h us n m M){M':Mtx}(e:∀ a k,M' a k=M a k):SepQ lo h us n m M':=by
  have:M'=M:=by funext a k;exact e a k
  rw[this];exact x
theorem SepQ.congr2 (x:SepQ lo h us n m M){M':Mtx}(e:∀ a,a<n→M' a=M a):SepQ lo h us n m M':=⟨fun i hi=>by rw[e i hi];exact x.at_ i hi,x.ne⟩
theorem SepQ.upd (x:SepQ lo h us n m M){i b c:Nat}{sp:List Value}(hi:i<n)(e:us.getD i undef=.slice (some ⟨b,0,none⟩) m c)(p:Poked h h' b){M':Mtx}(hW:Whole lo h' b 56 ((vec m (M' i)).flatMap qc++sp))(hM:∀ a,a≠i→∀ k,M' a k=M a k):SepQ lo h' us n m M':=⟨fun j hj=>by
  obtain ⟨b2,c2,sp2,h1,h2,h3⟩:=x.at_ j hj
  by_cases ej:j=i
  · subst ej
    rw[e] at h1
    have e4:=h1
    injection e4 with _ _ e5
    exact ⟨b,c,sp,e,by omega,hW⟩
  · have e6:M' j=M j:=by funext k;exact hM j ej k
    rw[e6]
    refine ⟨b2,c2,sp2,h1,h2,h3.poke p (fun e7=>ej (x.inj hj hi ?_))⟩
    rw[h1,e];exact e7,x.ne⟩
theorem swap_get {a b:Nat}{va vb:Value}(hl:us.length=n)(ha:a<n)(hb:b<n)(ea:us.getD a undef=va)(eb_:us.getD b undef=vb)(i:Nat):((us.set a vb).set b va).getD i undef=us.getD (if i=b then a else if i=a then b else i) undef:=by
  rw[getD_setl,getD_setl,List.length_set,hl]
  by_cases e1:i=b
  · rw[if_pos ⟨e1.symm,hb⟩,show (if i=b then a else if i=a then b else i)=a from if_pos e1];exact ea.symm
  · rw[if_neg (fun x=>e1 x.1.symm),show (if i=b then a else if i=a then b else i)=if i=a then b else i from if_neg e1]
    by_cases e2:i=a
    · rw[if_pos ⟨e2.symm,ha⟩,show (if i=a then b else i)=b from if_pos e2];exact eb_.symm
    · rw[if_neg (fun x=>e2 x.1.symm),show (if i=a then b else i)=i from if_neg e2]
theorem swap_ne {a b bo:Nat}{va vb:Value}(hl:us.length=n)(ha:a<n)(hb:b<n)(ea:us.getD a undef=va)(eb_:us.getD b undef=vb)(hne:∀ i,i<n→slB (us.getD i undef)≠bo):∀ i,i<n→slB (((us.set a vb).set b va).getD i undef)≠bo:=fun i hi=>by
  rw[swap_get hl ha hb ea eb_]
  refine hne _ ?_
  split
  · exact ha
  · split
    · exact hb
    · exact hi
theorem SepQ.swap (x:SepQ lo h us n m M){a b:Nat}{va vb:Value}(hl:us.length=n)(ha:a<n)(hb:b<n)(ea:us.getD a undef=va)(eb_:us.getD b undef=vb):SepQ lo h ((us.set a vb).set b va) n m (swp M a b):=by
  have hs:∀ i,i<n→(if i=b then a else if i=a then b else i)<n:=fun i hi=>by
    split
    · exact ha
    · split
      · exact hb
      · exact hi
  refine ⟨fun i hi=>?_,fun i hi j hj=>?_⟩
  · rw[swap_get hl ha hb ea eb_]
    have e:swp M a b i=M (if i=b then a else if i=a then b else i):=by
      unfold swp
      by_cases e1:i=b
      · subst e1
        by_cases e2:i=a
        · subst e2;simp
        · simp[e2]
      · by_cases e2:i=a
        · subst e2;simp[e1]
        · simp[e1,e2]
    rw[e];exact x.at_ _ (hs i hi)
  · rw[swap_get hl ha hb ea eb_,swap_get hl ha hb ea eb_]
    intro e
    have:=x.inj (hs i hi) (hs j oM) e
    repeat' split at this
    all_goals omega
end sep
theorem ePivotN (n m:Nat)(hn9:n≤1000)(hm0:0<m)(hm9:m≤1000)(A:Option Addr)(cap:Nat)(us:List Value)(hl:us.length=n)(M:Mtx)(top col:Nat)(ht:top≤n)(hcm:col<m)(hq:∀ i k,LQ 100000000 (M i k))(w:World)(h:Hp)(g:G w h)(hA:SlO 1 vc undef h A us)(hU:QVs h us (matp m n M)):Calls Tryz.prog 95 #[.slice A n cap,.int .i64 (top:Nat),.int .i64 (col:Nat)] w (Ret w h fun v _=>∃ p:Int,v=.int .i64 p∧(p = -1∧(∀ i,top≤i→i<n→M i col=0)∨∃ k:Nat,p=k∧top≤k∧k<n∧M k col≠0)):=by
  have x:=ePivot n m hn9 hm0 hm9 A cap us M top col ht hcm hq w h g hA hU
  rw[hl] at x
  exact x
theorem col_end {n c:Nat}{A0 M:Mtx}{b:Nat→Rat}{p:Int}(hR:Reg n A0)(h:NS (n+1) n (aug n A0 b) M)(he:Ech n M (min c n))(hc:c≤n)(hp:p = -1∧(∀ i,min c n≤i→i<n→M i c=0)∨∃ k:Nat,p=k∧min c n≤k∧k<n∧M k c≠0)(hn:p<0):c=n:=by
  rcases hp with ⟨_,hz⟩|⟨k,hk,_⟩
  · rcases Nat.lt_or_ge c n with h1|h1
    · rw[Nat.min_eq_left oM] at he hz
      exact absurd hz (piv_ex hR h he h1)
    · omega
  · omega
theorem scl_at (M:Mtx)(c:Nat)(d:Rat)(j:Nat):scl M c d j c j=M c j:=by unfold scl;rw[if_neg (fun x=>Nat.lt_irrefl _ x.2)]
theorem scl_set (M:Mtx)(c:Nat)(d:Rat){m j:Nat}(hj:j<m):(vec m (scl M c d j c)).set j (M c j*d)=vec m (scl M c d (j+1) c):=by
  refine vec_eq (by rw[List.length_set,vec_len]) (fun k hk=>?_)
  rw[getD_setl,vec_len,vec_get _ hk]
  unfold scl
  by_cases e:j=k
  · subst e;rw[if_pos ⟨rfl,hj⟩,if_pos ⟨rfl,by omega⟩]
  · rw[if_neg (fun x=>e x.1)]
    by_cases e2:k<j
    · rw[if_pos ⟨rfl,e2⟩,if_pos ⟨rfl,by omega⟩]
    · rw[if_neg (fun x=>e2 x.2),if_neg (fun x=>by omega)]
theorem rdc_skip {M:Mtx}{c a i:Nat}(h:i=c):rdc M c c (i+1) a=rdc M c c i a:=by
  funext k
  unfold rdc
  by_cases e:a<i∧a≠c
  · rw[if_pos e,if_pos ⟨by omega,e.2⟩]
  · rw[if_neg e,if_neg (fun x=>by omega)]
theorem rdc_oth {M:Mtx}{c a i:Nat}(h:a≠i)(k:Nat):rdc M c c (i+1) a k=rdc M c c i a k:=by
  unfold rdc
  by_cases e:a<i∧a≠c
  · rw[if_pos e,if_pos ⟨by omega,e.2⟩]
  · rw[if_neg e,if_neg (fun x=>by omega)]
theorem rdc_vec {M:Mtx}{c i m:Nat}(h:i≠c):vec m (rdc M c c (i+1) i)=vec m (fun k_=>rdc M c c i i k_-rdc M c c i i c*rdc M c c i c k_):=vec_congr (fun k _=>by
  rw[rdc_row (i0:=i) (i:=i) (fun x=>Nat.lt_irrefl _ x.1),rdc_row (i0:=i) (i:=c) (fun x=>x.2 rfl)]
  unfold rdc
  rw[if_pos ⟨by omega,h⟩])
theorem eBeside (n m:Nat)(hn9:n≤1000)(hm0:0<m)(hm9:m≤1000)(A:Option Addr)(capA:Nat)(us:List Value)(M:Mtx)(D:Option Addr)(capD:Nat)(vs:List Value)(b:Nat→Rat)(w:World)(h:Hp)(g:G w h)(hA:SlO 1 vc undef h A us)(hUM:QVs h us (matp m n M))(hD:SlO 1 vc undef h D vs)(hUb:QVs h vs (matp 1 n (fun i_ _=>b i_))) :
    Calls Tryz.prog 51 #[.slice A us.length capA,.slice D vs.length capD] w (Ret w h fun v h1=>∃ A,∃ us:List Value,v=.slice A n n∧SlO 1 vc undef h1 A us∧QVs h1 us (matp (m+1) n (fun i_ k_=>if k_<m then M i_ k_ else b i_))):=by
 have hs:=SS.start g
 replace hs:=((((hs.a_SlO hA).add (K:=fun h_=>QVs h_ us (matp m n M)) hUM).a_SlO hD).add (K:=fun h_=>QVs h_ vs (matp 1 n (fun i_ _=>b i_))) hUb)
 have hlus:=(hs.f.2.2.1).len
 rw[matp_len] at hlus
 have hlvs:=(hs.f.1).len
 rw[matp_len] at hlvs
 refine go Tryz.func51 [(0,.slice A us.length capA),(1,.slice D vs.length capD)] rfl ?_
 refine cSL (lL hs [.v 4 (.slice none 0 0)] (lNS (lL hs [.m 8 0,.v 9 (.int .i64 (us.length:Nat))] (lK 10 35 us.length 1 24 (.slice none 0 0) vc (.slice none 0 0:Value) hs (fun b1 w2 h3 hs=>?_)))))
 have hl4:(List.replicate us.length (.slice none 0 0:Value)).length=us.length:=by simp
 refine lL hs [.m 5 10] (lN (CG.seq (cSL (lL hs [.m 11 0,.v 12 (.int .i64 (us.length:Nat)),.v 13 (.int .i64 0)] (lN (CG.block (cTo [(1,.slice D vs.length capD),(4,.slice none 0 0),(5,.slice (some ⟨b1,0,none⟩) us.length us.length),(11,.slice A us.length capA),(12,.int .i64 (us.length:Nat)),(13,.int .i64 0)] ?_)))))))
 replace hs:=hs.add (K:=fun h_=>RowsQ h_ (List.replicate us.length (.slice none 0 0:Value)) 0 (m+1) (fun i_ k_=>if k_<m then M i_ k_ else b i_)) (RowsQ.nil)
 refine CG.loop (fun μ_ Γ w_=>∃ (i:Nat) (L:List Value) (h_:Hp),μ_=n-i∧Γ=[(1,.slice D vs.length capD),(4,.slice none 0 0),(5,.slice (some ⟨b1,0,none⟩) us.length us.length),(11,.slice A us.length capA),(12,.int .i64 (us.length:Nat)),(13,.int .i64 (i:Nat))]∧SS w h w_ h_ [⟨b1,35,(L).flatMap vc⟩] [] [fun h_=>RowsQ h_ L i (m+1) (fun i_ k_=>if k_<m then M i_ k_ else b i_),fun h_=>QVs h_ vs (matp 1 n (fun i_ _=>b i_)),fun h_=>SlO 1 vc undef h_ D vs,fun h_=>QVs h_ us (matp m n M),fun h_=>SlO 1 vc undef h_ A us]∧(i≤n)∧(L.length=us.length)) _ ⟨0,List.replicate us.length (.slice none 0 0:Value),h3,rfl,rfl,hs.to _ _,Nat.zero_le _,(by simp)⟩ ?_
 rintro _ _ w5 ⟨i,L,h6,hm7,rfl,hs,hi,hLl⟩
 refine cSL ?_
 cases hb8:(decide (((i:Nat):Int)<((us.length:Nat):Int)))
 ·
  have phb8:=oF hb8
  refine lB 14 hb8 ?_
  refine lN (CG.seq (cIF (CG.exit ?_)))
  show CG _ _ _ _ _ _ _ _
  refine cSL (lL hs [.m 33 5,.m 4 33] (lN (CG.ret ?_)))
  have hin:i=n:=by omega
  obtain ⟨h9,hs,sg10,lo11,bc12⟩:=hs.pub 0
  replace hs:=(hs.to [] []).a_SlO (SlO.of_flat (sz:=1) (f:=vc) (d:=undef) (b:=b1) (o:=0) (l:=L) (fun _=>rfl) sg10)
  exact hs.ret [] (.slice (some ⟨b1,0,none⟩) us.length us.length) (⟨_,L,sl_both oM,(hs.f.1),(by have q_:=(hs.f.2.1);rw[hin] at q_;exact q_.qvs oM)⟩)
 have phb8:=oT hb8
 refine lB 14 hb8 ?_
 refine lN (CG.seq (cIT (CG.skipN (CG.seq (CG.block (cSL (lL hs [.m 15 13] (lX 16 A us.length capA 1 (i:Nat) i ((hs.f.2.2.2.2.1).ok oM) ?_))))))))
 obtain ⟨Arx,crx,erx,hcrx,hRr0x⟩:=qm_at (hs.f.2.2.2.1) (k:=i) oM
 have hvnx:=vec_len m (M i)
 have hRrx:SlO 5 qc 0 _ Arx (vec m (M i)):=hRr0x
 replace hs:=(hs.a_SlO hRrx)
 refine lHe 17 (us.getD i undef) hs ((hs.f.2.2.2.2.2.1).el i oM) (show us.getD i undef=.slice Arx (vec m (M i)).length crx by rw[erx,vec_len]) ?_
 refine lL hs [.m 6 15,.m 7 17] (lN (cR 13 [] mixed hs al_nil ?_))
 refine eV 0 18 (.slice (some ⟨b1,0,none⟩) us.length us.length) ?_
 refine eV 1 19 (.int .i64 (i:Nat)) ?_
 refine eV 2 20 (.slice Arx ((vec m (M i)).length) crx) ?_
 refine eV 3 21 (.slice Arx ((vec m (M i)).length) crx) ?_
 refine eV 4 22 (.int .i64 ((vec m (M i)).length:Nat)) ?_
 refine eV 5 23 (.slice Arx ((vec m (M i)).length) crx) ?_
 refine eV 6 24 (.int .i64 ((vec m (M i)).length:Nat)) ?_
 refine eT3 7 25 Arx (vec m (M i)).length crx 5 ((vec m (M i)).length:Nat) ((vec m (M i)).length:Nat) (vec m (M i)).length (vec m (M i)).length ?_
 refine eV 8 26 (.slice D vs.length capD) ?_
 refine eV 9 27 (.int .i64 (i:Nat)) ?_
 refine eX 10 28 D vs.length capD 1 (i:Nat) i ((hs.f.2.2.2.1).ok oM) ?_
 obtain ⟨Ary_,cry_,ery_,hcry_,hRr0y_⟩:=qm_at (hs.f.2.2.1) (k:=i) oM
 have hvny_:=vec_len 1 (fun _=>b i)
 have hRry_:SlO 5 qc 0 _ Ary_ (vec 1 (fun _=>b i)):=hRr0y_
 replace hs:=(hs.a_SlO hRry_)
 refine eHe 11 29 (vs.getD i undef) hs ((hs.f.2.2.2.2.1).el i oM) (show vs.getD i undef=.slice Ary_ (vec 1 (fun _=>b i)).length cry_ by rw[ery_,vec_len]) ?_
 refine eYf 12 30 56 5 qc 0 Arx Ary_ (vec m (M i)) (vec 1 (fun _=>b i)) cry_ 56 (.agg #[.bool false,.int .u64 0,.string ⟨#[]⟩,.int .u64 0,.string ⟨#[]⟩]) hs (fun _ f_=>f_.2.1) (fun _ f_=>f_.1) oM oM (fun _ _=>by kernel_rfl) (fun A14 c15 w16 h17 hs=>?_)
 refine eD0 hs (fun w19 h20 hs=>?_)
 obtain ⟨h21,hs,hc22⟩:=hs.pubr 0 (A:=A14) (c:=c15) (l:=(vec m (M i))++(vec 1 (fun _=>b i))) (f:=qc) (ty:=56) (sz:=5) 0 (fun _=>rfl)
 refine tX 13 31 (some ⟨b1,0,none⟩) us.length us.length 1 (i:Nat) i rfl ?_
 refine tW 14 0 L vc 1 i (.slice A14 (((vec m (M i))++(vec 1 (fun _=>b i))).length) c15:Value) hs oM (fun w24 hs=>?_)
 have hl25:((L).set i (.slice A14 (((vec m (M i))++(vec 1 (fun _=>b i))).length) c15:Value)).length=us.length:=by rw[List.length_set];exact hLl
 replace hs:=hs.to [⟨b1,35,((L).set i (.slice A14 (((vec m (M i))++(vec 1 (fun _=>b i))).length) c15:Value)).flatMap vc⟩] []
 refine tN (CG.listed (lIn 32 ((i:Nat)+1) (i+1) ?_))
 refine lL hs [.m 13 32] (lD ?_)
 intro a_ ka
 have q26:RowsQ h21 ((L).set i (.slice A14 (((vec m (M i))++(vec 1 (fun _=>b i))).length) c15:Value)) (i+1) (m+1) (fun i_ k_=>if k_<m then M i_ k_ else b i_):=(RowsQ.put (hs.f.2.2.2.1) oM ⟨_,_,sl_len (vec_app_len _ _),by rw[←vec_app_len (m:=m) (M i) (fun _=>b i)];exact hc22,(by have q_:=(hs.f.1);rw[vec_app] at q_;exact q_)⟩)
 have q27:(i+1)≤n:=by omega
 have q28:((L).set i (.slice A14 (((vec m (M i))++(vec 1 (fun _=>b i))).length) c15:Value)).length=us.length:=hl25
 replace hs:=(hs.tl.tl.tl.tl.add (K:=fun h_=>RowsQ h_ ((L).set i (.slice A14 (((vec m (M i))++(vec 1 (fun _=>b i))).length) c15:Value)) (i+1) (m+1) (fun i_ k_=>if k_<m then M i_ k_ else b i_)) q26)
 refine ⟨_,_,?_,⟨i+1,(L).set i (.slice A14 (((vec m (M i))++(vec 1 (fun _=>b i))).length) c15:Value),h21,rfl,rfl,hs.to _ _,q27,q28⟩,ka.to [(1,.slice D vs.length capD),(4,.slice none 0 0),(5,.slice (some ⟨b1,0,none⟩) us.length us.length),(11,.slice A us.length capA),(12,.int .i64 (us.length:Nat)),(13,.int .i64 ((i+1):Nat))] kR⟩
 omega
theorem eReduceAll (n:Nat)(h0n:0<n)(hn4:n≤4)(A0:Mtx)(b:Nat→Rat)(hR:Reg n A0)(hK0:∀ i k,LQ 3 (aug n A0 b i k))(A:Option Addr)(cap:Nat)(us:List Value)(w:World)(h:Hp)(g:G w h)(hA:SlO 1 vc undef h A us)(hUM:QVs h us (matp (n+1) n (aug n A0 b)))(tb:Tab h) :
    Calls Tryz.prog 50 #[.slice A us.length cap] w (Ret w h fun v h1=>∃ (bo:Nat) (us:List Value) (A2:Option Addr) (c2:Nat) (ll:List Int) (M:Mtx),v=.tuple #[.agg #[.slice (some ⟨bo,0,none⟩) n n,.slice A2 ll.length c2],.int .i64 0]∧ll.length≤c2∧SlO 1 i64c 0 h1 A2 ll∧ll=leads n∧SlO 1 vc undef h1 (some ⟨bo,0,none⟩) us∧QVs h1 us (matp (n+1) n M)∧NS (n+1) n (aug n A0 b) M∧Ech n M n∧∀ i k,LQ 100000 (M i k)):=by
 have hs:=SS.start g
 replace hs:=(((hs.a_SlO hA).add (K:=fun h_=>QVs h_ us (matp (n+1) n (aug n A0 b))) hUM).add (K:=fun h_=>Tab h_) tb)
 have htb0:=(hs.f.1)
 have hlu:=(hs.f.2.1).len
 rw[matp_len] at hlu
 refine go Tryz.func50 [(0,.slice A us.length cap)] rfl ?_
 refine cSL (lA 2 98 ([.slice none 0 0,.slice none 0 0]) hs (fun b1 w2 h3 hs=>?_))
 refine lL hs [.v 3 (.int .i64 0)] (lN (CG.seq (cSL (lL hs [.m 14 0] (lC 15 hs (mRightT A cap us (matp (n+1) n (aug n A0 b)) (by rw[matp_len];omega) (fun i hi=>by rw[matp_len] at hi;rw[matp_row _ hi,vec_len];omega) (matp_right (aug n A0 b) h0n oM) _ _ hs.g (hs.f.2.2.1) (hs.f.2.1)) ?_)))))
 rintro _ w4 h5 hs rfl
 refine lL hs [.v 16 (.bool false)] (lN (cIF (CG.skipN (cSL (lL hs [.m 18 0] ?_)))))
 have hlo_:=hs.st.up.gr.size
 refine lC 19 hs (mCopyQ n (n+1) oM oM oM A cap us (aug n A0 b) _ _ hs.g (hs.f.2.2.1) (hs.f.2.1)) ?_
 rintro _ w6 h7 hs ⟨bo,L0,rfl,hL0,hWo0,hne0,hSp0⟩
 have hWo:=hWo0.up hlo_
 have hSp:=hSp0.up hlo_
 replace hs:=((hs.add (K:=fun h_=>Whole h.size h_ bo 35 (L0.flatMap vc)) hWo).add (K:=fun h_=>SepQ h.size h_ L0 n (n+1) (aug n A0 b)) hSp)
 refine lL hs [.m 4 19] (lNS (lL hs [.v 5 (.slice none 0 0)] (lN (CG.seq (cSL (lL hs [.m 20 0] (lX 21 A us.length cap 1 0 0 ((hs.f.2.2.2.2.1).ok oM) ?_)))))))
 obtain ⟨Arz,crz,erz,hcrz,hRrz⟩:=qm_at (hs.f.2.2.2.1) (k:=0) oM
 have hvnz:=vec_len (n+1) ((aug n A0 b) 0)
 replace hs:=(hs.a_SlO hRrz)
 refine lHe 22 (us.getD 0 undef) hs ((hs.f.2.2.2.2.2.1).el 0 oM) erz ?_
 refine lL hs [.v 23 (.int .i64 ((n+1):Nat)),.v 24 (.int .i64 0)] ?_
 have hWo3:=(hs.f.2.2.1)
 have hSp3:=(hs.f.2.1)
 have hBo3:SlO 1 vc undef h7 (some ⟨bo,0,none⟩) L0:=hWo3.seg_slo (fun _=>rfl)
 have htb_:Tab h7:=htb0.gw hs.sgw
 replace hs:=hs.clear.add (K:=fun h_=>Tab h_) htb_
 refine lN (CG.block ?_)
 replace hs:=hs.nil 3 1
 refine cTo [(2,.pointer (some ⟨b1,0,none⟩)),(3,.int .i64 0),(4,.slice (some ⟨bo,0,none⟩) n n),(23,.int .i64 ((n+1):Nat)),(24,.int .i64 0),(5,.slice none 0 0)] ?_
 replace hs:=hs.add (K:=fun h_=>SepQ h.size h_ L0 n (n+1) (aug n A0 b)) (hSp3)
 replace hs:=hs.add (K:=fun h_=>SlO 1 vc undef h_ (some ⟨bo,0,none⟩) L0) (hBo3)
 replace hs:=hs.add (K:=fun h_=>Whole h.size h_ bo 35 (L0.flatMap vc)) (hWo3)
 refine CG.loop (fun μ_ Γ w_=>∃ (c:Nat) (slA:Option Addr) (slc:Nat) (ll:List Int) (L:List Value) (M:Mtx) (h_:Hp),μ_=n+2-c∧Γ=[(2,.pointer (some ⟨b1,0,none⟩)),(3,.int .i64 0),(4,.slice (some ⟨bo,0,none⟩) n n),(23,.int .i64 ((n+1):Nat)),(24,.int .i64 (c:Nat)),(5,.slice slA ((ll).length) slc)]∧SS w h w_ h_ [⟨b1,98,[.slice none 0 0,.slice none 0 0]⟩] [⟨3,1,slA,slc,(ll).length,(ll).flatMap i64c⟩] [fun h_=>Whole h.size h_ bo 35 (L.flatMap vc),fun h_=>SlO 1 vc undef h_ (some ⟨bo,0,none⟩) L,fun h_=>SepQ h.size h_ L n (n+1) M,fun h_=>Tab h_]∧(c≤n+1)∧(ll=leads (min c n))∧(L.length=n)∧(∀ i,i<n→slB (L.getD i undef)≠bo)∧(NS (n+1) n (aug n A0 b) M)∧(Ech n M (min c n))∧(∀ i k,LQ (eb (min c n)) (M i k))) _ ⟨0,none,0,[],L0,(aug n A0 b),h7,rfl,rfl,hs.to _ _,Nat.zero_le _,(by rw[Nat.zero_min];rfl),hL0,hne0,NS.refl _ _ _,(by rw[Nat.zero_min];exact fun j hj=>absurd hj (Nat.not_lt_zero j)),(by rw[Nat.zero_min];exact hK0)⟩ ?_
 rintro _ _ w8 ⟨c,slA,slc,ll,L,M,h9,hm10,rfl,hs,hc,hll,hLl,hneo,hNS,hEc,hq⟩
 have hlll:ll.length=min c n:=by rw[hll];simp[leads]
 refine cSL ?_
 cases hb11:(decide (((c:Nat):Int)<(((n+1):Nat):Int)))
 ·
  have phb11:=oF hb11
  refine lB 25 hb11 ?_
  refine lN (CG.seq (cIF (CG.exit ?_)))
  show CG _ _ _ _ _ _ _ _
  refine cSL (lL hs [.m 111 4,.m 112 5,.v 113 (.int .i64 ((ll).length:Nat)),.m 114 5,.v 115 (.int .i64 ((ll).length:Nat))] ?_)
  have hcn:c=n+1:=by omega
  have hlln:ll.length=n:=by omega
  refine lT3 116 (some ⟨bo,0,none⟩) n n 1 ((ll).length:Nat) ((ll).length:Nat) n n ?_
  refine lL hs [.m 117 5] ?_
  obtain ⟨h12,hs,hc13⟩:=hs.pubr 0 (A:=slA) (c:=slc) (l:=ll) (f:=i64c) (ty:=3) (sz:=1) 0 (fun _=>rfl)
  refine lL hs [.v 118 (.agg #[.slice (some ⟨bo,0,none⟩) n n,.slice slA ((ll).length) slc])] (lP 0 0 ([.slice (some ⟨bo,0,none⟩) n n,.slice slA ((ll).length) slc]) hs (fun w15 hs=>?_))
  exact lL hs [.v 3 (.int .i64 0)] (lN (CG.ret (hs.ret [(0,0,2)] (.tuple #[.agg #[.slice (some ⟨bo,0,none⟩) n n,.slice slA ((ll).length) slc],.int .i64 0]) (⟨bo,L,_,_,ll,M,rfl,hc13,(hs.f.1),(by rw[hll,Nat.min_eq_right oM]),(hs.f.2.2.1),((hs.f.2.2.2.1)).rows.qvs hLl,hNS,(by have q_:=hEc;rw[Nat.min_eq_right oM] at q_;exact q_),(fun i k=>(hq i k).mono (eb_le oM))⟩))))
 have phb11:=oT hb11
 refine lB 25 hb11 ?_
 refine lN (CG.seq (cIT (CG.skipN (CG.seq (CG.block (cSL (lL hs [.m 26 24,.m 6 26] (lNS (lL hs [.m 27 5] (lE (ik:=.i64) 28 (show (((ll).length:Nat):Int)=((min c n:Nat):Int) by omega) ?_))))))))))
 refine lL hs [.m 7 28] (lNS (lL hs [.m 29 4,.m 30 7,.m 31 6] (lC 32 hs (ePivotN n (n+1) oM oM oM (some ⟨bo,0,none⟩) n L hLl M (min c n) c oM oM (fun i k=>(hq i k).mono (by have:=eb_le (c:=min c n) oM;omega)) _ _ hs.g (hs.f.2.1) (((hs.f.2.2.1)).rows.qvs hLl)) ?_)))
 rintro _ w16 h17 hs ⟨p,rfl,hp⟩
 refine lL hs [.m 8 32] (lN (CG.seq (cSL (lL hs [.m 33 8] ?_))))
 cases hb18:(decide ((p:Int)<(0:Int)))
 ·
  have phb18:=oF hb18
  refine lB 34 hb18 ?_
  refine lN (cIF (CG.skipN (CG.seq (cR 12 [] mixed hs al_nil ?_))))
  obtain ⟨k,hk0,hk1,hk2,hk3⟩:∃ k:Nat,p=k∧min c n≤k∧k<n∧M k c≠0:=by
   rcases hp with ⟨h_,_⟩|h_
   · omega
   · exact h_
  have hcn:c<n:=by omega
  have hq1:∀ i k,LQ (eb c) (M i k):=by have q_:=hq;rw[Nat.min_eq_left oM] at q_;exact q_
  have hEc1:Ech n M c:=by have q_:=hEc;rw[Nat.min_eq_left oM] at q_;exact q_
  have heb:=eb_le (c:=c) oM
  clear hp hq hEc
  refine eV 0 35 (.slice (some ⟨bo,0,none⟩) n n) ?_
  refine eV 1 36 (.int .i64 (min c n:Nat)) ?_
  refine eV 2 37 (.slice (some ⟨bo,0,none⟩) n n) ?_
  refine eV 3 38 (.int .i64 p) ?_
  refine eV 4 39 (.slice (some ⟨bo,0,none⟩) n n) ?_
  refine eV 5 40 (.int .i64 p) ?_
  refine eX 6 41 (some ⟨bo,0,none⟩) n n 1 p k ((hs.f.2.1).ok oM) ?_
  obtain ⟨bqk,cqk,sqk,eqk,hcqk,hWqk⟩:=(hs.f.2.2.1).at_ k oM
  refine eHe 7 42 (L.getD k undef) hs ((hs.f.2.1).el k oM) eqk ?_
  refine eV 8 43 (.slice (some ⟨bo,0,none⟩) n n) ?_
  refine eV 9 44 (.int .i64 (min c n:Nat)) ?_
  refine eX 10 45 (some ⟨bo,0,none⟩) n n 1 (min c n:Nat) c ((hs.f.2.1).ok oM) ?_
  obtain ⟨bqt,cqt,sqt,eqt,hcqt,hWqt⟩:=(hs.f.2.2.1).at_ c oM
  refine eHe 11 46 (L.getD c undef) hs ((hs.f.2.1).el c oM) eqt ?_
  refine eD0 hs (fun w19 h20 hs=>?_)
  refine tX 12 47 (some ⟨bo,0,none⟩) n n 1 (min c n:Nat) c ((hs.f.2.1).ok oM) ?_
  have hWo4:=(hs.f.1)
  have hSp4:=(hs.f.2.2.1)
  replace hs:=hs.grab hWo4
  refine tW 13 0 L vc 1 c (.slice (some ⟨bqk,0,none⟩) (n+1) cqk:Value) hs oM (fun w21 hs=>?_)
  refine tX 14 48 (some ⟨bo,0,none⟩) n n 1 p k rfl ?_
  refine tW 15 0 (L.set c (.slice (some ⟨bqk,0,none⟩) (n+1) cqk:Value)) vc 1 k (.slice (some ⟨bqt,0,none⟩) (n+1) cqt:Value) hs (by rw[List.length_set];omega) (fun w22 hs=>?_)
  obtain ⟨hN1,hs,hlN,hcN,hoN⟩:=hs.pubY 0
  have hP:=Poked.of (b:=bo) hoN
  replace hs:=hs.to [⟨b1,98,[.slice none 0 0,.slice none 0 0]⟩] [⟨3,1,slA,slc,(ll).length,(ll).flatMap i64c⟩]
  have hSp5:=(hSp4.swap hLl hcn hk2 eqt eqk).poke hP (swap_ne hLl hcn hk2 eqt eqk hneo)
  have hneo2_:=swap_ne hLl hcn hk2 eqt eqk hneo
  have hWo5:Whole h.size hN1 bo 35 (((L.set c (.slice (some ⟨bqk,0,none⟩) (n+1) cqk:Value)).set k (.slice (some ⟨bqt,0,none⟩) (n+1) cqt:Value)).flatMap vc):=⟨hlN,by decide,hcN⟩
  have hLl2_:((L.set c (.slice (some ⟨bqk,0,none⟩) (n+1) cqk:Value)).set k (.slice (some ⟨bqt,0,none⟩) (n+1) cqt:Value)).length=n:=by rw[List.length_set,List.length_set];exact hLl
  obtain ⟨L2,hL2⟩:∃ L2,L2=((L.set c (.slice (some ⟨bqk,0,none⟩) (n+1) cqk:Value)).set k (.slice (some ⟨bqt,0,none⟩) (n+1) cqt:Value)):=⟨_,rfl⟩
  rw[←hL2] at hSp5 hneo2_ hWo5 hLl2_
  have hLl2:=hLl2_
  have hneo2:=hneo2_
  have hBo5:SlO 1 vc undef hN1 (some ⟨bo,0,none⟩) L2:=hWo5.seg_slo (fun _=>rfl)
  have htb_:Tab hN1:=htb0.gw hs.sgw
  replace hs:=hs.clear.add (K:=fun h_=>Tab h_) htb_
  replace hs:=hs.add (K:=fun h_=>Whole h.size h_ bo 35 (L2.flatMap vc)) hWo5
  replace hs:=hs.add (K:=fun h_=>SlO 1 vc undef h_ (some ⟨bo,0,none⟩) L2) hBo5
  replace hs:=hs.add (K:=fun h_=>SepQ h.size h_ L2 n (n+1) (swp M c k)) hSp5
  have hb8:eb c≤100000000:=by omega
  have hb8b:1+eb c≤100000000:=by omega
  have hd:LQ (1+eb c) (((1:Int):Rat)/(swp M c k) c c):=(LQ.lit (z:=1) kD:LQ 1 ((1:Int):Rat)).div (lq_swp hq1 c k c c)
  refine tN (CG.seq ?_)
  have hsr:=hs
  refine cR 13 [⟨12,9,.cells (List.toArray [.bool false,.int .u64 0,.string ⟨#[]⟩,.int .u64 0,.string ⟨#[]⟩]) 56 (0,0)⟩] mixed hs (al_cons (alOk kR (fun _ _=>by kernel_rfl)) al_nil) ?_
  refine eV 1 51 (.slice (some ⟨bo,0,none⟩) n n) ?_
  refine eV 2 52 (.int .i64 (min c n:Nat)) ?_
  refine eX 3 53 (some ⟨bo,0,none⟩) n n 1 (min c n:Nat) c ((hs.f.2.1).ok oM) ?_
  obtain ⟨bqT,cqT,sqT,eqT,hcqT,hWqT⟩:=(hs.f.1).at_ c oM
  refine eHe 4 54 (L2.getD c undef) hs ((hs.f.2.1).el c oM) eqT ?_
  refine eV 5 55 (.int .i64 (c:Nat)) ?_
  refine eX 6 56 (some ⟨bqT,0,none⟩) (n+1) cqT 5 (c:Nat) c rfl ?_
  obtain ⟨sT_,hWT_⟩:=(hs.f.1).atv hcn eqT
  have hRT_:SlO 5 qc 0 _ (some ⟨bqT,0,none⟩) (vec (n+1) ((swp M c k) c)):=hWT_.slo (fun _=>rfl)
  have hvT_:=vec_len (n+1) ((swp M c k) c)
  replace hs:=hs.a_SlO hRT_
  refine eHe 7 57 (qv ((vec (n+1) ((swp M c k) c)).getD c 0)) hs ((hs.f.1).el c oM) (show qv ((vec (n+1) ((swp M c k) c)).getD c 0)=qv ((swp M c k) c c) from congrArg qv (by rw[vec_get _ oM])) ?_
  refine eC 0 50 hs (fun _ _ hs=>fOf 1 oM oM _ _ hs.g) ?_
  rintro _ _ _ w23 h24 hs rfl
  refine eC 8 58 hs (fun _ _ hs=>fDivN ((1:Int):Rat) ((swp M c k) c c) (LQ.lit (z:=1) kD).up8 ((lq_swp hq1 c k c c).mono hb8) (fun e_=>hk3 (by have h_:=Rat.num_eq_zero.1 e_;rw[swp_a] at h_;exact h_)) _ _ hs.g (hs.f.2.2.2.2.1)) ?_
  rintro _ _ _ w25 h26 hs rfl
  refine eV 9 49 (.tuple #[qv (((1:Int):Rat)/(swp M c k) c c),.bool true]) ?_
  refine eV 10 59 (qv (((1:Int):Rat)/(swp M c k) c c)) ?_
  refine eV 11 60 (.bool true) ?_
  refine eD1p [] hsr hs 56 [.bool false,.int .u64 0,.string ⟨#[]⟩,.int .u64 0,.string ⟨#[]⟩] (fun w27 h28 b29 hs=>?_)
  refine tP 13 0 0 (qc (((1:Int):Rat)/(swp M c k) c c)) hs (fun w30 hs=>?_)
  refine tV 14 10 (.bool true) ?_
  refine tN (cTo [(2,.pointer (some ⟨b1,0,none⟩)),(3,.int .i64 0),(4,.slice (some ⟨bo,0,none⟩) n n),(23,.int .i64 ((n+1):Nat)),(24,.int .i64 (c:Nat)),(5,.slice slA ((ll).length) slc),(6,.int .i64 (c:Nat)),(7,.int .i64 (min c n:Nat)),(9,.pointer (some ⟨b29,0,none⟩))] ?_)
  refine CG.seq (cSL (lL hs [.m 61 4,.m 62 7] (lX 63 (some ⟨bo,0,none⟩) n n 1 (min c n:Nat) c ((hs.f.2.2.1).ok oM) ?_)))
  refine lHe 64 (L2.getD c undef) hs ((hs.f.2.2.1).el c oM) eqT ?_
  refine lL hs [.v 65 (.int .i64 ((n+1):Nat)),.v 66 (.int .i64 0)] ?_
  have hWo6:=(hs.f.2.2.2.1)
  have hBo6:=(hs.f.2.2.1)
  have hSp6:=(hs.f.2.1)
  have htb_:Tab h28:=htb0.gw hs.sgw
  replace hs:=hs.clear.add (K:=fun h_=>Tab h_) htb_
  refine lN (CG.block (cTo [(2,.pointer (some ⟨b1,0,none⟩)),(3,.int .i64 0),(4,.slice (some ⟨bo,0,none⟩) n n),(23,.int .i64 ((n+1):Nat)),(24,.int .i64 (c:Nat)),(5,.slice slA ((ll).length) slc),(6,.int .i64 (c:Nat)),(7,.int .i64 (min c n:Nat)),(9,.pointer (some ⟨b29,0,none⟩)),(64,.slice (some ⟨bqT,0,none⟩) (n+1) cqT),(65,.int .i64 ((n+1):Nat)),(66,.int .i64 0)] ?_))
  replace hs:=hs.add (K:=fun h_=>SepQ h.size h_ L2 n (n+1) (scl (swp M c k) c (((1:Int):Rat)/(swp M c k) c c) 0)) ((hSp6.congr (fun a_ k_=>by unfold scl;rw[if_neg (fun x_=>Nat.not_lt_zero _ x_.2)])))
  replace hs:=hs.add (K:=fun h_=>SlO 1 vc undef h_ (some ⟨bo,0,none⟩) L2) (hBo6)
  replace hs:=hs.add (K:=fun h_=>Whole h.size h_ bo 35 (L2.flatMap vc)) (hWo6)
  refine CG.loop (fun μ_ Γ w_=>∃ (j:Nat) (h_:Hp),μ_=n+1-j∧Γ=[(2,.pointer (some ⟨b1,0,none⟩)),(3,.int .i64 0),(4,.slice (some ⟨bo,0,none⟩) n n),(23,.int .i64 ((n+1):Nat)),(24,.int .i64 (c:Nat)),(5,.slice slA ((ll).length) slc),(6,.int .i64 (c:Nat)),(7,.int .i64 (min c n:Nat)),(9,.pointer (some ⟨b29,0,none⟩)),(64,.slice (some ⟨bqT,0,none⟩) (n+1) cqT),(65,.int .i64 ((n+1):Nat)),(66,.int .i64 (j:Nat))]∧SS w h w_ h_ [⟨b29,56,qc (((1:Int):Rat)/(swp M c k) c c)⟩,⟨b1,98,[.slice none 0 0,.slice none 0 0]⟩] [⟨3,1,slA,slc,(ll).length,(ll).flatMap i64c⟩] [fun h_=>Whole h.size h_ bo 35 (L2.flatMap vc),fun h_=>SlO 1 vc undef h_ (some ⟨bo,0,none⟩) L2,fun h_=>SepQ h.size h_ L2 n (n+1) (scl (swp M c k) c (((1:Int):Rat)/(swp M c k) c c) j),fun h_=>Tab h_]∧(j≤n+1)) _ ⟨0,h28,rfl,rfl,hs.to _ _,Nat.zero_le _⟩ ?_
  rintro _ _ w31 ⟨j,h32,hm33,rfl,hs,hj⟩
  refine cSL ?_
  cases hb34:(decide (((j:Nat):Int)<(((n+1):Nat):Int)))
  ·
   have phb34:=oF hb34
   refine lB 67 hb34 ?_
   refine lN (CG.seq (cIF (CG.exit ?_)))
   show CG _ _ _ _ _ _ _ _
   refine CG.seq (cSL (lL hs [.m 81 4,.v 82 (.int .i64 (n:Nat)),.v 83 (.int .i64 0)] ?_))
   have hjn:j=n+1:=by omega
   have hWo7:=(hs.f.1)
   have hBo7:=(hs.f.2.1)
   have hSp7:=(hs.f.2.2.1)
   rw[hjn] at hSp7
   have hqS:∀ i k_,LQ (2*eb c+1) ((scl (swp M c k) c (((1:Int):Rat)/(swp M c k) c c) (n+1)) i k_):=fun i k_=>(lq_scl (lq_swp hq1 c k) hd c (n+1) i k_).mono oM
   have htb_:Tab h32:=htb0.gw hs.sgw
   replace hs:=hs.clear.add (K:=fun h_=>Tab h_) htb_
   refine lN (CG.block (cTo [(2,.pointer (some ⟨b1,0,none⟩)),(3,.int .i64 0),(4,.slice (some ⟨bo,0,none⟩) n n),(23,.int .i64 ((n+1):Nat)),(24,.int .i64 (c:Nat)),(5,.slice slA ((ll).length) slc),(6,.int .i64 (c:Nat)),(7,.int .i64 (min c n:Nat)),(82,.int .i64 (n:Nat)),(83,.int .i64 0)] ?_))
   replace hs:=hs.add (K:=fun h_=>SepQ h.size h_ L2 n (n+1) (rdc (scl (swp M c k) c (((1:Int):Rat)/(swp M c k) c c) (n+1)) c c 0)) ((hSp7.congr (fun a_ k_=>by rw[rdc_row (fun x_=>Nat.not_lt_zero _ x_.1)])))
   replace hs:=hs.add (K:=fun h_=>SlO 1 vc undef h_ (some ⟨bo,0,none⟩) L2) (hBo7)
   replace hs:=hs.add (K:=fun h_=>Whole h.size h_ bo 35 (L2.flatMap vc)) (hWo7)
   refine CG.loop (fun μ_ Γ w_=>∃ (i:Nat) (h_:Hp),μ_=n-i∧Γ=[(2,.pointer (some ⟨b1,0,none⟩)),(3,.int .i64 0),(4,.slice (some ⟨bo,0,none⟩) n n),(23,.int .i64 ((n+1):Nat)),(24,.int .i64 (c:Nat)),(5,.slice slA ((ll).length) slc),(6,.int .i64 (c:Nat)),(7,.int .i64 (min c n:Nat)),(82,.int .i64 (n:Nat)),(83,.int .i64 (i:Nat))]∧SS w h w_ h_ [⟨b29,56,qc (((1:Int):Rat)/(swp M c k) c c)⟩,⟨b1,98,[.slice none 0 0,.slice none 0 0]⟩] [⟨3,1,slA,slc,(ll).length,(ll).flatMap i64c⟩] [fun h_=>Whole h.size h_ bo 35 (L2.flatMap vc),fun h_=>SlO 1 vc undef h_ (some ⟨bo,0,none⟩) L2,fun h_=>SepQ h.size h_ L2 n (n+1) (rdc (scl (swp M c k) c (((1:Int):Rat)/(swp M c k) c c) (n+1)) c c i),fun h_=>Tab h_]∧(i≤n)) _ ⟨0,h32,rfl,rfl,hs.to _ _,Nat.zero_le _⟩ ?_
   rintro _ _ w35 ⟨i,h36,hm37,rfl,hs,hi⟩
   refine cSL ?_
   cases hb38:(decide (((i:Nat):Int)<((n:Nat):Int)))
   ·
    have phb38:=oF hb38
    refine lB 84 hb38 ?_
    refine lN (CG.seq (cIF (CG.exit ?_)))
    show CG _ _ _ _ _ _ _ _
    refine CG.listed ?_
    have hin9:i=n:=by omega
    obtain ⟨M9,hM9⟩:∃ M9,M9=stp M c k c (n+1) n:=⟨_,rfl⟩
    have hSp8:SepQ h.size h36 L2 n (n+1) M9:=by rw[hM9];have q_:=(hs.f.2.2.1);rw[hin9] at q_;exact q_
    have hWo8:=(hs.f.1)
    have hBo8:=(hs.f.2.1)
    have hNS9:NS (n+1) n (aug n A0 b) M9:=by rw[hM9];exact hNS.stp hcn hk2 hk3
    have hEc9:Ech n M9 (min (c+1) n):=by rw[hM9,Nat.min_eq_left oM];exact hEc1.stp hcn oM oM hk2 hk3
    have hq9:∀ i k,LQ (eb (min (c+1) n)) (M9 i k):=by rw[hM9,Nat.min_eq_left oM];exact fun i k_=>(lq_rdc hqS c c n i k_).mono (by show _≤6*eb c+4;omega)
    have hll9:ll++[(c:Int)]=leads (min (c+1) n):=by rw[hll,Nat.min_eq_left oM,Nat.min_eq_left oM];exact leads_succ c
    have htb_:Tab h36:=htb0.gw hs.sgw
    replace hs:=hs.clear.add (K:=fun h_=>Tab h_) htb_
    replace hs:=hs.add (K:=fun h_=>SepQ h.size h_ L2 n (n+1) M9) hSp8
    replace hs:=hs.add (K:=fun h_=>SlO 1 vc undef h_ (some ⟨bo,0,none⟩) L2) hBo8
    replace hs:=hs.add (K:=fun h_=>Whole h.size h_ bo 35 (L2.flatMap vc)) hWo8
    refine lL hs [.m 106 5,.m 107 6] (lR 108 3 1 ([.int .i64 (c:Nat)]) hs (fun b39 w40 h41 hs=>?_))
    refine lY 109 0 3 1 slc slA ll i64c ((c:Nat):Int) 8 b39 (.int .i64 0) hs (hs.f.1) (fun A43 c44 w45 h46 hs=>?_)
    refine lL hs [.m 5 109] (lN (CG.listed (lIn 110 ((c:Nat)+1) (c+1) ?_)))
    refine lL hs [.m 24 110] (lD ?_)
    intro a_ ka
    have q48:Whole h.size h46 bo 35 (L2.flatMap vc):=(hs.f.2.1)
    have q49:SlO 1 vc undef h46 (some ⟨bo,0,none⟩) L2:=(hs.f.2.2.1)
    have q50:SepQ h.size h46 L2 n (n+1) M9:=(hs.f.2.2.2.1)
    have q51:(c+1)≤n+1:=oM
    have q52:(ll++[((c:Nat):Int)])=leads (min (c+1) n):=hll9
    have q53:L2.length=n:=hLl2
    have q54:∀ i,i<n→slB (L2.getD i undef)≠bo:=hneo2
    have q55:NS (n+1) n (aug n A0 b) M9:=hNS9
    have q56:Ech n M9 (min (c+1) n):=hEc9
    have q57:∀ i k,LQ (eb (min (c+1) n)) (M9 i k):=hq9
    replace hs:=(((hs.tl.tl.tl.tl.add (K:=fun h_=>SepQ h.size h_ L2 n (n+1) M9) q50).add (K:=fun h_=>SlO 1 vc undef h_ (some ⟨bo,0,none⟩) L2) q49).add (K:=fun h_=>Whole h.size h_ bo 35 (L2.flatMap vc)) q48)
    replace hs:=hs.drop 1 0
    refine ⟨_,_,?_,⟨c+1,A43,c44,ll++[((c:Nat):Int)],L2,M9,h46,rfl,rfl,hs.to _ _,q51,q52,q53,q54,q55,q56,q57⟩,ka.to [(2,.pointer (some ⟨b1,0,none⟩)),(3,.int .i64 0),(4,.slice (some ⟨bo,0,none⟩) n n),(23,.int .i64 ((n+1):Nat)),(24,.int .i64 ((c+1):Nat)),(5,.slice A43 (((ll++[((c:Nat):Int)])).length) c44)] kR⟩
    omega
   have phb38:=oT hb38
   refine lB 84 hb38 ?_
   refine lN (CG.seq (cIT (CG.skipN (CG.seq (CG.block (cSL (lL hs [.m 85 83,.m 13 85] (lNS (lL hs [.m 86 13,.m 87 7] ?_)))))))))
   cases hb58:(((i:Nat):Int) != ((min c n:Nat):Int))
   ·
    have phb58:=eqOfBne hb58
    refine lB 88 hb58 ?_
    refine lN (cIF (CG.skipN (CG.listed (lIn 105 ((i:Nat)+1) (i+1) ?_))))
    refine lL hs [.m 83 105] (lD ?_)
    intro a_ ka
    have q59:Whole h.size h36 bo 35 (L2.flatMap vc):=(hs.f.1)
    have q60:SlO 1 vc undef h36 (some ⟨bo,0,none⟩) L2:=(hs.f.2.1)
    have q61:SepQ h.size h36 L2 n (n+1) (rdc (scl (swp M c k) c (((1:Int):Rat)/(swp M c k) c c) (n+1)) c c (i+1)):=((hs.f.2.2.1).congr2 (fun a_ ha_=>rdc_skip oM))
    have q62:(i+1)≤n:=by omega
    replace hs:=(((hs.tl.tl.tl.add (K:=fun h_=>SepQ h.size h_ L2 n (n+1) (rdc (scl (swp M c k) c (((1:Int):Rat)/(swp M c k) c c) (n+1)) c c (i+1))) q61).add (K:=fun h_=>SlO 1 vc undef h_ (some ⟨bo,0,none⟩) L2) q60).add (K:=fun h_=>Whole h.size h_ bo 35 (L2.flatMap vc)) q59)
    refine ⟨_,_,?_,⟨i+1,h36,rfl,rfl,hs.to _ _,q62⟩,ka.to [(2,.pointer (some ⟨b1,0,none⟩)),(3,.int .i64 0),(4,.slice (some ⟨bo,0,none⟩) n n),(23,.int .i64 ((n+1):Nat)),(24,.int .i64 (c:Nat)),(5,.slice slA ((ll).length) slc),(6,.int .i64 (c:Nat)),(7,.int .i64 (min c n:Nat)),(82,.int .i64 (n:Nat)),(83,.int .i64 ((i+1):Nat))] kR⟩
    omega
   have phb58:=neOfBne hb58
   refine lB 88 hb58 ?_
   refine lN (cIT ?_)
   have hin:i<n:=by omega
   obtain ⟨bi,ci,si,ei,hci,hWi0⟩:=(hs.f.2.2.1).at_ i hin
   obtain ⟨sT_,hWT0⟩:=(hs.f.2.2.1).atv hcn eqT
   have hRi0:SlO 5 qc 0 _ (some ⟨bi,0,none⟩) (vec (n+1) ((rdc (scl (swp M c k) c (((1:Int):Rat)/(swp M c k) c c) (n+1)) c c i) i)):=hWi0.slo (fun _=>rfl)
   have hRc0:SlO 5 qc 0 _ (some ⟨bqT,0,none⟩) (vec (n+1) ((rdc (scl (swp M c k) c (((1:Int):Rat)/(swp M c k) c c) (n+1)) c c i) c)):=hWT0.slo (fun _=>rfl)
   have hvi_:=vec_len (n+1) ((rdc (scl (swp M c k) c (((1:Int):Rat)/(swp M c k) c c) (n+1)) c c i) i)
   have hvc_:=vec_len (n+1) ((rdc (scl (swp M c k) c (((1:Int):Rat)/(swp M c k) c c) (n+1)) c c i) c)
   have hltb:=lt_of_some ((hs.f.1)).at_
   have hic:i≠c:=by omega
   replace hs:=hs.add (K:=fun h_=>Whole h.size h_ bi 56 ((vec (n+1) ((rdc (scl (swp M c k) c (((1:Int):Rat)/(swp M c k) c c) (n+1)) c c i) i)).flatMap qc++si)) hWi0
   replace hs:=hs.a_SlO hRi0
   replace hs:=hs.a_SlO hRc0
   replace hs:=hs.add (K:=fun h_=>SzLe h36.size h_) (Nat.le_refl _:SzLe h36.size h36)
   have hsr:=hs
   refine cRz 15 [] [bi] mixed hs al_nil ?_
   refine eV 0 89 (.slice (some ⟨bo,0,none⟩) n n) ?_
   refine eV 1 90 (.int .i64 (i:Nat)) ?_
   refine eX 2 91 (some ⟨bo,0,none⟩) n n 1 (i:Nat) i ((hs.f.2.2.2.2.2.1).ok oM) ?_
   refine eHe 3 92 (L2.getD i undef) hs ((hs.f.2.2.2.2.2.1).el i oM) ei ?_
   refine eV 4 93 (.slice (some ⟨bo,0,none⟩) n n) ?_
   refine eV 5 94 (.int .i64 (min c n:Nat)) ?_
   refine eX 6 95 (some ⟨bo,0,none⟩) n n 1 (min c n:Nat) c ((hs.f.2.2.2.2.2.1).ok oM) ?_
   refine eHe 7 96 (L2.getD c undef) hs ((hs.f.2.2.2.2.2.1).el c oM) eqT ?_
   refine eV 8 97 (.slice (some ⟨bo,0,none⟩) n n) ?_
   refine eV 9 98 (.int .i64 (i:Nat)) ?_
   refine eX 10 99 (some ⟨bo,0,none⟩) n n 1 (i:Nat) i ((hs.f.2.2.2.2.2.1).ok oM) ?_
   refine eHze 11 100 (L2.getD i undef) hs ((hs.f.2.2.2.2.2.1).el i oM) ei hltb ?_ (hM:=fun h_=>hneo2 i hin (by rw[ei];exact (List.mem_singleton.1 h_).symm))
   refine eV 12 101 (.int .i64 (c:Nat)) ?_
   refine eX 13 102 (some ⟨bi,0,none⟩) (n+1) ci 5 (c:Nat) c rfl ?_
   refine eHe 14 103 (qv ((vec (n+1) ((rdc (scl (swp M c k) c (((1:Int):Rat)/(swp M c k) c c) (n+1)) c c i) i)).getD c 0)) hs ((hs.f.2.2.1).el c oM) (show qv ((vec (n+1) ((rdc (scl (swp M c k) c (((1:Int):Rat)/(swp M c k) c c) (n+1)) c c i) i)).getD c 0)=qv ((rdc (scl (swp M c k) c (((1:Int):Rat)/(swp M c k) c c) (n+1)) c c i) i c) from congrArg qv (by rw[vec_get _ oM])) ?_
   refine eD0 hs (fun w63 h64 hs=>?_)
   have hWi_:=(hs.f.2.2.2.1)
   have hWo4:=(hs.f.2.2.2.2.1)
   have hSp4:=(hs.f.2.2.2.2.2.2.1)
   have hRc_:=(hs.f.2.1)
   have hZl_:=(hs.f.1)
   have hbne:bqT≠bi:=fun e_=>hic ((hSp4.inj hin hcn (by rw[ei,eqT];exact e_.symm)))
   have hDt:=(Poked.grab h64 bi).slo (A:=some ⟨bqT,0,none⟩) hbne hRc_
   replace hs:=hs.grab hWi_
   have htb_:Tab _:=htb0.gw hs.sgw
   have hszw:h36.size≤w63.heap.size:=by have h_:=hs.g.size;rw[Array.size_setIfInBounds] at h_;rw[h_];exact hZl_
   refine tCm 15 104 (eReduce bi ci (n+1) ((rdc (scl (swp M c k) c (((1:Int):Rat)/(swp M c k) c c) (n+1)) c c i) i) si (some ⟨bqT,0,none⟩) cqT ((rdc (scl (swp M c k) c (((1:Int):Rat)/(swp M c k) c c) (n+1)) c c i) c) ((rdc (scl (swp M c k) c (((1:Int):Rat)/(swp M c k) c c) (n+1)) c c i) i c) oM hci (6*eb c+4) oM (fun k_=>(lq_rdc hqS c c i i k_).mono oM) (fun k_=>(lq_rdc hqS c c i c k_).mono oM) ((lq_rdc hqS c c i i c).mono oM) _ _ hs.g (hs.own 0) (hs.jk 0) hDt htb_) hszw ?_
   rintro _ w65 h66 u68 hO_
   replace hs:=hs.stepM 0 u68 hO_
   obtain ⟨hN67,hs,hlN,hcN,hoN⟩:=hs.pubY 0
   have hP:=Poked.via (b:=bi) u68.gr hoN
   replace hs:=hs.to [⟨b29,56,qc (((1:Int):Rat)/(swp M c k) c c)⟩,⟨b1,98,[.slice none 0 0,.slice none 0 0]⟩] [⟨3,1,slA,slc,(ll).length,(ll).flatMap i64c⟩]
   have hnT_:bo≠bi:=fun e_=>hneo2 i hin (by rw[ei];exact e_.symm)
   have hWo5:=hWo4.poke hP hnT_
   have hBo5:SlO 1 vc undef hN67 (some ⟨bo,0,none⟩) L2:=hWo5.seg_slo (fun _=>rfl)
   have hcN2:Whole h.size hN67 bi 56 ((vec (n+1) ((rdc (scl (swp M c k) c (((1:Int):Rat)/(swp M c k) c c) (n+1)) c c (i+1)) i)).flatMap qc++si):=⟨hlN,by decide,by rw[rdc_vec hic];exact hcN⟩
   have hSp5:SepQ h.size hN67 L2 n (n+1) (rdc (scl (swp M c k) c (((1:Int):Rat)/(swp M c k) c c) (n+1)) c c (i+1)):=hSp4.upd hin ei hP hcN2 (fun a_ ha_ k_=>rdc_oth ha_ k_)
   have htb_:Tab hN67:=htb0.gw hs.sgw
   replace hs:=hs.clear.add (K:=fun h_=>Tab h_) htb_
   replace hs:=hs.add (K:=fun h_=>SepQ h.size h_ L2 n (n+1) (rdc (scl (swp M c k) c (((1:Int):Rat)/(swp M c k) c c) (n+1)) c c (i+1))) hSp5
   replace hs:=hs.add (K:=fun h_=>SlO 1 vc undef h_ (some ⟨bo,0,none⟩) L2) hBo5
   replace hs:=hs.add (K:=fun h_=>Whole h.size h_ bo 35 (L2.flatMap vc)) hWo5
   refine tN (CG.listed (lIn 105 ((i:Nat)+1) (i+1) ?_))
   refine lL hs [.m 83 105] (lD ?_)
   intro a_ ka
   have q69:Whole h.size hN67 bo 35 (L2.flatMap vc):=(hs.f.1)
   have q70:SlO 1 vc undef hN67 (some ⟨bo,0,none⟩) L2:=(hs.f.2.1)
   have q71:SepQ h.size hN67 L2 n (n+1) (rdc (scl (swp M c k) c (((1:Int):Rat)/(swp M c k) c c) (n+1)) c c (i+1)):=(hs.f.2.2.1)
   have q72:(i+1)≤n:=by omega
   replace hs:=(((hs.tl.tl.tl.add (K:=fun h_=>SepQ h.size h_ L2 n (n+1) (rdc (scl (swp M c k) c (((1:Int):Rat)/(swp M c k) c c) (n+1)) c c (i+1))) q71).add (K:=fun h_=>SlO 1 vc undef h_ (some ⟨bo,0,none⟩) L2) q70).add (K:=fun h_=>Whole h.size h_ bo 35 (L2.flatMap vc)) q69)
   refine ⟨_,_,?_,⟨i+1,hN67,rfl,rfl,hs.to _ _,q72⟩,ka.to [(2,.pointer (some ⟨b1,0,none⟩)),(3,.int .i64 0),(4,.slice (some ⟨bo,0,none⟩) n n),(23,.int .i64 ((n+1):Nat)),(24,.int .i64 (c:Nat)),(5,.slice slA ((ll).length) slc),(6,.int .i64 (c:Nat)),(7,.int .i64 (min c n:Nat)),(82,.int .i64 (n:Nat)),(83,.int .i64 ((i+1):Nat))] kR⟩
   omega
  have phb34:=oT hb34
  refine lB 67 hb34 ?_
  refine lN (CG.seq (cIT (CG.skipN (CG.seq (CG.block (cSL (lL hs [.m 68 66] (lX 69 (some ⟨bqT,0,none⟩) (n+1) cqT 5 (j:Nat) j rfl ?_))))))))
  obtain ⟨sT_,hWT_⟩:=(hs.f.2.2.1).atv hcn eqT
  have hRT_:SlO 5 qc 0 _ (some ⟨bqT,0,none⟩) (vec (n+1) ((scl (swp M c k) c (((1:Int):Rat)/(swp M c k) c c) j) c)):=hWT_.slo (fun _=>rfl)
  have hvT_:=vec_len (n+1) ((scl (swp M c k) c (((1:Int):Rat)/(swp M c k) c c) j) c)
  replace hs:=hs.a_SlO hRT_
  refine lHe 70 (qv ((vec (n+1) ((scl (swp M c k) c (((1:Int):Rat)/(swp M c k) c c) j) c)).getD j 0)) hs ((hs.f.1).el j oM) (show qv ((vec (n+1) ((scl (swp M c k) c (((1:Int):Rat)/(swp M c k) c c) j) c)).getD j 0)=qv ((swp M c k) c j) from congrArg qv (by rw[vec_get _ oM];exact scl_at _ _ _ _)) ?_
  refine lA 12 56 ([.bool false,.int .u64 0,.string ⟨#[]⟩,.int .u64 0,.string ⟨#[]⟩]) hs (fun b73 w74 h75 hs=>?_)
  refine lL hs [.m 11 68] (lP 0 0 (qc ((swp M c k) c j)) hs (fun w76 hs=>?_))
  refine lN (cR 8 [] mixed hs al_nil ?_)
  refine eV 0 71 (.slice (some ⟨bo,0,none⟩) n n) ?_
  refine eV 1 72 (.int .i64 (min c n:Nat)) ?_
  refine eX 2 73 (some ⟨bo,0,none⟩) n n 1 (min c n:Nat) c ((hs.f.2.2.1).ok oM) ?_
  refine eHe 3 74 (L2.getD c undef) hs ((hs.f.2.2.1).el c oM) eqT ?_
  refine eV 4 75 (.int .i64 (j:Nat)) ?_
  refine eO 5 76 [(0,0,5)] (qv ((swp M c k) c j)) hs ?_
  refine eO 6 77 [(1,0,5)] (qv (((1:Int):Rat)/(swp M c k) c c)) hs ?_
  refine eC 7 78 hs (fun _ _ hs=>fMul ((swp M c k) c j) (((1:Int):Rat)/(swp M c k) c c) ((lq_swp hq1 c k c j).mono hb8) (hd.mono hb8b) _ _ hs.g (hs.f.2.2.2.2.1)) ?_
  rintro _ _ _ w77 h78 hs rfl
  refine eD0 hs (fun w79 h80 hs=>?_)
  refine tX 8 79 (some ⟨bqT,0,none⟩) (n+1) cqT 5 (j:Nat) j rfl ?_
  obtain ⟨sT_,hWT_⟩:=(hs.f.2.2.2.1).atv hcn eqT
  have hWo4:=(hs.f.2.1)
  have hSp4:=(hs.f.2.2.2.1)
  have hvT_:=vec_len (n+1) ((scl (swp M c k) c (((1:Int):Rat)/(swp M c k) c c) j) c)
  replace hs:=hs.grab hWT_
  refine tWs 9 0 (vec (n+1) ((scl (swp M c k) c (((1:Int):Rat)/(swp M c k) c c) j) c)) qc 5 j ((swp M c k) c j*(((1:Int):Rat)/(swp M c k) c c)) sT_ hs oM (fun w81 hs=>?_)
  obtain ⟨hN82,hs,hlN,hcN,hoN⟩:=hs.pubY 0
  have hP:=Poked.of (b:=bqT) hoN
  replace hs:=hs.to [⟨b73,56,qc ((swp M c k) c j)⟩,⟨b29,56,qc (((1:Int):Rat)/(swp M c k) c c)⟩,⟨b1,98,[.slice none 0 0,.slice none 0 0]⟩] [⟨3,1,slA,slc,(ll).length,(ll).flatMap i64c⟩]
  have hnT_:bo≠bqT:=fun e_=>hneo2 c hcn (by rw[eqT];exact e_.symm)
  have hWo5:=hWo4.poke hP hnT_
  have hBo5:SlO 1 vc undef hN82 (some ⟨bo,0,none⟩) L2:=hWo5.seg_slo (fun _=>rfl)
  have hcN2:Whole h.size hN82 bqT 56 ((vec (n+1) ((scl (swp M c k) c (((1:Int):Rat)/(swp M c k) c c) (j+1)) c)).flatMap qc++sT_):=⟨hlN,by decide,by rw[←scl_set _ _ _ oM];exact hcN⟩
  have hSp5:SepQ h.size hN82 L2 n (n+1) (scl (swp M c k) c (((1:Int):Rat)/(swp M c k) c c) (j+1)):=hSp4.upd hcn eqT hP hcN2 (fun a_ ha_ k_=>by unfold scl;rw[if_neg (fun x_=>ha_ x_.1),if_neg (fun x_=>ha_ x_.1)])
  have htb_:Tab hN82:=htb0.gw hs.sgw
  replace hs:=hs.clear.add (K:=fun h_=>Tab h_) htb_
  replace hs:=hs.add (K:=fun h_=>SepQ h.size h_ L2 n (n+1) (scl (swp M c k) c (((1:Int):Rat)/(swp M c k) c c) (j+1))) hSp5
  replace hs:=hs.add (K:=fun h_=>SlO 1 vc undef h_ (some ⟨bo,0,none⟩) L2) hBo5
  replace hs:=hs.add (K:=fun h_=>Whole h.size h_ bo 35 (L2.flatMap vc)) hWo5
  refine tN (CG.listed (lIn 80 ((j:Nat)+1) (j+1) ?_))
  refine lL hs [.m 66 80] (lD ?_)
  intro a_ ka
  have q83:Whole h.size hN82 bo 35 (L2.flatMap vc):=(hs.f.1)
  have q84:SlO 1 vc undef hN82 (some ⟨bo,0,none⟩) L2:=(hs.f.2.1)
  have q85:SepQ h.size hN82 L2 n (n+1) (scl (swp M c k) c (((1:Int):Rat)/(swp M c k) c c) (j+1)):=(hs.f.2.2.1)
  have q86:(j+1)≤n+1:=by omega
  replace hs:=(((hs.tl.tl.tl.add (K:=fun h_=>SepQ h.size h_ L2 n (n+1) (scl (swp M c k) c (((1:Int):Rat)/(swp M c k) c c) (j+1))) q85).add (K:=fun h_=>SlO 1 vc undef h_ (some ⟨bo,0,none⟩) L2) q84).add (K:=fun h_=>Whole h.size h_ bo 35 (L2.flatMap vc)) q83)
  replace hs:=hs.drop 1 0
  refine ⟨_,_,?_,⟨j+1,hN82,rfl,rfl,hs.to _ _,q86⟩,ka.to [(2,.pointer (some ⟨b1,0,none⟩)),(3,.int .i64 0),(4,.slice (some ⟨bo,0,none⟩) n n),(23,.int .i64 ((n+1):Nat)),(24,.int .i64 (c:Nat)),(5,.slice slA ((ll).length) slc),(6,.int .i64 (c:Nat)),(7,.int .i64 (min c n:Nat)),(9,.pointer (some ⟨b29,0,none⟩)),(64,.slice (some ⟨bqT,0,none⟩) (n+1) cqT),(65,.int .i64 ((n+1):Nat)),(66,.int .i64 ((j+1):Nat))] kR⟩
  omega
 have phb18:=oT hb18
 refine lB 34 hb18 ?_
 refine lN (cIT (CG.exit ?_))
 show CG _ _ _ _ _ _ _ _
 refine CG.listed ?_
 have hcn:c=n:=col_end hR hNS hEc (by clear hp;omega) hp (by clear hp;omega)
 clear hp
 have hmin_:min c n=min (c+1) n:=by omega
 refine lIn 110 ((c:Nat)+1) (c+1) ?_
 refine lL hs [.m 24 110] (lD ?_)
 intro a_ ka
 have q87:Whole h.size h17 bo 35 (L.flatMap vc):=(hs.f.1)
 have q88:SlO 1 vc undef h17 (some ⟨bo,0,none⟩) L:=(hs.f.2.1)
 have q89:SepQ h.size h17 L n (n+1) M:=(hs.f.2.2.1)
 have q90:(c+1)≤n+1:=oM
 have q91:ll=leads (min (c+1) n):=(by rw[hll,hmin_])
 have q92:L.length=n:=hLl
 have q93:∀ i,i<n→slB (L.getD i undef)≠bo:=hneo
 have q94:NS (n+1) n (aug n A0 b) M:=hNS
 have q95:Ech n M (min (c+1) n):=(by rw[←hmin_];exact hEc)
 have q96:∀ i k,LQ (eb (min (c+1) n)) (M i k):=(by rw[←hmin_];exact hq)
 replace hs:=(((hs.tl.tl.tl.add (K:=fun h_=>SepQ h.size h_ L n (n+1) M) q89).add (K:=fun h_=>SlO 1 vc undef h_ (some ⟨bo,0,none⟩) L) q88).add (K:=fun h_=>Whole h.size h_ bo 35 (L.flatMap vc)) q87)
 refine ⟨_,_,?_,⟨c+1,slA,slc,ll,L,M,h17,rfl,rfl,hs.to _ _,q90,q91,q92,q93,q94,q95,q96⟩,ka.to [(2,.pointer (some ⟨b1,0,none⟩)),(3,.int .i64 0),(4,.slice (some ⟨bo,0,none⟩) n n),(23,.int .i64 ((n+1):Nat)),(24,.int .i64 ((c+1):Nat)),(5,.slice slA ((ll).length) slc)] kR⟩
 omega
theorem tup3_len {A:Option Addr}{c a b:Nat}{x y:Value}(h:a=b):Value.tuple #[.slice A a c,x,y]=.tuple #[.slice A b c,x,y]:=by rw[h]
theorem eColumnL (n:Nat)(hn9:n≤1000)(X:Option Addr)(cX:Nat)(b:Nat→Rat)(bl:List Rat)(hb:bl=vec n b)(hnc:n≤cX)(w:World)(h:Hp)(g:G w h)(hX:SlO 5 qc 0 h X bl):Calls Tryz.prog 52 #[.slice X bl.length cX] w (Ret w h fun v h1=>∃ A,∃ us:List Value,v=.slice A n n∧SlO 1 vc undef h1 A us∧QVs h1 us (matp 1 n (fun i_ _=>b i_))):=by
  subst hb
  exact eColumn n hn9 X cX b hnc w h g hX
theorem eBesideN (n:Nat)(A:Option Addr)(cap:Nat)(us:List Value)(M:Mtx)(D:Option Addr)(capD:Nat)(vs:List Value)(b:Nat→Rat)(hn9:n≤1000)(h0:0<n)(w:World)(h:Hp)(g:G w h)(hA:SlO 1 vc undef h A us)(hU:QVs h us (matp n n M))(hD:SlO 1 vc undef h D vs)(hUb:QVs h vs (matp 1 n (fun i_ _=>b i_))) :
    Calls Tryz.prog 51 #[.slice A us.length cap,.slice D n capD] w (Ret w h fun v h1=>∃ A,∃ us:List Value,v=.slice A n n∧SlO 1 vc undef h1 A us∧QVs h1 us (matp (n+1) n (aug n M b))):=by
  have hl:=hUb.len
  rw[matp_len] at hl
  have x:=eBeside n n hn9 h0 hn9 A cap us M D capD vs b w h g hA hU hD hUb
  rw[hl] at x
  exact x
theorem eReduceN (n:Nat)(h0n:0<n)(hn4:n≤4)(A0:Mtx)(b:Nat→Rat)(hR:Reg n A0)(hK0:∀ i k,LQ 3 (aug n A0 b i k))(A:Option Addr)(cap:Nat)(us:List Value)(w:World)(h:Hp)(g:G w h)(hA:SlO 1 vc undef h A us)(hU:QVs h us (matp (n+1) n (aug n A0 b)))(tb:Tab h) :
    Calls Tryz.prog 50 #[.slice A n cap] w (Ret w h fun v h1=>∃ (bo:Nat) (us:List Value) (A2:Option Addr) (c2:Nat) (M:Mtx),v=.tuple #[.agg #[.slice (some ⟨bo,0,none⟩) n n,.slice A2 (leads n).length c2],.int .i64 0]∧(leads n).length≤c2∧SlO 1 i64c 0 h1 A2 (leads n)∧SlO 1 vc undef h1 (some ⟨bo,0,none⟩) us∧QVs h1 us (matp (n+1) n M)∧NS (n+1) n (aug n A0 b) M∧Ech n M n∧∀ i k,LQ 100000 (M i k)):=by
  have hl:=hU.len
  rw[matp_len] at hl
  have x:=eReduceAll n h0n hn4 A0 b hR hK0 A cap us w h g hA hU tb
  rw[hl] at x
  refine x.mono ?_
  rintro _ w' ⟨v,h',rfl,u,bo,us',A2,c2,ll,M,k1,k2,k3,rfl,k5⟩
  exact ⟨v,h',rfl,u,bo,us',A2,c2,M,k1,k2,k3,k5⟩
theorem eKernel (n bo:Nat)(A2:Option Addr)(c2:Nat)(hn4:n≤1000)(w:World)(h:Hp)(g:G w h)(hL:SlO 1 i64c 0 h A2 (leads n)) :
    Calls Tryz.prog 53 #[.agg #[.slice (some ⟨bo,0,none⟩) n n,.slice A2 ((leads n).length) c2],.int .i64 (n:Nat)] w (Ret w h fun v _=>v=.slice none 0 0):=by
 have hs:=SS.start g
 replace hs:=(hs.a_SlO hL)
 have hll:=leads_len n
 refine go Tryz.func53 [(0,.agg #[.slice (some ⟨bo,0,none⟩) n n,.slice A2 ((leads n).length) c2]),(1,.int .i64 (n:Nat))] rfl ?_
 refine cSL (lA 2 98 ([.slice (some ⟨bo,0,none⟩) n n,.slice A2 ((leads n).length) c2]) hs (fun b1 w2 h3 hs=>?_))
 refine lL hs [.v 4 (.slice none 0 0)] (lNS (lL hs [.v 5 (.slice none 0 0)] (lNS (lL hs [.v 6 (.int .i64 0)] (lN (CG.seq (cSL (lL hs [.m 11 1,.v 12 (.int .i64 0)] (lN (CG.block (cTo [(1,.int .i64 (n:Nat)),(2,.pointer (some ⟨b1,0,none⟩)),(4,.slice none 0 0),(11,.int .i64 (n:Nat)),(12,.int .i64 0),(6,.int .i64 0),(5,.slice none 0 0)] ?_)))))))))))
 refine CG.loop (fun μ_ Γ w_=>∃ (k:Nat) (h_:Hp),μ_=n-k∧Γ=[(1,.int .i64 (n:Nat)),(2,.pointer (some ⟨b1,0,none⟩)),(4,.slice none 0 0),(11,.int .i64 (n:Nat)),(12,.int .i64 (k:Nat)),(6,.int .i64 (k:Nat)),(5,.slice none 0 0)]∧SS w h w_ h_ [⟨b1,98,[.slice (some ⟨bo,0,none⟩) n n,.slice A2 ((leads n).length) c2]⟩] [] [fun h_=>SlO 1 i64c 0 h_ A2 (leads n)]∧(k≤n)) _ ⟨0,h3,rfl,rfl,hs.to _ _,Nat.zero_le _⟩ ?_
 rintro _ _ w4 ⟨k,h5,hm6,rfl,hs,hk⟩
 refine cSL ?_
 cases hb7:(decide (((k:Nat):Int)<((n:Nat):Int)))
 ·
  have phb7:=oF hb7
  refine lB 13 hb7 ?_
  refine lN (CG.seq (cIF (CG.exit ?_)))
  show CG _ _ _ _ _ _ _ _
  exact cSL (lL hs [.m 63 5,.m 4 63] (lN (CG.ret (hs.ret [] (.slice none 0 0) rfl))))
 have phb7:=oT hb7
 refine lB 13 hb7 ?_
 refine lN (CG.seq (cIT (CG.skipN (CG.seq (CG.block (cSL (lL hs [.m 14 12,.m 7 14] (lN (CG.seq (cSL (lL hs [.m 15 6,.v 16 (.pointer (some ⟨b1,1,none⟩)),.o 17 (.slice A2 ((leads n).length) c2) 0 1 1,.v 18 (.int .i64 ((leads n).length:Nat))] ?_)))))))))))
 have ⟨hb8,phb8⟩:=dT (p:=((k:Nat):Int)<(((leads n).length:Nat):Int)) oM
 refine lB 19 hb8 ?_
 refine lL hs [.m 20 19,.v 21 (.pointer (some ⟨b1,1,none⟩)),.o 22 (.slice A2 ((leads n).length) c2) 0 1 1,.m 23 6] (lX 24 A2 ((leads n).length) c2 1 (k:Nat) k ((hs.f.1).ok oM) ?_)
 refine lHe 25 (.int .i64 ((leads n).getD k 0)) hs ((hs.f.1).el k oM) (show Value.int .i64 ((leads n).getD k 0)=.int .i64 ((k:Nat):Int) by rw[leads_get oM]) ?_
 refine lL hs [.m 26 7] ?_
 have hb9:(((k:Nat):Int) == ((k:Nat):Int))=true:=beqT oM
 have phb9:=eq_of_beq hb9
 refine lB 27 hb9 ?_
 refine lL hs [.v 28 (.bool true)] (lN (cIT (cSL (lL hs [.m 29 6] (lIn 30 ((k:Nat)+1) (k+1) ?_)))))
 refine lL hs [.m 6 30] (lN (CG.exit ?_))
 show CG _ _ _ _ _ _ _ _
 refine CG.listed (lIn 62 ((k:Nat)+1) (k+1) ?_)
 refine lL hs [.m 12 62] (lD ?_)
 intro a_ ka
 have q10:(k+1)≤n:=by omega
 refine ⟨_,_,?_,⟨k+1,h5,rfl,rfl,hs.to _ _,q10⟩,ka.to [(1,.int .i64 (n:Nat)),(2,.pointer (some ⟨b1,0,none⟩)),(4,.slice none 0 0),(11,.int .i64 (n:Nat)),(12,.int .i64 ((k+1):Nat)),(6,.int .i64 ((k+1):Nat)),(5,.slice none 0 0)] kR⟩
 omega
theorem eSolve (n:Nat)(h0n:0<n)(hn4:n≤4)(A0:Mtx)(b:Nat→Rat)(hR:Reg n A0)(hK0:∀ i k,LQ 3 (aug n A0 b i k))(A:Option Addr)(cap:Nat)(us:List Value)(D:Option Addr)(cD:Nat)(bl:List Rat)(hbl:bl=vec n b)(hcD:n≤cD)(w:World)(h:Hp)(g:G w h)(hA:SlO 1 vc undef h A us)(hUA0:QVs h us (matp n n A0))(hD:SlO 5 qc 0 h D bl)(tb:Tab h) :
    Calls Tryz.prog 14 #[.slice A us.length cap,.slice D bl.length cD] w (Ret w h fun v h1=>∃ A c s,v=.tuple #[.slice A (vec n s).length c,.slice none 0 0,.int .i64 0]∧(vec n s).length≤c∧SlO 5 qc 0 h1 A (vec n s)∧(∀ i,i<n→mv n A0 s i=b i)∧∀ i,LQ 100000 (s i)):=by
 have hs:=SS.start g
 replace hs:=((((hs.a_SlO hA).add (K:=fun h_=>QVs h_ us (matp n n A0)) hUA0).a_SlO hD).add (K:=fun h_=>Tab h_) tb)
 have hlu:=(hs.f.2.2.1).len
 rw[matp_len] at hlu
 have hblen:bl.length=n:=by rw[hbl,vec_len]
 have hll:=leads_len n
 refine go Tryz.func14 [(0,.slice A us.length cap),(1,.slice D bl.length cD)] rfl ?_
 refine cSL (lL hs [.v 4 (.slice none 0 0),.v 5 (.slice none 0 0),.v 6 (.int .i64 0)] (lN (CG.seq (cSL (lL hs [.m 13 0] (lC 14 hs (mRightT A cap us (matp n n A0) (by rw[matp_len];omega) (fun i hi=>by rw[matp_len] at hi;rw[matp_row _ hi,vec_len];omega) (matp_right A0 h0n oM) _ _ hs.g (hs.f.2.2.2.1) (hs.f.2.2.1)) ?_))))))
 rintro _ w1 h2 hs rfl
 refine lL hs [.v 15 (.bool false),.m 16 15,.m 17 0,.v 18 (.int .i64 (us.length:Nat)),.m 19 1,.v 20 (.int .i64 (bl.length:Nat))] ?_
 have hb3:(((us.length:Nat):Int) != ((bl.length:Nat):Int))=false:=bneF oM
 have phb3:=eqOfBne hb3
 refine lB 21 hb3 ?_
 refine lL hs [.v 22 (.bool false)] (lN (cIF (CG.skipN (cSL (lL hs [.m 23 0] (lX 24 A us.length cap 1 0 0 ((hs.f.2.2.2.1).ok oM) ?_))))))
 obtain ⟨Arz,crz,erz,hcrz,hRrz⟩:=qm_at (hs.f.2.2.1) (k:=0) oM
 have hvnz:=vec_len n (A0 0)
 replace hs:=(hs.a_SlO hRrz)
 refine lHe 25 (us.getD 0 undef) hs ((hs.f.2.2.2.2.1).el 0 oM) erz ?_
 refine lL hs [.v 26 (.int .i64 (n:Nat)),.m 7 26] (lNS (lL hs [.m 28 0,.m 29 1] (lC 30 hs (eColumnL n oM D cD b bl hbl oM _ _ hs.g (hs.f.2.2.1)) ?_)))
 rintro _ w4 h5 hs ⟨Acl,ucl,rfl,hAcl,hUcl⟩
 replace hs:=((hs.a_SlO hAcl).add (K:=fun h_=>QVs h_ ucl (matp 1 n (fun i_ _=>b i_))) hUcl)
 refine lC 31 hs (eBesideN n A cap us A0 Acl n ucl b oM oM _ _ hs.g (hs.f.2.2.2.2.2.2.1) (hs.f.2.2.2.2.2.1) (hs.f.2.1) (hs.f.1)) ?_
 rintro _ w6 h7 hs ⟨Abs,ubs,rfl,hAbs,hUbs⟩
 replace hs:=((hs.a_SlO hAbs).add (K:=fun h_=>QVs h_ ubs (matp (n+1) n (aug n A0 b))) hUbs)
 refine lC 32 hs (eReduceN n h0n hn4 A0 b hR hK0 Abs n ubs _ _ hs.g (hs.f.2.1) (hs.f.1) (hs.f.2.2.2.2.2.1)) ?_
 rintro _ w8 h9 hs ⟨bo,uo,A2,c2,M,rfl,hc2,hL,hBo,hUM,hNS,hEc,hqM⟩
 replace hs:=(((hs.a_SlO hL).a_SlO hBo).add (K:=fun h_=>QVs h_ uo (matp (n+1) n M)) hUM)
 have hluo:=(hs.f.1).len
 rw[matp_len] at hluo
 refine lL hs [.m 27 32,.v 33 (.agg #[.slice (some ⟨bo,0,none⟩) n n,.slice A2 ((leads n).length) c2]),.v 34 (.int .i64 0)] (lA 8 98 ([.slice none 0 0,.slice none 0 0]) hs (fun b10 w11 h12 hs=>?_))
 refine lP 0 0 ([.slice (some ⟨bo,0,none⟩) n n,.slice A2 ((leads n).length) c2]) hs (fun w13 hs=>?_)
 refine lL hs [.m 9 34] (lN (CG.seq (cSL (lL hs [.v 35 (.pointer (some ⟨b10,1,none⟩)),.o 36 (.slice A2 ((leads n).length) c2) 0 1 1,.v 37 (.int .i64 ((leads n).length:Nat)),.m 10 37] (lNS (lL hs [.m 38 10] ?_))))))
 have ⟨hb14,phb14⟩:=dT (p:=(0:Int)<(((leads n).length:Nat):Int)) oM
 refine lB 39 hb14 ?_
 refine lL hs [.m 40 39,.v 41 (.pointer (some ⟨b10,1,none⟩)),.o 42 (.slice A2 ((leads n).length) c2) 0 1 1,.m 43 10] (lIn 44 (((leads n).length:Nat)-1) (((leads n).length)-1) ?_)
 refine lX 45 A2 ((leads n).length) c2 1 (((leads n).length)-1:Nat) (n-1) ((hs.f.2.2.1).ok oM) ?_
 refine lHe 46 (.int .i64 ((leads n).getD (n-1) 0)) hs ((hs.f.2.2.1).el (n-1) oM) (show Value.int .i64 ((leads n).getD (n-1) 0)=.int .i64 (((n-1):Nat):Int) by rw[leads_get oM]) ?_
 refine lL hs [.m 47 7] ?_
 have hb15:((((n-1):Nat):Int) == ((n:Nat):Int))=false:=beqF oM
 have phb15:=neOfBeq hb15
 refine lB 48 hb15 ?_
 refine lL hs [.v 49 (.bool false)] (lN (cTo [(4,.slice none 0 0),(5,.slice none 0 0),(6,.int .i64 0),(7,.int .i64 (n:Nat)),(8,.pointer (some ⟨b10,0,none⟩)),(49,.bool false)] ?_))
 refine cIF (CG.skipN (cSL (lL hs [.m 50 7] (lK 51 56 n 5 56 (.agg #[.bool false,.int .u64 0,.string ⟨#[]⟩,.int .u64 0,.string ⟨#[]⟩]) qc 0 hs (fun b16 w17 h18 hs=>?_)))))
 have hl19:(List.replicate n 0).length=n:=by simp
 refine lL hs [.m 4 51] (lN (CG.seq (cSL (lL hs [.v 52 (.pointer (some ⟨b10,1,none⟩)),.o 53 (.slice A2 ((leads n).length) c2) 1 1 1,.v 54 (.int .i64 ((leads n).length:Nat)),.v 55 (.int .i64 0)] (lN (CG.block (cTo [(4,.slice (some ⟨b16,0,none⟩) n n),(5,.slice none 0 0),(6,.int .i64 0),(7,.int .i64 (n:Nat)),(8,.pointer (some ⟨b10,0,none⟩)),(53,.slice A2 ((leads n).length) c2),(54,.int .i64 ((leads n).length:Nat)),(55,.int .i64 0)] ?_)))))))
 refine CG.loop (fun μ_ Γ w_=>∃ (i:Nat) (L:List Rat) (h_:Hp),μ_=n-i∧Γ=[(4,.slice (some ⟨b16,0,none⟩) n n),(5,.slice none 0 0),(6,.int .i64 0),(7,.int .i64 (n:Nat)),(8,.pointer (some ⟨b10,0,none⟩)),(53,.slice A2 ((leads n).length) c2),(54,.int .i64 ((leads n).length:Nat)),(55,.int .i64 (i:Nat))]∧SS w h w_ h_ [⟨b16,56,(L).flatMap qc⟩,⟨b10,98,[.slice (some ⟨bo,0,none⟩) n n,.slice A2 ((leads n).length) c2]⟩] [] [fun h_=>QVs h_ uo (matp (n+1) n M),fun h_=>SlO 1 vc undef h_ (some ⟨bo,0,none⟩) uo,fun h_=>SlO 1 i64c 0 h_ A2 (leads n),fun h_=>QVs h_ ubs (matp (n+1) n (aug n A0 b)),fun h_=>SlO 1 vc undef h_ Abs ubs,fun h_=>QVs h_ ucl (matp 1 n (fun i_ _=>b i_)),fun h_=>SlO 1 vc undef h_ Acl ucl,fun h_=>SlO 5 qc 0 h_ Arz (vec n (A0 0)),fun h_=>Tab h_,fun h_=>SlO 5 qc 0 h_ D bl,fun h_=>QVs h_ us (matp n n A0),fun h_=>SlO 1 vc undef h_ A us]∧(i≤n)∧(L.length=n)∧(∀ j,L.getD j 0=if j<i then (fun i_=>M i_ n) j else 0)) _ ⟨0,List.replicate n (0:Rat),h18,rfl,rfl,hs.to _ _,Nat.zero_le _,(by simp),(fun j=>by rw[rep_zero,if_neg (Nat.not_lt_zero j)])⟩ ?_
 rintro _ _ w20 ⟨i,L,h21,hm22,rfl,hs,hi,hLl,hLv⟩
 refine cSL ?_
 cases hb23:(decide (((i:Nat):Int)<(((leads n).length:Nat):Int)))
 ·
  have phb23:=oF hb23
  refine lB 56 hb23 ?_
  refine lN (CG.seq (cIF (CG.exit ?_)))
  show CG _ _ _ _ _ _ _ _
  refine cSL (lL hs [.m 72 4,.o 73 (.agg #[.slice (some ⟨bo,0,none⟩) n n,.slice A2 ((leads n).length) c2]) 1 0 2,.m 74 7] (lC 75 hs (eKernel n bo A2 c2 oM _ _ hs.g (hs.f.2.2.1)) ?_))
  rintro _ w24 h25 hs rfl
  refine lL hs [.m 4 72,.m 5 75,.v 6 (.int .i64 0)] (lN (CG.ret ?_))
  have hin:i=n:=by omega
  have hLe:L=vec n (fun i_=>M i_ n):=vec_of (hLl.trans oM) (fun j=>by rw[hLv j,hin])
  obtain ⟨h26,hs,sg27,lo28,bc29⟩:=hs.pub 0
  replace hs:=(hs.to [⟨b10,98,[.slice (some ⟨bo,0,none⟩) n n,.slice A2 ((leads n).length) c2]⟩] []).a_SlO (SlO.of_flat (sz:=5) (f:=qc) (d:=0) (b:=b16) (o:=0) (l:=L) (fun _=>rfl) sg27)
  exact hs.ret [] (.tuple #[.slice (some ⟨b16,0,none⟩) n n,.slice none 0 0,.int .i64 0]) (⟨(some ⟨b16,0,none⟩),n,(fun i_=>M i_ n),tup3_len (by rw[vec_len]),(by rw[vec_len];omega),(by rw[←hLe];exact (hs.f.1)),solved hNS hEc,fun i_=>hqM i_ n⟩)
 have phb23:=oT hb23
 refine lB 56 hb23 ?_
 refine lN (CG.seq (cIT (CG.skipN (CG.seq (CG.block (cSL (lL hs [.m 57 55] (lX 58 A2 ((leads n).length) c2 1 (i:Nat) i ((hs.f.2.2.1).ok oM) ?_))))))))
 refine lHe 59 (.int .i64 ((leads n).getD i 0)) hs ((hs.f.2.2.1).el i oM) (show Value.int .i64 ((leads n).getD i 0)=.int .i64 ((i:Nat):Int) by rw[leads_get oM]) ?_
 refine lL hs [.m 11 57,.m 12 59] (lN (CG.listed (lL hs [.m 60 4,.m 61 12,.v 62 (.pointer (some ⟨b10,0,none⟩)),.o 63 (.slice (some ⟨bo,0,none⟩) n n) 1 0 1,.m 64 11] (lX 65 (some ⟨bo,0,none⟩) n n 1 (i:Nat) i ((hs.f.2.1).ok oM) ?_))))
 obtain ⟨Arx,crx,erx,hcrx,hRrx⟩:=qm_at (hs.f.1) (k:=i) oM
 have hvnx:=vec_len (n+1) (M i)
 replace hs:=(hs.a_SlO hRrx)
 refine lHe 66 (uo.getD i undef) hs ((hs.f.2.2.1).el i oM) erx ?_
 refine lL hs [.m 67 7] (lX 68 Arx (n+1) crx 5 (n:Nat) n ((hs.f.1).ok oM) ?_)
 refine lHe 69 (qv ((vec (n+1) (M i)).getD n 0)) hs ((hs.f.1).el n oM) (show qv ((vec (n+1) (M i)).getD n 0)=qv (M i n) from congrArg qv (vec_get _ oM)) ?_
 refine lX 70 (some ⟨b16,0,none⟩) n n 5 (i:Nat) i rfl ?_
 refine lW 0 L qc 5 i (M i n) hs oM (fun w31 hs=>?_)
 have hl32:((L).set i (M i n)).length=n:=by rw[List.length_set];exact hLl
 replace hs:=hs.to [⟨b16,56,((L).set i (M i n)).flatMap qc⟩,⟨b10,98,[.slice (some ⟨bo,0,none⟩) n n,.slice A2 ((leads n).length) c2]⟩] []
 refine lN (CG.listed (lIn 71 ((i:Nat)+1) (i+1) ?_))
 refine lL hs [.m 55 71] (lD ?_)
 intro a_ ka
 have q33:(i+1)≤n:=by omega
 have q34:((L).set i (M i n)).length=n:=hl32
 have q35:∀ j,((L).set i (M i n)).getD j 0=if j<(i+1) then (fun i_=>M i_ n) j else 0:=(vec_set hLl hLv oM rfl)
 replace hs:=hs.tl
 refine ⟨_,_,?_,⟨i+1,(L).set i (M i n),h21,rfl,rfl,hs.to _ _,q33,q34,q35⟩,ka.to [(4,.slice (some ⟨b16,0,none⟩) n n),(5,.slice none 0 0),(6,.int .i64 0),(7,.int .i64 (n:Nat)),(8,.pointer (some ⟨b10,0,none⟩)),(53,.slice A2 ((leads n).length) c2),(54,.int .i64 ((leads n).length:Nat)),(55,.int .i64 ((i+1):Nat))] kR⟩
 omega
theorem sCmpEq (A:Option Addr)(ca:Nat)(l:List Rat)(D:Option Addr)(cd:Nat)(hl9:l.length≤1000000)(hq:∀ i,LQ 100000000 (l.getD i 0))(w:World)(h:Hp)(g:G w h)(hA:SlO 5 qc 0 h A l)(hD:SlO 5 qc 0 h D l) :
    Calls Tryz.prog 54 #[.slice A l.length ca,.slice D l.length cd,.func (.func 20) #[] #[]] w (Ret w h fun v _=>v=.int .i64 0):=by
 have hs:=SS.start g
 replace hs:=((hs.a_SlO hA).a_SlO hD)
 refine go Tryz.func54 [(0,.slice A l.length ca),(1,.slice D l.length cd),(2,.func (.func 20) #[] #[])] rfl ?_
 refine cSL (lL hs [.v 6 (.int .i64 0)] (lN (CG.seq (cSL (lL hs [.m 11 0,.v 12 (.int .i64 (l.length:Nat)),.v 13 (.int .i64 0)] (lN (CG.block (cTo [(0,.slice A l.length ca),(1,.slice D l.length cd),(2,.func (.func 20) #[] #[]),(11,.slice A l.length ca),(12,.int .i64 (l.length:Nat)),(13,.int .i64 0)] ?_))))))))
 refine CG.loop (fun μ_ Γ w_=>∃ (i:Nat) (h_:Hp),μ_=l.length-i∧Γ=[(0,.slice A l.length ca),(1,.slice D l.length cd),(2,.func (.func 20) #[] #[]),(11,.slice A l.length ca),(12,.int .i64 (l.length:Nat)),(13,.int .i64 (i:Nat))]∧SS w h w_ h_ [] [] [fun h_=>SlO 5 qc 0 h_ D l,fun h_=>SlO 5 qc 0 h_ A l]∧(i≤l.length)) _ ⟨0,h,rfl,rfl,hs.to _ _,Nat.zero_le _⟩ ?_
 rintro _ _ w1 ⟨i,h2,hm3,rfl,hs,hi⟩
 refine cSL ?_
 cases hb4:(decide (((i:Nat):Int)<((l.length:Nat):Int)))
 ·
  have phb4:=oF hb4
  refine lB 14 hb4 ?_
  refine lN (CG.seq (cIF (CG.exit ?_)))
  show CG _ _ _ _ _ _ _ _
  refine CG.seq (cSL (lL hs [.m 34 0,.v 35 (.int .i64 (l.length:Nat)),.m 36 1,.v 37 (.int .i64 (l.length:Nat))] ?_))
  have ⟨hb5,phb5⟩:=dF (p:=((l.length:Nat):Int)<((l.length:Nat):Int)) oM
  refine lB 38 hb5 ?_
  exact lN (cIF (CG.skipN (cSL (lL hs [.v 6 (.int .i64 0)] (lN (CG.ret (hs.ret [] (.int .i64 0) rfl)))))))
 have phb4:=oT hb4
 refine lB 14 hb4 ?_
 refine lN (CG.seq (cIT (CG.skipN (CG.seq (CG.block (cSL (lL hs [.m 15 13] (lX 16 A l.length ca 5 (i:Nat) i ((hs.f.2.1).ok oM) ?_))))))))
 refine lH 17 (qv (l.getD i 0)) hs ((hs.f.2.1).el i oM) ?_
 refine lA 8 56 ([.bool false,.int .u64 0,.string ⟨#[]⟩,.int .u64 0,.string ⟨#[]⟩]) hs (fun b6 w7 h8 hs=>?_)
 refine lL hs [.m 7 15] (lP 0 0 (qc (l.getD i 0)) hs (fun w9 hs=>?_))
 refine lN (CG.seq (cSL (lL hs [.m 18 7,.m 19 1,.v 20 (.int .i64 (l.length:Nat))] ?_)))
 have ⟨hb10,phb10⟩:=dF (p:=((l.length:Nat):Int)≤((i:Nat):Int)) oM
 refine lB 21 hb10 ?_
 refine lN (cIF (CG.skipN (cSL (lL hs [.m 22 1,.m 23 7] (lX 24 D l.length cd 5 (i:Nat) i ((hs.f.1).ok oM) ?_)))))
 refine lH 25 (qv (l.getD i 0)) hs ((hs.f.1).el i oM) ?_
 refine lA 9 56 ([.bool false,.int .u64 0,.string ⟨#[]⟩,.int .u64 0,.string ⟨#[]⟩]) hs (fun b11 w12 h13 hs=>?_)
 refine lP 0 0 (qc (l.getD i 0)) hs (fun w14 hs=>?_)
 refine lNS (lL hs [.m 26 2,.o 27 (qv (l.getD i 0)) 1 0 5,.o 28 (qv (l.getD i 0)) 0 0 5] (lC 29 hs (fCmp (l.getD i 0) (l.getD i 0) (hq i) (hq i) _ _ hs.g) ?_))
 rintro _ w15 h16 hs rfl
 refine lL hs [.m 10 29] (lNS (lL hs [.m 30 10] ?_))
 have hb17:((cmpR (l.getD i 0) (l.getD i 0):Int) != (0:Int))=false:=bneF (cmpR_self _)
 have phb17:=eqOfBne hb17
 refine lB 31 hb17 ?_
 refine lN (cIF (CG.skipN (CG.listed (lIn 33 ((i:Nat)+1) (i+1) ?_))))
 refine lL hs [.m 13 33] (lD ?_)
 intro a_ ka
 have q18:(i+1)≤l.length:=by omega
 replace hs:=hs.drop 2 0
 refine ⟨_,_,?_,⟨i+1,h16,rfl,rfl,hs.to _ _,q18⟩,ka.to [(0,.slice A l.length ca),(1,.slice D l.length cd),(2,.func (.func 20) #[] #[]),(11,.slice A l.length ca),(12,.int .i64 (l.length:Nat)),(13,.int .i64 ((i+1):Nat))] kR⟩
 omega
theorem fSameEq (A:Option Addr)(ca:Nat)(l:List Rat)(D:Option Addr)(cd:Nat)(hl9:l.length≤1000000)(hq:∀ i,LQ 100000000 (l.getD i 0))(w:World)(h:Hp)(g:G w h)(hA:SlO 5 qc 0 h A l)(hD:SlO 5 qc 0 h D l) :
    Calls Tryz.prog 15 #[.slice A l.length ca,.slice D l.length cd] w (Ret w h fun v _=>v=.bool true):=by
 have hs:=SS.start g
 replace hs:=((hs.a_SlO hA).a_SlO hD)
 refine go Tryz.func15 [(0,.slice A l.length ca),(1,.slice D l.length cd)] rfl ?_
 refine cSL (lL hs [.v 4 (.bool false)] (lNS (lL hs [.m 5 0,.m 6 1] (lC 7 hs (sCmpEq A ca l D cd hl9 hq _ _ hs.g (hs.f.2.1) (hs.f.1)) ?_))))
 rintro _ w1 h2 hs rfl
 exact lL hs [.v 8 (.bool true),.m 4 8] (lN (CG.ret (hs.ret [] (.bool true) rfl)))
theorem fSameT (A:Option Addr)(ca:Nat)(l:List Rat)(D:Option Addr)(cd:Nat)(l2:List Rat)(he:l=l2)(hl9:l.length≤1000000)(hq:∀ i,LQ 100000000 (l.getD i 0))(w:World)(h:Hp)(g:G w h)(hA:SlO 5 qc 0 h A l)(hD:SlO 5 qc 0 h D l2):Calls Tryz.prog 15 #[.slice A l.length ca,.slice D l2.length cd] w (Ret w h fun v _=>v=.bool true):=by
  subst he
  exact fSameEq A ca l D cd hl9 hq w h g hA hD
theorem CjR.good {W:List (List Rat)}{bl xl:List Rat}{t:Nat}{e:Int}(h:CjR W bl xl t e)(hc:SymP W∧bl.length=W.length∧xl.length=W.length):CjEnd W.length (mA W) (fun i=>bl.getD i 0) (fun i=>xl.getD i 0) t e:=by
  rcases h with ⟨_,h⟩|⟨h,_⟩
  · exact h
  · exact absurd hc h
theorem pd_of {zs:List Int}{n:Nat}{W:List (List Rat)}(h:W=matf n (pdf zs n)):∀ i,i<W.length→∀ j,j<W.length→mA W i j=pdf zs W.length i j:=by
  have hl:W.length=n:=by rw[h,matf_len]
  rw[hl]
  intro i hi j hj
  rw[h];exact matf_get _ hi hj
theorem pd_symP {zs:List Int}{n:Nat}{W:List (List Rat)}(h:W=matf n (pdf zs n))(hl:W.length=n)(h0:0<n):SymP W:=by
  refine ⟨⟨by rw[h];exact matf_right _ h0,by rw[hl,h,matf_row _ h0,vec_len]⟩,fun i hi k hk=>?_⟩
  exact pd_sym (pd_of h) i hi k oM
theorem mat_self {zs:List Int}{n:Nat}{W:List (List Rat)}(h:W=matf n (pdf zs n))(hl:W.length=n):W=matp W.length W.length (mA W):=by
  rw[hl]
  have e:matp n n (mA W)=matf n (mA W):=rfl
  rw[e]
  conv=>lhs;rw[h]
  exact matf_congr (fun i hi j hj=>by rw[h];exact (matf_get _ hi hj).symm)
theorem aug_lq {n:Nat}{W:List (List Rat)}{b:Nat→Rat}(h:∀ i k,LQ 3 ((W.getD i []).getD k 0))(hb:∀ i,LQ 3 (b i))(i k:Nat):LQ 3 (aug n (mA W) b i k):=by
  unfold aug
  split
  · exact h i k
  · exact hb i
theorem reg_uniq {n:Nat}{A:Mtx}{b x s:Nat→Rat}(hR:Reg n A)(hx:∀ i,i<n→mv n A x i=b i)(hs:∀ i,i<n→mv n A s i=b i):∀ i,i<n→x i=s i:=fun i hi=>by
  have:=hR (fun j=>x j+(-1)*s j) (fun i hi=>by rw[mv_lin,hx i hi,hs i hi];grind) i hi
  grind
theorem vec_lq {n:Nat}{f:Nat→Rat}(h:∀ j,j<n→LQ 100000000 (f j))(i:Nat):LQ 100000000 ((vec n f).getD i 0):=by
  by_cases hi:i<n
  · rw[vec_get f hi];exact h i hi
  · rw[vec_out f oM];exact LQ.mono (LQ.lit (z:=0) kD) kD
theorem TR1.px {n:Nat}{s:Cst}{h:Hp}{t:TV}(x:TR1 n s h t):∃ A c,t.1=.slice A (vec n s.x).length c∧SlO 5 qc 0 h A (vec n s.x):=x.1
theorem TR1.pr {n:Nat}{s:Cst}{h:Hp}{t:TV}(x:TR1 n s h t):∃ A c,t.2.1=.slice A (vec n s.r).length c∧SlO 5 qc 0 h A (vec n s.r):=x.2.1
def lastq (f:Nat→Rat):Nat→Rat
  | 0=>0
  | k+1=>f k
theorem dt_lq {n K L:Nat}(hn:n≤5){u v:Nat→Rat}(hu:∀ i,i<n→LQ K (u i))(hv:∀ i,i<n→LQ L (v i)):LQ (5*(K+L+1)+1) (dt n u v):=by
  have e:dotq (vec n u) (vec n v) n=dt n u v:=dot_dt n (fun i hi=>vec_get u hi) (fun i hi=>vec_get v hi)
  have x:=LQ.dot (n:=n) (a:=vec n u) (b:=vec n v) (fun i hi=>by rw[vec_get u hi];exact hu i hi) (fun i hi=>by rw[vec_get v hi];exact hv i hi) n (Nat.le_refl _)
  rw[e] at x
  exact x.mono (by have:=Nat.mul_le_mul_right (K+L+1) hn;omega)
theorem ph_lq1 {n:Nat}{W:List (List Rat)}(hD:Dfn n W)(hn:n≤4){bl xl:List Rat}(hb:Rwq bl)(hx:Rwq xl){k:Nat}(hk:k≤W.length):LQ 1000006 (dt W.length (cg W.length (mA W) (fun i=>bl.getD i 0) (fun i=>xl.getD i 0) k).x (mv W.length (mA W) (cg W.length (mA W) (fun i=>bl.getD i 0) (fun i=>xl.getD i 0) k).x)):=by
  have B:=cj_B hD hn hb hx hk
  exact (dt_lq (by have:=hD.len;omega) B.xx B.ax).mono kD
theorem ph_lq2 {n:Nat}{W:List (List Rat)}(hD:Dfn n W)(hn:n≤4){bl xl:List Rat}(hb:Rwq bl)(hx:Rwq xl){k:Nat}(hk:k≤W.length):LQ 1000006 (dt W.length (fun j=>bl.getD j 0) (cg W.length (mA W) (fun i=>bl.getD i 0) (fun i=>xl.getD i 0) k).x):=by
  have B:=cj_B hD hn hb hx hk
  exact (dt_lq (by have:=hD.len;omega) (fun i _=>hb.lq i) B.xx).mono kD
theorem ph_lq3 {n:Nat}{W:List (List Rat)}(hD:Dfn n W)(hn:n≤4){bl xl:List Rat}(hb:Rwq bl)(hx:Rwq xl){k j:Nat}(hk:k≤W.length)(hj:j≤W.length):LQ 100000000 (dt W.length (cg W.length (mA W) (fun i=>bl.getD i 0) (fun i=>xl.getD i 0) k).r (cg W.length (mA W) (fun i=>bl.getD i 0) (fun i=>xl.getD i 0) j).r):=by
  have B:=cj_B hD hn hb hx hk
  have C:=cj_B hD hn hb hx hj
  exact (dt_lq (by have:=hD.len;omega) B.r C.r).mono kD
theorem cmp_lt {a b:Rat}(h:a<b):cmpR a b<0:=by
  rw[Rat.lt_iff] at h
  unfold cmpR cmpI
  rw[if_pos h];decide
theorem cmp_down {zs:List Int}{n:Nat}{A:Mtx}{b x:Nat→Rat}{t:Nat}{e:Int}(hA:∀ i,i<n→∀ j,j<n→A i j=pdf zs n i j)(hE:CjEnd n A b x t e){k:Nat}(h0:0<k)(hk:k≤t):cmpR (phi n A b (cg n A b x k).x) (lastq (fun i_=>phi n A b (cg n A b x i_).x) k)<0:=by
  obtain ⟨j,rfl⟩:∃ j,k=j+1:=⟨k-1,by omega⟩
  exact cmp_lt (cjp_down hA hE hk)
theorem lDescentEnds (A0:Option Addr)(c0:Nat)(zl:List Int)(A1:Option Addr)(c1:Nat)(zb:List Int)(A2:Option Addr)(c2:Nat)(zx:List Int)(n_:Int)(hl0:zl.length≤9223372036854775807)(hz0:I64s zl)(hl1:zb.length≤9223372036854775807)(hz1:I64s zb)(hl2:zx.length≤9223372036854775807)(hz2:I64s zx)(hc0:zl.length≤c0)(w:World)(h:Hp)(g:G w h)(hA0:SlO 1 i64c 0 h A0 zl)(hA1:SlO 1 i64c 0 h A1 zb)(hA2:SlO 1 i64c 0 h A2 zx)(tb:Tab h) :
    Calls Tryz.prog 4 #[.slice A0 zl.length c0,.slice A1 zb.length c1,.slice A2 zx.length c2,.int .i64 n_] w (Ret w h fun v _=>v=.bool true):=by
 have hs:=SS.start g
 replace hs:=((((hs.a_SlO hA0).a_SlO hA1).a_SlO hA2).add (K:=fun h_=>Tab h_) tb)
 obtain ⟨n,hn_⟩:∃ n,n=pick n_ 4+1:=⟨_,rfl⟩
 have hp4:=pick_lt n_ 4 oM
 refine go Tryz.func4 [(0,.slice A0 zl.length c0),(1,.slice A1 zb.length c1),(2,.slice A2 zx.length c2),(3,.int .i64 n_)] rfl ?_
 refine cSL (lL hs [.v 8 (.bool false)] (lNS (lL hs [.m 27 0,.m 28 3] (lC 29 hs (lDef A0 c0 zl n_ 7 0 0 n hn_ hl0 hz0 hc0 kD kD _ _ hs.g (hs.f.2.2.2.1)) ?_))))
 rintro _ w1 h2 hs ⟨Aa,ca,ua,W,rfl,hca,hAa,hUa,hD,hd3⟩
 replace hs:=((hs.a_SlO hAa).add (K:=fun h_=>RVs h_ ua W) hUa)
 have hlW:=hD.len
 have hlua:=(hs.f.1).len
 have hWe:W=matf n (pdf zl n):=hd3 kD
 refine lC 30 hs (hInRows Aa ca ua W oM (fun i _=>by have:=hD.wd i;omega) (fun i _ j _=>(hD.lq i j).mono kD) _ _ hs.g (hs.f.2.1) (hs.f.1) (hs.f.2.2.1)) ?_
 rintro _ w3 h4 hs ⟨Ap,cp,up,rfl,hcp,hAp,hUp⟩
 replace hs:=((hs.a_SlO hAp).add (K:=fun h_=>QVs h_ up W) hUp)
 have hlup:=(hs.f.1).len
 have hPd:=pd_of hWe
 have hSy:=pd_symP hWe hlW (by omega:0<n)
 refine lL hs [.m 9 30] (lNS (lL hs [.m 31 1,.m 32 9,.v 33 (.int .i64 (up.length:Nat))] (lC 34 hs (hRow A1 c1 zb up.length oM hl1 hz1 _ _ hs.g (hs.f.2.2.2.2.2.2.1)) ?_)))
 rintro _ w5 h6 hs ⟨Au,cu,tu,rfl,hcu,hAu,hTu⟩
 replace hs:=((hs.a_SlO hAu).add (K:=fun h_=>RTs h_ tu (rowq zb up.length)) hTu)
 have hRu:=rwq_row zb (n:=up.length) oM
 have hlu:=rowq_len zb up.length
 refine lC 35 hs (hInRow Au cu tu (rowq zb up.length) (by have:=hRu.len;omega) (fun i _=>(hRu.lq i).mono kD) _ _ hs.g (hs.f.2.1) (hs.f.1) (hs.f.2.2.2.2.2.2.1)) ?_
 rintro _ w7 h8 hs ⟨Ab,cAb,rfl,hcAb,hAb⟩
 replace hs:=(hs.a_SlO hAb)
 refine lL hs [.m 36 2,.m 37 9,.v 38 (.int .i64 (up.length:Nat))] (lC 39 hs (hRow A2 c2 zx up.length oM hl2 hz2 _ _ hs.g (hs.f.2.2.2.2.2.2.2.2.1)) ?_)
 rintro _ w9 h10 hs ⟨Av,cv,tv,rfl,hcv,hAv,hTv⟩
 replace hs:=((hs.a_SlO hAv).add (K:=fun h_=>RTs h_ tv (rowq zx up.length)) hTv)
 have hRv:=rwq_row zx (n:=up.length) oM
 have hlv:=rowq_len zx up.length
 refine lC 40 hs (hInRow Av cv tv (rowq zx up.length) (by have:=hRv.len;omega) (fun i _=>(hRv.lq i).mono kD) _ _ hs.g (hs.f.2.1) (hs.f.1) (hs.f.2.2.2.2.2.2.2.2.2.1)) ?_
 rintro _ w11 h12 hs ⟨Ax,cAx,rfl,hcAx,hAx⟩
 replace hs:=(hs.a_SlO hAx)
 refine lL hs [.m 10 35,.m 11 40] (lNS (lL hs [.m 42 9,.m 43 10,.m 44 11] (lC 45 hs (cConjA Ap cp up W n hD oM Ab cAb (rowq zb up.length) Ax cAx (rowq zx up.length) hRu hRv _ _ hs.g (hs.f.2.2.2.2.2.2.2.1) (hs.f.2.2.2.2.2.2.1) (hs.f.2.2.2.1) (hs.f.1) (hs.f.2.2.2.2.2.2.2.2.2.2.1)) ?_)))
 rintro _ w13 h14 hs ⟨t1,e1,At,ct,al,hR1,rfl,hAt,hC1,hL1⟩
 replace hs:=((hs.a_SlO hAt).add (K:=fun h_=>CTr W.length (mA W) (fun i=>(rowq zb up.length).getD i 0) (fun i=>(rowq zx up.length).getD i 0) h_ al) hC1)
 have hE1:=hR1.good ⟨hSy,by omega,by omega⟩
 have he1:=(cjp_e hPd hE1).1
 have ht1:=cjp_le hPd hE1
 rw[if_pos he1] at hL1
 have hB1:∀ k,k≤t1→CgB W.length (mA W) (fun i=>(rowq zb up.length).getD i 0) (fun i=>(rowq zx up.length).getD i 0) k:=fun k hk=>cj_B hD oM hRu hRv oM
 have hXe:(rowq zx up.length)=(vec W.length (cg W.length (mA W) (fun i=>(rowq zb up.length).getD i 0) (fun i=>(rowq zx up.length).getD i 0) 0).x):=vec_eq oM (fun _ _=>rfl)
 refine lL hs [.m 41 45,.v 46 (.slice At al.length ct),.v 47 (.int .i64 e1),.m 12 46,.m 13 47] (lNS (lL hs [.m 49 9,.m 50 10] (lC 51 hs (eSolve W.length oM oM (mA W) (fun i=>(rowq zb up.length).getD i 0) (pd_reg hPd) (aug_lq (fun i k=>hD.lq i k) (fun i=>(hRu.lq i).mono kD)) Ap cp up Ab cAb (rowq zb up.length) (vec_eq oM (fun _ _=>rfl)) oM _ _ hs.g (hs.f.2.2.2.2.2.2.2.2.2.1) (by have q_:=(hs.f.2.2.2.2.2.2.2.2.1);rw[mat_self hWe hlW] at q_;exact q_) (hs.f.2.2.2.2.2.1) (hs.f.2.2.2.2.2.2.2.2.2.2.2.2.1)) ?_)))
 rintro _ w15 h16 hs ⟨As,cs,sl,rfl,hcs,hAs,hsol,hqs⟩
 replace hs:=(hs.a_SlO hAs)
 have hfin:(vec W.length (cg W.length (mA W) (fun i=>(rowq zb up.length).getD i 0) (fun i=>(rowq zx up.length).getD i 0) t1).x)=vec W.length sl:=vec_congr (reg_uniq (pd_reg hPd) (cjp_sol hPd hE1) hsol)
 refine lL hs [.m 48 51,.v 52 (.slice As ((vec W.length sl).length) cs),.v 53 (.slice none 0 0),.v 54 (.int .i64 0),.m 14 52,.m 15 53,.m 16 54] (lN (cTo [(8,.bool false),(9,.slice Ap up.length cp),(10,.slice Ab ((rowq zb up.length).length) cAb),(11,.slice Ax ((rowq zx up.length).length) cAx),(12,.slice At al.length ct),(13,.int .i64 e1),(14,.slice As ((vec W.length sl).length) cs),(16,.int .i64 0)] ?_))
 refine CG.seq (cSL (lL hs [.m 55 13] ?_))
 have hb17:((e1:Int) != (0:Int))=false:=bneF oM
 have phb17:=eqOfBne hb17
 refine lB 56 hb17 ?_
 refine lL hs [.m 57 56,.m 58 16,.v 59 (.bool false),.v 60 (.bool false),.m 61 60,.m 62 12,.v 63 (.int .i64 (al.length:Nat))] ?_
 have ⟨hb18,phb18⟩:=dF (p:=((al.length:Nat):Int)<(1:Int)) oM
 refine lB 64 hb18 ?_
 refine lL hs [.v 65 (.bool false),.m 66 65,.m 67 12,.v 68 (.int .i64 (al.length:Nat)),.m 69 9,.v 70 (.int .i64 (up.length:Nat))] (lIn 71 ((up.length:Nat)+1) (up.length+1) ?_)
 have ⟨hb19,phb19⟩:=dF (p:=((up.length+1:Nat):Int)<((al.length:Nat):Int)) oM
 refine lB 72 hb19 ?_
 refine lL hs [.v 73 (.bool false),.m 74 73,.m 75 12] (lX 76 At al.length ct 3 0 0 ((hs.f.2.2.1).ok oM) ?_)
 refine lL hs [.v 77 (.pointer (some ⟨(aB At),aO At+0*3,none⟩))] ?_
 obtain ⟨G0,g0c,G0e,G0h⟩:=((hs.f.2.1).at_ 0 oM).px
 replace hs:=hs.a_SlO G0h
 refine lHe 78 ((al.getD 0 tv0).1) hs (((hs.f.2.2.2.1).el 0 oM).part 0 1) G0e ?_
 refine lL hs [.m 79 11] (lC 80 hs (fSameT G0 g0c (vec W.length (cg W.length (mA W) (fun i=>(rowq zb up.length).getD i 0) (fun i=>(rowq zx up.length).getD i 0) 0).x) Ax cAx (rowq zx up.length) hXe.symm (by rw[vec_len];omega) (fun i=>vec_lq (fun j hj=>((hB1 0 oM).xx j hj).mono kD) i) _ _ hs.g (hs.f.1) (hs.f.2.2.2.2.1)) ?_)
 rintro _ w20 h21 hs rfl
 refine lL hs [.v 81 (.bool false),.v 82 (.bool false),.m 83 82,.m 84 12,.m 85 12,.v 86 (.int .i64 (al.length:Nat))] (lIn 87 ((al.length:Nat)-1) (al.length-1) ?_)
 refine lX 88 At al.length ct 3 (al.length-1:Nat) t1 ((hs.f.2.2.2.1).ok oM) ?_
 refine lL hs [.v 89 (.pointer (some ⟨(aB At),aO At+t1*3,none⟩))] ?_
 obtain ⟨G1,g1c,G1e,G1h⟩:=((hs.f.2.2.1).at_ t1 oM).px
 replace hs:=hs.a_SlO G1h
 refine lHe 90 ((al.getD t1 tv0).1) hs (((hs.f.2.2.2.2.1).el t1 oM).part 0 1) G1e ?_
 refine lL hs [.m 91 14] (lC 92 hs (fSameT G1 g1c (vec W.length (cg W.length (mA W) (fun i=>(rowq zb up.length).getD i 0) (fun i=>(rowq zx up.length).getD i 0) t1).x) As cs (vec W.length sl) hfin (by rw[vec_len];omega) (fun i=>vec_lq (fun j hj=>((hB1 t1 oM).xx j hj).mono kD) i) _ _ hs.g (hs.f.1) (hs.f.2.2.1)) ?_)
 rintro _ w22 h23 hs rfl
 refine lL hs [.v 93 (.bool false),.v 94 (.bool false)] (lN (cTo [(8,.bool false),(9,.slice Ap up.length cp),(10,.slice Ab ((rowq zb up.length).length) cAb),(12,.slice At al.length ct),(94,.bool false)] ?_))
 refine cIF (CG.skipN (cSL (lA 17 56 ([.bool false,.int .u64 0,.string ⟨#[]⟩,.int .u64 0,.string ⟨#[]⟩]) hs (fun b24 w25 h26 hs=>?_))))
 refine lN (CG.seq (cSL (lL hs [.v 18 (.int .i64 0)] (lN (CG.block (cTo [(9,.slice Ap up.length cp),(10,.slice Ab ((rowq zb up.length).length) cAb),(12,.slice At al.length ct),(17,.pointer (some ⟨b24,0,none⟩)),(18,.int .i64 0)] ?_))))))
 refine CG.loop (fun μ_ Γ w_=>∃ (k:Nat) (h_:Hp),μ_=al.length-k∧Γ=[(9,.slice Ap up.length cp),(10,.slice Ab ((rowq zb up.length).length) cAb),(12,.slice At al.length ct),(17,.pointer (some ⟨b24,0,none⟩)),(18,.int .i64 (k:Nat))]∧SS w h w_ h_ [⟨b24,56,qc (lastq (fun i_=>phi W.length (mA W) (fun i=>(rowq zb up.length).getD i 0) (cg W.length (mA W) (fun i=>(rowq zb up.length).getD i 0) (fun i=>(rowq zx up.length).getD i 0) i_).x) k)⟩] [] [fun h_=>SlO 5 qc 0 h_ G1 (vec W.length (cg W.length (mA W) (fun i=>(rowq zb up.length).getD i 0) (fun i=>(rowq zx up.length).getD i 0) t1).x),fun h_=>SlO 5 qc 0 h_ G0 (vec W.length (cg W.length (mA W) (fun i=>(rowq zb up.length).getD i 0) (fun i=>(rowq zx up.length).getD i 0) 0).x),fun h_=>SlO 5 qc 0 h_ As (vec W.length sl),fun h_=>CTr W.length (mA W) (fun i=>(rowq zb up.length).getD i 0) (fun i=>(rowq zx up.length).getD i 0) h_ al,fun h_=>SlO 3 tvc tv0 h_ At al,fun h_=>SlO 5 qc 0 h_ Ax (rowq zx up.length),fun h_=>RTs h_ tv (rowq zx up.length),fun h_=>SlO 3 rqc rqd h_ Av tv,fun h_=>SlO 5 qc 0 h_ Ab (rowq zb up.length),fun h_=>RTs h_ tu (rowq zb up.length),fun h_=>SlO 3 rqc rqd h_ Au tu,fun h_=>QVs h_ up W,fun h_=>SlO 1 vc undef h_ Ap up,fun h_=>RVs h_ ua W,fun h_=>SlO 1 vc undef h_ Aa ua,fun h_=>Tab h_,fun h_=>SlO 1 i64c 0 h_ A2 zx,fun h_=>SlO 1 i64c 0 h_ A1 zb,fun h_=>SlO 1 i64c 0 h_ A0 zl]∧(k≤al.length)∧(LQ 100000000 (lastq (fun i_=>phi W.length (mA W) (fun i=>(rowq zb up.length).getD i 0) (cg W.length (mA W) (fun i=>(rowq zb up.length).getD i 0) (fun i=>(rowq zx up.length).getD i 0) i_).x) k))) _ ⟨0,h26,rfl,rfl,hs.to _ _,Nat.zero_le _,(show LQ 100000000 (0:Rat) from LQ.mono (LQ.lit (z:=0) kD) kD)⟩ ?_
 rintro _ _ w27 ⟨k,h28,hm29,rfl,hs,hk,hql⟩
 refine CG.seq (cSL (lL hs [.m 95 18,.m 96 12,.v 97 (.int .i64 (al.length:Nat))] ?_))
 cases hb30:(decide (((k:Nat):Int)<((al.length:Nat):Int)))
 ·
  have phb30:=oF hb30
  refine lB 98 hb30 ?_
  refine lN (cIF (CG.exit ?_))
  show CG _ _ _ _ _ _ _ _
  refine cSL (lC 169 hs (lKnown29 _ _ hs.g (hs.f.2.2.2.2.2.2.2.2.2.2.2.2.2.2.2.1)) ?_)
  rintro _ w31 h32 hs rfl
  exact lL hs [.m 8 169] (lN (CG.ret (hs.ret [] (.bool true) rfl)))
 have phb30:=oT hb30
 refine lB 98 hb30 ?_
 refine lN (cIT (CG.skipN (CG.seq (CG.block (cSL ?_)))))
 have hBk:=hB1 k oM
 have hqp:LQ 1000006 (dt W.length (cg W.length (mA W) (fun i=>(rowq zb up.length).getD i 0) (fun i=>(rowq zx up.length).getD i 0) k).x (mv W.length (mA W) (cg W.length (mA W) (fun i=>(rowq zb up.length).getD i 0) (fun i=>(rowq zx up.length).getD i 0) k).x)):=ph_lq1 hD oM hRu hRv oM
 have hqd:LQ 1000006 (dt W.length (fun j=>(rowq zb up.length).getD j 0) (cg W.length (mA W) (fun i=>(rowq zb up.length).getD i 0) (fun i=>(rowq zx up.length).getD i 0) k).x):=ph_lq2 hD oM hRu hRv oM
 refine lL hs [.m 102 9,.m 103 12,.m 104 18] (lX 105 At al.length ct 3 (k:Nat) k ((hs.f.2.2.2.2.1).ok oM) ?_)
 refine lL hs [.v 106 (.pointer (some ⟨(aB At),aO At+k*3,none⟩))] ?_
 obtain ⟨Gx,gxc,Gxe,Gxh⟩:=((hs.f.2.2.2.1).at_ k oM).px
 replace hs:=hs.a_SlO Gxh
 refine lHe 107 ((al.getD k tv0).1) hs (((hs.f.2.2.2.2.2.1).el k oM).part 0 1) Gxe ?_
 refine lC 108 hs (qValue Ap cp up W oM (fun i _=>by have:=hD.wd i;omega) (cg W.length (mA W) (fun i=>(rowq zb up.length).getD i 0) (fun i=>(rowq zx up.length).getD i 0) k).x W.length oM Gx gxc hSy rfl 3 100000 100000 (fun i j=>hD.lq i j) hBk.xx hBk.ax kD kD _ _ hs.g (hs.f.2.2.2.2.2.2.2.2.2.2.2.2.2.1) (hs.f.2.2.2.2.2.2.2.2.2.2.2.2.1) (hs.f.1) (hs.f.2.2.2.2.2.2.2.2.2.2.2.2.2.2.2.2.1)) ?_
 rintro _ w33 h34 hs rfl
 refine lL hs [.m 101 108,.v 109 (qv (dt W.length (cg W.length (mA W) (fun i=>(rowq zb up.length).getD i 0) (fun i=>(rowq zx up.length).getD i 0) k).x (mv W.length (mA W) (cg W.length (mA W) (fun i=>(rowq zb up.length).getD i 0) (fun i=>(rowq zx up.length).getD i 0) k).x))),.v 110 (.int .i64 0)] (lA 19 56 ([.bool false,.int .u64 0,.string ⟨#[]⟩,.int .u64 0,.string ⟨#[]⟩]) hs (fun b35 w36 h37 hs=>?_))
 refine lP 0 0 (qc (dt W.length (cg W.length (mA W) (fun i=>(rowq zb up.length).getD i 0) (fun i=>(rowq zx up.length).getD i 0) k).x (mv W.length (mA W) (cg W.length (mA W) (fun i=>(rowq zb up.length).getD i 0) (fun i=>(rowq zx up.length).getD i 0) k).x))) hs (fun w38 hs=>?_)
 refine lL hs [.m 20 110] (lNS (lL hs [.m 112 10,.m 113 12,.m 114 18] (lX 115 At al.length ct 3 (k:Nat) k ((hs.f.2.2.2.2.2.1).ok oM) ?_)))
 refine lL hs [.v 116 (.pointer (some ⟨(aB At),aO At+k*3,none⟩))] (lHe 117 ((al.getD k tv0).1) hs (((hs.f.2.2.2.2.2.1).el k oM).part 0 1) Gxe ?_)
 refine lC 118 hs (cjDot (rowq zb up.length) (cg W.length (mA W) (fun i=>(rowq zb up.length).getD i 0) (fun i=>(rowq zx up.length).getD i 0) k).x W.length Ab cAb Gx gxc oM 1 100000 oM kD hRu.lq hBk.xx _ _ hs.g (hs.f.2.2.2.2.2.2.2.2.2.1) (hs.f.1) (hs.f.2.2.2.2.2.2.2.2.2.2.2.2.2.2.2.2.1)) ?_
 rintro _ w39 h40 hs rfl
 refine lL hs [.m 111 118,.v 119 (qv (dt W.length (fun j=>(rowq zb up.length).getD j 0) (cg W.length (mA W) (fun i=>(rowq zb up.length).getD i 0) (fun i=>(rowq zx up.length).getD i 0) k).x)),.v 120 (.bool true)] (lA 21 56 ([.bool false,.int .u64 0,.string ⟨#[]⟩,.int .u64 0,.string ⟨#[]⟩]) hs (fun b41 w42 h43 hs=>?_))
 refine lP 0 0 (qc (dt W.length (fun j=>(rowq zb up.length).getD j 0) (cg W.length (mA W) (fun i=>(rowq zb up.length).getD i 0) (fun i=>(rowq zx up.length).getD i 0) k).x)) hs (fun w44 hs=>?_)
 refine lL hs [.m 22 120] (lN (CG.seq ?_))
 have hsr:=hs
 refine cR 6 [⟨5,23,.cells (List.toArray [.bool false,.int .u64 0,.string ⟨#[]⟩,.int .u64 0,.string ⟨#[]⟩]) 56 (0,0)⟩] mixed hs (al_cons (alOk kR (fun _ _=>by kernel_rfl)) al_nil) ?_
 refine eO 0 121 [(1,0,5)] (qv (dt W.length (cg W.length (mA W) (fun i=>(rowq zb up.length).getD i 0) (fun i=>(rowq zx up.length).getD i 0) k).x (mv W.length (mA W) (cg W.length (mA W) (fun i=>(rowq zb up.length).getD i 0) (fun i=>(rowq zx up.length).getD i 0) k).x))) hs ?_
 refine eO 1 122 [(0,0,5)] (qv (dt W.length (fun j=>(rowq zb up.length).getD j 0) (cg W.length (mA W) (fun i=>(rowq zb up.length).getD i 0) (fun i=>(rowq zx up.length).getD i 0) k).x)) hs ?_
 refine eO 2 123 [(0,0,5)] (qv (dt W.length (fun j=>(rowq zb up.length).getD j 0) (cg W.length (mA W) (fun i=>(rowq zb up.length).getD i 0) (fun i=>(rowq zx up.length).getD i 0) k).x)) hs ?_
 have hq45:=LQ.add hqd hqd
 refine eC 3 124 hs (fun _ _ hs=>fAdd (dt W.length (fun j=>(rowq zb up.length).getD j 0) (cg W.length (mA W) (fun i=>(rowq zb up.length).getD i 0) (fun i=>(rowq zx up.length).getD i 0) k).x) (dt W.length (fun j=>(rowq zb up.length).getD j 0) (cg W.length (mA W) (fun i=>(rowq zb up.length).getD i 0) (fun i=>(rowq zx up.length).getD i 0) k).x) (LQ.mono hqd oM) (LQ.mono hqd oM) _ _ hs.g (hs.f.2.2.2.2.2.2.2.2.2.2.2.2.2.2.2.2.1)) ?_
 rintro _ _ _ w46 h47 hs rfl
 have hq48:=LQ.sub hqp hq45
 refine eC 4 125 hs (fun _ _ hs=>fSub (dt W.length (cg W.length (mA W) (fun i=>(rowq zb up.length).getD i 0) (fun i=>(rowq zx up.length).getD i 0) k).x (mv W.length (mA W) (cg W.length (mA W) (fun i=>(rowq zb up.length).getD i 0) (fun i=>(rowq zx up.length).getD i 0) k).x)) ((dt W.length (fun j=>(rowq zb up.length).getD j 0) (cg W.length (mA W) (fun i=>(rowq zb up.length).getD i 0) (fun i=>(rowq zx up.length).getD i 0) k).x)+(dt W.length (fun j=>(rowq zb up.length).getD j 0) (cg W.length (mA W) (fun i=>(rowq zb up.length).getD i 0) (fun i=>(rowq zx up.length).getD i 0) k).x)) (LQ.mono hqp oM) (LQ.mono hq45 oM) _ _ hs.g (hs.f.2.2.2.2.2.2.2.2.2.2.2.2.2.2.2.2.1)) ?_
 rintro _ _ _ w49 h50 hs rfl
 refine eD1p [] hsr hs 56 [.bool false,.int .u64 0,.string ⟨#[]⟩,.int .u64 0,.string ⟨#[]⟩] (fun w51 h52 b53 hs=>?_)
 have hqn:LQ 100000000 (phi W.length (mA W) (fun i=>(rowq zb up.length).getD i 0) (cg W.length (mA W) (fun i=>(rowq zb up.length).getD i 0) (fun i=>(rowq zx up.length).getD i 0) k).x):=(hq48).mono oM
 refine tP 6 0 0 (qc (phi W.length (mA W) (fun i=>(rowq zb up.length).getD i 0) (cg W.length (mA W) (fun i=>(rowq zb up.length).getD i 0) (fun i=>(rowq zx up.length).getD i 0) k).x)) hs (fun w54 hs=>?_)
 refine tN (CG.seq (cSL (lL hs [.m 126 20,.v 127 (.bool false),.m 128 127,.m 129 22,.v 130 (.bool false),.v 131 (.bool false),.m 132 131,.m 133 18] ?_)))
 cases hb55:(decide ((0:Int)<((k:Nat):Int)))
 ·
  have phb55:=oF hb55
  refine lB 134 hb55 ?_
  refine lL hs [.m 135 134] (lG 136 ?_)
  refine lG 137 ?_
  refine lG 138 ?_
  refine lG 139 ?_
  refine lL hs [.v 140 (.bool false),.v 141 (.bool false)] (lN (cTo [(9,.slice Ap up.length cp),(10,.slice Ab ((rowq zb up.length).length) cAb),(12,.slice At al.length ct),(17,.pointer (some ⟨b24,0,none⟩)),(18,.int .i64 (k:Nat)),(23,.pointer (some ⟨b53,0,none⟩)),(141,.bool false)] ?_))
  refine cIF (CG.skipN (cSL (lL hs [.o 142 (qv (phi W.length (mA W) (fun i=>(rowq zb up.length).getD i 0) (cg W.length (mA W) (fun i=>(rowq zb up.length).getD i 0) (fun i=>(rowq zx up.length).getD i 0) k).x)) 0 0 5] (lP 3 0 (qc (phi W.length (mA W) (fun i=>(rowq zb up.length).getD i 0) (cg W.length (mA W) (fun i=>(rowq zb up.length).getD i 0) (fun i=>(rowq zx up.length).getD i 0) k).x)) hs (fun w56 hs=>?_)))))
  refine lNS (lL hs [.v 24 (.int .i64 0)] (lN (CG.block (cTo [(9,.slice Ap up.length cp),(10,.slice Ab ((rowq zb up.length).length) cAb),(12,.slice At al.length ct),(17,.pointer (some ⟨b24,0,none⟩)),(18,.int .i64 (k:Nat)),(24,.int .i64 0)] ?_))))
  refine CG.loop (fun μ_ Γ w_=>∃ (j:Nat) (h_:Hp),μ_=k-j∧Γ=[(9,.slice Ap up.length cp),(10,.slice Ab ((rowq zb up.length).length) cAb),(12,.slice At al.length ct),(17,.pointer (some ⟨b24,0,none⟩)),(18,.int .i64 (k:Nat)),(24,.int .i64 (j:Nat))]∧SS w h w_ h_ [⟨b53,56,qc (phi W.length (mA W) (fun i=>(rowq zb up.length).getD i 0) (cg W.length (mA W) (fun i=>(rowq zb up.length).getD i 0) (fun i=>(rowq zx up.length).getD i 0) k).x)⟩,⟨b41,56,qc (dt W.length (fun j=>(rowq zb up.length).getD j 0) (cg W.length (mA W) (fun i=>(rowq zb up.length).getD i 0) (fun i=>(rowq zx up.length).getD i 0) k).x)⟩,⟨b35,56,qc (dt W.length (cg W.length (mA W) (fun i=>(rowq zb up.length).getD i 0) (fun i=>(rowq zx up.length).getD i 0) k).x (mv W.length (mA W) (cg W.length (mA W) (fun i=>(rowq zb up.length).getD i 0) (fun i=>(rowq zx up.length).getD i 0) k).x))⟩,⟨b24,56,qc (phi W.length (mA W) (fun i=>(rowq zb up.length).getD i 0) (cg W.length (mA W) (fun i=>(rowq zb up.length).getD i 0) (fun i=>(rowq zx up.length).getD i 0) k).x)⟩] [] [fun h_=>SlO 5 qc 0 h_ Gx (vec W.length (cg W.length (mA W) (fun i=>(rowq zb up.length).getD i 0) (fun i=>(rowq zx up.length).getD i 0) k).x),fun h_=>SlO 5 qc 0 h_ G1 (vec W.length (cg W.length (mA W) (fun i=>(rowq zb up.length).getD i 0) (fun i=>(rowq zx up.length).getD i 0) t1).x),fun h_=>SlO 5 qc 0 h_ G0 (vec W.length (cg W.length (mA W) (fun i=>(rowq zb up.length).getD i 0) (fun i=>(rowq zx up.length).getD i 0) 0).x),fun h_=>SlO 5 qc 0 h_ As (vec W.length sl),fun h_=>CTr W.length (mA W) (fun i=>(rowq zb up.length).getD i 0) (fun i=>(rowq zx up.length).getD i 0) h_ al,fun h_=>SlO 3 tvc tv0 h_ At al,fun h_=>SlO 5 qc 0 h_ Ax (rowq zx up.length),fun h_=>RTs h_ tv (rowq zx up.length),fun h_=>SlO 3 rqc rqd h_ Av tv,fun h_=>SlO 5 qc 0 h_ Ab (rowq zb up.length),fun h_=>RTs h_ tu (rowq zb up.length),fun h_=>SlO 3 rqc rqd h_ Au tu,fun h_=>QVs h_ up W,fun h_=>SlO 1 vc undef h_ Ap up,fun h_=>RVs h_ ua W,fun h_=>SlO 1 vc undef h_ Aa ua,fun h_=>Tab h_,fun h_=>SlO 1 i64c 0 h_ A2 zx,fun h_=>SlO 1 i64c 0 h_ A1 zb,fun h_=>SlO 1 i64c 0 h_ A0 zl]∧(j≤k)) _ ⟨0,h52,rfl,rfl,hs.to _ _,Nat.zero_le _⟩ ?_
  rintro _ _ w57 ⟨j,h58,hm59,rfl,hs,hj⟩
  refine CG.seq (cSL (lL hs [.m 143 24,.m 144 18] ?_))
  cases hb60:(decide (((j:Nat):Int)<((k:Nat):Int)))
  ·
   have phb60:=oF hb60
   refine lB 145 hb60 ?_
   refine lN (cIF (CG.exit ?_))
   show CG _ _ _ _ _ _ _ _
   refine CG.listed (lL hs [.m 99 18] (lIn 100 ((k:Nat)+1) (k+1) ?_))
   refine lL hs [.m 18 100] (lD ?_)
   intro a_ ka
   have q61:(k+1)≤al.length:=by omega
   have q62:LQ 100000000 (lastq (fun i_=>phi W.length (mA W) (fun i=>(rowq zb up.length).getD i 0) (cg W.length (mA W) (fun i=>(rowq zb up.length).getD i 0) (fun i=>(rowq zx up.length).getD i 0) i_).x) (k+1)):=hqn
   replace hs:=hs.tl
   replace hs:=hs.drop 3 0
   refine ⟨_,_,?_,⟨k+1,h58,rfl,rfl,hs.to _ _,q61,q62⟩,ka.to [(9,.slice Ap up.length cp),(10,.slice Ab ((rowq zb up.length).length) cAb),(12,.slice At al.length ct),(17,.pointer (some ⟨b24,0,none⟩)),(18,.int .i64 ((k+1):Nat))] kR⟩
   omega
  have phb60:=oT hb60
  refine lB 145 hb60 ?_
  refine lN (cIT (CG.skipN (CG.seq (CG.block (CG.seq ?_)))))
  have hsr:=hs
  refine cR 15 [⟨14,25,.cells (List.toArray [.bool false,.int .u64 0,.string ⟨#[]⟩,.int .u64 0,.string ⟨#[]⟩]) 56 (0,0)⟩] mixed hs (al_cons (alOk kR (fun _ _=>by kernel_rfl)) al_nil) ?_
  refine eV 0 149 (.slice At al.length ct) ?_
  refine eV 1 150 (.int .i64 (k:Nat)) ?_
  refine eX 2 151 At al.length ct 3 (k:Nat) k ((hs.f.2.2.2.2.2.1).ok oM) ?_
  refine eV 3 152 (.pointer (some ⟨(aB At),aO At+k*3+1,none⟩)) ?_
  have hBj:=hB1 j oM
  have hqrj:LQ 100000000 (dt W.length (cg W.length (mA W) (fun i=>(rowq zb up.length).getD i 0) (fun i=>(rowq zx up.length).getD i 0) k).r (cg W.length (mA W) (fun i=>(rowq zb up.length).getD i 0) (fun i=>(rowq zx up.length).getD i 0) j).r):=ph_lq3 hD oM hRu hRv oM oM
  obtain ⟨Gr,grc,Gre,Grh⟩:=((hs.f.2.2.2.2.1).at_ k oM).pr
  replace hs:=hs.a_SlO Grh
  refine eHe 4 153 ((al.getD k tv0).2.1) hs (((hs.f.2.2.2.2.2.2.1).el k oM).part 1 1) Gre ?_
  refine eV 5 154 (.slice At al.length ct) ?_
  refine eV 6 155 (.int .i64 (j:Nat)) ?_
  refine eX 7 156 At al.length ct 3 (j:Nat) j ((hs.f.2.2.2.2.2.2.1).ok oM) ?_
  refine eV 8 157 (.pointer (some ⟨(aB At),aO At+j*3+1,none⟩)) ?_
  obtain ⟨Gj,gjc,Gje,Gjh⟩:=((hs.f.2.2.2.2.2.1).at_ j oM).pr
  replace hs:=hs.a_SlO Gjh
  refine eHe 9 158 ((al.getD j tv0).2.1) hs (((hs.f.2.2.2.2.2.2.2.1).el j oM).part 1 1) Gje ?_
  refine eC 10 159 hs (fun _ _ hs=>cjDotV (cg W.length (mA W) (fun i=>(rowq zb up.length).getD i 0) (fun i=>(rowq zx up.length).getD i 0) k).r (cg W.length (mA W) (fun i=>(rowq zb up.length).getD i 0) (fun i=>(rowq zx up.length).getD i 0) j).r W.length Gr grc Gj gjc 100000 100000 oM kD hBk.r hBj.r _ _ hs.g (hs.f.2.1) (hs.f.1) (hs.f.2.2.2.2.2.2.2.2.2.2.2.2.2.2.2.2.2.2.1)) ?_
  rintro _ _ _ w63 h64 hs rfl
  refine eV 11 148 (.tuple #[qv (dt W.length (cg W.length (mA W) (fun i=>(rowq zb up.length).getD i 0) (fun i=>(rowq zx up.length).getD i 0) k).r (cg W.length (mA W) (fun i=>(rowq zb up.length).getD i 0) (fun i=>(rowq zx up.length).getD i 0) j).r),.bool true]) ?_
  refine eV 12 160 (qv (dt W.length (cg W.length (mA W) (fun i=>(rowq zb up.length).getD i 0) (fun i=>(rowq zx up.length).getD i 0) k).r (cg W.length (mA W) (fun i=>(rowq zb up.length).getD i 0) (fun i=>(rowq zx up.length).getD i 0) j).r)) ?_
  refine eV 13 161 (.bool true) ?_
  refine eD1p [] hsr hs 56 [.bool false,.int .u64 0,.string ⟨#[]⟩,.int .u64 0,.string ⟨#[]⟩] (fun w65 h66 b67 hs=>?_)
  refine tP 15 0 0 (qc (dt W.length (cg W.length (mA W) (fun i=>(rowq zb up.length).getD i 0) (fun i=>(rowq zx up.length).getD i 0) k).r (cg W.length (mA W) (fun i=>(rowq zb up.length).getD i 0) (fun i=>(rowq zx up.length).getD i 0) j).r)) hs (fun w68 hs=>?_)
  refine tV 16 26 (.bool true) ?_
  refine tNS ?_
  refine lL hs [.m 162 26,.v 163 (.bool false),.m 164 163,.o 165 (qv (dt W.length (cg W.length (mA W) (fun i=>(rowq zb up.length).getD i 0) (fun i=>(rowq zx up.length).getD i 0) k).r (cg W.length (mA W) (fun i=>(rowq zb up.length).getD i 0) (fun i=>(rowq zx up.length).getD i 0) j).r)) 0 0 5] (lC 166 hs (fSign (dt W.length (cg W.length (mA W) (fun i=>(rowq zb up.length).getD i 0) (fun i=>(rowq zx up.length).getD i 0) k).r (cg W.length (mA W) (fun i=>(rowq zb up.length).getD i 0) (fun i=>(rowq zx up.length).getD i 0) j).r) hqrj _ _ hs.g) ?_)
  rintro _ w69 h70 hs rfl
  have hb71:(((dt W.length (cg W.length (mA W) (fun i=>(rowq zb up.length).getD i 0) (fun i=>(rowq zx up.length).getD i 0) k).r (cg W.length (mA W) (fun i=>(rowq zb up.length).getD i 0) (fun i=>(rowq zx up.length).getD i 0) j).r).num.sign:Int) != (0:Int))=false:=bneF (by rw[cjp_up hPd hE1 oM oM];rfl)
  have phb71:=eqOfBne hb71
  refine lB 167 hb71 ?_
  refine lL hs [.v 168 (.bool false)] (lN (cIF (CG.skipN (CG.listed (lL hs [.m 146 24] (lIn 147 ((j:Nat)+1) (j+1) ?_))))))
  refine lL hs [.m 24 147] (lD ?_)
  intro a_ ka
  have q72:(j+1)≤k:=by omega
  replace hs:=hs.tl.tl
  replace hs:=hs.drop 1 0
  refine ⟨_,_,?_,⟨j+1,h70,rfl,rfl,hs.to _ _,q72⟩,ka.to [(9,.slice Ap up.length cp),(10,.slice Ab ((rowq zb up.length).length) cAb),(12,.slice At al.length ct),(17,.pointer (some ⟨b24,0,none⟩)),(18,.int .i64 (k:Nat)),(24,.int .i64 ((j+1):Nat))] kR⟩
  omega
 have phb55:=oT hb55
 refine lB 134 hb55 ?_
 refine lL hs [.m 135 134,.o 136 (qv (phi W.length (mA W) (fun i=>(rowq zb up.length).getD i 0) (cg W.length (mA W) (fun i=>(rowq zb up.length).getD i 0) (fun i=>(rowq zx up.length).getD i 0) k).x)) 0 0 5,.o 137 (qv (lastq (fun i_=>phi W.length (mA W) (fun i=>(rowq zb up.length).getD i 0) (cg W.length (mA W) (fun i=>(rowq zb up.length).getD i 0) (fun i=>(rowq zx up.length).getD i 0) i_).x) k)) 3 0 5] (lC 138 hs (fCmp (phi W.length (mA W) (fun i=>(rowq zb up.length).getD i 0) (cg W.length (mA W) (fun i=>(rowq zb up.length).getD i 0) (fun i=>(rowq zx up.length).getD i 0) k).x) (lastq (fun i_=>phi W.length (mA W) (fun i=>(rowq zb up.length).getD i 0) (cg W.length (mA W) (fun i=>(rowq zb up.length).getD i 0) (fun i=>(rowq zx up.length).getD i 0) i_).x) k) hqn hql _ _ hs.g) ?_)
 rintro _ w73 h74 hs rfl
 have ⟨hb75,phb75⟩:=dF (p:=(0:Int)≤(cmpR (phi W.length (mA W) (fun i=>(rowq zb up.length).getD i 0) (cg W.length (mA W) (fun i=>(rowq zb up.length).getD i 0) (fun i=>(rowq zx up.length).getD i 0) k).x) (lastq (fun i_=>phi W.length (mA W) (fun i=>(rowq zb up.length).getD i 0) (cg W.length (mA W) (fun i=>(rowq zb up.length).getD i 0) (fun i=>(rowq zx up.length).getD i 0) i_).x) k):Int)) (by have h_:=cmp_down hPd hE1 (k:=k) oM oM;omega)
 refine lB 139 hb75 ?_
 refine lL hs [.v 140 (.bool false),.v 141 (.bool false)] (lN (cTo [(9,.slice Ap up.length cp),(10,.slice Ab ((rowq zb up.length).length) cAb),(12,.slice At al.length ct),(17,.pointer (some ⟨b24,0,none⟩)),(18,.int .i64 (k:Nat)),(23,.pointer (some ⟨b53,0,none⟩)),(141,.bool false)] ?_))
 refine cIF (CG.skipN (cSL (lL hs [.o 142 (qv (phi W.length (mA W) (fun i=>(rowq zb up.length).getD i 0) (cg W.length (mA W) (fun i=>(rowq zb up.length).getD i 0) (fun i=>(rowq zx up.length).getD i 0) k).x)) 0 0 5] (lP 3 0 (qc (phi W.length (mA W) (fun i=>(rowq zb up.length).getD i 0) (cg W.length (mA W) (fun i=>(rowq zb up.length).getD i 0) (fun i=>(rowq zx up.length).getD i 0) k).x)) hs (fun w76 hs=>?_)))))
 refine lNS (lL hs [.v 24 (.int .i64 0)] (lN (CG.block (cTo [(9,.slice Ap up.length cp),(10,.slice Ab ((rowq zb up.length).length) cAb),(12,.slice At al.length ct),(17,.pointer (some ⟨b24,0,none⟩)),(18,.int .i64 (k:Nat)),(24,.int .i64 0)] ?_))))
 refine CG.loop (fun μ_ Γ w_=>∃ (j:Nat) (h_:Hp),μ_=k-j∧Γ=[(9,.slice Ap up.length cp),(10,.slice Ab ((rowq zb up.length).length) cAb),(12,.slice At al.length ct),(17,.pointer (some ⟨b24,0,none⟩)),(18,.int .i64 (k:Nat)),(24,.int .i64 (j:Nat))]∧SS w h w_ h_ [⟨b53,56,qc (phi W.length (mA W) (fun i=>(rowq zb up.length).getD i 0) (cg W.length (mA W) (fun i=>(rowq zb up.length).getD i 0) (fun i=>(rowq zx up.length).getD i 0) k).x)⟩,⟨b41,56,qc (dt W.length (fun j=>(rowq zb up.length).getD j 0) (cg W.length (mA W) (fun i=>(rowq zb up.length).getD i 0) (fun i=>(rowq zx up.length).getD i 0) k).x)⟩,⟨b35,56,qc (dt W.length (cg W.length (mA W) (fun i=>(rowq zb up.length).getD i 0) (fun i=>(rowq zx up.length).getD i 0) k).x (mv W.length (mA W) (cg W.length (mA W) (fun i=>(rowq zb up.length).getD i 0) (fun i=>(rowq zx up.length).getD i 0) k).x))⟩,⟨b24,56,qc (phi W.length (mA W) (fun i=>(rowq zb up.length).getD i 0) (cg W.length (mA W) (fun i=>(rowq zb up.length).getD i 0) (fun i=>(rowq zx up.length).getD i 0) k).x)⟩] [] [fun h_=>SlO 5 qc 0 h_ Gx (vec W.length (cg W.length (mA W) (fun i=>(rowq zb up.length).getD i 0) (fun i=>(rowq zx up.length).getD i 0) k).x),fun h_=>SlO 5 qc 0 h_ G1 (vec W.length (cg W.length (mA W) (fun i=>(rowq zb up.length).getD i 0) (fun i=>(rowq zx up.length).getD i 0) t1).x),fun h_=>SlO 5 qc 0 h_ G0 (vec W.length (cg W.length (mA W) (fun i=>(rowq zb up.length).getD i 0) (fun i=>(rowq zx up.length).getD i 0) 0).x),fun h_=>SlO 5 qc 0 h_ As (vec W.length sl),fun h_=>CTr W.length (mA W) (fun i=>(rowq zb up.length).getD i 0) (fun i=>(rowq zx up.length).getD i 0) h_ al,fun h_=>SlO 3 tvc tv0 h_ At al,fun h_=>SlO 5 qc 0 h_ Ax (rowq zx up.length),fun h_=>RTs h_ tv (rowq zx up.length),fun h_=>SlO 3 rqc rqd h_ Av tv,fun h_=>SlO 5 qc 0 h_ Ab (rowq zb up.length),fun h_=>RTs h_ tu (rowq zb up.length),fun h_=>SlO 3 rqc rqd h_ Au tu,fun h_=>QVs h_ up W,fun h_=>SlO 1 vc undef h_ Ap up,fun h_=>RVs h_ ua W,fun h_=>SlO 1 vc undef h_ Aa ua,fun h_=>Tab h_,fun h_=>SlO 1 i64c 0 h_ A2 zx,fun h_=>SlO 1 i64c 0 h_ A1 zb,fun h_=>SlO 1 i64c 0 h_ A0 zl]∧(j≤k)) _ ⟨0,h74,rfl,rfl,hs.to _ _,Nat.zero_le _⟩ ?_
 rintro _ _ w77 ⟨j,h78,hm79,rfl,hs,hj⟩
 refine CG.seq (cSL (lL hs [.m 143 24,.m 144 18] ?_))
 cases hb80:(decide (((j:Nat):Int)<((k:Nat):Int)))
 ·
  have phb80:=oF hb80
  refine lB 145 hb80 ?_
  refine lN (cIF (CG.exit ?_))
  show CG _ _ _ _ _ _ _ _
  refine CG.listed (lL hs [.m 99 18] (lIn 100 ((k:Nat)+1) (k+1) ?_))
  refine lL hs [.m 18 100] (lD ?_)
  intro a_ ka
  have q81:(k+1)≤al.length:=by omega
  have q82:LQ 100000000 (lastq (fun i_=>phi W.length (mA W) (fun i=>(rowq zb up.length).getD i 0) (cg W.length (mA W) (fun i=>(rowq zb up.length).getD i 0) (fun i=>(rowq zx up.length).getD i 0) i_).x) (k+1)):=hqn
  replace hs:=hs.tl
  replace hs:=hs.drop 3 0
  refine ⟨_,_,?_,⟨k+1,h78,rfl,rfl,hs.to _ _,q81,q82⟩,ka.to [(9,.slice Ap up.length cp),(10,.slice Ab ((rowq zb up.length).length) cAb),(12,.slice At al.length ct),(17,.pointer (some ⟨b24,0,none⟩)),(18,.int .i64 ((k+1):Nat))] kR⟩
  omega
 have phb80:=oT hb80
 refine lB 145 hb80 ?_
 refine lN (cIT (CG.skipN (CG.seq (CG.block (CG.seq ?_)))))
 have hsr:=hs
 refine cR 15 [⟨14,25,.cells (List.toArray [.bool false,.int .u64 0,.string ⟨#[]⟩,.int .u64 0,.string ⟨#[]⟩]) 56 (0,0)⟩] mixed hs (al_cons (alOk kR (fun _ _=>by kernel_rfl)) al_nil) ?_
 refine eV 0 149 (.slice At al.length ct) ?_
 refine eV 1 150 (.int .i64 (k:Nat)) ?_
 refine eX 2 151 At al.length ct 3 (k:Nat) k ((hs.f.2.2.2.2.2.1).ok oM) ?_
 refine eV 3 152 (.pointer (some ⟨(aB At),aO At+k*3+1,none⟩)) ?_
 have hBj:=hB1 j oM
 have hqrj:LQ 100000000 (dt W.length (cg W.length (mA W) (fun i=>(rowq zb up.length).getD i 0) (fun i=>(rowq zx up.length).getD i 0) k).r (cg W.length (mA W) (fun i=>(rowq zb up.length).getD i 0) (fun i=>(rowq zx up.length).getD i 0) j).r):=ph_lq3 hD oM hRu hRv oM oM
 obtain ⟨Gr,grc,Gre,Grh⟩:=((hs.f.2.2.2.2.1).at_ k oM).pr
 replace hs:=hs.a_SlO Grh
 refine eHe 4 153 ((al.getD k tv0).2.1) hs (((hs.f.2.2.2.2.2.2.1).el k oM).part 1 1) Gre ?_
 refine eV 5 154 (.slice At al.length ct) ?_
 refine eV 6 155 (.int .i64 (j:Nat)) ?_
 refine eX 7 156 At al.length ct 3 (j:Nat) j ((hs.f.2.2.2.2.2.2.1).ok oM) ?_
 refine eV 8 157 (.pointer (some ⟨(aB At),aO At+j*3+1,none⟩)) ?_
 obtain ⟨Gj,gjc,Gje,Gjh⟩:=((hs.f.2.2.2.2.2.1).at_ j oM).pr
 replace hs:=hs.a_SlO Gjh
 refine eHe 9 158 ((al.getD j tv0).2.1) hs (((hs.f.2.2.2.2.2.2.2.1).el j oM).part 1 1) Gje ?_
 refine eC 10 159 hs (fun _ _ hs=>cjDotV (cg W.length (mA W) (fun i=>(rowq zb up.length).getD i 0) (fun i=>(rowq zx up.length).getD i 0) k).r (cg W.length (mA W) (fun i=>(rowq zb up.length).getD i 0) (fun i=>(rowq zx up.length).getD i 0) j).r W.length Gr grc Gj gjc 100000 100000 oM kD hBk.r hBj.r _ _ hs.g (hs.f.2.1) (hs.f.1) (hs.f.2.2.2.2.2.2.2.2.2.2.2.2.2.2.2.2.2.2.1)) ?_
 rintro _ _ _ w83 h84 hs rfl
 refine eV 11 148 (.tuple #[qv (dt W.length (cg W.length (mA W) (fun i=>(rowq zb up.length).getD i 0) (fun i=>(rowq zx up.length).getD i 0) k).r (cg W.length (mA W) (fun i=>(rowq zb up.length).getD i 0) (fun i=>(rowq zx up.length).getD i 0) j).r),.bool true]) ?_
 refine eV 12 160 (qv (dt W.length (cg W.length (mA W) (fun i=>(rowq zb up.length).getD i 0) (fun i=>(rowq zx up.length).getD i 0) k).r (cg W.length (mA W) (fun i=>(rowq zb up.length).getD i 0) (fun i=>(rowq zx up.length).getD i 0) j).r)) ?_
 refine eV 13 161 (.bool true) ?_
 refine eD1p [] hsr hs 56 [.bool false,.int .u64 0,.string ⟨#[]⟩,.int .u64 0,.string ⟨#[]⟩] (fun w85 h86 b87 hs=>?_)
 refine tP 15 0 0 (qc (dt W.length (cg W.length (mA W) (fun i=>(rowq zb up.length).getD i 0) (fun i=>(rowq zx up.length).getD i 0) k).r (cg W.length (mA W) (fun i=>(rowq zb up.length).getD i 0) (fun i=>(rowq zx up.length).getD i 0) j).r)) hs (fun w88 hs=>?_)
 refine tV 16 26 (.bool true) ?_
 refine tNS ?_
 refine lL hs [.m 162 26,.v 163 (.bool false),.m 164 163,.o 165 (qv (dt W.length (cg W.length (mA W) (fun i=>(rowq zb up.length).getD i 0) (fun i=>(rowq zx up.length).getD i 0) k).r (cg W.length (mA W) (fun i=>(rowq zb up.length).getD i 0) (fun i=>(rowq zx up.length).getD i 0) j).r)) 0 0 5] (lC 166 hs (fSign (dt W.length (cg W.length (mA W) (fun i=>(rowq zb up.length).getD i 0) (fun i=>(rowq zx up.length).getD i 0) k).r (cg W.length (mA W) (fun i=>(rowq zb up.length).getD i 0) (fun i=>(rowq zx up.length).getD i 0) j).r) hqrj _ _ hs.g) ?_)
 rintro _ w89 h90 hs rfl
 have hb91:(((dt W.length (cg W.length (mA W) (fun i=>(rowq zb up.length).getD i 0) (fun i=>(rowq zx up.length).getD i 0) k).r (cg W.length (mA W) (fun i=>(rowq zb up.length).getD i 0) (fun i=>(rowq zx up.length).getD i 0) j).r).num.sign:Int) != (0:Int))=false:=bneF (by rw[cjp_up hPd hE1 oM oM];rfl)
 have phb91:=eqOfBne hb91
 refine lB 167 hb91 ?_
 refine lL hs [.v 168 (.bool false)] (lN (cIF (CG.skipN (CG.listed (lL hs [.m 146 24] (lIn 147 ((j:Nat)+1) (j+1) ?_))))))
 refine lL hs [.m 24 147] (lD ?_)
 intro a_ ka
 have q92:(j+1)≤k:=by omega
 replace hs:=hs.tl.tl
 replace hs:=hs.drop 1 0
 refine ⟨_,_,?_,⟨j+1,h90,rfl,rfl,hs.to _ _,q92⟩,ka.to [(9,.slice Ap up.length cp),(10,.slice Ab ((rowq zb up.length).length) cAb),(12,.slice At al.length ct),(17,.pointer (some ⟨b24,0,none⟩)),(18,.int .i64 (k:Nat)),(24,.int .i64 ((j+1):Nat))] kR⟩
 omega
end Go.Proofs.YtnbjahmpennmkaaGreatDoor
