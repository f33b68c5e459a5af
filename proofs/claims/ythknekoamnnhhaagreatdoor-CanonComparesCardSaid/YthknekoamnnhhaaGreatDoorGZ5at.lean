import Derived.Test.YthknekoamnnhhaaGreatDoorGZ5as
set_option linter.unusedVariables false
set_option linter.unusedSimpArgs false
set_option maxHeartbeats 64000000
set_option maxRecDepth 100000
namespace Go.Proofs.YthknekoamnnhhaaGreatDoor
open Go.RowKit
variable {cs cur:Array Value}{o:Bool}{f f':Fr}{lv:Int}{j:JV}{L S:List (ByteArray×Value)}{frs fs:List Fr}{ks:List JV}{bs':List Nat}{u' us:List Value}{B c g i n pb q xb:Nat}{F P Q:Nat->Prop}{A:Option Addr}{e:TypeId}{T U:TypeId->Prop}{dv pv v:Value}{w w' w5:World}
def Kp (T:TypeId->Prop)(w w':World):Prop:=w.heap.size<=w'.heap.size/\∀ (g:Nat) (o:Obj),w.heap[g]?=some o->(∀cs e z,o =.cells cs e z->¬T e)->w'.heap[g]?=some o
theorem Kp.refl (T:TypeId->Prop)(w:World):Kp T w w:=⟨Za _,fun _ _ h _=>h⟩
theorem Kp.trans {a b c:World}(h:Kp T a b)(k:Kp T b c):Kp T a c:=⟨Zb h.1 k.1,fun g o hg ht=>k.2 g o (h.2 g o hg ht) ht⟩
theorem Kp.of_below (T:TypeId->Prop)(h:Below w.heap.size w w'):Kp T w w':=⟨h.size,fun g o hg _=>(h.block g (ae hg)).trans hg⟩
theorem Kp.of_chg (h:br F w w')(hF:∀g,F g->g<w.heap.size->∃cs e z,w.heap[g]?=some (.cells cs e z)/\T e):Kp T w w':=by
 refine⟨h.size,fun g o hg ht=>(h.block g (ae hg) fun hf=>?_).trans hg⟩;obtain⟨cs,e,z,h1,h2⟩:=hF g hf (ae hg);rw[h1] at hg;injection hg with hg
 exact ht cs e z hg.symm h2
theorem Kp.keeps (h:Kp T w w'):aJ T w w':=⟨h.1,fun g cs e z hg ht=>h.2 g _ hg (fun cs' e' z' he=>by injection he with _ he;subst he;exact ht)⟩
theorem Kp.imp (h:Kp T w w')(hT:∀e,T e->U e):Kp U w w':=⟨h.1,fun g o hg ht=>h.2 g o hg (fun cs e z he a0=>ht cs e z he (hT e a0))⟩
theorem Kp.heap (h:Kp T w w'){z:Nat×Nat}(hg:w.heap[g]?=some (.cells cs e z))(he:¬T e):w'.heap[g]?=some (.cells cs e z):=h.keeps.2 g cs e z hg he
def bZ (u:List Value):List Nat:=(u.getD 1 undef).ownBlock.toList++ (u.getD 2 undef).ownBlock.toList
def Pb (B:Nat)(bs:List Nat)(g:Nat):Prop:=B<=g/\g∉bs
structure Jp (P:Nat->Prop) (B:Nat) (w:World) (u:List Value) (f:Fr) (iv mv:Value) (s:ByteArray) (us:List Value) (L:List (ByteArray×Value)):Prop where
 cells:u = [.int .i64 (if f.obj then 6 else 5),iv,mv,.string s,.bool f.name.isSome]
 name:∀t,f.name=some t->s=t
 items:w.ownsRow B 32 1 iv us.length us
 vals:bB (VW P w) us f.items
 mems:xW w B mv L
 names:L.map Prod.fst=f.mems.map Prod.fst
 mvals:bB (VW P w) (L.map Prod.snd) (f.mems.map Prod.snd)
 nilI:f.obj=true->iv =.slice none 0 0
 nilM:f.obj=false->mv =.slice none 0 0
def FU (P:Nat->Prop)(B:Nat)(w:World)(u:List Value)(f:Fr):Prop:= ∃iv mv s us L,Jp P B w u f iv mv s us L
theorem FU.len {u:List Value}(h:FU P B w u f):u.length=5:=by obtain⟨_,_,_,_,_,h⟩:=h;rw[h.cells];rfl
def oU (P:Nat->Prop)(w:World)(dv:Value)(d:Option JV):Prop:=match d with|none=>dv =.nilIface|some j=>VW P w dv j
structure Bz (B:Nat) (w:World) (xb:Nat) (frs:List Fr) (done:Option JV) (pv dv:Value) (us:List (List Value)) (bs:List Nat):Prop where
 row:w.heap[xb]?=some (.cells #[pv,dv] 192 (0,0))
 low:B<=xb
 parts:w.ownsRow B 238 5 pv frs.length us.reverse.flatten
 frames:bB (fun u f=>FU (Pb B bs) B w u f) us frs
 blocks:us.flatMap bZ=bs
 nodup:bs.Nodup
 done:oU (Pb B bs) w dv done
def fC (B:Nat)(w:World)(xb:Nat)(frs:List Fr)(done:Option JV)(bs:List Nat):Prop:= ∃pv dv us,Bz B w xb frs done pv dv us bs
def Mv (top:List Nat)(w w':World):Prop:=w.heap.size<=w'.heap.size/\∀ (g:Nat) (cs:Array Value) (e:TypeId) (z:Nat×Nat),w.heap[g]?=some (.cells cs e z)->TV e->g∉top->w'.heap[g]?=some (.cells cs e z)
theorem Mv.of_below {top:List Nat}(h:Below w.heap.size w w'):Mv top w w':=⟨h.size,fun g cs e z hg _ _=>(h.block g (ae hg)).trans hg⟩
theorem Mv.of_kp {top:List Nat}(h:Kp T w w')(hT:∀e,TV e->¬T e):Mv top w w':=⟨h.1,fun g cs e z hg he _=>h.heap hg (hT e he)⟩
theorem Mv.trans {t:List Nat}{a b c:World}(h:Mv t a b)(k:Mv t b c):Mv t a c:=⟨Zb h.1 k.1,fun g cs e z hg he ht=>k.2 g cs e z (h.2 g cs e z hg he ht) he ht⟩
theorem Mv.of_chg {top:List Nat}(h:br F w w')(hF:∀g,F g->g<w.heap.size->g∈top\/∃cs e z,w.heap[g]?=some (.cells cs e z)/\¬TV e):Mv top w w':=by
 refine⟨h.size,fun g cs e z hg he ht=>(h.block g (ae hg) fun hf=>?_).trans hg⟩;rcases hF g hf (ae hg) with h1|⟨cs',e',z',h1,h2⟩
 ·exact ht h1
 ·rw[h1] at hg;injection hg with hg
  injection hg with _ hg _
  subst hg;exact h2 he
theorem VW.move {bs top:List Nat}(h:VW (Pb B bs) w v j)(hm:Mv top w w')(ht:∀g∈top,g∈bs)(a0:∀g∈bs',g∈bs\/w.heap.size<=g):VW (Pb B bs') w' v j:=
 h.stay fun g o ⟨h1,h2⟩ hg ⟨cs,e,z,ho,he⟩=>by
  subst ho;refine⟨⟨h1,fun hb=>?_⟩,hm.2 g cs e z hg he (fun h=>h2 (ht g h))⟩;rcases a0 g hb with h3|h3
  ·exact h2 h3
  ·have:=ae hg;omega
theorem k8 {k:Nat}{top:List Nat}{xs:List Value}(h:w.ownsRow B e k v n xs)(hm:Mv top w w')(he:TV e)(ht:∀g,v.ownBlock=some g->g∉top):w'.ownsRow B e k v n xs:=by
 refine bH h fun b hb=>?_
 obtain⟨_,cur,hg⟩:=al h hb;rw[hg];exact hm.2 b cur e _ hg he (ht b hb)
theorem FU.move {bs top:List Nat}{u:List Value}(h:FU (Pb B bs) B w u f)(hm:Mv top w w')(ht:∀g∈top,g∈bs)(a0:∀g∈bs',g∈bs\/w.heap.size<=g)(hu:∀g∈bZ u,g∉top):FU (Pb B bs') B w' u f:=by
 obtain⟨iv,mv,s,us,L,h1,h2,h3,h4,h5,h6,h7,h8,h9⟩:=h;subst h1;refine⟨iv,mv,s,us,L,rfl,h2,k8 h3 hm (.inr (.inr (.inl rfl))) (fun g e=>hu g ?_),h4.mono fun _ _ h=>h.move hm ht a0,k8 h5 hm (.inr (.inr (.inr rfl))) (fun g e=>hu g ?_),h6,h7.mono fun _ _ h=>h.move hm ht a0,h8,h9⟩
 ·simp[bZ,e]
 ·simp[bZ,e]
theorem oU.move {bs top:List Nat}{d:Option JV}(h:oU (Pb B bs) w dv d)(hm:Mv top w w')(ht:∀g∈top,g∈bs)(a0:∀g∈bs',g∈bs\/w.heap.size<=g):oU (Pb B bs') w' dv d:=by
 cases d with
 |none=>exact h
 |some j=>exact VW.move h hm ht a0
def TB (e:TypeId):Prop:=TV e\/e=192\/e=238
theorem fC.kp {done:Option JV}{bs:List Nat}(h:fC B w xb frs done bs)(hk:Kp T w w')(hT:∀e,TB e->¬T e):fC B w' xb frs done bs:=by
 obtain⟨pv,dv,us,h1,h2,h3,h4,h5,h6,h7⟩:=h;have hm:Mv [] w w':=Mv.of_kp hk (fun e he=>hT e (.inl he));have a0:∀g∈bs,g∈bs\/w.heap.size<=g:=fun g h=>.inl h
 exact⟨pv,dv,us,hk.heap h1 (hT _ (.inr (.inl rfl))),h2,ao h3 hk.keeps (hT _ (.inr (.inr rfl))),h4.mono fun _ _ h=>h.move hm (by simp) a0 (by simp),h5,h6,h7.move hm (by simp) a0⟩
theorem fC.below {done:Option JV}{bs:List Nat}(h:fC B w xb frs done bs)(hb:Below w.heap.size w w'):fC B w' xb frs done bs:=h.kp (T:=fun _=>False) (Kp.of_below _ hb) (fun _ _ h=>h)
theorem CO:dE 190 238 (.agg #[.int .i64 0,.slice none 0 0,.slice none 0 0,.string ByteArray.empty,.bool false]) 5 80:=⟨Tryz.underlying190,by kernel_rfl,rfl,by decide⟩
structure I9 (w:World) (pv:Value) (m:Nat) (u:List Value) (pb q:Nat):Prop where
 pv:pv =.slice (some ⟨pb,0,none⟩) (m+1) q
 cell:∀i v,u[i]?=some v->w.cell? ⟨pb,m*5+i,none⟩=some v
 typed:∃cur,w.heap[pb]?=some (.cells cur 238 (0,0))
 max:m+1<=maxLen
 cap:m+1<=q
theorem eK {u:List Value}{us:List (List Value)}(h:w.ownsRow B 238 5 pv (us.length+1) (u::us).reverse.flatten)(hl:∀x∈u::us,x.length=5):∃pb q,B<=pb/\I9 w pv us.length u pb q:=by
 rcases bU h with ⟨_,e,_⟩|⟨pb,q,rfl,hb,hc,hm⟩
 ·omega
 ·obtain⟨_,cur,a0⟩:=al h rfl;refine⟨pb,q,hb,rfl,fun i v hv=>?_,⟨cur,a0⟩,hm,hc⟩;have hi:=(List.getElem?_eq_some_iff.1 hv).1;have h5:=hl u (by simp);rw[World.ownsRow.cellAt h (us.length*5+i) (by omega),wh (k:=5) (fun x hx=>hl x (List.mem_reverse.1 hx)) us.length i (by omega)];rw[List.reverse_cons,List.getElem?_append_right (by simp),List.length_reverse,Nat.sub_self];simpa using hv
theorem AJ {u:List Value}{us:List (List Value)}(h:w.ownsRow B 238 5 (.slice (some ⟨pb,0,none⟩) (us.length+1) q) (us.length+1) (u::us).reverse.flatten)(hl:∀x∈u::us,x.length=5)(hu:u'.length=5)
  (hw:∃cur:Array Value,w'.heap[pb]?=some (.cells cur 238 (0,0))/\∀old,w.heap[pb]?=some (.cells old 238 (0,0))->cur.size=old.size/\(∀i,i<us.length*5->cur[i]?=old[i]?)/\∀i,i<5->cur[us.length*5+i]?=u'[i]?) :
  w'.ownsRow B 238 5 (.slice (some ⟨pb,0,none⟩) (us.length+1) q) (us.length+1) (u'::us).reverse.flatten:=by
 obtain⟨hx,⟨e1,h0⟩|⟨g,cap,old,e1,hb,hg,h2,h3,h4,h5⟩⟩:=h
 ·cases e1
 obtain⟨e2,-,rfl⟩:=Value.slice.inj e1;obtain rfl:pb=g:=by injection e2 with e2;injection e2
 obtain⟨cur,a0,a1⟩:=hw;obtain⟨c1,c2,c3⟩:=a1 old hg;have hlen:∀ (L:List (List Value)),(∀x∈L,x.length=5)->L.flatten.length=L.length*5:=fun L=>by
  induction L with
  |nil=>intro _;rfl
  |cons a L ih=>intro h;rw[List.flatten_cons,List.length_append,ih (fun x hx=>h x (Zl _ hx)),h a (by simp),List.length_cons];omega
 have a3:∀x∈us.reverse,x.length=5:=fun x hx=>hl x (Zl _ (List.mem_reverse.1 hx))
 have h6:=hlen us.reverse a3;rw[List.length_reverse] at h6;have a2:((u'::us).reverse.flatten).length= (us.length+1)*5:=by
  rw[List.reverse_cons,List.flatten_append,List.length_append,h6];simp[hu];omega
 refine⟨a2,.inr ⟨pb,q,cur,rfl,hb,a0,h2,h3,by rw[c1];exact h4,?_⟩⟩;apply List.ext_getElem?;intro i;rw[List.reverse_cons,List.flatten_append]
 by_cases hi:i< (us.length+1)*5
 ·rw[List.getElem?_take_of_lt hi,Array.getElem?_toList]
  by_cases hi2:i<us.length*5
  ·rw[c2 i hi2,List.getElem?_append_left (by omega)];have:=congrArg (·[i]?) h5;simp only[List.getElem?_take_of_lt hi,Array.getElem?_toList] at this;rw[this,List.reverse_cons,List.flatten_append,List.getElem?_append_left (by omega)]
  ·rw[List.getElem?_append_right (by omega),h6];have:=c3 (i - us.length*5) (by omega);rw[show us.length*5+ (i - us.length*5)=i by omega] at this;rw[this];simp
 ·rw[List.getElem?_eq_none (by simp;omega),List.getElem?_eq_none];rw[<-List.flatten_append,<-List.reverse_cons,a2];omega
theorem JH {u:List Value}{j:Nat}(v:Value)(hu:u.length=5)(hj:j<5):(u.set j v)[i]?=if i=j then some v else u[i]?:=by
 rw[List.getElem?_set]
 by_cases h:j=i
 ·subst h;simp[hu,hj]
 ·rw[if_neg h,if_neg (fun e=>h e.symm)]
theorem ff {u:List Value}{us:List (List Value)}(h:w.ownsRow B 238 5 (.slice (some ⟨pb,0,none⟩) (us.length+1) q) (us.length+1) (u::us).reverse.flatten)(hl:∀x∈u::us,x.length=5){j:Nat}(hj:j<5)(v:Value) :
  (w.setCell ⟨pb,us.length*5+j,none⟩ v).ownsRow B 238 5 (.slice (some ⟨pb,0,none⟩) (us.length+1) q) (us.length+1) (u.set j v::us).reverse.flatten:=by
 have hu:=hl u (by simp);obtain⟨pb',q',a1,hT⟩:=eK h hl;obtain⟨e,-,-⟩:=Value.slice.inj hT.pv;obtain rfl:pb=pb':=by injection e with e;injection e
 obtain⟨cur,a0⟩:=hT.typed;have hc:∀i,i<5->cur[us.length*5+i]?=u[i]?:=by
  intro i hi;obtain⟨x,hx⟩:∃x,u[i]?=some x:=⟨_,Zc (by omega)⟩;have:=hT.cell i x hx;unfold World.cell? at this;simp only[a0] at this;rw[hx];simpa using this
 refine AJ h hl (by simp[hu]) ⟨cur.setIfInBounds (us.length*5+j) v,aw a0 _ _,fun old ho=>?_⟩;rw[a0] at ho;obtain rfl:cur=old:=by injection ho with ho;injection ho
 refine⟨by simp,fun i hi=>by rw[Array.getElem?_setIfInBounds_ne (by omega)],fun i hi=>?_⟩;rw[JH v hu hj]
 by_cases h:i=j
 ·subst h;have h1:=hc i hi;have:us.length*5+i<cur.size:=by
   rcases Nat.lt_or_ge (us.length*5+i) cur.size with h2|h2
   ·exact h2
   ·rw[Array.getElem?_eq_none h2,Zc (by omega)] at h1;cases h1
  rw[if_pos rfl,Array.getElem?_setIfInBounds_self_of_lt this]
 ·rw[if_neg h,Array.getElem?_setIfInBounds_ne (by omega)];exact hc i hi
def mU (B xb:Nat)(c:dH)(w:World)(e:Ending)(w':World):Prop:=e =.returned (.tuple #[])/\Below B w w'/\Kp TB w w'/\∃bs,fC B w' xb c.frs c.done bs
theorem Ct {bs:List Nat}(h:fC B w xb [] none bs)(hv:VW (Pb B bs) w v j)(hB:B<=w.heap.size):Calls Tryz.prog 139 #[.pointer (some ⟨xb,0,none⟩),v] w (mU B xb (cW [] j) w):=by
 obtain⟨pv,dv,us,h1,h2,h3,h4,h5,h6,h7⟩:=id h;obtain⟨A,q,rfl,-⟩:=ah h3;have c0:=aa h1 (j:=0) (u:=.slice A ([]:List Fr).length q) rfl;have c1:=aa h1 (j:=1) rfl;have f1:=am h1 1;have Hh:=Qa h;have H1:=Qa h1;have H3:=Qa h3;have H4:=Qa h4;have Hv:=Qa hv;have H5:=Qa h5;have H6:=Qa h6;have H2:=Qa h2;obtain⟨tv,xv,rfl⟩:=hv.iface;clear h h1 h2 h3 h4 h5 h6 h7 hv;simp only[List.length_nil] at c0;go_enter Tryz.func139,Tryz.ntmps139;go_wp2_with fail;(try simp only[Exit.inBlock,Exit.then]);refine Zg (results_none rfl ..) rfl ?_;have a0:=br.set (w:=w) xb 1 (.iface tv xv);have hk:Kp TB w (w.setCell ⟨xb,1,none⟩ (.iface tv xv)):=Kp.of_chg a0 fun g e _=>by subst e;exact⟨_,_,_,H1.out,.inr (.inl rfl)⟩
 have hm:Mv [] w (w.setCell ⟨xb,1,none⟩ (.iface tv xv)):=Mv.of_chg a0 fun g e _=>.inr (by subst e;exact⟨_,_,_,H1.out,by simp only[TV];decide⟩)
 obtain rfl:us = []:=List.eq_nil_of_length_eq_zero (by have:=H4.out.1;simpa using this);refine⟨rfl,a0.below hB (fun i e=>by rw[e];exact H2.out),hk,bs,.slice A 0 q,.iface tv xv, [],aw H1.out 1 _,H2.out,ao H3.out (T:=fun e=>e=192) ?_ (by decide),bB.nil _,H5.out,H6.out,Hv.out.move hm (by simp) (fun g h=>.inl h)⟩;exact aJ.setCell _ fun cs e z hg=>by
  have:=H1.out.symm.trans hg;injection this with this
  injection this with _ this _
  exact this.symm
theorem Bz.top {done:Option JV}{u:List Value}{us:List (List Value)}{bs:List Nat}(h:Bz B w xb (f::fs) done pv dv (u::us) bs)(hm:Mv (bZ u) w w')(hx:w'.heap[xb]?=w.heap[xb]?)
  (hp:w'.ownsRow B 238 5 pv (fs.length+1) (u'::us).reverse.flatten) (hb:∀g∈bZ u',g∈bZ u\/w.heap.size<=g) (hn:(bZ u').Nodup) (hf:FU (Pb B (bZ u'++us.flatMap bZ)) B w' u' f'):Bz B w' xb (f'::fs) done pv dv (u'::us) (bZ u'++us.flatMap bZ):=by
 obtain⟨h1,h2,h3,h4,h5,h6,h7⟩:=h;have a1:bs=bZ u++us.flatMap bZ:=by rw[<-h5];rfl
 rw[a1] at h6;obtain⟨n1,n2,n3⟩:=List.nodup_append.1 h6;have hlt:∀g∈us.flatMap bZ,g<w.heap.size:=by
  intro g hg;obtain⟨x,hx,a0⟩:=List.mem_flatMap.1 hg;obtain⟨i,hi,rfl⟩:=List.getElem_of_mem hx;have hl:=h4.1;simp only[List.length_cons] at hl;obtain⟨iv,mv,s,xs,L,q1,q2,q3,q4,q5,-⟩:=h4.2 (i+1) us[i] (fs[i]'(by omega)) (by simp[Zc hi]) (by simp);rw[q1] at a0;rcases List.mem_append.1 a0 with a0|a0
  ·obtain⟨_,cur,hh⟩:=al q3 (g:=g) (by simpa using a0);exact ae hh
  ·obtain⟨_,cur,hh⟩:=al q5 (g:=g) (by simpa using a0);exact ae hh
 have ht:∀g∈bZ u,g∈bs:=fun g hg=>by rw[a1];exact List.mem_append_left _ hg
 have a2:∀g∈bZ u'++us.flatMap bZ,g∈bs\/w.heap.size<=g:=fun g hg=>by
  rcases List.mem_append.1 hg with hg|hg
  ·exact(hb g hg).imp (ht g) id
  ·exact .inl (by rw[a1];exact List.mem_append_right _ hg)
 refine⟨by rw[hx];exact h1,h2,hp,?_,rfl,List.nodup_append.2 ⟨hn,n2,fun a ha b a3 e=>?_⟩,h7.move hm ht a2⟩
 ·have hl:=h4.1;refine⟨by simpa using hl,fun i a b h1 h2=>?_⟩
  cases i with
  |zero=>simp at h1 h2;subst h1 h2;exact hf
  |succ i=>
   simp only[List.getElem?_cons_succ] at h1 h2;have hq:=h4.2 (i+1) a b (by simpa using h1) (by simpa using h2);exact hq.move hm ht a2 (fun g hg a4=>n3 g a4 g (List.mem_flatMap.2 ⟨a,Zk h1,hg⟩) rfl)
 ·subst e;rcases hb a ha with h|h
  ·exact n3 a h a a3 rfl
  ·have:=hlt a a3;omega
theorem aO {k:Nat}{e':TypeId}{xs:List Value}{z:Nat×Nat}(h:w.ownsRow B e k v n xs)(hg:w.heap[pb]?=some (.cells cur e' z))(hne:e≠e'):v.ownBlock≠some pb:=by
 intro hv;obtain⟨_,cur',a0⟩:=al h hv;rw[hg] at a0;injection a0 with a0
 injection a0 with _ a0 _
 exact hne a0.symm
theorem fI {o:Obj}(h':w'.heap[g]?=some o)(h:w.heap[g]?=some o)(j:Nat):w'.cell? ⟨g,j,none⟩=w.cell? ⟨g,j,none⟩:=by
 unfold World.cell?;simp only[h,h']
theorem kW (a b c:Value)(A:Option Addr)(n q:Nat):bZ [a,.slice A n q,.slice none 0 0,b,c]= (Value.slice A n q).ownBlock.toList:=List.append_nil _
theorem jz (a b c:Value)(A:Option Addr)(n q:Nat):bZ [a,.slice none 0 0,.slice A n q,b,c]= (Value.slice A n q).ownBlock.toList:=rfl
theorem lJ (v:Value):v.ownBlock.toList.Nodup:=by cases v.ownBlock <;> simp
theorem qE {w6:World}{done:Option JV}{u:List Value}{us:List (List Value)}{bs:List Nat}(h:Bz B w xb (f::fs) done (.slice (some ⟨pb,0,none⟩) (us.length+1) q) dv (u::us) bs)(a0:w.heap[pb]?=some (.cells cur 238 (0,0)))(a6:B<=pb)(hB:B<=w.heap.size)
  (h5:br (fun k=>k∈bZ u) w w5) (h6:br (fun k=>k=pb) w5 w6) (hp:w6.ownsRow B 238 5 (.slice (some ⟨pb,0,none⟩) (us.length+1) q) (us.length+1) (u'::us).reverse.flatten) (hb:∀g∈bZ u',g∈bZ u\/w.heap.size<=g) (hn:(bZ u').Nodup)
  (hf:Mv (bZ u) w w6->(∀g∈bZ u,g∈bs)->(∀g∈bZ u'++us.flatMap bZ,g∈bs\/w.heap.size<=g)->FU (Pb B (bZ u'++us.flatMap bZ)) B w6 u' f'):Below B w w6/\Kp TB w w6/\fC B w6 xb (f'::fs) done (bZ u'++us.flatMap bZ):=by
 obtain⟨iv,mv,s,xs,L,hu,a7,a5,a3,a4,-⟩:=h.frames.2 0 u f rfl rfl;have a2:∀g∈bZ u,B<=g/\∃c e z,w.heap[g]?=some (.cells c e z)/\(e=32\/e=111):=by
  intro g hg;rw[hu] at hg;rcases List.mem_append.1 hg with hg|hg
  ·obtain⟨h1,c,h2⟩:=al a5 (g:=g) (by simpa using hg);exact⟨h1,c,_,_,h2,.inl rfl⟩
  ·obtain⟨h1,c,h2⟩:=al a4 (g:=g) (by simpa using hg);exact⟨h1,c,_,_,h2,.inr rfl⟩
 have a1:br (fun k=>k∈bZ u\/k=pb) w w6:=(h5.mono fun _ h=>.inl h).trans h6 fun i hi=>.inl (.inr hi)
 have hm:Mv (bZ u) w w6:=Mv.of_chg a1 fun g hg _=>hg.imp id fun e=>by subst e;exact⟨_,_,_,a0,by simp only[TV];decide⟩
 have ht:∀g∈bZ u,g∈bs:=fun g hg=>by rw[<-h.blocks];exact List.mem_append_left _ hg
 refine⟨a1.below hB (fun i hi=>hi.elim (fun h=>(a2 i h).1) fun e=>by rw[e];exact a6),Kp.of_chg a1 fun g hg _=>?_,_,_,_,h.top hm ?_ (by rw[show fs.length=us.length by have:=h.frames.1;simp at this;omega];exact hp) hb hn (hf hm ht fun g hg=>?_)⟩
 ·rcases hg with hg|rfl
  ·obtain⟨-,c,e,z,h1,h2⟩:=a2 g hg;exact⟨c,e,z,h1,.inl (h2.elim (fun h=>.inr (.inr (.inl h))) fun h=>.inr (.inr (.inr h)))⟩
  ·exact⟨_,_,_,a0,.inr (.inr rfl)⟩
 ·refine a1.block xb (ae h.row) fun hx=>?_
  rcases hx with hx|rfl
  ·obtain⟨-,c,e,z,h1,h2⟩:=a2 xb hx;rw[h.row] at h1;injection h1 with h1
   injection h1 with _ h1 _
   rw[<-h1] at h2;exact absurd h2 (by decide)
  ·have h1:=h.row;rw[a0] at h1;injection h1 with h1
   injection h1 with _ h1 _
   exact absurd h1 (by decide)
 ·rcases List.mem_append.1 hg with hg|hg
  ·exact(hb g hg).imp (ht g) id
  ·exact .inl (by rw[<-h.blocks];exact List.mem_append_right _ hg)
theorem mE {t:TypeId}{z:Nat×Nat}(hg:w.heap[g]?=some (.cells cs t z)){j:Nat}(h:i≠j)(u:Value):(w.setCell ⟨g,i,none⟩ u).cell? ⟨g,j,none⟩=w.cell? ⟨g,j,none⟩:=by
 have h1:=aw hg i u;unfold World.cell?;simp only[h1,hg,Array.getElem?_setIfInBounds_ne h]
theorem Dk {bs:List Nat}(h:fC B w xb (f::fs) none bs)(ho:f.obj=false)(hv:VW (Pb B bs) w v j)(hB:B<=w.heap.size)(hn:f.items.length<=4294967296)(e3:fs.length<=4294967296):Calls Tryz.prog 139 #[.pointer (some ⟨xb,0,none⟩),v] w fun e w'=>mU B xb (cW (f::fs) j) w e w':=by
 obtain⟨pv,dv,us,h⟩:=h;obtain⟨h1,h2,h3,h4,h5,h6,h7⟩:=id h
 cases us with
 |nil=>have:=h4.1;simp at this
 |cons u us=>
 have c4:us.length=fs.length:=by have:=h4.1;simpa using this
 have a3:∀x∈u::us,x.length=5:=fun x hx=>by
  obtain⟨i,hi,rfl⟩:=List.getElem_of_mem hx;exact(h4.2 i _ ((f::fs)[i]'(by have:=h4.1;omega)) (Zc hi) (Zc _)).len
 rw[List.length_cons,<-c4] at h3;obtain⟨pb,q,d9,hT⟩:=eK h3 a3;obtain⟨d5,a0,b4,b8,c2⟩:=hT;obtain⟨iv,mv,s,xs,L,hu,c7,b9,a2,c5,a7,a1,d2,d0⟩:=h4.2 0 u f rfl rfl;obtain rfl:=d0 ho;obtain⟨Ai,qi,rfl,-⟩:=ah b9;subst d5 hu;have c6:xs.length=f.items.length:=a2.1;obtain⟨m,hm⟩:∃m,m=us.length:=⟨_,rfl⟩;rw[<-hm] at a0 b8 c2;have c0:=aa h1 (j:=0) (u:=.slice (some ⟨pb,0,none⟩) (m+1) q) (by rw[hm];rfl);have k0:=a0 0 _ rfl;have k1:=a0 1 _ rfl;rw[ho] at k0;simp only[Bool.false_eq_true,if_false] at k0;rw[Nat.add_zero] at k0;obtain⟨cur,a5⟩:=b4;have f1:=am a5 (m*5+1);obtain⟨tv,xv,rfl⟩:=hv.iface;have s1:IntKind.i64.wrap (m:Int)= (m:Int):=IntWalk.i64_in _ (by omega);have e0:(((m+1:Nat):Int)==0)=false:=by simp only[beq_eq_false_iff_ne];omega
 have Hh:=Qa h;have Hv:=Qa hv;have d3:=Qa b9;have a9:=Qa a2;have a4:=Qa a5;have H1:=Qa h1;have H2:=Qa h2;have Hm:=Qa hm;have c9:=Qa c6;have Hl:=Qa a3;have H3:=Qa h3;have d6:=Qa (And.intro c5 (And.intro a7 (And.intro a1 c7)));clear h h1 h2 h3 h4 h5 h6 h7 hv b9 a2 c5 a7 a1 d2 d0 a0 a5 a3 c7 c4 hm c6;go_enter Tryz.func139,Tryz.ntmps139;go_wp2_with fail;go_quiet (fail);have d4:w.heap.size<=(w.drewN nq).heap.size:=Za _;obtain⟨wd,b0⟩:∃wd,w.drewN nq=wd:=⟨_,rfl⟩;have b1:Below w.heap.size w wd:=by rw[<-b0];exact az (Zd _ _) nq
 have hsz:wd.heap.size=w.heap.size:=by rw[<-b0];rfl
 have k0':=Zf b1 k0;have k1':=Zf b1 k1;have f1':wd.frozen? ⟨pb,m*5+1,none⟩=false:=by rw[<-b0];exact f1
 rw[b0];have a6:=Qa (ac wd (.cells #[.iface tv xv] 32));have c8:=Qa (aq (aq d3.out b1 (Za _)) a6.out (Za _));have e2:=Qa (ar wd [.iface tv xv] 32);have b6:=Qa b1;have b3:=Qa hsz;clear c0 k0 k1 f1 b0 d4 b1 hsz;have c3:=Qa (aj (aj a4.out b6.out) a6.out);have d1:=Qa (aO c8.out c3.out (by decide));go_wp2_with (at_builtin;refine ju yZ c8.out e2.out (by have:=b3.out;have:=a6.out.size;omega) ?_ (hlen:=(by unfold maxLen;have:=c9.out;omega)) (hby:=(by have:=c9.out;omega));intro v' w5 p1 p2 p3;obtain⟨A5,q5,rfl,-,-,-⟩:=ah p1;have g5:=aF c3.out p2 d1.out;have f5:=am g5 (m*5+1);have G5:=Qa g5;have HK:=Qa p1;have HG:=Qa p2;have HD:=Qa p3;have k5:w5.cell? ⟨pb,m*5+1,none⟩=wd.cell? ⟨pb,m*5+1,none⟩:=fI g5 (aj a4.out b6.out) _;rw[k1'] at k5;clear p1 p2 p3 g5);(try simp only[Exit.inBlock,Exit.then]);refine Zg (results_none rfl ..) rfl ?_;obtain rfl:=Hm.out;have c1:br (fun k=>(Value.slice Ai xs.length qi).ownBlock=some k) w w5:=(br.of_below ((b6.out).trans (a6.out.mono (by have:=b3.out;omega)))).trans (br.grown HG.out) fun i hi=>.inl hi
 have e1:w5.ownsRow B 238 5 (.slice (some ⟨pb,0,none⟩) (us.length+1) q) (us.length+1) (([.int .i64 (if f.obj=true then 6 else 5),.slice Ai xs.length qi,.slice none 0 0,.string s,.bool f.name.isSome]:List Value)::us).reverse.flatten:=by
  refine bH H3.out fun b hb=>?_
  obtain rfl:pb=b:=Zh hb;exact G5.out.trans a4.out.symm
 have b7:=ff e1 Hl.out (j:=1) (by decide) (.slice A5 (xs.length+1) q5);have b2:=qE Hh.out a4.out d9 hB (c1.mono fun k hk=>by rw[kW];simpa using hk) (br.set pb (us.length*5+1) (.slice A5 (xs.length+1) q5)) b7 (by
  intro g hg;have hg:g∈(Value.slice A5 (xs.length+1) q5).ownBlock.toList:=by rw[<-kW];exact hg
  rw[kW];rcases HD.out with e|e
  ·left;rw[e] at hg;exact hg
  ·right
   rw[e] at hg;have:=Zh (Option.mem_toList.1 hg);have:=a6.out.size;have:=b3.out;omega) (by
  show(bZ [_,_,_,_,_]).Nodup
  rw[kW];exact lJ _) (f':={f with items:=f.items ++ [j]}) (fun hm ht b5=>?_)
 ·rw[fG ho];exact⟨rfl,b2.1,b2.2.1,_,b2.2.2⟩
 obtain⟨m1,m2,m3,m4⟩:=d6.out;have hne:=aO HK.out G5.out (by decide);refine⟨.slice A5 (xs.length+1) q5,.slice none 0 0,s,xs ++ [.iface tv xv],L,rfl,m4,?_,?_,?_,m2,?_,fun e=>?_,fun _=>rfl⟩
 ·rw[List.length_append];exact bH HK.out fun b hb=>(br.set pb _ _).block b (ae (al HK.out hb).2.choose_spec) fun e=>hne (by rw[hb,e])
 ·exact(a9.out.mono fun _ _ h=>h.move hm ht b5).snoc (Hv.out.move hm ht b5)
 ·exact bH m1 fun b hb=>by cases hb
 ·exact m3.mono fun _ _ h=>h.move hm ht b5
 ·exact absurd (ho.symm.trans e) (by decide)
theorem Ey {bs:List Nat}(h:fC B w xb (f::fs) none bs)(ho:f.obj=true)(hv:VW (Pb B bs) w v j)(hB:B<=w.heap.size)(b1:f.name.isSome=true)(hn:f.mems.length<=4294967296)(d9:fs.length<=4294967296):Calls Tryz.prog 139 #[.pointer (some ⟨xb,0,none⟩),v] w fun e w'=>mU B xb (cW (f::fs) j) w e w':=by
 obtain⟨pv,dv,us,h⟩:=h;obtain⟨h1,h2,h3,h4,h5,h6,h7⟩:=id h
 cases us with
 |nil=>have:=h4.1;simp at this
 |cons u us=>
 have d5:us.length=fs.length:=by have:=h4.1;simpa using this
 have a4:∀x∈u::us,x.length=5:=fun x hx=>by
  obtain⟨i,hi,rfl⟩:=List.getElem_of_mem hx;exact(h4.2 i _ ((f::fs)[i]'(by have:=h4.1;omega)) (Zc hi) (Zc _)).len
 rw[List.length_cons,<-d5] at h3;obtain⟨pb,q,e6,hT⟩:=eK h3 a4;obtain⟨e8,a1,c4,b3,b6⟩:=hT;obtain⟨iv,mv,s,xs,L,hu,d2,e0,a6,c7,a9,a3,c9,e7⟩:=h4.2 0 u f rfl rfl;obtain rfl:=c9 ho;obtain⟨Ai,qi,rfl,-⟩:=ah c7;subst e8 hu;have d6:L.length=f.mems.length:=by have:=congrArg List.length a9;simpa using this
 obtain⟨nn,b1⟩:=Option.isSome_iff_exists.1 b1;obtain rfl:=d2 nn b1;obtain⟨m,hm⟩:∃m,m=us.length:=⟨_,rfl⟩;rw[<-hm] at a1 b3 b6;have c0:=aa h1 (j:=0) (u:=.slice (some ⟨pb,0,none⟩) (m+1) q) (by rw[hm];rfl);have k0:=a1 0 _ rfl;have k2:=a1 2 _ rfl;have k3:=a1 3 _ rfl;have k4:=a1 4 _ rfl;rw[ho] at k0;simp only[if_true] at k0;rw[Nat.add_zero] at k0;obtain⟨cur,a5⟩:=c4;have f2:=am a5 (m*5+2);have f4:=am a5 (m*5+4);obtain⟨tv,xv,rfl⟩:=hv.iface;have s1:IntKind.i64.wrap (m:Int)= (m:Int):=IntWalk.i64_in _ (by omega);have f0:(((m+1:Nat):Int)==0)=false:=by simp only[beq_eq_false_iff_ne];omega
 have Hh:=Qa h;have Hv:=Qa hv;have c2:=Qa c7;have a2:=Qa a5;have K4:=Qa k4;have H1:=Qa h1;have H2:=Qa h2;have Hm:=Qa hm;have e1:=Qa d6;have Hl:=Qa a4;have H3:=Qa h3;have e5:=Qa (And.intro e0 (And.intro a9 (And.intro a3 a6)));have e4:=Qa b1;clear h h1 h2 h3 h4 h5 h6 h7 hv e0 a6 c7 a9 a3 c9 e7 a1 a5 a4 d2 d5 hm d6 b1 f2 f4 k4 b3 b6;go_enter Tryz.func139,Tryz.ntmps139;go_wp2_with fail;go_quiet (fail);obtain⟨wd,b8⟩:∃wd,w.drewN nq=wd:=⟨_,rfl⟩;have b5:Below w.heap.size w wd:=by rw[<-b8];exact az (Zd _ _) nq
 have hsz:wd.heap.size=w.heap.size:=by rw[<-b8];rfl
 have k0':=Zf b5 k0;have k2':=Zf b5 k2;have k3':=Zf b5 k3;rw[b8];clear c0 k0 k2 k3 b8;go_wp2_with fail;obtain⟨wr,b0⟩:∃wr,wd.drew=wr:=⟨_,rfl⟩;have c8:Below w.heap.size w wr:=by rw[<-b0];exact b5.drew
 have d1:wr.heap.size=w.heap.size:=by rw[<-b0];exact hsz
 have K2:=Qa (show wr.cell? ⟨pb,m*5+2,none⟩=some (.slice Ai L.length qi) by rw[<-b0];exact k2');have K3:=Qa (show wr.cell? ⟨pb,m*5+3,none⟩=some (.string s) by rw[<-b0];exact k3');have a7:=Qa (ac wr (.cells #[.string s,.iface tv xv] 111));have d3:=Qa (show xW (wr.alloc (.cells #[.string s,.iface tv xv] 111)) B (.slice Ai L.length qi) L from aq (aq c2.out c8 (Za _)) a7.out (Za _));have f3:=Qa (ar wr [.string s,.iface tv xv] 111);have b7:=Qa c8;have c5:=Qa d1;have d4:=Qa (aj (aj a2.out b7.out) a7.out);have e3:=Qa (aO d3.out d4.out (by decide));clear k0' k2' k3' b5 hsz c8 d1;refine dj (fun w'=>w'.cell? ⟨pb,m*5+2,none⟩=some (.slice Ai L.length qi)/\w'.cell? ⟨pb,m*5+3,none⟩=some (.string s)) 15 ((by rw[b0];exact⟨K2.out,K3.out⟩)) fun a0=>?_
 rw[b0] at a0 ⊢;clear b0;refine tZ 0 a0 ?_;refine tZ 1 a0 ?_;refine tZ 2 a0 ?_;refine tZ 3 a0 ?_;refine tZ 4 a0 ?_;refine tZ 5 a0 ?_
 try simp only[Act.put,jP,jQ,jR]
 refine tZ 6 a0 ?_;refine tZ 7 a0 ?_;refine tZ 8 a0 ?_;refine tZ 9 a0 ?_;refine tZ 10 a0 ?_
 try simp only[Act.put,jP,jQ,jR]
 refine rZ 11 fun K hK=>?_
 go_simp;refine hK.out _ _ (fun _=>⟨Zf a7.out a0.1,Zf a7.out a0.2⟩) (fun a0=>?_);clear hK K;have a0:=a0 (by decide)
 try simp only[Act.put,jP,jQ,jR]
 refine rZ 12 fun K hK=>?_
 refine xh zx d3.out f3.out (by have:=c5.out;have:=a7.out.size;omega) ?_ (hlen:=(by unfold maxLen;have:=e1.out;omega)) (hby:=(by have:=e1.out;omega));intro v' w5 p1 p2 p3;obtain⟨A5,q5,rfl,-,-,-⟩:=ah p1;have g5:=aF d4.out p2 e3.out;have f5:=am g5 (m*5+2);have G5:=Qa g5;have HK:=Qa p1;have HG:=Qa p2;have HD:=Qa p3;have k5:w5.cell? ⟨pb,m*5+2,none⟩=some (.slice Ai L.length qi):=(fI g5 (aj a2.out b7.out) _).trans K2.out;have k53:w5.cell? ⟨pb,m*5+3,none⟩=some (.string s):=(fI g5 (aj a2.out b7.out) _).trans K3.out;clear p1 p2 p3 g5;refine hK.out _ _ (fun _=>⟨k5,k53⟩) (fun a0=>?_);clear hK K;have a0:=a0 (by decide)
 try simp only[Act.put,jP,jQ,jR]
 refine rZ 13 fun K hK=>?_
 go_simp;refine hK.out _ _ (fun _=>a0) (fun a0=>?_);clear hK K;have a0:=a0 (by decide)
 try simp only[Act.put,jP,jQ,jR]
 refine tZ 14 a0 ?_
 try simp only[Act.put,jP,jQ,jR]
 refine rZ 15 fun K hK=>?_
 go_simp;refine hK.out _ _ (fun h=>absurd rfl h) (fun _=>?_);clear hK K
 try simp only[Act.put,jP,jQ,jR]
 refine bi (by kernel_rfl) (NoPanic.normal ?_) _;clear a0 f5;have g6:=aw G5.out (m*5+2) (.slice A5 (L.length+1) q5);have f6:=am g6 (m*5+4);have k6:(w5.setCell ⟨pb,m*5+2,none⟩ (.slice A5 (L.length+1) q5)).cell? ⟨pb,m*5+4,none⟩=some (.bool f.name.isSome):=by
  rw[mE G5.out (by omega),fI G5.out a2.out];exact K4.out
 obtain⟨w6,c6⟩:∃w6,w5.setCell ⟨pb,m*5+2,none⟩ (.slice A5 (L.length+1) q5)=w6:=⟨_,rfl⟩;rw[c6] at g6 f6 k6 ⊢;have e2:=Qa c6;have G6:=Qa g6;clear g6 c6;go_wp2_with fail;go_end0;obtain rfl:=Hm.out;have c3:br (fun k=>(Value.slice Ai L.length qi).ownBlock=some k) w w5:=(br.of_below ((b7.out).trans (a7.out.mono (by have:=c5.out;omega)))).trans (br.grown HG.out) fun i hi=>.inl hi
 have f1:w5.ownsRow B 238 5 (.slice (some ⟨pb,0,none⟩) (us.length+1) q) (us.length+1) (([.int .i64 (if f.obj=true then 6 else 5),.slice none 0 0,.slice Ai L.length qi,.string s,.bool f.name.isSome]:List Value)::us).reverse.flatten:=by
  refine bH H3.out fun b hb=>?_
  obtain rfl:pb=b:=Zh hb;exact G5.out.trans a2.out.symm
 have b2:=ff f1 Hl.out (j:=2) (by decide) (.slice A5 (L.length+1) q5);rw[e2.out] at b2;have b4:=ff b2 (fun x hx=>by rcases List.mem_cons.1 hx with rfl|hx;(· rfl);exact Hl.out x (Zl _ hx)) (j:=4) (by decide) (.bool false);have d0:br (fun k=>k=pb) w5 (w6.setCell ⟨pb,us.length*5+4,none⟩ (.bool false)):=by
  rw[<-e2.out];exact(br.set pb _ _).trans (br.set pb _ _) fun i h=>.inl h
 have b9:=qE Hh.out a2.out e6 hB (c3.mono fun k hk=>by rw[jz];simpa using hk) d0 b4 (by
  intro g hg;have hg:g∈(Value.slice A5 (L.length+1) q5).ownBlock.toList:=by rw[<-jz];exact hg
  rw[jz];rcases HD.out with e|e
  ·left;rw[e] at hg;exact hg
  ·right
   rw[e] at hg;have:=Zh (Option.mem_toList.1 hg);have:=a7.out.size;have:=c5.out;omega) (by
  show(bZ [_,_,_,_,_]).Nodup
  rw[jz];exact lJ _) (f':={f with mems:=f.mems ++ [(f.name.getD ⟨#[]⟩,j)],name:=none}) (fun hm ht c1=>?_)
 ·rw[gX ho];exact⟨rfl,b9.1,b9.2.1,_,b9.2.2⟩
 obtain⟨m1,m2,m3,m4⟩:=e5.out;have hne:=aO HK.out G5.out (by decide);have d9:ga (L ++ [(s,.iface tv xv)])=ga L ++ [.string s,.iface tv xv]:=by simp[ga]
 refine⟨.slice none 0 0,.slice A5 (L.length+1) q5,s,xs,L ++ [(s,.iface tv xv)],rfl,fun t e=>(by cases e),?_,?_,?_,?_,?_,fun _=>rfl,fun e=>?_⟩
 ·exact bH m1 fun b hb=>by cases hb
 ·exact m4.mono fun _ _ h=>h.move hm ht c1
 ·unfold xW;rw[List.length_append,d9];exact bH HK.out fun b hb=>d0.block b (ae (al HK.out hb).2.choose_spec) fun e=>hne (by rw[hb,e])
 ·rw[List.map_append,List.map_append,m2,e4.out];rfl
 ·rw[List.map_append,List.map_append];exact(m3.mono fun _ _ h=>h.move hm ht c1).snoc (Hv.out.move hm ht c1)
 ·exact absurd (ho.symm.trans e) (by decide)
structure JQ (B:Nat) (w:World) (xb:Nat) (f:Fr) (m pb q:Nat):Prop where
 c0:w.cell? ⟨xb,0,none⟩=some (.slice (some ⟨pb,0,none⟩) (m+1) q)
 k0:w.cell? ⟨pb,m*5,none⟩=some (.int .i64 (if f.obj then 6 else 5))
 k4:w.cell? ⟨pb,m*5+4,none⟩=some (.bool f.name.isSome)
theorem fC.top {done:Option JV}{bs:List Nat}(h:fC B w xb (f::fs) done bs):∃pb q,JQ B w xb f fs.length pb q:=by
 obtain⟨pv,dv,us,h⟩:=h;obtain⟨h1,h2,h3,h4,h5,h6,h7⟩:=id h
 cases us with
 |nil=>have:=h4.1;simp at this
 |cons u us=>
 have a2:us.length=fs.length:=by have:=h4.1;simpa using this
 have a1:∀x∈u::us,x.length=5:=fun x hx=>by
  obtain⟨i,hi,rfl⟩:=List.getElem_of_mem hx;exact(h4.2 i _ ((f::fs)[i]'(by have:=h4.1;omega)) (Zc hi) (Zc _)).len
 rw[List.length_cons,<-a2] at h3;obtain⟨pb,q,a9,hT⟩:=eK h3 a1;obtain⟨a3,a0,a6,a4,a5⟩:=hT;obtain⟨iv,mv,s,xs,L,hu,a7,-⟩:=h4.2 0 u f rfl rfl;subst a3 hu;rw[<-a2];exact⟨pb,q,aa h1 (j:=0) rfl,by have:=a0 0 _ rfl;rwa[Nat.add_zero] at this,a0 4 _ rfl⟩
theorem fC.nils {bs:List Nat}(h:fC B w xb frs none bs):w.cell? ⟨xb,1,none⟩=some .nilIface:=by
 obtain⟨pv,dv,us,h⟩:=h;have e:dv =.nilIface:=h.done;rw[<-e];exact aa h.row (j:=1) rfl
theorem fC.empty {done:Option JV}{bs:List Nat}(h:fC B w xb [] done bs):∃A q,w.cell? ⟨xb,0,none⟩=some (.slice A 0 q):=by
 obtain⟨pv,dv,us,h⟩:=h;obtain⟨A,q,e,-⟩:=ah h.parts;exact⟨A,q,by rw[aa h.row (j:=0) rfl,e];rfl⟩
theorem lU {bs:List Nat}(h:fC B w xb frs none bs)(hw:∀f fs,frs=f::fs->cj f=false)(hl:frs.length<=4294967296):Calls Tryz.prog 137 #[.pointer (some ⟨xb,0,none⟩),.int .i64 (frs.length+1:Nat)] w fun e w'=>e =.returned (.tuple #[])/\w=w':=by
 have c1:=h.nils
 cases frs with
 |nil=>
  obtain⟨A,q,c0⟩:=h.empty;clear h hw;simp only[List.length_nil,Nat.zero_add];go_enter Tryz.func137,Tryz.ntmps137;go_wp2_with fail;go_end0;exact⟨rfl,rfl⟩
 |cons f fs=>
  obtain⟨pb,q,c0,k0,k4⟩:=h.top;have hw:=hw f fs rfl;rw[List.length_cons] at hl ⊢;obtain⟨m,hm⟩:∃m,fs.length=m:=⟨_,rfl⟩;rw[hm] at c0 k0 k4 hl ⊢;have s1:IntKind.i64.wrap (m:Int)= (m:Int):=IntWalk.i64_in _ (by omega);have s2:IntKind.i64.wrap ((m:Int)+1+1)= (m:Int)+1+1:=IntWalk.i64_in _ (by omega);have a1:(0:Int)< (m:Int)+1:=by omega
  have a0:((m+1+1:Nat):Int)= (m:Int)+1+1:=by omega
  rw[a0];have ht:f.obj=true->f.name.isSome=true:=fun ho=>by
   simp only[cj,ho,Bool.true_and] at hw
   cases hn:f.name with
   |none=>rw[hn] at hw;cases hw
   |some _=>rfl
  have Ht:=Qa ht;clear h hw hm ht a0
  by_cases ho:f.obj=true
  ·have hn:=Ht.out ho;rw[ho] at k0;rw[hn] at k4;simp only[if_true] at k0;clear hn ho;go_enter Tryz.func137,Tryz.ntmps137;go_wp2_with fail;go_end0;exact⟨rfl,rfl⟩
  ·rw[if_neg ho] at k0;clear ho k4;go_enter Tryz.func137,Tryz.ntmps137;go_wp2_with fail;go_end0;exact⟨rfl,rfl⟩
theorem Bh {α β:Type}{f:α->β}{S L:List β}(hp:S.Perm L):∀ {Z:List α},Z.map f=L->∃Z':List α,Z'.Perm Z/\Z'.map f=S:=by
 induction hp with
 |nil=>intro Z h;exact⟨Z,List.Perm.refl _,h⟩
 |cons x _ ih=>
  intro Z h
  cases Z with
  |nil=>cases h
  |cons z Z=>
   rw[List.map_cons] at h;injection h with h1 h2
   obtain⟨Z',h3,h4⟩:=ih h2;exact⟨z::Z',h3.cons z,by rw[List.map_cons,h1,h4]⟩
 |swap x y l=>
  intro Z h
  match Z,h with
  |a::b::Z,h=>
   simp only[List.map_cons] at h;injection h with h1 h2
   injection h2 with h2 h3
   exact⟨b::a::Z,List.Perm.swap a b Z,by simp[h1,h2,h3]⟩
 |trans _ _ ih1 ih2=>
  intro Z h;obtain⟨Z1,h1,h2⟩:=ih2 h;obtain⟨Z2,h3,h4⟩:=ih1 h2;exact⟨Z2,h3.trans h1,h4⟩
theorem GH (S:List (ByteArray×Value)):ga S=zT (S.map Prod.fst) (S.map Prod.snd):=by
 unfold ga zT
 congr 1
 induction S with
 |nil=>rfl
 |cons p S ih=>simp[<-ih]
theorem xG {ms:List (ByteArray×JV)}(hg:w.heap[g]?=some (.cells #[.slice A S.length c] 178 (0,0)))(hr:cv Q w 111 2 A S.length c (ga S))(hQ:Q g)(hp:S.Perm L)(hs:(S.map Prod.fst).Pairwise fN)
  (hn:L.map Prod.fst=ms.map Prod.fst) (hv:bB (VW Q w) (L.map Prod.snd) (ms.map Prod.snd)):VW Q w (.iface 130 (.pointer (some ⟨g,0,none⟩))) (mJ (gw ms)):=by
 have hl:L.length=ms.length:=by have:=congrArg List.length hn;simpa using this
 have hz:(L.zip ms).map Prod.fst=L:=List.map_fst_zip (by omega);have a4:(L.zip ms).map Prod.snd=ms:=List.map_snd_zip (by omega);obtain⟨Z,hZ,a1⟩:=Bh hp hz;have a0:∀z∈L.zip ms,z.1.1=z.2.1/\VW Q w z.1.2 z.2.2:=by
  intro z hz;obtain⟨i,hi,rfl⟩:=List.getElem_of_mem hz;rw[List.length_zip] at hi;have h1:L[i]?=some L[i]:=Zc (by omega);have h2:ms[i]?=some ms[i]:=Zc (by omega);rw[List.getElem_zip];refine⟨?_,hv.2 i _ _ (by rw[List.getElem?_map,h1];rfl) (by rw[List.getElem?_map,h2];rfl)⟩;have:=congrArg (·[i]?) hn;simp only[List.getElem?_map,h1,h2,Option.map_some] at this;exact Zh this
 have a5:gw ms=Z.map Prod.snd:=by
  refine BJ ?_ ?_
  ·have:=(hZ.map Prod.snd).symm
   rwa[a4] at this
  ·have e:(Z.map Prod.snd).map Prod.fst=S.map Prod.fst:=by
    rw[<-a1,List.map_map,List.map_map];exact List.map_congr_left fun z hz=>(a0 z (hZ.mem_iff.1 hz)).1.symm
   rw[e];exact hs
 rw[a5];have a2:S.map Prod.fst= (Z.map Prod.snd).map Prod.fst:=by
  rw[<-a1,List.map_map,List.map_map];exact List.map_congr_left fun z hz=>(a0 z (hZ.mem_iff.1 hz)).1
 have a3:S.length=Z.length:=by rw[<-a1];simp
 unfold mJ;rw[<-a2];refine VW.obj g A c (S.map Prod.snd) (S.map Prod.fst) _ hQ (by rw[List.length_map];exact hg) (by rw[List.length_map,<-GH];exact hr) (by simp[a3]) (by simp[a3]) fun i u k h1 h2=>?_
 rw[List.getElem?_map,<-a1,List.getElem?_map] at h1;rw[List.getElem?_map,List.getElem?_map] at h2
 cases hz3:Z[i]? with
 |none=>rw[hz3] at h1;cases h1
 |some z=>
  rw[hz3] at h1 h2;obtain rfl:=Zh h1;obtain rfl:=Zh h2;exact(a0 z (hZ.mem_iff.1 (Zk hz3))).2
theorem zJ (hg:w.heap[g]?=some (.cells #[.slice A us.length c] 173 (0,0)))(hr:cv Q w 32 1 A us.length c us)(hQ:Q g)(hv:bB (VW Q w) us ks):VW Q w (.iface 57 (.pointer (some ⟨g,0,none⟩))) (dU ks):=
 VW.list g A c us ks hQ hg hr hv.1 fun i u k h1 h2=>hv.2 i u k h1 h2
theorem vO {done:Option JV}{pv':Value}{us:List (List Value)}{bs:List Nat}(h:Bz B w xb frs done pv dv us bs)(hB:B<=w.heap.size)(h5:br (fun k=>pv.ownBlock=some k) w w5)
  (hp:w5.ownsRow B 238 5 pv' (frs.length+1) (us.reverse.flatten ++ [.int .i64 (if o then 6 else 5),.slice none 0 0,.slice none 0 0,.string ⟨#[]⟩,.bool false])) (hg:w5.heap[xb]?=w.heap[xb]?) :
  Below B w (w5.setCell ⟨xb,0,none⟩ pv')/\Kp TB w (w5.setCell ⟨xb,0,none⟩ pv')/\fC B (w5.setCell ⟨xb,0,none⟩ pv') xb (⟨o, [], [],none⟩::frs) done bs:=by
 obtain⟨h1,h2,h3,h4,a4,h6,h7⟩:=h;have a1:w5.heap[xb]?=some (.cells #[pv,dv] 192 (0,0)):=hg.trans h1;have a0:br (fun k=>pv.ownBlock=some k\/k=xb) w (w5.setCell ⟨xb,0,none⟩ pv'):=(h5.mono fun _ h=>.inl h).trans (br.set xb 0 pv') fun i hi=>.inl (.inr hi)
 have a3:∀g,(pv.ownBlock=some g\/g=xb)->g<w.heap.size->∃cs e z,w.heap[g]?=some (.cells cs e z)/\(e=238\/e=192):=by
  intro g hg _;rcases hg with hg|rfl
  ·obtain⟨_,cur,hh⟩:=al h3 hg;exact⟨_,_,_,hh,.inl rfl⟩
  ·exact⟨_,_,_,h1,.inr rfl⟩
 have hm:Mv [] w (w5.setCell ⟨xb,0,none⟩ pv'):=Mv.of_chg a0 fun g hg hl=>by
  obtain⟨cs,e,z,q1,q2⟩:=a3 g hg hl;exact .inr ⟨cs,e,z,q1,by rcases q2 with rfl|rfl <;> (simp only[TV];decide)⟩
 have a2:∀g∈bs,g∈bs\/w.heap.size<=g:=fun g h=>.inl h
 refine⟨a0.below hB (fun i hi=>hi.elim (fun h=>(al h3 h).1) fun e=>by rw[e];exact h2),Kp.of_chg a0 fun g hg hl=>?_,pv',dv, [.int .i64 (if o then 6 else 5),.slice none 0 0,.slice none 0 0,.string ⟨#[]⟩,.bool false]::us,aw a1 0 pv',h2,?_,?_,?_,h6,h7.move hm (by simp) a2⟩
 ·obtain⟨cs,e,z,q1,q2⟩:=a3 g hg hl;exact⟨cs,e,z,q1,q2.elim (fun h=>.inr (.inr h)) fun h=>.inr (.inl h)⟩
 ·rw[List.length_cons,List.reverse_cons,List.flatten_append];simp only[List.flatten_cons,List.flatten_nil,List.append_nil];have hne:=aO hp a1 (by decide);exact bH hp fun b hb=>(br.set xb 0 pv').block b (ae (al hp hb).2.choose_spec) fun e=>hne (by rw[hb,e])
 ·refine bB.cons ⟨.slice none 0 0,.slice none 0 0,⟨#[]⟩, [], [],rfl,fun t e=>(by cases e),⟨rfl,.inl ⟨rfl,rfl⟩⟩,bB.nil _,⟨rfl,.inl ⟨rfl,rfl⟩⟩,rfl,bB.nil _,fun _=>rfl,fun _=>rfl⟩ ?_;exact h4.mono fun _ _ h=>h.move hm (by simp) a2 (by simp)
 ·rw[List.flatMap_cons,a4];rfl
theorem zi (x:Value)(W:World):(Instr.typeAssert (.iface 235 x) 233 235 true).run Tryz.prog W =.ok (.tuple #[x,.bool true]) W:=by kernel_rfl
theorem Ek (x:Value)(W:World):(Instr.typeAssert (.iface 240 x) 233 240 true).run Tryz.prog W =.ok (.tuple #[x,.bool true]) W:=by kernel_rfl
theorem qL (x:Value)(W:World):(Instr.typeAssert (.iface 240 x) 233 235 true).run Tryz.prog W =.ok (.tuple #[.agg #[.int .i64 0,.int .i64 0],.bool false]) W:=by kernel_rfl
theorem Fb (x:Value)(W:World):(Instr.typeAssert (.iface 242 x) 233 242 true).run Tryz.prog W =.ok (.tuple #[x,.bool true]) W:=by kernel_rfl
theorem rv (x:Value)(W:World):(Instr.typeAssert (.iface 242 x) 233 235 true).run Tryz.prog W =.ok (.tuple #[.agg #[.int .i64 0,.int .i64 0],.bool false]) W:=by kernel_rfl
theorem rt (x:Value)(W:World):(Instr.typeAssert (.iface 242 x) 233 240 true).run Tryz.prog W =.ok (.tuple #[.agg #[.int .i64 0,.string ⟨#[]⟩],.bool false]) W:=by kernel_rfl
theorem tS (x:Value)(W:World):(Instr.typeAssert (.iface 243 x) 233 243 true).run Tryz.prog W =.ok (.tuple #[x,.bool true]) W:=by kernel_rfl
theorem ke (x:Value)(W:World):(Instr.typeAssert (.iface 243 x) 233 235 true).run Tryz.prog W =.ok (.tuple #[.agg #[.int .i64 0,.int .i64 0],.bool false]) W:=by kernel_rfl
theorem j4 (x:Value)(W:World):(Instr.typeAssert (.iface 243 x) 233 240 true).run Tryz.prog W =.ok (.tuple #[.agg #[.int .i64 0,.string ⟨#[]⟩],.bool false]) W:=by kernel_rfl
theorem jX (x:Value)(W:World):(Instr.typeAssert (.iface 243 x) 233 242 true).run Tryz.prog W =.ok (.tuple #[.agg #[.int .i64 0,.nilIface],.bool false]) W:=by kernel_rfl
theorem yi {bs:List Nat}(b3:lv= (frs.length+1:Nat))(h:fC B w xb frs none bs)(hw:∀f fs,frs=f::fs->cj f=false)(hl:frs.length<=4294967296)(hB:B<=w.heap.size):Calls Tryz.prog 109 #[.pointer (some ⟨xb,0,none⟩),.iface 235 (.agg #[.int .i64 lv,.int .i64 5])] w fun e w'=>mU B xb ⟨⟨false, [], [],none⟩::frs,0,none⟩ w e w':=by
 have b1:=Qa (lU (h.below (ac w (.cells #[.int .i64 lv,.int .i64 5] 235))) hw hl);rw[<-b3] at b1;have H:=Qa (h.below (ac w (.cells #[.int .i64 lv,.int .i64 5] 235)));have a4:=Qa (ac w (.cells #[.int .i64 lv,.int .i64 5] 235));have a2:=Qa (Ze w (.cells #[.int .i64 lv,.int .i64 5] 235));have HB:=Qa hB;obtain⟨m,hm⟩:∃m,frs.length=m:=⟨_,rfl⟩;rw[hm] at hl;have Hm:=Qa hm;clear h b3 hw hB hm;have q1:=zi;go_enter Tryz.func109,Tryz.ntmps109;go_wp2_with fail;(with_reducible refine b1.out.mono ?_);rintro e w' ⟨rfl,b4⟩;rw[b4] at H a4 a2;obtain⟨pv,dv,us,h⟩:=H.out;obtain⟨A,q,b6,-⟩:=ah h.parts;rw[Hm.out] at b6;subst b6;have c0:=aa h.row (j:=0) (u:=.slice A m q) rfl;have f0:=am h.row 0;have e1:=aa a2.out (j:=1) rfl;have HA:=Qa h;clear h b4 H;go_wp2_with fail;obtain⟨wr,a6⟩:∃wr,w'.drew=wr:=⟨_,rfl⟩;have a3:Below w'.heap.size w' wr:=by rw[<-a6];exact(Zd _ _).drew
 have b7:wr.heap.size=w'.heap.size:=by rw[<-a6];rfl
 have C0:=Qa (Zf a3 c0);have E1:=Qa (Zf a3 e1);have a7:wr.heap[xb]?=some (.cells #[.slice A m q,dv] 192 (0,0)):=aj HA.out.row a3;have a1:=Qa (ac wr (.cells #[.int .i64 5,.slice none 0 0,.slice none 0 0,.string ⟨#[]⟩,.bool false] 238));have c2:=Qa (ar wr [.int .i64 5,.slice none 0 0,.slice none 0 0,.string ⟨#[]⟩,.bool false] 238);have a5:w'.ownsRow B 238 5 (.slice A m q) m us.reverse.flatten:=by have:=HA.out.parts;rwa[Hm.out] at this
 have a9:=Qa (aq (aq a5 a3 (Za _)) a1.out (Za _));have b2:=Qa (aj a7 a1.out);have b8:=Qa (aO a9.out b2.out (by decide));have b0:=Qa a3;have b5:=Qa b7;clear c0 f0 e1 a3 b7 a7 a5;refine dj (fun w2=>w2.cell? ⟨xb,0,none⟩=some (.slice A m q)/\w2.cell? ⟨w.heap.size,1,none⟩=some (.int .i64 5)) 12 ((by rw[a6];exact⟨C0.out,E1.out⟩)) fun a0=>?_
 rw[a6] at a0 ⊢;clear a6;refine tZ 0 a0 ?_;refine tZ 1 a0 ?_;refine tZ 2 a0 ?_;refine tZ 3 a0 ?_;refine tZ 4 a0 ?_;refine tZ 5 a0 ?_
 try simp only[Act.put,jP,jQ,jR]
 refine tZ 6 a0 ?_;refine tZ 7 a0 ?_
 try simp only[Act.put,jP,jQ,jR]
 refine rZ 8 fun K hK=>?_
 go_simp;refine hK.out _ _ (fun _=>⟨Zf a1.out a0.1,Zf a1.out a0.2⟩) (fun a0=>?_);clear hK K;have a0:=a0 (by decide)
 try simp only[Act.put,jP,jQ,jR]
 refine rZ 9 fun K hK=>?_
 refine xh CO a9.out c2.out (by have:=b5.out;have:=a1.out.size;have:=a4.out.size;have:=HB.out;omega) ?_;intro v' w5 p1 p2 p3;obtain⟨A5,q5,rfl,-,-,-⟩:=ah p1;have g5:=aF b2.out p2 b8.out;have f5:=am g5 0;have k5:w5.cell? ⟨xb,0,none⟩=some (.slice A m q):=aa g5 (j:=0) rfl;have k6:w5.cell? ⟨w.heap.size,1,none⟩=some (.int .i64 5):=(fI (aF (aj (aj a2.out b0.out) a1.out) p2 (aO a9.out (aj (aj a2.out b0.out) a1.out) (by decide))) a2.out _).trans (aa a2.out (j:=1) rfl);have G5:=Qa g5;have HK:=Qa p1;have HG:=Qa p2;clear p1 p2 p3 g5;refine hK.out _ _ (fun _=>⟨k5,k6⟩) (fun a0=>?_);clear hK K;have a0:=a0 (by decide)
 try simp only[Act.put,jP,jQ,jR]
 refine rZ 10 fun K hK=>?_
 go_simp;refine hK.out _ _ (fun _=>a0) (fun a0=>?_);clear hK K;have a0:=a0 (by decide)
 try simp only[Act.put,jP,jQ,jR]
 refine tZ 11 a0 ?_
 try simp only[Act.put,jP,jQ,jR]
 refine rZ 12 fun K hK=>?_
 go_simp;refine hK.out _ _ (fun h=>absurd rfl h) (fun _=>?_);clear hK K
 try simp only[Act.put,jP,jQ,jR]
 refine bi (by kernel_rfl) (NoPanic.normal ?_) _;go_end0;have b9:=HA.out.low;have c1:br (fun k=>(Value.slice A m q).ownBlock=some k) w' w5:=(br.of_below ((b0.out).trans (a1.out.mono (by have:=b5.out;omega)))).trans (br.grown HG.out) fun i hi=>.inl hi
 obtain⟨r1,r2,r3⟩:=vO (o:=false) HA.out (by have:=a4.out.size;have:=HB.out;omega) c1 (by rw[Hm.out];exact HK.out) (G5.out.trans HA.out.row.symm);exact⟨rfl,(a4.out.mono HB.out).trans r1,(Kp.of_below TB a4.out).trans r2,_,r3⟩
theorem xj {bs:List Nat}(b3:lv= (frs.length+1:Nat))(h:fC B w xb frs none bs)(hw:∀f fs,frs=f::fs->cj f=false)(hl:frs.length<=4294967296)(hB:B<=w.heap.size):Calls Tryz.prog 109 #[.pointer (some ⟨xb,0,none⟩),.iface 235 (.agg #[.int .i64 lv,.int .i64 6])] w fun e w'=>mU B xb ⟨⟨true, [], [],none⟩::frs,0,none⟩ w e w':=by
 have b1:=Qa (lU (h.below (ac w (.cells #[.int .i64 lv,.int .i64 6] 235))) hw hl);rw[<-b3] at b1;have H:=Qa (h.below (ac w (.cells #[.int .i64 lv,.int .i64 6] 235)));have a4:=Qa (ac w (.cells #[.int .i64 lv,.int .i64 6] 235));have a2:=Qa (Ze w (.cells #[.int .i64 lv,.int .i64 6] 235));have HB:=Qa hB;obtain⟨m,hm⟩:∃m,frs.length=m:=⟨_,rfl⟩;rw[hm] at hl;have Hm:=Qa hm;clear h b3 hw hB hm;have q1:=zi;go_enter Tryz.func109,Tryz.ntmps109;go_wp2_with fail;(with_reducible refine b1.out.mono ?_);rintro e w' ⟨rfl,b4⟩;rw[b4] at H a4 a2;obtain⟨pv,dv,us,h⟩:=H.out;obtain⟨A,q,b6,-⟩:=ah h.parts;rw[Hm.out] at b6;subst b6;have c0:=aa h.row (j:=0) (u:=.slice A m q) rfl;have f0:=am h.row 0;have e1:=aa a2.out (j:=1) rfl;have HA:=Qa h;clear h b4 H;go_wp2_with fail;obtain⟨wr,a6⟩:∃wr,w'.drew=wr:=⟨_,rfl⟩;have a3:Below w'.heap.size w' wr:=by rw[<-a6];exact(Zd _ _).drew
 have b7:wr.heap.size=w'.heap.size:=by rw[<-a6];rfl
 have C0:=Qa (Zf a3 c0);have E1:=Qa (Zf a3 e1);have a7:wr.heap[xb]?=some (.cells #[.slice A m q,dv] 192 (0,0)):=aj HA.out.row a3;have a1:=Qa (ac wr (.cells #[.int .i64 6,.slice none 0 0,.slice none 0 0,.string ⟨#[]⟩,.bool false] 238));have c2:=Qa (ar wr [.int .i64 6,.slice none 0 0,.slice none 0 0,.string ⟨#[]⟩,.bool false] 238);have a5:w'.ownsRow B 238 5 (.slice A m q) m us.reverse.flatten:=by have:=HA.out.parts;rwa[Hm.out] at this
 have a9:=Qa (aq (aq a5 a3 (Za _)) a1.out (Za _));have b2:=Qa (aj a7 a1.out);have b8:=Qa (aO a9.out b2.out (by decide));have b0:=Qa a3;have b5:=Qa b7;clear c0 f0 e1 a3 b7 a7 a5;refine dj (fun w2=>w2.cell? ⟨xb,0,none⟩=some (.slice A m q)/\w2.cell? ⟨w.heap.size,1,none⟩=some (.int .i64 6)) 12 ((by rw[a6];exact⟨C0.out,E1.out⟩)) fun a0=>?_
 rw[a6] at a0 ⊢;clear a6;refine tZ 0 a0 ?_;refine tZ 1 a0 ?_;refine tZ 2 a0 ?_;refine tZ 3 a0 ?_;refine tZ 4 a0 ?_;refine tZ 5 a0 ?_
 try simp only[Act.put,jP,jQ,jR]
 refine tZ 6 a0 ?_;refine tZ 7 a0 ?_
 try simp only[Act.put,jP,jQ,jR]
 refine rZ 8 fun K hK=>?_
 go_simp;refine hK.out _ _ (fun _=>⟨Zf a1.out a0.1,Zf a1.out a0.2⟩) (fun a0=>?_);clear hK K;have a0:=a0 (by decide)
 try simp only[Act.put,jP,jQ,jR]
 refine rZ 9 fun K hK=>?_
 refine xh CO a9.out c2.out (by have:=b5.out;have:=a1.out.size;have:=a4.out.size;have:=HB.out;omega) ?_;intro v' w5 p1 p2 p3;obtain⟨A5,q5,rfl,-,-,-⟩:=ah p1;have g5:=aF b2.out p2 b8.out;have f5:=am g5 0;have k5:w5.cell? ⟨xb,0,none⟩=some (.slice A m q):=aa g5 (j:=0) rfl;have k6:w5.cell? ⟨w.heap.size,1,none⟩=some (.int .i64 6):=(fI (aF (aj (aj a2.out b0.out) a1.out) p2 (aO a9.out (aj (aj a2.out b0.out) a1.out) (by decide))) a2.out _).trans (aa a2.out (j:=1) rfl);have G5:=Qa g5;have HK:=Qa p1;have HG:=Qa p2;clear p1 p2 p3 g5;refine hK.out _ _ (fun _=>⟨k5,k6⟩) (fun a0=>?_);clear hK K;have a0:=a0 (by decide)
 try simp only[Act.put,jP,jQ,jR]
 refine rZ 10 fun K hK=>?_
 go_simp;refine hK.out _ _ (fun _=>a0) (fun a0=>?_);clear hK K;have a0:=a0 (by decide)
 try simp only[Act.put,jP,jQ,jR]
 refine tZ 11 a0 ?_
 try simp only[Act.put,jP,jQ,jR]
 refine rZ 12 fun K hK=>?_
 go_simp;refine hK.out _ _ (fun h=>absurd rfl h) (fun _=>?_);clear hK K
 try simp only[Act.put,jP,jQ,jR]
 refine bi (by kernel_rfl) (NoPanic.normal ?_) _;go_end0;have b9:=HA.out.low;have c1:br (fun k=>(Value.slice A m q).ownBlock=some k) w' w5:=(br.of_below ((b0.out).trans (a1.out.mono (by have:=b5.out;omega)))).trans (br.grown HG.out) fun i hi=>.inl hi
 obtain⟨r1,r2,r3⟩:=vO (o:=true) HA.out (by have:=a4.out.size;have:=HB.out;omega) c1 (by rw[Hm.out];exact HK.out) (G5.out.trans HA.out.row.symm);exact⟨rfl,(a4.out.mono HB.out).trans r1,(Kp.of_below TB a4.out).trans r2,_,r3⟩
theorem zP {bs:List Nat}{s:ByteArray}(d9:lv= (fs.length+1:Nat))(h:fC B w xb (f::fs) none bs)(ho:f.obj=true)(d6:f.name=none)(hl:fs.length<=4294967296)(hB:B<=w.heap.size):Calls Tryz.prog 109 #[.pointer (some ⟨xb,0,none⟩),.iface 240 (.agg #[.int .i64 lv,.string s])] w (mU B xb ⟨{f with name:=some s}::fs,4,none⟩ w):=by
 have b6:=ac w (.cells #[.int .i64 lv,.string s] 240);have d3:=h.below b6;have b3:=Qa (Ze w (.cells #[.int .i64 lv,.string s] 240));obtain⟨w1,c1⟩:∃w1,w.alloc (.cells #[.int .i64 lv,.string s] 240)=w1:=⟨_,rfl⟩;rw[c1] at b6 d3 b3;obtain⟨pv,dv,us,h1⟩:=d3;obtain⟨d5,h2,h3,h4,h5,h6,h7⟩:=id h1
 cases us with
 |nil=>have:=h4.1;simp at this
 |cons u us=>
 have d0:us.length=fs.length:=by have:=h4.1;simpa using this
 have a3:∀x∈u::us,x.length=5:=fun x hx=>by
  obtain⟨i,hi,rfl⟩:=List.getElem_of_mem hx;exact(h4.2 i _ ((f::fs)[i]'(by have:=h4.1;omega)) (Zc hi) (Zc _)).len
 rw[List.length_cons,<-d0] at h3;obtain⟨pb,q,e6,hT⟩:=eK h3 a3;obtain⟨e4,a1,b9,b4,b5⟩:=hT;obtain⟨iv,mv,s0,xs,L,hu,e5,d2,a7,c2,b1,a2,c7,e7⟩:=h4.2 0 u f rfl rfl;obtain rfl:=c7 ho;obtain⟨Ai,qi,rfl,-⟩:=ah c2;subst e4 hu;obtain⟨m,hm⟩:∃m,m=us.length:=⟨_,rfl⟩;rw[<-hm] at a1 b4 b5;have c0:=aa d5 (j:=0) (u:=.slice (some ⟨pb,0,none⟩) (m+1) q) (by rw[hm];rfl);have k0:=a1 0 _ rfl;have k3:=a1 3 _ rfl;have k4:=a1 4 _ rfl;rw[ho] at k0;rw[d6] at k4;simp only[if_true] at k0;rw[Nat.add_zero] at k0;obtain⟨cur,a9⟩:=b9;have f3:=am a9 (m*5+3);have e0:=aa b3.out (j:=0) (u:=.int .i64 lv) rfl;have e1:=aa b3.out (j:=1) (u:=.string s) rfl;have s1:IntKind.i64.wrap (m:Int)= (m:Int):=IntWalk.i64_in _ (by omega);have e8:(((m+1:Nat):Int)==0)=false:=by simp only[beq_eq_false_iff_ne];omega
 have a5:lv= (m:Int)+1:=by omega
 have f5:=Qa a5;have HA:=Qa h1;have a4:=Qa a9;have Hm:=Qa hm;have Hl:=Qa a3;have H3:=Qa h3;have f1:=Qa (And.intro d2 (And.intro a7 (And.intro c2 (And.intro b1 a2))));have b8:=Qa b6;have HB:=Qa hB;have q1:=Ek;have q2:=qL;have e2:(lv== (m:Int)+1)=true:=by rw[a5];simp
 have d4:(lv != (m:Int)+1)=false:=by rw[a5];simp
 clear h h1 d5 h2 h3 h4 h5 h6 h7 d2 a7 c2 b1 a2 c7 e7 a1 a9 a3 e5 d0 hm d9 a5 b6 hB b4 b5;go_enter Tryz.func109,Tryz.ntmps109;go_wp2_with fail
 try rw[c1]
 obtain⟨wr,c3⟩:∃wr,w1.drew=wr:=⟨_,rfl⟩;have a6:Below w1.heap.size w1 wr:=by rw[<-c3];exact(Zd _ _).drew
 have C0:=Qa (Zf a6 c0);have E1:=Qa (Zf a6 e1);have k3r:=Zf a6 k3;have gr:=aj a4.out a6;have f3r:=am gr (m*5+3);have K4:=Qa (Zf a6 k4);have Gr:=Qa gr;have f6:=Qa (aj HA.out.row a6);have f2:=Qa (aj b3.out a6);have c6:=Qa a6;have d1:pb≠xb:=fun e=>by
  have:=HA.out.row;rw[<-e,a4.out] at this;injection this with this
  injection this with _ this _
  exact absurd this (by decide)
 have b0:pb≠w.heap.size:=fun e=>by
  have:=b3.out;rw[<-e,a4.out] at this;injection this with this
  injection this with _ this _
  exact absurd this (by decide)
 have b7:=Qa d1;have c5:=Qa b0;clear c0 k0 k3 k4 f3 e0 e1 gr a6 d1 b0 c1;refine aR (fun w2=>w2.cell? ⟨xb,0,none⟩=some (.slice (some ⟨pb,0,none⟩) (m+1) q)/\w2.cell? ⟨w.heap.size,1,none⟩=some (.string s)) ((by rw[c3];exact⟨C0.out,E1.out⟩)) fun a0=>?_
 refine tH 0 a0 ?_;refine tH 1 a0 ?_;refine tH 2 a0 ?_;refine tH 3 a0 ?_;refine tH 4 a0 ?_;refine tH 5 a0 ?_
 try simp only[Act.put,jP,jQ,jR]
 refine tH 6 a0 ?_;refine tH 7 a0 ?_;refine tH 8 a0 ?_;refine tH 9 a0 ?_;refine tH 10 a0 ?_;refine tH 11 a0 ?_
 try simp only[Act.put,jP,jQ,jR]
 refine tH 12 a0 ?_;refine tH 13 a0 ?_;refine tH 14 a0 ?_;refine tH 15 a0 ?_
 try simp only[Act.put,jP,jQ,jR]
 refine rH 16 fun K hK=>?_
 rw[c3] at a0 ⊢;go_simp;refine hK.out _ _ (⟨(World.cell?_setCell_far _ _ _ _ b7.out).trans C0.out,(World.cell?_setCell_far _ _ _ _ c5.out).trans E1.out⟩) (fun a0=>?_);clear hK K
 try simp only[Act.put,jP,jQ,jR]
 refine tH 17 a0 ?_;refine tH 18 a0 ?_
 try simp only[Act.put,jP,jQ,jR]
 refine rH 19 fun K hK=>?_
 have g4:=aw Gr.out (m*5+3) (.string s);have f4:=am g4 (m*5+4);have k4:=(mE Gr.out (show m*5+3≠m*5+4 by omega) (.string s)).trans K4.out;go_simp;refine hK.out _ _ (⟨(World.cell?_setCell_far _ _ _ _ b7.out).trans ((World.cell?_setCell_far _ _ _ _ b7.out).trans C0.out),(World.cell?_setCell_far _ _ _ _ c5.out).trans ((World.cell?_setCell_far _ _ _ _ c5.out).trans E1.out)⟩) (fun a0=>?_);clear hK K
 try simp only[Act.put,jP,jQ,jR]
 refine wpAnyH_done (by kernel_rfl) (NoPanic.normal ?_) _;clear a0 k3r f3r;go_end0;obtain rfl:=Hm.out;have f0:wr.ownsRow B 238 5 (.slice (some ⟨pb,0,none⟩) (us.length+1) q) (us.length+1) (([.int .i64 (if f.obj=true then 6 else 5),.slice none 0 0,.slice Ai L.length qi,.string s0,.bool f.name.isSome]:List Value)::us).reverse.flatten:=aq H3.out c6.out (Za _);have c4:=ff f0 Hl.out (j:=3) (by decide) (.string s);have b2:=ff c4 (fun x hx=>by rcases List.mem_cons.1 hx with rfl|hx;(· rfl);exact Hl.out x (Zl _ hx)) (j:=4) (by decide) (.bool true);have c8:br (fun k=>k=pb) wr ((wr.setCell ⟨pb,us.length*5+3,none⟩ (.string s)).setCell ⟨pb,us.length*5+4,none⟩ (.bool true)):=
  (br.set pb _ _).trans (br.set pb _ _) fun i h=>.inl h
 have e3:B<=w1.heap.size:=Zb HB.out b8.out.size;have b0:=qE HA.out a4.out e6 e3 (br.of_below c6.out) c8 b2 (fun g hg=>.inl (by
  have hg:g∈bZ [.int .i64 (if f.obj=true then 6 else 5),.slice none 0 0,.slice Ai L.length qi,.string s,.bool true]:=hg;rw[jz] at hg ⊢;exact hg)) (by
  show(bZ [_,_,_,_,_]).Nodup
  rw[jz];exact lJ _) (f':={f with name:=some s}) (fun hm ht c9=>?_)
 ·exact⟨rfl,(b8.out.mono HB.out).trans b0.1,(Kp.of_below TB b8.out).trans b0.2.1,_,b0.2.2⟩
 obtain⟨m1,m2,m3,m4,m5⟩:=f1.out;have hne:=aO m3 a4.out (by decide);refine⟨.slice none 0 0,.slice Ai L.length qi,s,xs,L,rfl,fun t e=>Zh e,?_,?_,?_,m4,?_,fun _=>rfl,fun e=>?_⟩
 ·exact bH m1 fun b hb=>by cases hb
 ·exact m2.mono fun _ _ h=>h.move hm ht c9
 ·exact bH m3 fun b hb=>((br.of_below c6.out).trans c8 (fun i h=>.inl h)).block b (ae (al m3 hb).2.choose_spec) fun e=>hne (by rw[hb,e])
 ·exact m5.mono fun _ _ h=>h.move hm ht c9
 ·exact absurd (ho.symm.trans e) (by decide)
def kN (frs:List Fr):Prop:=frs.length<=4294967296/\∀f fs,frs=f::fs->cj f=false/\f.items.length<=4294967296/\f.mems.length<=4294967296
theorem qF {bs:List Nat}(h:fC B w xb frs none bs)(hT:kN frs)(hv:VW (Pb B bs) w v j)(hB:B<=w.heap.size):Calls Tryz.prog 139 #[.pointer (some ⟨xb,0,none⟩),v] w (mU B xb (cW frs j) w):=by
 cases frs with
 |nil=>exact Ct h hv hB
 |cons f fs=>
  obtain⟨h1,h2,h3⟩:=hT.2 f fs rfl;have hl:=hT.1;rw[List.length_cons] at hl
  by_cases ho:f.obj=true
  ·have hn:f.name.isSome=true:=by
    simp only[cj,ho,Bool.true_and] at h1
    cases hn:f.name with
    |none=>rw[hn] at h1;cases h1
    |some _=>rfl
   exact Ey h ho hv hB hn h3 (by omega)
  ·exact Dk h (by simpa using ho) hv hB h2 (by omega)
theorem qn {bs:List Nat}(a2:lv= (frs.length+1:Nat))(h:fC B w xb frs none bs)(hT:kN frs)(hv:VW (Pb B bs) w v j)(hB:B<=w.heap.size):Calls Tryz.prog 109 #[.pointer (some ⟨xb,0,none⟩),.iface 242 (.agg #[.int .i64 lv,v])] w (mU B xb (cW frs j) w):=by
 have a0:=ac w (.cells #[.int .i64 lv,v] 242);have a1:=h.below a0;have a3:=Qa (lU a1 (fun f fs e=>(hT.2 f fs e).1) hT.1);rw[<-a2] at a3;have a5:=Qa (qF a1 hT (hv.move (bs':=bs) (Mv.of_below (top:= []) a0) (by simp) (fun g hg=>.inl hg)) (Zb hB a0.size));have e1:=aa (Ze w (.cells #[.int .i64 lv,v] 242)) (j:=1) rfl;have a4:=Qa a0;have HB:=Qa hB;have q1:=Fb;have q2:=rv;have q3:=rt;obtain⟨tv,xv,rfl⟩:=hv.iface;clear h a1 hT hv hB a2 a0;go_enter Tryz.func109,Tryz.ntmps109;go_wp2_with fail;(with_reducible refine a3.out.mono ?_);rintro e w' ⟨rfl,rfl⟩;go_wp2_with fail;(with_reducible refine a5.out.mono ?_);rintro e w' ⟨rfl,h1,h2,h3⟩;have R:=Qa (And.intro h1 (And.intro h2 h3));clear h1 h2 h3;go_wp2_with fail;go_end0;exact⟨rfl,(a4.out.mono HB.out).trans R.out.1,(Kp.of_below TB a4.out).trans R.out.2.1,R.out.2.2⟩
theorem ko {k:Nat}{xs ys:List Value}(h:w.ownsRow B e k (.slice A (n+1) q) (n+1) (xs++ys))(hx:xs.length=n*k):w.ownsRow B e k (.slice A n q) n xs:=by
 obtain⟨h1,⟨e1,h0⟩|⟨g,cap,cur,e1,hb,hg,h2,h3,h4,h5⟩⟩:=h
 ·cases e1
 ·obtain⟨rfl,-,rfl⟩:=Value.slice.inj e1;refine⟨hx,.inr ⟨g,q,cur,rfl,hb,hg,by omega,h3,h4,?_⟩⟩;have:=congrArg (List.take (n*k)) h5;rw[List.take_take,Nat.min_eq_left (Nat.mul_le_mul_right k (Nat.le_succ n)),List.take_left' hx] at this;exact this
theorem FV:∀ (L:List (List Value)),(∀x∈L,x.length=5)->L.flatten.length=L.length*5
 | [],_=>rfl
 |a::L,h=>by rw[List.flatten_cons,List.length_append,FV L (fun x hx=>h x (Zl _ hx)),h a (by simp),List.length_cons];omega
theorem zK {done:Option JV}{u:List Value}{us:List (List Value)}{bs:List Nat}(h:Bz B w xb (f::fs) done (.slice (some ⟨pb,0,none⟩) (us.length+1) q) dv (u::us) bs)(hB:B<=w.heap.size) :
  Below B w (w.setCell ⟨xb,0,none⟩ (.slice (some ⟨pb,0,none⟩) us.length q))/\Kp (fun e=>e=192) w (w.setCell ⟨xb,0,none⟩ (.slice (some ⟨pb,0,none⟩) us.length q))/\(∀g∈us.flatMap bZ,g∈bs)/\fC B (w.setCell ⟨xb,0,none⟩ (.slice (some ⟨pb,0,none⟩) us.length q)) xb fs done (us.flatMap bZ):=by
 obtain⟨h1,h2,h3,h4,h5,h6,h7⟩:=h;have a4:=br.set (w:=w) xb 0 (.slice (some ⟨pb,0,none⟩) us.length q);have hk:Kp (fun e=>e=192) w (w.setCell ⟨xb,0,none⟩ (.slice (some ⟨pb,0,none⟩) us.length q)):=Kp.of_chg a4 fun g e _=>by subst e;exact⟨_,_,_,h1,rfl⟩
 have hm:Mv [] w (w.setCell ⟨xb,0,none⟩ (.slice (some ⟨pb,0,none⟩) us.length q)):=Mv.of_kp hk fun e he=>by rcases he with rfl|rfl|rfl|rfl <;> decide
 have a2:us.length=fs.length:=by have:=h4.1;simpa using this
 have a0:∀g∈us.flatMap bZ,g∈bs:=fun g hg=>by rw[<-h5];exact List.mem_append_right _ hg
 have a3:∀g∈us.flatMap bZ,g∈bs\/w.heap.size<=g:=fun g h=>.inl (a0 g h)
 have a1:∀x∈u::us,x.length=5:=fun x hx=>by
  obtain⟨i,hi,rfl⟩:=List.getElem_of_mem hx;exact(h4.2 i _ ((f::fs)[i]'(by have:=h4.1;omega)) (Zc hi) (Zc _)).len
 refine⟨a4.below hB (fun i e=>by rw[e];exact h2),hk,a0,.slice (some ⟨pb,0,none⟩) us.length q,dv,us,aw h1 0 _,h2,?_,⟨a2,fun i a b h1 h2=>?_⟩,rfl,?_,h7.move hm (by simp) a3⟩
 ·rw[List.length_cons,<-a2,List.reverse_cons,List.flatten_append] at h3;rw[<-a2];refine ao (ko h3 ?_) hk.keeps (by decide);rw[FV _ fun x hx=>a1 x (Zl _ (List.mem_reverse.1 hx)),List.length_reverse]
 ·exact(h4.2 (i+1) a b (by simpa using h1) (by simpa using h2)).move hm (by simp) a3 (by simp)
 ·rw[<-h5] at h6;exact(List.nodup_append.1 h6).2.1
