import Derived.Test.YtgkkffeagolnpaaGreatDoorGZ16av
set_option linter.unusedVariables false
set_option linter.unusedSimpArgs false
set_option maxHeartbeats 64000000
set_option maxRecDepth 100000
namespace Go.Proofs.YtgkkffeagolnpaaGreatDoor
open Go.RowKit
variable {cs cur:Array Value}{f f':Fr}{j:JV}{frs fs:List Fr}{bs':List Nat}{u':List Value}{B g i n pb q xb:Nat}{F P:Nat->Prop}{e:TypeId}{T U:TypeId->Prop}{dv pv v:Value}{w w' w5 w6:World}
def Kp (T:TypeId->Prop)(w w':World):Prop:=w.heap.size<=w'.heap.size/\∀ (g:Nat) (o:Obj),w.heap[g]?=some o->(∀cs e z,o =.cells cs e z->¬T e)->w'.heap[g]?=some o
theorem Kp.refl (T:TypeId->Prop)(w:World):Kp T w w:=⟨Zb _,fun _ _ h _=>h⟩
theorem Kp.trans {a b c:World}(h:Kp T a b)(k:Kp T b c):Kp T a c:=⟨Zc h.1 k.1,fun g o hg ht=>k.2 g o (h.2 g o hg ht) ht⟩
theorem Kp.of_below (T:TypeId->Prop)(h:Below w.heap.size w w'):Kp T w w':=⟨h.size,fun g o hg _=>(h.block g (ak hg)).trans hg⟩
theorem Kp.of_chg (h:aP F w w')(hF:∀g,F g->g<w.heap.size->∃cs e z,w.heap[g]?=some (.cells cs e z)/\T e):Kp T w w':=by
 refine⟨h.size,fun g o hg ht=>(h.block g (ak hg) fun hf=>?_).trans hg⟩;obtain⟨cs,e,z,h1,h2⟩:=hF g hf (ak hg);rw[h1] at hg;injection hg with hg
 exact ht cs e z hg.symm h2
theorem Kp.keeps (h:Kp T w w'):bL T w w':=⟨h.1,fun g cs e z hg ht=>h.2 g _ hg (fun cs' e' z' he=>by injection he with _ he;subst he;exact ht)⟩
theorem Kp.imp (h:Kp T w w')(hT:∀e,T e->U e):Kp U w w':=⟨h.1,fun g o hg ht=>h.2 g o hg (fun cs e z he hte=>ht cs e z he (hT e hte))⟩
theorem Kp.heap (h:Kp T w w'){z:Nat×Nat}(hg:w.heap[g]?=some (.cells cs e z))(he:¬T e):w'.heap[g]?=some (.cells cs e z):=h.keeps.2 g cs e z hg he
def bM (u:List Value):List Nat:=(u.getD 1 undef).ownBlock.toList++ (u.getD 2 undef).ownBlock.toList
def Pb (B:Nat)(bs:List Nat)(g:Nat):Prop:=B<=g/\g∉bs
structure JC (P:Nat->Prop) (B:Nat) (w:World) (u:List Value) (f:Fr) (iv mv:Value) (s:ByteArray) (us:List Value) (L:List (ByteArray×Value)):Prop where
 cells:u = [.int .i64 (if f.obj then 6 else 5),iv,mv,.string s,.bool f.name.isSome]
 name:∀t,f.name=some t->s=t
 items:w.ownsRow B 80 1 iv us.length us
 vals:ch (VW P w) us f.items
 mems:vm w B mv L
 names:L.map Prod.fst=f.mems.map Prod.fst
 mvals:ch (VW P w) (L.map Prod.snd) (f.mems.map Prod.snd)
 nilI:f.obj=true->iv =.slice none 0 0
 nilM:f.obj=false->mv =.slice none 0 0
def FP (P:Nat->Prop)(B:Nat)(w:World)(u:List Value)(f:Fr):Prop:= ∃iv mv s us L,JC P B w u f iv mv s us L
theorem FP.len {u:List Value}(h:FP P B w u f):u.length=5:=by obtain⟨_,_,_,_,_,h⟩:=h;rw[h.cells];rfl
def m7 (P:Nat->Prop)(w:World)(dv:Value)(d:Option JV):Prop:=match d with|none=>dv =.nilIface|some j=>VW P w dv j
structure xS (B:Nat) (w:World) (xb:Nat) (frs:List Fr) (done:Option JV) (pv dv:Value) (us:List (List Value)) (bs:List Nat):Prop where
 row:w.heap[xb]?=some (.cells #[pv,dv] 200 (0,0))
 low:B<=xb
 parts:w.ownsRow B 246 5 pv frs.length us.reverse.flatten
 frames:ch (fun u f=>FP (Pb B bs) B w u f) us frs
 blocks:us.flatMap bM=bs
 nodup:bs.Nodup
 done:m7 (Pb B bs) w dv done
def d8 (B:Nat)(w:World)(xb:Nat)(frs:List Fr)(done:Option JV)(bs:List Nat):Prop:= ∃pv dv us,xS B w xb frs done pv dv us bs
def Mv (top:List Nat)(w w':World):Prop:=w.heap.size<=w'.heap.size/\∀ (g:Nat) (cs:Array Value) (e:TypeId) (z:Nat×Nat),w.heap[g]?=some (.cells cs e z)->TV e->g∉top->w'.heap[g]?=some (.cells cs e z)
theorem Mv.of_below {top:List Nat}(h:Below w.heap.size w w'):Mv top w w':=⟨h.size,fun g cs e z hg _ _=>(h.block g (ak hg)).trans hg⟩
theorem Mv.of_kp {top:List Nat}(h:Kp T w w')(hT:∀e,TV e->¬T e):Mv top w w':=⟨h.1,fun g cs e z hg he _=>h.heap hg (hT e he)⟩
theorem Mv.trans {t:List Nat}{a b c:World}(h:Mv t a b)(k:Mv t b c):Mv t a c:=⟨Zc h.1 k.1,fun g cs e z hg he ht=>k.2 g cs e z (h.2 g cs e z hg he ht) he ht⟩
theorem Mv.of_chg {top:List Nat}(h:aP F w w')(hF:∀g,F g->g<w.heap.size->g∈top\/∃cs e z,w.heap[g]?=some (.cells cs e z)/\¬TV e):Mv top w w':=by
 refine⟨h.size,fun g cs e z hg he ht=>(h.block g (ak hg) fun hf=>?_).trans hg⟩;rcases hF g hf (ak hg) with h1|⟨cs',e',z',h1,h2⟩
 ·exact ht h1
 ·rw[h1] at hg;injection hg with hg
  injection hg with _ hg _
  subst hg;exact h2 he
theorem VW.move {bs top:List Nat}(h:VW (Pb B bs) w v j)(hm:Mv top w w')(ht:∀g∈top,g∈bs)(a0:∀g∈bs',g∈bs\/w.heap.size<=g):VW (Pb B bs') w' v j:=
 h.stay fun g o ⟨h1,h2⟩ hg ⟨cs,e,z,ho,he⟩=>by
  subst ho;refine⟨⟨h1,fun hb=>?_⟩,hm.2 g cs e z hg he (fun h=>h2 (ht g h))⟩;rcases a0 g hb with h3|h3
  ·exact h2 h3
  ·have:=ak hg;omega
theorem jF {k:Nat}{top:List Nat}{xs:List Value}(h:w.ownsRow B e k v n xs)(hm:Mv top w w')(he:TV e)(ht:∀g,v.ownBlock=some g->g∉top):w'.ownsRow B e k v n xs:=by
 refine bh h fun b hb=>?_
 obtain⟨_,cur,hg⟩:=ao h hb;rw[hg];exact hm.2 b cur e _ hg he (ht b hb)
theorem FP.move {bs top:List Nat}{u:List Value}(h:FP (Pb B bs) B w u f)(hm:Mv top w w')(ht:∀g∈top,g∈bs)(a0:∀g∈bs',g∈bs\/w.heap.size<=g)(hu:∀g∈bM u,g∉top):FP (Pb B bs') B w' u f:=by
 obtain⟨iv,mv,s,us,L,h1,h2,h3,h4,h5,h6,h7,h8,h9⟩:=h;subst h1;refine⟨iv,mv,s,us,L,rfl,h2,jF h3 hm (.inr (.inr (.inl rfl))) (fun g e=>hu g ?_),h4.mono fun _ _ h=>h.move hm ht a0,jF h5 hm (.inr (.inr (.inr rfl))) (fun g e=>hu g ?_),h6,h7.mono fun _ _ h=>h.move hm ht a0,h8,h9⟩
 ·simp[bM,e]
 ·simp[bM,e]
theorem m7.move {bs top:List Nat}{d:Option JV}(h:m7 (Pb B bs) w dv d)(hm:Mv top w w')(ht:∀g∈top,g∈bs)(a0:∀g∈bs',g∈bs\/w.heap.size<=g):m7 (Pb B bs') w' dv d:=by
 cases d with
 |none=>exact h
 |some j=>exact VW.move h hm ht a0
def TB (e:TypeId):Prop:=TV e\/e=200\/e=246
theorem d8.kp {done:Option JV}{bs:List Nat}(h:d8 B w xb frs done bs)(hk:Kp T w w')(hT:∀e,TB e->¬T e):d8 B w' xb frs done bs:=by
 obtain⟨pv,dv,us,h1,h2,h3,h4,h5,h6,h7⟩:=h;have hm:Mv [] w w':=Mv.of_kp hk (fun e he=>hT e (.inl he));have a0:∀g∈bs,g∈bs\/w.heap.size<=g:=fun g h=>.inl h
 exact⟨pv,dv,us,hk.heap h1 (hT _ (.inr (.inl rfl))),h2,aw h3 hk.keeps (hT _ (.inr (.inr rfl))),h4.mono fun _ _ h=>h.move hm (by simp) a0 (by simp),h5,h6,h7.move hm (by simp) a0⟩
theorem d8.below {done:Option JV}{bs:List Nat}(h:d8 B w xb frs done bs)(hb:Below w.heap.size w w'):d8 B w' xb frs done bs:=h.kp (T:=fun _=>False) (Kp.of_below _ hb) (fun _ _ h=>h)
theorem BG:da 198 246 (.agg #[.int .i64 0,.slice none 0 0,.slice none 0 0,.string ByteArray.empty,.bool false]) 5 80:=⟨Tryz.underlying198,by kernel_rfl,rfl,by decide⟩
structure IL (w:World) (pv:Value) (m:Nat) (u:List Value) (pb q:Nat):Prop where
 pv:pv =.slice (some ⟨pb,0,none⟩) (m+1) q
 cell:∀i v,u[i]?=some v->w.cell? ⟨pb,m*5+i,none⟩=some v
 typed:∃cur,w.heap[pb]?=some (.cells cur 246 (0,0))
 max:m+1<=maxLen
 cap:m+1<=q
theorem dE {u:List Value}{us:List (List Value)}(h:w.ownsRow B 246 5 pv (us.length+1) (u::us).reverse.flatten)(hl:∀x∈u::us,x.length=5):∃pb q,B<=pb/\IL w pv us.length u pb q:=by
 rcases ep h with ⟨_,e,_⟩|⟨pb,q,rfl,hb,hc,hm⟩
 ·omega
 ·obtain⟨_,cur,a0⟩:=ao h rfl;refine⟨pb,q,hb,rfl,fun i v hv=>?_,⟨cur,a0⟩,hm,hc⟩;have hi:=(List.getElem?_eq_some_iff.1 hv).1;have h5:=hl u (by simp);rw[World.ownsRow.cellAt h (us.length*5+i) (by omega),Bb (k:=5) (fun x hx=>hl x (List.mem_reverse.1 hx)) us.length i (by omega)];rw[List.reverse_cons,List.getElem?_append_right (by simp),List.length_reverse,Nat.sub_self];simpa using hv
theorem yO {u:List Value}{us:List (List Value)}(h:w.ownsRow B 246 5 (.slice (some ⟨pb,0,none⟩) (us.length+1) q) (us.length+1) (u::us).reverse.flatten)(hl:∀x∈u::us,x.length=5)(hu:u'.length=5)
  (hw:∃cur:Array Value,w'.heap[pb]?=some (.cells cur 246 (0,0))/\∀old,w.heap[pb]?=some (.cells old 246 (0,0))->cur.size=old.size/\(∀i,i<us.length*5->cur[i]?=old[i]?)/\∀i,i<5->cur[us.length*5+i]?=u'[i]?) :
  w'.ownsRow B 246 5 (.slice (some ⟨pb,0,none⟩) (us.length+1) q) (us.length+1) (u'::us).reverse.flatten:=by
 obtain⟨hx,⟨e1,h0⟩|⟨g,cap,old,e1,hb,hg,h2,h3,h4,h5⟩⟩:=h
 ·cases e1
 obtain⟨e2,-,rfl⟩:=Value.slice.inj e1;obtain rfl:pb=g:=by injection e2 with e2;injection e2
 obtain⟨cur,a1,a0⟩:=hw;obtain⟨c1,c2,c3⟩:=a0 old hg;have hlen:∀ (L:List (List Value)),(∀x∈L,x.length=5)->L.flatten.length=L.length*5:=fun L=>by
  induction L with
  |nil=>intro _;rfl
  |cons a L ih=>intro h;rw[List.flatten_cons,List.length_append,ih (fun x hx=>h x (Zl _ hx)),h a (by simp),List.length_cons];omega
 have a3:∀x∈us.reverse,x.length=5:=fun x hx=>hl x (Zl _ (List.mem_reverse.1 hx))
 have h6:=hlen us.reverse a3;rw[List.length_reverse] at h6;have a2:((u'::us).reverse.flatten).length= (us.length+1)*5:=by
  rw[List.reverse_cons,List.flatten_append,List.length_append,h6];simp[hu];omega
 refine⟨a2,.inr ⟨pb,q,cur,rfl,hb,a1,h2,h3,by rw[c1];exact h4,?_⟩⟩;apply List.ext_getElem?;intro i;rw[List.reverse_cons,List.flatten_append]
 by_cases hi:i< (us.length+1)*5
 ·rw[List.getElem?_take_of_lt hi,Array.getElem?_toList]
  by_cases hi2:i<us.length*5
  ·rw[c2 i hi2,List.getElem?_append_left (by omega)];have:=congrArg (·[i]?) h5;simp only[List.getElem?_take_of_lt hi,Array.getElem?_toList] at this;rw[this,List.reverse_cons,List.flatten_append,List.getElem?_append_left (by omega)]
  ·rw[List.getElem?_append_right (by omega),h6];have:=c3 (i - us.length*5) (by omega);rw[show us.length*5+ (i - us.length*5)=i by omega] at this;rw[this];simp
 ·rw[List.getElem?_eq_none (by simp;omega),List.getElem?_eq_none];rw[<-List.flatten_append,<-List.reverse_cons,a2];omega
theorem J3 {u:List Value}{j:Nat}(v:Value)(hu:u.length=5)(hj:j<5):(u.set j v)[i]?=if i=j then some v else u[i]?:=by
 rw[List.getElem?_set]
 by_cases h:j=i
 ·subst h;simp[hu,hj]
 ·rw[if_neg h,if_neg (fun e=>h e.symm)]
theorem dO {u:List Value}{us:List (List Value)}(h:w.ownsRow B 246 5 (.slice (some ⟨pb,0,none⟩) (us.length+1) q) (us.length+1) (u::us).reverse.flatten)(hl:∀x∈u::us,x.length=5){j:Nat}(hj:j<5)(v:Value) :
  (w.setCell ⟨pb,us.length*5+j,none⟩ v).ownsRow B 246 5 (.slice (some ⟨pb,0,none⟩) (us.length+1) q) (us.length+1) (u.set j v::us).reverse.flatten:=by
 have hu:=hl u (by simp);obtain⟨pb',q',a1,hT⟩:=dE h hl;obtain⟨e,-,-⟩:=Value.slice.inj hT.pv;obtain rfl:pb=pb':=by injection e with e;injection e
 obtain⟨cur,a0⟩:=hT.typed;have hc:∀i,i<5->cur[us.length*5+i]?=u[i]?:=by
  intro i hi;obtain⟨x,hx⟩:∃x,u[i]?=some x:=⟨_,Zd (by omega)⟩;have:=hT.cell i x hx;unfold World.cell? at this;simp only[a0] at this;rw[hx];simpa using this
 refine yO h hl (by simp[hu]) ⟨cur.setIfInBounds (us.length*5+j) v,ar a0 _ _,fun old ho=>?_⟩;rw[a0] at ho;obtain rfl:cur=old:=by injection ho with ho;injection ho
 refine⟨by simp,fun i hi=>by rw[Array.getElem?_setIfInBounds_ne (by omega)],fun i hi=>?_⟩;rw[J3 v hu hj]
 by_cases h:i=j
 ·subst h;have h1:=hc i hi;have:us.length*5+i<cur.size:=by
   rcases Nat.lt_or_ge (us.length*5+i) cur.size with h2|h2
   ·exact h2
   ·rw[Array.getElem?_eq_none h2,Zd (by omega)] at h1;cases h1
  rw[if_pos rfl,Array.getElem?_setIfInBounds_self_of_lt this]
 ·rw[if_neg h,Array.getElem?_setIfInBounds_ne (by omega)];exact hc i hi
def lF (B xb:Nat)(c:bR)(w:World)(e:Ending)(w':World):Prop:=e =.returned (.tuple #[])/\Below B w w'/\Kp TB w w'/\∃bs,d8 B w' xb c.frs c.done bs
theorem Dx {bs:List Nat}(h:d8 B w xb [] none bs)(hv:VW (Pb B bs) w v j)(hB:B<=w.heap.size):Calls Tryz.prog 142 #[.pointer (some ⟨xb,0,none⟩),v] w (lF B xb (bD [] j) w):=by
 obtain⟨pv,dv,us,h1,h2,h3,h4,h5,h6,h7⟩:=id h;obtain⟨A,q,rfl,-⟩:=ag h3;have c0:=ac h1 (j:=0) (u:=.slice A ([]:List Fr).length q) rfl;have c1:=ac h1 (j:=1) rfl;have f1:=al h1 1;have Hh:=Qa h;have H1:=Qa h1;have H3:=Qa h3;have H4:=Qa h4;have Hv:=Qa hv;have H5:=Qa h5;have H6:=Qa h6;have H2:=Qa h2;obtain⟨tv,xv,rfl⟩:=hv.iface;clear h h1 h2 h3 h4 h5 h6 h7 hv;simp only[List.length_nil] at c0;go_enter Tryz.func142,Tryz.ntmps142;go_wp2_with fail;(try simp only[Exit.inBlock,Exit.then]);refine Zh (results_none rfl ..) rfl ?_;have a0:=aP.set (w:=w) xb 1 (.iface tv xv);have hk:Kp TB w (w.setCell ⟨xb,1,none⟩ (.iface tv xv)):=Kp.of_chg a0 fun g e _=>by subst e;exact⟨_,_,_,H1.out,.inr (.inl rfl)⟩
 have hm:Mv [] w (w.setCell ⟨xb,1,none⟩ (.iface tv xv)):=Mv.of_chg a0 fun g e _=>.inr (by subst e;exact⟨_,_,_,H1.out,by simp only[TV];decide⟩)
 obtain rfl:us = []:=List.eq_nil_of_length_eq_zero (by have:=H4.out.1;simpa using this);refine⟨rfl,a0.below hB (fun i e=>by rw[e];exact H2.out),hk,bs,.slice A 0 q,.iface tv xv, [],ar H1.out 1 _,H2.out,aw H3.out (T:=fun e=>e=200) ?_ (by decide),ch.nil _,H5.out,H6.out,Hv.out.move hm (by simp) (fun g h=>.inl h)⟩;exact bL.setCell _ fun cs e z hg=>by
  have:=H1.out.symm.trans hg;injection this with this
  injection this with _ this _
  exact this.symm
theorem xS.top {done:Option JV}{u:List Value}{us:List (List Value)}{bs:List Nat}(h:xS B w xb (f::fs) done pv dv (u::us) bs)(hm:Mv (bM u) w w')(hx:w'.heap[xb]?=w.heap[xb]?)
  (hp:w'.ownsRow B 246 5 pv (fs.length+1) (u'::us).reverse.flatten) (hb:∀g∈bM u',g∈bM u\/w.heap.size<=g) (hn:(bM u').Nodup) (hf:FP (Pb B (bM u'++us.flatMap bM)) B w' u' f'):xS B w' xb (f'::fs) done pv dv (u'::us) (bM u'++us.flatMap bM):=by
 obtain⟨h1,h2,h3,h4,h5,h6,h7⟩:=h;have a1:bs=bM u++us.flatMap bM:=by rw[<-h5];rfl
 rw[a1] at h6;obtain⟨n1,n2,n3⟩:=List.nodup_append.1 h6;have hlt:∀g∈us.flatMap bM,g<w.heap.size:=by
  intro g hg;obtain⟨x,hx,a0⟩:=List.mem_flatMap.1 hg;obtain⟨i,hi,rfl⟩:=List.getElem_of_mem hx;have hl:=h4.1;simp only[List.length_cons] at hl;obtain⟨iv,mv,s,xs,L,q1,q2,q3,q4,q5,-⟩:=h4.2 (i+1) us[i] (fs[i]'(by omega)) (by simp[Zd hi]) (by simp);rw[q1] at a0;rcases List.mem_append.1 a0 with a0|a0
  ·obtain⟨_,cur,hh⟩:=ao q3 (g:=g) (by simpa using a0);exact ak hh
  ·obtain⟨_,cur,hh⟩:=ao q5 (g:=g) (by simpa using a0);exact ak hh
 have ht:∀g∈bM u,g∈bs:=fun g hg=>by rw[a1];exact List.mem_append_left _ hg
 have a2:∀g∈bM u'++us.flatMap bM,g∈bs\/w.heap.size<=g:=fun g hg=>by
  rcases List.mem_append.1 hg with hg|hg
  ·exact(hb g hg).imp (ht g) id
  ·exact .inl (by rw[a1];exact List.mem_append_right _ hg)
 refine⟨by rw[hx];exact h1,h2,hp,?_,rfl,List.nodup_append.2 ⟨hn,n2,fun a ha b a3 e=>?_⟩,h7.move hm ht a2⟩
 ·have hl:=h4.1;refine⟨by simpa using hl,fun i a b h1 h2=>?_⟩
  cases i with
  |zero=>simp at h1 h2;subst h1 h2;exact hf
  |succ i=>
   simp only[List.getElem?_cons_succ] at h1 h2;have hq:=h4.2 (i+1) a b (by simpa using h1) (by simpa using h2);exact hq.move hm ht a2 (fun g hg a4=>n3 g a4 g (List.mem_flatMap.2 ⟨a,Zk h1,hg⟩) rfl)
 ·subst e;rcases hb a ha with h|h
  ·exact n3 a h a a3 rfl
  ·have:=hlt a a3;omega
theorem aL {k:Nat}{e':TypeId}{xs:List Value}{z:Nat×Nat}(h:w.ownsRow B e k v n xs)(hg:w.heap[pb]?=some (.cells cur e' z))(hne:e≠e'):v.ownBlock≠some pb:=by
 intro hv;obtain⟨_,cur',a0⟩:=ao h hv;rw[hg] at a0;injection a0 with a0
 injection a0 with _ a0 _
 exact hne a0.symm
theorem et {o:Obj}(h':w'.heap[g]?=some o)(h:w.heap[g]?=some o)(j:Nat):w'.cell? ⟨g,j,none⟩=w.cell? ⟨g,j,none⟩:=by
 unfold World.cell?;simp only[h,h']
theorem jU (a b c:Value)(A:Option Addr)(n q:Nat):bM [a,.slice A n q,.slice none 0 0,b,c]= (Value.slice A n q).ownBlock.toList:=List.append_nil _
theorem iy (a b c:Value)(A:Option Addr)(n q:Nat):bM [a,.slice none 0 0,.slice A n q,b,c]= (Value.slice A n q).ownBlock.toList:=rfl
theorem ka (v:Value):v.ownBlock.toList.Nodup:=by cases v.ownBlock <;> simp
theorem o5 {done:Option JV}{u:List Value}{us:List (List Value)}{bs:List Nat}(h:xS B w xb (f::fs) done (.slice (some ⟨pb,0,none⟩) (us.length+1) q) dv (u::us) bs)(a0:w.heap[pb]?=some (.cells cur 246 (0,0)))(a5:B<=pb)(hB:B<=w.heap.size)
  (h5:aP (fun k=>k∈bM u) w w5) (h6:aP (fun k=>k=pb) w5 w6) (hp:w6.ownsRow B 246 5 (.slice (some ⟨pb,0,none⟩) (us.length+1) q) (us.length+1) (u'::us).reverse.flatten) (hb:∀g∈bM u',g∈bM u\/w.heap.size<=g) (hn:(bM u').Nodup)
  (hf:Mv (bM u) w w6->(∀g∈bM u,g∈bs)->(∀g∈bM u'++us.flatMap bM,g∈bs\/w.heap.size<=g)->FP (Pb B (bM u'++us.flatMap bM)) B w6 u' f'):Below B w w6/\Kp TB w w6/\d8 B w6 xb (f'::fs) done (bM u'++us.flatMap bM):=by
 obtain⟨iv,mv,s,xs,L,hu,b0,a4,a3,a9,-⟩:=h.frames.2 0 u f rfl rfl;have a2:∀g∈bM u,B<=g/\∃c e z,w.heap[g]?=some (.cells c e z)/\(e=80\/e=82):=by
  intro g hg;rw[hu] at hg;rcases List.mem_append.1 hg with hg|hg
  ·obtain⟨h1,c,h2⟩:=ao a4 (g:=g) (by simpa using hg);exact⟨h1,c,_,_,h2,.inl rfl⟩
  ·obtain⟨h1,c,h2⟩:=ao a9 (g:=g) (by simpa using hg);exact⟨h1,c,_,_,h2,.inr rfl⟩
 have a1:aP (fun k=>k∈bM u\/k=pb) w w6:=(h5.mono fun _ h=>.inl h).trans h6 fun i hi=>.inl (.inr hi)
 have hm:Mv (bM u) w w6:=Mv.of_chg a1 fun g hg _=>hg.imp id fun e=>by subst e;exact⟨_,_,_,a0,by simp only[TV];decide⟩
 have ht:∀g∈bM u,g∈bs:=fun g hg=>by rw[<-h.blocks];exact List.mem_append_left _ hg
 refine⟨a1.below hB (fun i hi=>hi.elim (fun h=>(a2 i h).1) fun e=>by rw[e];exact a5),Kp.of_chg a1 fun g hg _=>?_,_,_,_,h.top hm ?_ (by rw[show fs.length=us.length by have:=h.frames.1;simp at this;omega];exact hp) hb hn (hf hm ht fun g hg=>?_)⟩
 ·rcases hg with hg|rfl
  ·obtain⟨-,c,e,z,h1,h2⟩:=a2 g hg;exact⟨c,e,z,h1,.inl (h2.elim (fun h=>.inr (.inr (.inl h))) fun h=>.inr (.inr (.inr h)))⟩
  ·exact⟨_,_,_,a0,.inr (.inr rfl)⟩
 ·refine a1.block xb (ak h.row) fun hx=>?_
  rcases hx with hx|rfl
  ·obtain⟨-,c,e,z,h1,h2⟩:=a2 xb hx;rw[h.row] at h1;injection h1 with h1
   injection h1 with _ h1 _
   rw[<-h1] at h2;exact absurd h2 (by decide)
  ·have h1:=h.row;rw[a0] at h1;injection h1 with h1
   injection h1 with _ h1 _
   exact absurd h1 (by decide)
 ·rcases List.mem_append.1 hg with hg|hg
  ·exact(hb g hg).imp (ht g) id
  ·exact .inl (by rw[<-h.blocks];exact List.mem_append_right _ hg)
theorem kX {t:TypeId}{z:Nat×Nat}(hg:w.heap[g]?=some (.cells cs t z)){j:Nat}(h:i≠j)(u:Value):(w.setCell ⟨g,i,none⟩ u).cell? ⟨g,j,none⟩=w.cell? ⟨g,j,none⟩:=by
 have h1:=ar hg i u;unfold World.cell?;simp only[h1,hg,Array.getElem?_setIfInBounds_ne h]
theorem Aw {bs:List Nat}(h:d8 B w xb (f::fs) none bs)(ho:f.obj=false)(hv:VW (Pb B bs) w v j)(hB:B<=w.heap.size)(hn:f.items.length<=4294967296)(f0:fs.length<=4294967296):Calls Tryz.prog 142 #[.pointer (some ⟨xb,0,none⟩),v] w fun e w'=>lF B xb (bD (f::fs) j) w e w':=by
 obtain⟨pv,dv,us,h⟩:=h;obtain⟨h1,h2,h3,h4,h5,h6,h7⟩:=id h
 cases us with
 |nil=>have:=h4.1;simp at this
 |cons u us=>
 have d4:us.length=fs.length:=by have:=h4.1;simpa using this
 have a3:∀x∈u::us,x.length=5:=fun x hx=>by
  obtain⟨i,hi,rfl⟩:=List.getElem_of_mem hx;exact(h4.2 i _ ((f::fs)[i]'(by have:=h4.1;omega)) (Zd hi) (Zd _)).len
 rw[List.length_cons,<-d4] at h3;obtain⟨pb,q,e0,hT⟩:=dE h3 a3;obtain⟨d6,a0,b5,b3,c2⟩:=hT;obtain⟨iv,mv,s,xs,L,hu,d3,b4,a1,d0,a9,a2,e3,c8⟩:=h4.2 0 u f rfl rfl;obtain rfl:=c8 ho;obtain⟨Ai,qi,rfl,-⟩:=ag b4;subst d6 hu;have d2:xs.length=f.items.length:=a1.1;obtain⟨m,hm⟩:∃m,m=us.length:=⟨_,rfl⟩;rw[<-hm] at a0 b3 c2;have c0:=ac h1 (j:=0) (u:=.slice (some ⟨pb,0,none⟩) (m+1) q) (by rw[hm];rfl);have k0:=a0 0 _ rfl;have k1:=a0 1 _ rfl;rw[ho] at k0;simp only[Bool.false_eq_true,if_false] at k0;rw[Nat.add_zero] at k0;obtain⟨cur,a5⟩:=b5;have f1:=al a5 (m*5+1);obtain⟨tv,xv,rfl⟩:=hv.iface;have s1:IntKind.i64.wrap (m:Int)= (m:Int):=IntWalk.i64_in _ (by omega);have e4:(((m+1:Nat):Int)==0)=false:=by simp only[beq_eq_false_iff_ne];omega
 have Hh:=Qa h;have Hv:=Qa hv;have e5:=Qa b4;have b2:=Qa a1;have a4:=Qa a5;have H1:=Qa h1;have H2:=Qa h2;have Hm:=Qa hm;have d1:=Qa d2;have Hl:=Qa a3;have H3:=Qa h3;have e2:=Qa (And.intro d0 (And.intro a9 (And.intro a2 d3)));clear h h1 h2 h3 h4 h5 h6 h7 hv b4 a1 d0 a9 a2 e3 c8 a0 a5 a3 d3 d4 hm d2;go_enter Tryz.func142,Tryz.ntmps142;go_wp2_with fail;go_quiet (fail);have e1:w.heap.size<=(w.drewN nq).heap.size:=Zb _;obtain⟨wd,hwd⟩:∃wd,w.drewN nq=wd:=⟨_,rfl⟩;have b0:Below w.heap.size w wd:=by rw[<-hwd];exact ap (Ze _ _) nq
 have c9:wd.heap.size=w.heap.size:=by rw[<-hwd];rfl
 have k0':=Zg b0 k0;have k1':=Zg b0 k1;have f1':wd.frozen? ⟨pb,m*5+1,none⟩=false:=by rw[<-hwd];exact f1
 rw[hwd];have b1:=Qa (aa wd (.cells #[.iface tv xv] 80));have c6:=Qa (ai (ai e5.out b0 (Zb _)) b1.out (Zb _));have d9:=Qa (av wd [.iface tv xv] 80);have c3:=Qa b0;have c1:=Qa c9;clear c0 k0 k1 f1 hwd e1 b0 c9;have c7:=Qa (ah (ah a4.out c3.out) b1.out);have e6:=Qa (aL c6.out c7.out (by decide));go_wp2_with (at_builtin;refine j3 AH c6.out d9.out (by have:=c1.out;have:=b1.out.size;omega) ?_ (hlen:=(by unfold maxLen;have:=d1.out;omega)) (hby:=(by have:=d1.out;omega));intro v' w5 p1 p2 p3;obtain⟨A5,q5,rfl,-,-,-⟩:=ag p1;have g5:=ay c7.out p2 e6.out;have f5:=al g5 (m*5+1);have G5:=Qa g5;have HK:=Qa p1;have HG:=Qa p2;have HD:=Qa p3;have k5:w5.cell? ⟨pb,m*5+1,none⟩=wd.cell? ⟨pb,m*5+1,none⟩:=et g5 (ah a4.out c3.out) _;rw[k1'] at k5;clear p1 p2 p3 g5);(try simp only[Exit.inBlock,Exit.then]);refine Zh (results_none rfl ..) rfl ?_;obtain rfl:=Hm.out;have c5:aP (fun k=>(Value.slice Ai xs.length qi).ownBlock=some k) w w5:=(aP.of_below ((c3.out).trans (b1.out.mono (by have:=c1.out;omega)))).trans (aP.grown HG.out) fun i hi=>.inl hi
 have d5:w5.ownsRow B 246 5 (.slice (some ⟨pb,0,none⟩) (us.length+1) q) (us.length+1) (([.int .i64 (if f.obj=true then 6 else 5),.slice Ai xs.length qi,.slice none 0 0,.string s,.bool f.name.isSome]:List Value)::us).reverse.flatten:=by
  refine bh H3.out fun b hb=>?_
  obtain rfl:pb=b:=Zi hb;exact G5.out.trans a4.out.symm
 have c4:=dO d5 Hl.out (j:=1) (by decide) (.slice A5 (xs.length+1) q5);have b8:=o5 Hh.out a4.out e0 hB (c5.mono fun k hk=>by rw[jU];simpa using hk) (aP.set pb (us.length*5+1) (.slice A5 (xs.length+1) q5)) c4 (by
  intro g hg;have hg:g∈(Value.slice A5 (xs.length+1) q5).ownBlock.toList:=by rw[<-jU];exact hg
  rw[jU];rcases HD.out with e|e
  ·left;rw[e] at hg;exact hg
  ·right
   rw[e] at hg;have:=Zi (Option.mem_toList.1 hg);have:=b1.out.size;have:=c1.out;omega) (by
  show(bM [_,_,_,_,_]).Nodup
  rw[jU];exact ka _) (f':={f with items:=f.items ++ [j]}) (fun hm ht b9=>?_)
 ·rw[dI ho];exact⟨rfl,b8.1,b8.2.1,_,b8.2.2⟩
 obtain⟨m1,m2,m3,m4⟩:=e2.out;have hne:=aL HK.out G5.out (by decide);refine⟨.slice A5 (xs.length+1) q5,.slice none 0 0,s,xs ++ [.iface tv xv],L,rfl,m4,?_,?_,?_,m2,?_,fun e=>?_,fun _=>rfl⟩
 ·rw[List.length_append];exact bh HK.out fun b hb=>(aP.set pb _ _).block b (ak (ao HK.out hb).2.choose_spec) fun e=>hne (by rw[hb,e])
 ·exact(b2.out.mono fun _ _ h=>h.move hm ht b9).snoc (Hv.out.move hm ht b9)
 ·exact bh m1 fun b hb=>by cases hb
 ·exact m3.mono fun _ _ h=>h.move hm ht b9
 ·exact absurd (ho.symm.trans e) (by decide)
theorem Fp {bs:List Nat}(h:d8 B w xb (f::fs) none bs)(ho:f.obj=true)(hv:VW (Pb B bs) w v j)(hB:B<=w.heap.size)(b8:f.name.isSome=true)(hn:f.mems.length<=4294967296)(d6:fs.length<=4294967296):Calls Tryz.prog 142 #[.pointer (some ⟨xb,0,none⟩),v] w fun e w'=>lF B xb (bD (f::fs) j) w e w':=by
 obtain⟨pv,dv,us,h⟩:=h;obtain⟨h1,h2,h3,h4,h5,h6,h7⟩:=id h
 cases us with
 |nil=>have:=h4.1;simp at this
 |cons u us=>
 have e6:us.length=fs.length:=by have:=h4.1;simpa using this
 have a4:∀x∈u::us,x.length=5:=fun x hx=>by
  obtain⟨i,hi,rfl⟩:=List.getElem_of_mem hx;exact(h4.2 i _ ((f::fs)[i]'(by have:=h4.1;omega)) (Zd hi) (Zd _)).len
 rw[List.length_cons,<-e6] at h3;obtain⟨pb,q,g1,hT⟩:=dE h3 a4;obtain⟨f1,a1,c6,b3,b5⟩:=hT;obtain⟨iv,mv,s,xs,L,hu,d5,e1,a9,c8,b0,a3,d2,f3⟩:=h4.2 0 u f rfl rfl;obtain rfl:=d2 ho;obtain⟨Ai,qi,rfl,-⟩:=ag c8;subst f1 hu;have e4:L.length=f.mems.length:=by have:=congrArg List.length b0;simpa using this
 obtain⟨nn,b8⟩:=Option.isSome_iff_exists.1 b8;obtain rfl:=d5 nn b8;obtain⟨m,hm⟩:∃m,m=us.length:=⟨_,rfl⟩;rw[<-hm] at a1 b3 b5;have c0:=ac h1 (j:=0) (u:=.slice (some ⟨pb,0,none⟩) (m+1) q) (by rw[hm];rfl);have k0:=a1 0 _ rfl;have k2:=a1 2 _ rfl;have k3:=a1 3 _ rfl;have k4:=a1 4 _ rfl;rw[ho] at k0;simp only[if_true] at k0;rw[Nat.add_zero] at k0;obtain⟨cur,a5⟩:=c6;have f2:=al a5 (m*5+2);have f4:=al a5 (m*5+4);obtain⟨tv,xv,rfl⟩:=hv.iface;have s1:IntKind.i64.wrap (m:Int)= (m:Int):=IntWalk.i64_in _ (by omega);have g2:(((m+1:Nat):Int)==0)=false:=by simp only[beq_eq_false_iff_ne];omega
 have Hh:=Qa h;have Hv:=Qa hv;have c9:=Qa c8;have a2:=Qa a5;have K4:=Qa k4;have H1:=Qa h1;have H2:=Qa h2;have Hm:=Qa hm;have e3:=Qa e4;have Hl:=Qa a4;have H3:=Qa h3;have f8:=Qa (And.intro e1 (And.intro b0 (And.intro a3 a9)));have f9:=Qa b8;clear h h1 h2 h3 h4 h5 h6 h7 hv e1 a9 c8 b0 a3 d2 f3 a1 a5 a4 d5 e6 hm e4 b8 f2 f4 k4 b3 b5;go_enter Tryz.func142,Tryz.ntmps142;go_wp2_with fail;go_quiet (fail);obtain⟨wd,hwd⟩:∃wd,w.drewN nq=wd:=⟨_,rfl⟩;have b4:Below w.heap.size w wd:=by rw[<-hwd];exact ap (Ze _ _) nq
 have e2:wd.heap.size=w.heap.size:=by rw[<-hwd];rfl
 have k0':=Zg b4 k0;have k2':=Zg b4 k2;have k3':=Zg b4 k3;rw[hwd];clear c0 k0 k2 k3 hwd;go_wp2_with fail;obtain⟨wr,b1⟩:∃wr,wd.drew=wr:=⟨_,rfl⟩;have d1:Below w.heap.size w wr:=by rw[<-b1];exact b4.drew
 have d4:wr.heap.size=w.heap.size:=by rw[<-b1];exact e2
 have K2:=Qa (show wr.cell? ⟨pb,m*5+2,none⟩=some (.slice Ai L.length qi) by rw[<-b1];exact k2');have K3:=Qa (show wr.cell? ⟨pb,m*5+3,none⟩=some (.string s) by rw[<-b1];exact k3');have b2:=Qa (aa wr (.cells #[.string s,.iface tv xv] 82));have d9:=Qa (show vm (wr.alloc (.cells #[.string s,.iface tv xv] 82)) B (.slice Ai L.length qi) L from ai (ai c9.out d1 (Zb _)) b2.out (Zb _));have f7:=Qa (av wr [.string s,.iface tv xv] 82);have c2:=Qa d1;have c4:=Qa d4;have e0:=Qa (ah (ah a2.out c2.out) b2.out);have g0:=Qa (aL d9.out e0.out (by decide));clear k0' k2' k3' b4 e2 d1 d4;refine cC (fun w'=>w'.cell? ⟨pb,m*5+2,none⟩=some (.slice Ai L.length qi)/\w'.cell? ⟨pb,m*5+3,none⟩=some (.string s)) 15 ((by rw[b1];exact⟨K2.out,K3.out⟩)) fun a0=>?_
 rw[b1] at a0 ⊢;clear b1;refine tZ 0 a0 ?_;refine tZ 1 a0 ?_;refine tZ 2 a0 ?_;refine tZ 3 a0 ?_;refine tZ 4 a0 ?_;refine tZ 5 a0 ?_
 try simp only[Act.put,jP,jQ,jR]
 refine tZ 6 a0 ?_;refine tZ 7 a0 ?_;refine tZ 8 a0 ?_;refine tZ 9 a0 ?_;refine tZ 10 a0 ?_
 try simp only[Act.put,jP,jQ,jR]
 refine rZ 11 fun K hK=>?_
 go_simp;refine hK.out _ _ (fun _=>⟨Zg b2.out a0.1,Zg b2.out a0.2⟩) (fun a0=>?_);clear hK K;have a0:=a0 (by decide)
 try simp only[Act.put,jP,jQ,jR]
 refine rZ 12 fun K hK=>?_
 refine xV Cu d9.out f7.out (by have:=c4.out;have:=b2.out.size;omega) ?_ (hlen:=(by unfold maxLen;have:=e3.out;omega)) (hby:=(by have:=e3.out;omega));intro v' w5 p1 p2 p3;obtain⟨A5,q5,rfl,-,-,-⟩:=ag p1;have g5:=ay e0.out p2 g0.out;have f5:=al g5 (m*5+2);have G5:=Qa g5;have HK:=Qa p1;have HG:=Qa p2;have HD:=Qa p3;have k5:w5.cell? ⟨pb,m*5+2,none⟩=some (.slice Ai L.length qi):=(et g5 (ah a2.out c2.out) _).trans K2.out;have k53:w5.cell? ⟨pb,m*5+3,none⟩=some (.string s):=(et g5 (ah a2.out c2.out) _).trans K3.out;clear p1 p2 p3 g5;refine hK.out _ _ (fun _=>⟨k5,k53⟩) (fun a0=>?_);clear hK K;have a0:=a0 (by decide)
 try simp only[Act.put,jP,jQ,jR]
 refine rZ 13 fun K hK=>?_
 go_simp;refine hK.out _ _ (fun _=>a0) (fun a0=>?_);clear hK K;have a0:=a0 (by decide)
 try simp only[Act.put,jP,jQ,jR]
 refine tZ 14 a0 ?_
 try simp only[Act.put,jP,jQ,jR]
 refine rZ 15 fun K hK=>?_
 go_simp;refine hK.out _ _ (fun h=>absurd rfl h) (fun _=>?_);clear hK K
 try simp only[Act.put,jP,jQ,jR]
 refine aK (by kernel_rfl) (NoPanic.normal ?_) _;clear a0 f5;have g6:=ar G5.out (m*5+2) (.slice A5 (L.length+1) q5);have f6:=al g6 (m*5+4);have k6:(w5.setCell ⟨pb,m*5+2,none⟩ (.slice A5 (L.length+1) q5)).cell? ⟨pb,m*5+4,none⟩=some (.bool f.name.isSome):=by
  rw[kX G5.out (by omega),et G5.out a2.out];exact K4.out
 obtain⟨w6,d0⟩:∃w6,w5.setCell ⟨pb,m*5+2,none⟩ (.slice A5 (L.length+1) q5)=w6:=⟨_,rfl⟩;rw[d0] at g6 f6 k6 ⊢;have e5:=Qa d0;have G6:=Qa g6;clear g6 d0;go_wp2_with fail;go_end0;obtain rfl:=Hm.out;have c5:aP (fun k=>(Value.slice Ai L.length qi).ownBlock=some k) w w5:=(aP.of_below ((c2.out).trans (b2.out.mono (by have:=c4.out;omega)))).trans (aP.grown HG.out) fun i hi=>.inl hi
 have f0:w5.ownsRow B 246 5 (.slice (some ⟨pb,0,none⟩) (us.length+1) q) (us.length+1) (([.int .i64 (if f.obj=true then 6 else 5),.slice none 0 0,.slice Ai L.length qi,.string s,.bool f.name.isSome]:List Value)::us).reverse.flatten:=by
  refine bh H3.out fun b hb=>?_
  obtain rfl:pb=b:=Zi hb;exact G5.out.trans a2.out.symm
 have c1:=dO f0 Hl.out (j:=2) (by decide) (.slice A5 (L.length+1) q5);rw[e5.out] at c1;have b9:=dO c1 (fun x hx=>by rcases List.mem_cons.1 hx with rfl|hx;(· rfl);exact Hl.out x (Zl _ hx)) (j:=4) (by decide) (.bool false);have d3:aP (fun k=>k=pb) w5 (w6.setCell ⟨pb,us.length*5+4,none⟩ (.bool false)):=by
  rw[<-e5.out];exact(aP.set pb _ _).trans (aP.set pb _ _) fun i h=>.inl h
 have c7:=o5 Hh.out a2.out g1 hB (c5.mono fun k hk=>by rw[iy];simpa using hk) d3 b9 (by
  intro g hg;have hg:g∈(Value.slice A5 (L.length+1) q5).ownBlock.toList:=by rw[<-iy];exact hg
  rw[iy];rcases HD.out with e|e
  ·left;rw[e] at hg;exact hg
  ·right
   rw[e] at hg;have:=Zi (Option.mem_toList.1 hg);have:=b2.out.size;have:=c4.out;omega) (by
  show(bM [_,_,_,_,_]).Nodup
  rw[iy];exact ka _) (f':={f with mems:=f.mems ++ [(f.name.getD ⟨#[]⟩,j)],name:=none}) (fun hm ht c3=>?_)
 ·rw[eK ho];exact⟨rfl,c7.1,c7.2.1,_,c7.2.2⟩
 obtain⟨m1,m2,m3,m4⟩:=f8.out;have hne:=aL HK.out G5.out (by decide);have d6:gn (L ++ [(s,.iface tv xv)])=gn L ++ [.string s,.iface tv xv]:=by simp[gn]
 refine⟨.slice none 0 0,.slice A5 (L.length+1) q5,s,xs,L ++ [(s,.iface tv xv)],rfl,fun t e=>(by cases e),?_,?_,?_,?_,?_,fun _=>rfl,fun e=>?_⟩
 ·exact bh m1 fun b hb=>by cases hb
 ·exact m4.mono fun _ _ h=>h.move hm ht c3
 ·unfold vm;rw[List.length_append,d6];exact bh HK.out fun b hb=>d3.block b (ak (ao HK.out hb).2.choose_spec) fun e=>hne (by rw[hb,e])
 ·rw[List.map_append,List.map_append,m2,f9.out];rfl
 ·rw[List.map_append,List.map_append];exact(m3.mono fun _ _ h=>h.move hm ht c3).snoc (Hv.out.move hm ht c3)
 ·exact absurd (ho.symm.trans e) (by decide)
structure JW (B:Nat) (w:World) (xb:Nat) (f:Fr) (m pb q:Nat):Prop where
 c0:w.cell? ⟨xb,0,none⟩=some (.slice (some ⟨pb,0,none⟩) (m+1) q)
 k0:w.cell? ⟨pb,m*5,none⟩=some (.int .i64 (if f.obj then 6 else 5))
 k4:w.cell? ⟨pb,m*5+4,none⟩=some (.bool f.name.isSome)
theorem d8.top {done:Option JV}{bs:List Nat}(h:d8 B w xb (f::fs) done bs):∃pb q,JW B w xb f fs.length pb q:=by
 obtain⟨pv,dv,us,h⟩:=h;obtain⟨h1,h2,h3,h4,h5,h6,h7⟩:=id h
 cases us with
 |nil=>have:=h4.1;simp at this
 |cons u us=>
 have a2:us.length=fs.length:=by have:=h4.1;simpa using this
 have a1:∀x∈u::us,x.length=5:=fun x hx=>by
  obtain⟨i,hi,rfl⟩:=List.getElem_of_mem hx;exact(h4.2 i _ ((f::fs)[i]'(by have:=h4.1;omega)) (Zd hi) (Zd _)).len
 rw[List.length_cons,<-a2] at h3;obtain⟨pb,q,b0,hT⟩:=dE h3 a1;obtain⟨a4,a0,a9,a3,a5⟩:=hT;obtain⟨iv,mv,s,xs,L,hu,b1,-⟩:=h4.2 0 u f rfl rfl;subst a4 hu;rw[<-a2];exact⟨pb,q,ac h1 (j:=0) rfl,by have:=a0 0 _ rfl;rwa[Nat.add_zero] at this,a0 4 _ rfl⟩
theorem d8.nils {bs:List Nat}(h:d8 B w xb frs none bs):w.cell? ⟨xb,1,none⟩=some .nilIface:=by
 obtain⟨pv,dv,us,h⟩:=h;have e:dv =.nilIface:=h.done;rw[<-e];exact ac h.row (j:=1) rfl
theorem d8.empty {done:Option JV}{bs:List Nat}(h:d8 B w xb [] done bs):∃A q,w.cell? ⟨xb,0,none⟩=some (.slice A 0 q):=by
 obtain⟨pv,dv,us,h⟩:=h;obtain⟨A,q,e,-⟩:=ag h.parts;exact⟨A,q,by rw[ac h.row (j:=0) rfl,e];rfl⟩
theorem kC {bs:List Nat}(h:d8 B w xb frs none bs)(hw:∀f fs,frs=f::fs->bS f=false)(hl:frs.length<=4294967296):Calls Tryz.prog 140 #[.pointer (some ⟨xb,0,none⟩),.int .i64 (frs.length+1:Nat)] w fun e w'=>e =.returned (.tuple #[])/\w=w':=by
 have c1:=h.nils
 cases frs with
 |nil=>
  obtain⟨A,q,c0⟩:=h.empty;clear h hw;simp only[List.length_nil,Nat.zero_add];go_enter Tryz.func140,Tryz.ntmps140;go_wp2_with fail;go_end0;exact⟨rfl,rfl⟩
 |cons f fs=>
  obtain⟨pb,q,c0,k0,k4⟩:=h.top;have hw:=hw f fs rfl;rw[List.length_cons] at hl ⊢;obtain⟨m,hm⟩:∃m,fs.length=m:=⟨_,rfl⟩;rw[hm] at c0 k0 k4 hl ⊢;have s1:IntKind.i64.wrap (m:Int)= (m:Int):=IntWalk.i64_in _ (by omega);have s2:IntKind.i64.wrap ((m:Int)+1+1)= (m:Int)+1+1:=IntWalk.i64_in _ (by omega);have a1:(0:Int)< (m:Int)+1:=by omega
  have a0:((m+1+1:Nat):Int)= (m:Int)+1+1:=by omega
  rw[a0];have ht:f.obj=true->f.name.isSome=true:=fun ho=>by
   simp only[bS,ho,Bool.true_and] at hw
   cases hn:f.name with
   |none=>rw[hn] at hw;cases hw
   |some _=>rfl
  have Ht:=Qa ht;clear h hw hm ht a0
  by_cases ho:f.obj=true
  ·have hn:=Ht.out ho;rw[ho] at k0;rw[hn] at k4;simp only[if_true] at k0;clear hn ho;go_enter Tryz.func140,Tryz.ntmps140;go_wp2_with fail;go_end0;exact⟨rfl,rfl⟩
  ·rw[if_neg ho] at k0;clear ho k4;go_enter Tryz.func140,Tryz.ntmps140;go_wp2_with fail;go_end0;exact⟨rfl,rfl⟩
