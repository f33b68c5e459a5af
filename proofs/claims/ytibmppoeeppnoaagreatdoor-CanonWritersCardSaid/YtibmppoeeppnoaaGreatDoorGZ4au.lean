import Derived.Test.YtibmppoeeppnoaaGreatDoorGZ4at
set_option linter.unusedVariables false
set_option linter.unusedSimpArgs false
set_option maxHeartbeats 64000000
set_option maxRecDepth 100000
namespace Go.Proofs.YtibmppoeeppnoaaGreatDoor
open Go.RowKit
variable {cs cur:Array Value}{f f':Fr}{j:JV}{frs fs:List Fr}{bs:List Nat}{u':List Value}{B g i k n pb q xb:Nat}{e t:TypeId}{dv pv v:Value}{w w' w5:World}
theorem Bd:dl 162 209 (.agg #[.int .i64 0,.slice none 0 0,.slice none 0 0,.string ByteArray.empty,.bool false]) 5 80:=⟨Tryz.underlying162,by kernel_rfl,rfl,by decide⟩
structure GF (w:World) (pv:Value) (m:Nat) (u:List Value) (pb q:Nat):Prop where
 pv:pv =.slice (some ⟨pb,0,none⟩) (m+1) q
 cell:∀i v,u[i]?=some v->w.cell? ⟨pb,m*5+i,none⟩=some v
 typed:∃cur,w.heap[pb]?=some (.cells cur 209 (0,0))
 max:m+1<=maxLen
 cap:m+1<=q
theorem el {u:List Value}{us:List (List Value)}(h:w.ownsRow B 209 5 pv (us.length+1) (u::us).reverse.flatten)(hl:∀x∈u::us,x.length=5):∃pb q,B<=pb/\GF w pv us.length u pb q:=by
 rcases bT h with ⟨_,e,_⟩|⟨pb,q,rfl,hb,hc,hm⟩
 ·omega
 ·obtain⟨_,cur,a0⟩:=ak h rfl;refine⟨pb,q,hb,rfl,fun i v hv=>?_,⟨cur,a0⟩,hm,hc⟩;have hi:=(List.getElem?_eq_some_iff.1 hv).1;have h5:=hl u (by simp);rw[World.ownsRow.cellAt h (us.length*5+i) (by omega),tG (k:=5) (fun x hx=>hl x (List.mem_reverse.1 hx)) us.length i (by omega)];rw[List.reverse_cons,List.getElem?_append_right (by simp),List.length_reverse,Nat.sub_self];simpa using hv
theorem zt {u:List Value}{us:List (List Value)}(h:w.ownsRow B 209 5 (.slice (some ⟨pb,0,none⟩) (us.length+1) q) (us.length+1) (u::us).reverse.flatten)(hl:∀x∈u::us,x.length=5)(hu:u'.length=5)
  (hw:∃cur:Array Value,w'.heap[pb]?=some (.cells cur 209 (0,0))/\∀old,w.heap[pb]?=some (.cells old 209 (0,0))->cur.size=old.size/\(∀i,i<us.length*5->cur[i]?=old[i]?)/\∀i,i<5->cur[us.length*5+i]?=u'[i]?) :
  w'.ownsRow B 209 5 (.slice (some ⟨pb,0,none⟩) (us.length+1) q) (us.length+1) (u'::us).reverse.flatten:=by
 obtain⟨hx,⟨e1,h0⟩|⟨g,cap,old,e1,hb,hg,h2,h3,h4,h5⟩⟩:=h
 ·cases e1
 obtain⟨e2,-,rfl⟩:=Value.slice.inj e1;obtain rfl:pb=g:=by injection e2 with e2;injection e2
 obtain⟨cur,a1,a0⟩:=hw;obtain⟨c1,c2,c3⟩:=a0 old hg;have hlen:∀ (L:List (List Value)),(∀x∈L,x.length=5)->L.flatten.length=L.length*5:=fun L=>by
  induction L with
  |nil=>intro _;rfl
  |cons a L ih=>intro h;rw[List.flatten_cons,List.length_append,ih (fun x hx=>h x (Zl _ hx)),h a (by simp),List.length_cons];omega
 have a3:∀x∈us.reverse,x.length=5:=fun x hx=>hl x (Zl _ (List.mem_reverse.1 hx))
 have h6:=hlen us.reverse a3;rw[List.length_reverse] at h6;have a2:((u'::us).reverse.flatten).length= (us.length+1)*5:=by
  rw[List.reverse_cons,List.flatten_append,List.length_append,h6];simp[hu];omega
 refine⟨a2,.inr ⟨pb,q,cur,rfl,hb,a1,h2,h3,by rw[c1];exact h4,?_⟩⟩;apply List.ext_getElem?;intro i;rw[List.reverse_cons,List.flatten_append]
 by_cases hi:i< (us.length+1)*5
 ·rw[List.getElem?_take_of_lt hi,Array.getElem?_toList]
  by_cases hi2:i<us.length*5
  ·rw[c2 i hi2,List.getElem?_append_left (by omega)];have:=congrArg (·[i]?) h5;simp only[List.getElem?_take_of_lt hi,Array.getElem?_toList] at this;rw[this,List.reverse_cons,List.flatten_append,List.getElem?_append_left (by omega)]
  ·rw[List.getElem?_append_right (by omega),h6];have:=c3 (i - us.length*5) (by omega);rw[show us.length*5+ (i - us.length*5)=i by omega] at this;rw[this];simp
 ·rw[List.getElem?_eq_none (by simp;omega),List.getElem?_eq_none];rw[<-List.flatten_append,<-List.reverse_cons,a2];omega
theorem Iu {u:List Value}{j:Nat}(v:Value)(hu:u.length=5)(hj:j<5):(u.set j v)[i]?=if i=j then some v else u[i]?:=by
 rw[List.getElem?_set]
 by_cases h:j=i
 ·subst h;simp[hu,hj]
 ·rw[if_neg h,if_neg (fun e=>h e.symm)]
theorem eK {u:List Value}{us:List (List Value)}(h:w.ownsRow B 209 5 (.slice (some ⟨pb,0,none⟩) (us.length+1) q) (us.length+1) (u::us).reverse.flatten)(hl:∀x∈u::us,x.length=5){j:Nat}(hj:j<5)(v:Value) :
  (w.setCell ⟨pb,us.length*5+j,none⟩ v).ownsRow B 209 5 (.slice (some ⟨pb,0,none⟩) (us.length+1) q) (us.length+1) (u.set j v::us).reverse.flatten:=by
 have hu:=hl u (by simp);obtain⟨pb',q',a1,hT⟩:=el h hl;obtain⟨e,-,-⟩:=Value.slice.inj hT.pv;obtain rfl:pb=pb':=by injection e with e;injection e
 obtain⟨cur,a0⟩:=hT.typed;have hc:∀i,i<5->cur[us.length*5+i]?=u[i]?:=by
  intro i hi;obtain⟨x,hx⟩:∃x,u[i]?=some x:=⟨_,Zc (by omega)⟩;have:=hT.cell i x hx;unfold World.cell? at this;simp only[a0] at this;rw[hx];simpa using this
 refine zt h hl (by simp[hu]) ⟨cur.setIfInBounds (us.length*5+j) v,au a0 _ _,fun old ho=>?_⟩;rw[a0] at ho;obtain rfl:cur=old:=by injection ho with ho;injection ho
 refine⟨by simp,fun i hi=>by rw[Array.getElem?_setIfInBounds_ne (by omega)],fun i hi=>?_⟩;rw[Iu v hu hj]
 by_cases h:i=j
 ·subst h;have h1:=hc i hi;have:us.length*5+i<cur.size:=by
   rcases Nat.lt_or_ge (us.length*5+i) cur.size with h2|h2
   ·exact h2
   ·rw[Array.getElem?_eq_none h2,Zc (by omega)] at h1;cases h1
  rw[if_pos rfl,Array.getElem?_setIfInBounds_self_of_lt this]
 ·rw[if_neg h,Array.getElem?_setIfInBounds_ne (by omega)];exact hc i hi
def mw (B xb:Nat)(c:de)(w:World)(e:Ending)(w':World):Prop:=e =.returned (.tuple #[])/\Below B w w'/\Kp TB w w'/\∃bs,fd B w' xb c.frs c.done bs
theorem Ce (h:fd B w xb [] none bs)(hv:VW (Pb B bs) w v j)(hB:B<=w.heap.size):Calls Tryz.prog 99 #[.pointer (some ⟨xb,0,none⟩),v] w (mw B xb (bX [] j) w):=by
 obtain⟨pv,dv,us,h1,h2,h3,h4,h5,h6,h7⟩:=id h;obtain⟨A,q,rfl,-⟩:=ag h3;have c0:=aa h1 (j:=0) (u:=.slice A ([]:List Fr).length q) rfl;have c1:=aa h1 (j:=1) rfl;have f1:=aj h1 1;have Hh:=Qa h;have H1:=Qa h1;have H3:=Qa h3;have H4:=Qa h4;have Hv:=Qa hv;have H5:=Qa h5;have H6:=Qa h6;have H2:=Qa h2;obtain⟨tv,xv,rfl⟩:=hv.iface;clear h h1 h2 h3 h4 h5 h6 h7 hv;simp only[List.length_nil] at c0;go_enter Tryz.func99,Tryz.ntmps99;go_wp2_with fail;(try simp only[Exit.inBlock,Exit.then]);refine Zg (results_none rfl ..) rfl ?_;have a0:=a8.set (w:=w) xb 1 (.iface tv xv);have hk:Kp TB w (w.setCell ⟨xb,1,none⟩ (.iface tv xv)):=Kp.of_chg a0 fun g e _=>by subst e;exact⟨_,_,_,H1.out,.inr (.inl rfl)⟩
 have hm:Mv [] w (w.setCell ⟨xb,1,none⟩ (.iface tv xv)):=Mv.of_chg a0 fun g e _=>.inr (by subst e;exact⟨_,_,_,H1.out,by simp only[TV];decide⟩)
 obtain rfl:us = []:=List.eq_nil_of_length_eq_zero (by have:=H4.out.1;simpa using this);refine⟨rfl,a0.below hB (fun i e=>by rw[e];exact H2.out),hk,bs,.slice A 0 q,.iface tv xv, [],au H1.out 1 _,H2.out,al H3.out (T:=fun e=>e=164) ?_ (by decide),br.nil _,H5.out,H6.out,Hv.out.move hm (by simp) (fun g h=>.inl h)⟩;exact aG.setCell _ fun cs e z hg=>by
  have:=H1.out.symm.trans hg;injection this with this
  injection this with _ this _
  exact this.symm
theorem zP.top {done:Option JV}{u:List Value}{us:List (List Value)}(h:zP B w xb (f::fs) done pv dv (u::us) bs)(hm:Mv (bV u) w w')(hx:w'.heap[xb]?=w.heap[xb]?)
  (hp:w'.ownsRow B 209 5 pv (fs.length+1) (u'::us).reverse.flatten) (hb:∀g∈bV u',g∈bV u\/w.heap.size<=g) (hn:(bV u').Nodup) (hf:EI (Pb B (bV u'++us.flatMap bV)) B w' u' f'):zP B w' xb (f'::fs) done pv dv (u'::us) (bV u'++us.flatMap bV):=by
 obtain⟨h1,h2,h3,h4,h5,h6,h7⟩:=h;have a1:bs=bV u++us.flatMap bV:=by rw[<-h5];rfl
 rw[a1] at h6;obtain⟨n1,n2,n3⟩:=List.nodup_append.1 h6;have hlt:∀g∈us.flatMap bV,g<w.heap.size:=by
  intro g hg;obtain⟨x,hx,a0⟩:=List.mem_flatMap.1 hg;obtain⟨i,hi,rfl⟩:=List.getElem_of_mem hx;have hl:=h4.1;simp only[List.length_cons] at hl;obtain⟨iv,mv,s,xs,L,q1,q2,q3,q4,q5,-⟩:=h4.2 (i+1) us[i] (fs[i]'(by omega)) (by simp[Zc hi]) (by simp);rw[q1] at a0;rcases List.mem_append.1 a0 with a0|a0
  ·obtain⟨_,cur,hh⟩:=ak q3 (g:=g) (by simpa using a0);exact ae hh
  ·obtain⟨_,cur,hh⟩:=ak q5 (g:=g) (by simpa using a0);exact ae hh
 have ht:∀g∈bV u,g∈bs:=fun g hg=>by rw[a1];exact List.mem_append_left _ hg
 have a3:∀g∈bV u'++us.flatMap bV,g∈bs\/w.heap.size<=g:=fun g hg=>by
  rcases List.mem_append.1 hg with hg|hg
  ·exact(hb g hg).imp (ht g) id
  ·exact .inl (by rw[a1];exact List.mem_append_right _ hg)
 refine⟨by rw[hx];exact h1,h2,hp,?_,rfl,List.nodup_append.2 ⟨hn,n2,fun a ha b a2 e=>?_⟩,h7.move hm ht a3⟩
 ·have hl:=h4.1;refine⟨by simpa using hl,fun i a b h1 h2=>?_⟩
  cases i with
  |zero=>simp at h1 h2;subst h1 h2;exact hf
  |succ i=>
   simp only[List.getElem?_cons_succ] at h1 h2;have hq:=h4.2 (i+1) a b (by simpa using h1) (by simpa using h2);exact hq.move hm ht a3 (fun g hg a4=>n3 g a4 g (List.mem_flatMap.2 ⟨a,Zk h1,hg⟩) rfl)
 ·subst e;rcases hb a ha with h|h
  ·exact n3 a h a a2 rfl
  ·have:=hlt a a2;omega
theorem aI {e':TypeId}{xs:List Value}{z:Nat×Nat}(h:w.ownsRow B e k v n xs)(hg:w.heap[pb]?=some (.cells cur e' z))(hne:e≠e'):v.ownBlock≠some pb:=by
 intro hv;obtain⟨_,cur',a0⟩:=ak h hv;rw[hg] at a0;injection a0 with a0
 injection a0 with _ a0 _
 exact hne a0.symm
theorem fm {o:Obj}(h':w'.heap[g]?=some o)(h:w.heap[g]?=some o)(j:Nat):w'.cell? ⟨g,j,none⟩=w.cell? ⟨g,j,none⟩:=by
 unfold World.cell?;simp only[h,h']
theorem kC (a b c:Value)(A:Option Addr)(n q:Nat):bV [a,.slice A n q,.slice none 0 0,b,c]= (Value.slice A n q).ownBlock.toList:=List.append_nil _
theorem jp (a b c:Value)(A:Option Addr)(n q:Nat):bV [a,.slice none 0 0,.slice A n q,b,c]= (Value.slice A n q).ownBlock.toList:=rfl
theorem ls (v:Value):v.ownBlock.toList.Nodup:=by cases v.ownBlock <;> simp
theorem rt {w6:World}{done:Option JV}{u:List Value}{us:List (List Value)}(h:zP B w xb (f::fs) done (.slice (some ⟨pb,0,none⟩) (us.length+1) q) dv (u::us) bs)(a0:w.heap[pb]?=some (.cells cur 209 (0,0)))(a4:B<=pb)(hB:B<=w.heap.size)
  (h5:a8 (fun k=>k∈bV u) w w5) (h6:a8 (fun k=>k=pb) w5 w6) (hp:w6.ownsRow B 209 5 (.slice (some ⟨pb,0,none⟩) (us.length+1) q) (us.length+1) (u'::us).reverse.flatten) (hb:∀g∈bV u',g∈bV u\/w.heap.size<=g) (hn:(bV u').Nodup)
  (hf:Mv (bV u) w w6->(∀g∈bV u,g∈bs)->(∀g∈bV u'++us.flatMap bV,g∈bs\/w.heap.size<=g)->EI (Pb B (bV u'++us.flatMap bV)) B w6 u' f'):Below B w w6/\Kp TB w w6/\fd B w6 xb (f'::fs) done (bV u'++us.flatMap bV):=by
 obtain⟨iv,mv,s,xs,L,hu,a7,a5,a3,a6,-⟩:=h.frames.2 0 u f rfl rfl;have a2:∀g∈bV u,B<=g/\∃c e z,w.heap[g]?=some (.cells c e z)/\(e=41\/e=99):=by
  intro g hg;rw[hu] at hg;rcases List.mem_append.1 hg with hg|hg
  ·obtain⟨h1,c,h2⟩:=ak a5 (g:=g) (by simpa using hg);exact⟨h1,c,_,_,h2,.inl rfl⟩
  ·obtain⟨h1,c,h2⟩:=ak a6 (g:=g) (by simpa using hg);exact⟨h1,c,_,_,h2,.inr rfl⟩
 have a1:a8 (fun k=>k∈bV u\/k=pb) w w6:=(h5.mono fun _ h=>.inl h).trans h6 fun i hi=>.inl (.inr hi)
 have hm:Mv (bV u) w w6:=Mv.of_chg a1 fun g hg _=>hg.imp id fun e=>by subst e;exact⟨_,_,_,a0,by simp only[TV];decide⟩
 have ht:∀g∈bV u,g∈bs:=fun g hg=>by rw[<-h.blocks];exact List.mem_append_left _ hg
 refine⟨a1.below hB (fun i hi=>hi.elim (fun h=>(a2 i h).1) fun e=>by rw[e];exact a4),Kp.of_chg a1 fun g hg _=>?_,_,_,_,h.top hm ?_ (by rw[show fs.length=us.length by have:=h.frames.1;simp at this;omega];exact hp) hb hn (hf hm ht fun g hg=>?_)⟩
 ·rcases hg with hg|rfl
  ·obtain⟨-,c,e,z,h1,h2⟩:=a2 g hg;exact⟨c,e,z,h1,.inl (h2.elim (fun h=>.inr (.inr (.inl h))) fun h=>.inr (.inr (.inr h)))⟩
  ·exact⟨_,_,_,a0,.inr (.inr rfl)⟩
 ·refine a1.block xb (ae h.row) fun hx=>?_
  rcases hx with hx|rfl
  ·obtain⟨-,c,e,z,h1,h2⟩:=a2 xb hx;rw[h.row] at h1;injection h1 with h1
   injection h1 with _ h1 _
   rw[<-h1] at h2;exact absurd h2 (by decide)
  ·have h1:=h.row;rw[a0] at h1;injection h1 with h1
   injection h1 with _ h1 _
   exact absurd h1 (by decide)
 ·rcases List.mem_append.1 hg with hg|hg
  ·exact(hb g hg).imp (ht g) id
  ·exact .inl (by rw[<-h.blocks];exact List.mem_append_right _ hg)
theorem lP {z:Nat×Nat}(hg:w.heap[g]?=some (.cells cs t z)){j:Nat}(h:i≠j)(u:Value):(w.setCell ⟨g,i,none⟩ u).cell? ⟨g,j,none⟩=w.cell? ⟨g,j,none⟩:=by
 have h1:=au hg i u;unfold World.cell?;simp only[h1,hg,Array.getElem?_setIfInBounds_ne h]
theorem CU (h:fd B w xb (f::fs) none bs)(ho:f.obj=false)(hv:VW (Pb B bs) w v j)(hB:B<=w.heap.size)(hn:f.items.length<=4294967296)(e3:fs.length<=4294967296):Calls Tryz.prog 99 #[.pointer (some ⟨xb,0,none⟩),v] w fun e w'=>mw B xb (bX (f::fs) j) w e w':=by
 obtain⟨pv,dv,us,h⟩:=h;obtain⟨h1,h2,h3,h4,h5,h6,h7⟩:=id h
 cases us with
 |nil=>have:=h4.1;simp at this
 |cons u us=>
 have d1:us.length=fs.length:=by have:=h4.1;simpa using this
 have a1:∀x∈u::us,x.length=5:=fun x hx=>by
  obtain⟨i,hi,rfl⟩:=List.getElem_of_mem hx;exact(h4.2 i _ ((f::fs)[i]'(by have:=h4.1;omega)) (Zc hi) (Zc _)).len
 rw[List.length_cons,<-d1] at h3;obtain⟨pb,q,d2,hT⟩:=el h3 a1;obtain⟨d4,a0,b5,b7,b6⟩:=hT;obtain⟨iv,mv,s,xs,L,hu,c7,b8,a3,c9,a9,a2,d9,d0⟩:=h4.2 0 u f rfl rfl;obtain rfl:=d0 ho;obtain⟨Ai,qi,rfl,-⟩:=ag b8;subst d4 hu;have c4:xs.length=f.items.length:=a3.1;obtain⟨m,hm⟩:∃m,m=us.length:=⟨_,rfl⟩;rw[<-hm] at a0 b7 b6;have c0:=aa h1 (j:=0) (u:=.slice (some ⟨pb,0,none⟩) (m+1) q) (by rw[hm];rfl);have k0:=a0 0 _ rfl;have k1:=a0 1 _ rfl;rw[ho] at k0;simp only[Bool.false_eq_true,if_false] at k0;rw[Nat.add_zero] at k0;obtain⟨cur,a5⟩:=b5;have f1:=aj a5 (m*5+1);obtain⟨tv,xv,rfl⟩:=hv.iface;have s1:IntKind.i64.wrap (m:Int)= (m:Int):=IntWalk.i64_in _ (by omega);have e2:(((m+1:Nat):Int)==0)=false:=by simp only[beq_eq_false_iff_ne];omega
 have Hh:=Qa h;have Hv:=Qa hv;have e0:=Qa b8;have a6:=Qa a3;have a4:=Qa a5;have H1:=Qa h1;have H2:=Qa h2;have Hm:=Qa hm;have c3:=Qa c4;have Hl:=Qa a1;have H3:=Qa h3;have d7:=Qa (And.intro c9 (And.intro a9 (And.intro a2 c7)));clear h h1 h2 h3 h4 h5 h6 h7 hv b8 a3 c9 a9 a2 d9 d0 a0 a5 a1 c7 d1 hm c4;go_enter Tryz.func99,Tryz.ntmps99;go_wp2_with fail;go_quiet (fail);have d5:w.heap.size<=(w.drewN nq).heap.size:=Za _;obtain⟨wd,b1⟩:∃wd,w.drewN nq=wd:=⟨_,rfl⟩;have a7:Below w.heap.size w wd:=by rw[<-b1];exact av (Zd _ _) nq
 have c5:wd.heap.size=w.heap.size:=by rw[<-b1];rfl
 have k0':=Zf a7 k0;have k1':=Zf a7 k1;have f1':wd.frozen? ⟨pb,m*5+1,none⟩=false:=by rw[<-b1];exact f1
 rw[b1];have b0:=Qa (ac wd (.cells #[.iface tv xv] 41));have c6:=Qa (ao (ao e0.out a7 (Za _)) b0.out (Za _));have d6:=Qa (ap wd [.iface tv xv] 41);have b4:=Qa a7;have c2:=Qa c5;clear c0 k0 k1 f1 b1 d5 a7 c5;have c8:=Qa (ai (ai a4.out b4.out) b0.out);have d3:=Qa (aI c6.out c8.out (by decide));go_wp2_with (at_builtin;refine lH yi c6.out d6.out (by have:=c2.out;have:=b0.out.size;omega) ?_ (hlen:=(by unfold maxLen;have:=c3.out;omega)) (hby:=(by have:=c3.out;omega));intro v' w5 p1 p2 p3;obtain⟨A5,q5,rfl,-,-,-⟩:=ag p1;have g5:=az c8.out p2 d3.out;have f5:=aj g5 (m*5+1);have G5:=Qa g5;have HK:=Qa p1;have HG:=Qa p2;have HD:=Qa p3;have k5:w5.cell? ⟨pb,m*5+1,none⟩=wd.cell? ⟨pb,m*5+1,none⟩:=fm g5 (ai a4.out b4.out) _;rw[k1'] at k5;clear p1 p2 p3 g5);(try simp only[Exit.inBlock,Exit.then]);refine Zg (results_none rfl ..) rfl ?_;obtain rfl:=Hm.out;have c1:a8 (fun k=>(Value.slice Ai xs.length qi).ownBlock=some k) w w5:=(a8.of_below ((b4.out).trans (b0.out.mono (by have:=c2.out;omega)))).trans (a8.grown HG.out) fun i hi=>.inl hi
 have e1:w5.ownsRow B 209 5 (.slice (some ⟨pb,0,none⟩) (us.length+1) q) (us.length+1) (([.int .i64 (if f.obj=true then 6 else 5),.slice Ai xs.length qi,.slice none 0 0,.string s,.bool f.name.isSome]:List Value)::us).reverse.flatten:=by
  refine bz H3.out fun b hb=>?_
  obtain rfl:pb=b:=Zh hb;exact G5.out.trans a4.out.symm
 have b3:=eK e1 Hl.out (j:=1) (by decide) (.slice A5 (xs.length+1) q5);have b2:=rt Hh.out a4.out d2 hB (c1.mono fun k hk=>by rw[kC];simpa using hk) (a8.set pb (us.length*5+1) (.slice A5 (xs.length+1) q5)) b3 (by
  intro g hg;have hg:g∈(Value.slice A5 (xs.length+1) q5).ownBlock.toList:=by rw[<-kC];exact hg
  rw[kC];rcases HD.out with e|e
  ·left;rw[e] at hg;exact hg
  ·right
   rw[e] at hg;have:=Zh (Option.mem_toList.1 hg);have:=b0.out.size;have:=c2.out;omega) (by
  show(bV [_,_,_,_,_]).Nodup
  rw[kC];exact ls _) (f':={f with items:=f.items ++ [j]}) (fun hm ht b9=>?_)
 ·rw[ff ho];exact⟨rfl,b2.1,b2.2.1,_,b2.2.2⟩
 obtain⟨m1,m2,m3,m4⟩:=d7.out;have hne:=aI HK.out G5.out (by decide);refine⟨.slice A5 (xs.length+1) q5,.slice none 0 0,s,xs ++ [.iface tv xv],L,rfl,m4,?_,?_,?_,m2,?_,fun e=>?_,fun _=>rfl⟩
 ·rw[List.length_append];exact bz HK.out fun b hb=>(a8.set pb _ _).block b (ae (ak HK.out hb).2.choose_spec) fun e=>hne (by rw[hb,e])
 ·exact(a6.out.mono fun _ _ h=>h.move hm ht b9).snoc (Hv.out.move hm ht b9)
 ·exact bz m1 fun b hb=>by cases hb
 ·exact m3.mono fun _ _ h=>h.move hm ht b9
 ·exact absurd (ho.symm.trans e) (by decide)
theorem D6 (h:fd B w xb (f::fs) none bs)(ho:f.obj=true)(hv:VW (Pb B bs) w v j)(hB:B<=w.heap.size)(b1:f.name.isSome=true)(hn:f.mems.length<=4294967296)(d3:fs.length<=4294967296):Calls Tryz.prog 99 #[.pointer (some ⟨xb,0,none⟩),v] w fun e w'=>mw B xb (bX (f::fs) j) w e w':=by
 obtain⟨pv,dv,us,h⟩:=h;obtain⟨h1,h2,h3,h4,h5,h6,h7⟩:=id h
 cases us with
 |nil=>have:=h4.1;simp at this
 |cons u us=>
 have e2:us.length=fs.length:=by have:=h4.1;simpa using this
 have a3:∀x∈u::us,x.length=5:=fun x hx=>by
  obtain⟨i,hi,rfl⟩:=List.getElem_of_mem hx;exact(h4.2 i _ ((f::fs)[i]'(by have:=h4.1;omega)) (Zc hi) (Zc _)).len
 rw[List.length_cons,<-e2] at h3;obtain⟨pb,q,e3,hT⟩:=el h3 a3;obtain⟨e5,a1,c4,b6,b5⟩:=hT;obtain⟨iv,mv,s,xs,L,hu,d0,d1,a6,c5,a7,a4,e0,e8⟩:=h4.2 0 u f rfl rfl;obtain rfl:=e0 ho;obtain⟨Ai,qi,rfl,-⟩:=ag c5;subst e5 hu;have d5:L.length=f.mems.length:=by have:=congrArg List.length a7;simpa using this
 obtain⟨nn,b1⟩:=Option.isSome_iff_exists.1 b1;obtain rfl:=d0 nn b1;obtain⟨m,hm⟩:∃m,m=us.length:=⟨_,rfl⟩;rw[<-hm] at a1 b6 b5;have c0:=aa h1 (j:=0) (u:=.slice (some ⟨pb,0,none⟩) (m+1) q) (by rw[hm];rfl);have k0:=a1 0 _ rfl;have k2:=a1 2 _ rfl;have k3:=a1 3 _ rfl;have k4:=a1 4 _ rfl;rw[ho] at k0;simp only[if_true] at k0;rw[Nat.add_zero] at k0;obtain⟨cur,a5⟩:=c4;have f2:=aj a5 (m*5+2);have f4:=aj a5 (m*5+4);obtain⟨tv,xv,rfl⟩:=hv.iface;have s1:IntKind.i64.wrap (m:Int)= (m:Int):=IntWalk.i64_in _ (by omega);have f3:(((m+1:Nat):Int)==0)=false:=by simp only[beq_eq_false_iff_ne];omega
 have Hh:=Qa h;have Hv:=Qa hv;have c7:=Qa c5;have a2:=Qa a5;have K4:=Qa k4;have H1:=Qa h1;have H2:=Qa h2;have Hm:=Qa hm;have d4:=Qa d5;have Hl:=Qa a3;have H3:=Qa h3;have f1:=Qa (And.intro d1 (And.intro a7 (And.intro a4 a6)));have f0:=Qa b1;clear h h1 h2 h3 h4 h5 h6 h7 hv d1 a6 c5 a7 a4 e0 e8 a1 a5 a3 d0 e2 hm d5 b1 f2 f4 k4 b6 b5;go_enter Tryz.func99,Tryz.ntmps99;go_wp2_with fail;go_quiet (fail);obtain⟨wd,b8⟩:∃wd,w.drewN nq=wd:=⟨_,rfl⟩;have b2:Below w.heap.size w wd:=by rw[<-b8];exact av (Zd _ _) nq
 have d6:wd.heap.size=w.heap.size:=by rw[<-b8];rfl
 have k0':=Zf b2 k0;have k2':=Zf b2 k2;have k3':=Zf b2 k3;rw[b8];clear c0 k0 k2 k3 b8;go_wp2_with fail;obtain⟨wr,a9⟩:∃wr,wd.drew=wr:=⟨_,rfl⟩;have c3:Below w.heap.size w wr:=by rw[<-a9];exact b2.drew
 have d9:wr.heap.size=w.heap.size:=by rw[<-a9];exact d6
 have K2:=Qa (show wr.cell? ⟨pb,m*5+2,none⟩=some (.slice Ai L.length qi) by rw[<-a9];exact k2');have K3:=Qa (show wr.cell? ⟨pb,m*5+3,none⟩=some (.string s) by rw[<-a9];exact k3');have b0:=Qa (ac wr (.cells #[.string s,.iface tv xv] 99));have c9:=Qa (show xg (wr.alloc (.cells #[.string s,.iface tv xv] 99)) B (.slice Ai L.length qi) L from ao (ao c7.out c3 (Za _)) b0.out (Za _));have e6:=Qa (ap wr [.string s,.iface tv xv] 99);have b7:=Qa c3;have b9:=Qa d9;have d7:=Qa (ai (ai a2.out b7.out) b0.out);have e4:=Qa (aI c9.out d7.out (by decide));clear k0' k2' k3' b2 d6 c3 d9;refine cP (fun w'=>w'.cell? ⟨pb,m*5+2,none⟩=some (.slice Ai L.length qi)/\w'.cell? ⟨pb,m*5+3,none⟩=some (.string s)) 15 ((by rw[a9];exact⟨K2.out,K3.out⟩)) fun a0=>?_
 rw[a9] at a0 ⊢;clear a9;refine tZ 0 a0 ?_;refine tZ 1 a0 ?_;refine tZ 2 a0 ?_;refine tZ 3 a0 ?_;refine tZ 4 a0 ?_;refine tZ 5 a0 ?_
 try simp only[Act.put,jP,jQ,jR]
 refine tZ 6 a0 ?_;refine tZ 7 a0 ?_;refine tZ 8 a0 ?_;refine tZ 9 a0 ?_;refine tZ 10 a0 ?_
 try simp only[Act.put,jP,jQ,jR]
 refine rZ 11 fun K hK=>?_
 go_simp;refine hK.out _ _ (fun _=>⟨Zf b0.out a0.1,Zf b0.out a0.2⟩) (fun a0=>?_);clear hK K;have a0:=a0 (by decide)
 try simp only[Act.put,jP,jQ,jR]
 refine rZ 12 fun K hK=>?_
 refine vm yA c9.out e6.out (by have:=b9.out;have:=b0.out.size;omega) ?_ (hlen:=(by unfold maxLen;have:=d4.out;omega)) (hby:=(by have:=d4.out;omega));intro v' w5 p1 p2 p3;obtain⟨A5,q5,rfl,-,-,-⟩:=ag p1;have g5:=az d7.out p2 e4.out;have f5:=aj g5 (m*5+2);have G5:=Qa g5;have HK:=Qa p1;have HG:=Qa p2;have HD:=Qa p3;have k5:w5.cell? ⟨pb,m*5+2,none⟩=some (.slice Ai L.length qi):=(fm g5 (ai a2.out b7.out) _).trans K2.out;have k53:w5.cell? ⟨pb,m*5+3,none⟩=some (.string s):=(fm g5 (ai a2.out b7.out) _).trans K3.out;clear p1 p2 p3 g5;refine hK.out _ _ (fun _=>⟨k5,k53⟩) (fun a0=>?_);clear hK K;have a0:=a0 (by decide)
 try simp only[Act.put,jP,jQ,jR]
 refine rZ 13 fun K hK=>?_
 go_simp;refine hK.out _ _ (fun _=>a0) (fun a0=>?_);clear hK K;have a0:=a0 (by decide)
 try simp only[Act.put,jP,jQ,jR]
 refine tZ 14 a0 ?_
 try simp only[Act.put,jP,jQ,jR]
 refine rZ 15 fun K hK=>?_
 go_simp;refine hK.out _ _ (fun h=>absurd rfl h) (fun _=>?_);clear hK K
 try simp only[Act.put,jP,jQ,jR]
 refine aV (by kernel_rfl) (NoPanic.normal ?_) _;clear a0 f5;have g6:=au G5.out (m*5+2) (.slice A5 (L.length+1) q5);have f6:=aj g6 (m*5+4);have k6:(w5.setCell ⟨pb,m*5+2,none⟩ (.slice A5 (L.length+1) q5)).cell? ⟨pb,m*5+4,none⟩=some (.bool f.name.isSome):=by
  rw[lP G5.out (by omega),fm G5.out a2.out];exact K4.out
 obtain⟨w6,c2⟩:∃w6,w5.setCell ⟨pb,m*5+2,none⟩ (.slice A5 (L.length+1) q5)=w6:=⟨_,rfl⟩;rw[c2] at g6 f6 k6 ⊢;have d2:=Qa c2;have G6:=Qa g6;clear g6 c2;go_wp2_with fail;go_end0;obtain rfl:=Hm.out;have c8:a8 (fun k=>(Value.slice Ai L.length qi).ownBlock=some k) w w5:=(a8.of_below ((b7.out).trans (b0.out.mono (by have:=b9.out;omega)))).trans (a8.grown HG.out) fun i hi=>.inl hi
 have e7:w5.ownsRow B 209 5 (.slice (some ⟨pb,0,none⟩) (us.length+1) q) (us.length+1) (([.int .i64 (if f.obj=true then 6 else 5),.slice none 0 0,.slice Ai L.length qi,.string s,.bool f.name.isSome]:List Value)::us).reverse.flatten:=by
  refine bz H3.out fun b hb=>?_
  obtain rfl:pb=b:=Zh hb;exact G5.out.trans a2.out.symm
 have b4:=eK e7 Hl.out (j:=2) (by decide) (.slice A5 (L.length+1) q5);rw[d2.out] at b4;have b3:=eK b4 (fun x hx=>by rcases List.mem_cons.1 hx with rfl|hx;(· rfl);exact Hl.out x (Zl _ hx)) (j:=4) (by decide) (.bool false);have e1:a8 (fun k=>k=pb) w5 (w6.setCell ⟨pb,us.length*5+4,none⟩ (.bool false)):=by
  rw[<-d2.out];exact(a8.set pb _ _).trans (a8.set pb _ _) fun i h=>.inl h
 have c1:=rt Hh.out a2.out e3 hB (c8.mono fun k hk=>by rw[jp];simpa using hk) e1 b3 (by
  intro g hg;have hg:g∈(Value.slice A5 (L.length+1) q5).ownBlock.toList:=by rw[<-jp];exact hg
  rw[jp];rcases HD.out with e|e
  ·left;rw[e] at hg;exact hg
  ·right
   rw[e] at hg;have:=Zh (Option.mem_toList.1 hg);have:=b0.out.size;have:=b9.out;omega) (by
  show(bV [_,_,_,_,_]).Nodup
  rw[jp];exact ls _) (f':={f with mems:=f.mems ++ [(f.name.getD ⟨#[]⟩,j)],name:=none}) (fun hm ht c6=>?_)
 ·rw[gP ho];exact⟨rfl,c1.1,c1.2.1,_,c1.2.2⟩
 obtain⟨m1,m2,m3,m4⟩:=f1.out;have hne:=aI HK.out G5.out (by decide);have d3:fI (L ++ [(s,.iface tv xv)])=fI L ++ [.string s,.iface tv xv]:=by simp[fI]
 refine⟨.slice none 0 0,.slice A5 (L.length+1) q5,s,xs,L ++ [(s,.iface tv xv)],rfl,fun t e=>(by cases e),?_,?_,?_,?_,?_,fun _=>rfl,fun e=>?_⟩
 ·exact bz m1 fun b hb=>by cases hb
 ·exact m4.mono fun _ _ h=>h.move hm ht c6
 ·unfold xg;rw[List.length_append,d3];exact bz HK.out fun b hb=>e1.block b (ae (ak HK.out hb).2.choose_spec) fun e=>hne (by rw[hb,e])
 ·rw[List.map_append,List.map_append,m2,f0.out];rfl
 ·rw[List.map_append,List.map_append];exact(m3.mono fun _ _ h=>h.move hm ht c6).snoc (Hv.out.move hm ht c6)
 ·exact absurd (ho.symm.trans e) (by decide)
structure Ip (B:Nat) (w:World) (xb:Nat) (f:Fr) (m pb q:Nat):Prop where
 c0:w.cell? ⟨xb,0,none⟩=some (.slice (some ⟨pb,0,none⟩) (m+1) q)
 k0:w.cell? ⟨pb,m*5,none⟩=some (.int .i64 (if f.obj then 6 else 5))
 k4:w.cell? ⟨pb,m*5+4,none⟩=some (.bool f.name.isSome)
theorem fd.top {done:Option JV}(h:fd B w xb (f::fs) done bs):∃pb q,Ip B w xb f fs.length pb q:=by
 obtain⟨pv,dv,us,h⟩:=h;obtain⟨h1,h2,h3,h4,h5,h6,h7⟩:=id h
 cases us with
 |nil=>have:=h4.1;simp at this
 |cons u us=>
 have a2:us.length=fs.length:=by have:=h4.1;simpa using this
 have a1:∀x∈u::us,x.length=5:=fun x hx=>by
  obtain⟨i,hi,rfl⟩:=List.getElem_of_mem hx;exact(h4.2 i _ ((f::fs)[i]'(by have:=h4.1;omega)) (Zc hi) (Zc _)).len
 rw[List.length_cons,<-a2] at h3;obtain⟨pb,q,a7,hT⟩:=el h3 a1;obtain⟨a5,a0,a6,a4,a3⟩:=hT;obtain⟨iv,mv,s,xs,L,hu,a9,-⟩:=h4.2 0 u f rfl rfl;subst a5 hu;rw[<-a2];exact⟨pb,q,aa h1 (j:=0) rfl,by have:=a0 0 _ rfl;rwa[Nat.add_zero] at this,a0 4 _ rfl⟩
theorem fd.nils (h:fd B w xb frs none bs):w.cell? ⟨xb,1,none⟩=some .nilIface:=by
 obtain⟨pv,dv,us,h⟩:=h;have e:dv =.nilIface:=h.done;rw[<-e];exact aa h.row (j:=1) rfl
theorem fd.empty {done:Option JV}(h:fd B w xb [] done bs):∃A q,w.cell? ⟨xb,0,none⟩=some (.slice A 0 q):=by
 obtain⟨pv,dv,us,h⟩:=h;obtain⟨A,q,e,-⟩:=ag h.parts;exact⟨A,q,by rw[aa h.row (j:=0) rfl,e];rfl⟩
theorem lm (h:fd B w xb frs none bs)(hw:∀f fs,frs=f::fs->bY f=false)(hl:frs.length<=4294967296):Calls Tryz.prog 97 #[.pointer (some ⟨xb,0,none⟩),.int .i64 (frs.length+1:Nat)] w fun e w'=>e =.returned (.tuple #[])/\w=w':=by
 have c1:=h.nils
 cases frs with
 |nil=>
  obtain⟨A,q,c0⟩:=h.empty;clear h hw;simp only[List.length_nil,Nat.zero_add];go_enter Tryz.func97,Tryz.ntmps97;go_wp2_with fail;go_end0;exact⟨rfl,rfl⟩
 |cons f fs=>
  obtain⟨pb,q,c0,k0,k4⟩:=h.top;have hw:=hw f fs rfl;rw[List.length_cons] at hl ⊢;obtain⟨m,hm⟩:∃m,fs.length=m:=⟨_,rfl⟩;rw[hm] at c0 k0 k4 hl ⊢;have s1:IntKind.i64.wrap (m:Int)= (m:Int):=IntWalk.i64_in _ (by omega);have s2:IntKind.i64.wrap ((m:Int)+1+1)= (m:Int)+1+1:=IntWalk.i64_in _ (by omega);have a1:(0:Int)< (m:Int)+1:=by omega
  have a0:((m+1+1:Nat):Int)= (m:Int)+1+1:=by omega
  rw[a0];have ht:f.obj=true->f.name.isSome=true:=fun ho=>by
   simp only[bY,ho,Bool.true_and] at hw
   cases hn:f.name with
   |none=>rw[hn] at hw;cases hw
   |some _=>rfl
  have Ht:=Qa ht;clear h hw hm ht a0
  by_cases ho:f.obj=true
  ·have hn:=Ht.out ho;rw[ho] at k0;rw[hn] at k4;simp only[if_true] at k0;clear hn ho;go_enter Tryz.func97,Tryz.ntmps97;go_wp2_with fail;go_end0;exact⟨rfl,rfl⟩
  ·rw[if_neg ho] at k0;clear ho k4;go_enter Tryz.func97,Tryz.ntmps97;go_wp2_with fail;go_end0;exact⟨rfl,rfl⟩
theorem Aj (x:UInt8):((bu x:Nat):Int)=if(x.toNat:Int)=45 then 0 else if(x.toNat:Int)=43 then 1 else if(x.toNat:Int)=48 then 2 else if 49<=(x.toNat:Int)/\(x.toNat:Int)<=57 then 3 else if(x.toNat:Int)=46 then 4 else if(x.toNat:Int)=101\/(x.toNat:Int)=69 then 5 else 6:=by
 have h:∀n:Nat,n<256->((bu (UInt8.ofNat n):Nat):Int)=if(n:Int)=45 then 0 else if(n:Int)=43 then 1 else if(n:Int)=48 then 2 else if 49<=(n:Int)/\(n:Int)<=57 then 3 else if(n:Int)=46 then 4 else if(n:Int)=101\/(n:Int)=69 then 5 else 6:=by decide +kernel
 have:=h x.toNat x.toNat_lt
 rwa[UInt8.ofNat_toNat] at this
theorem rP (x:UInt8)(w:World):Calls Tryz.prog 221 #[.int .u8 x.toNat] w fun e w'=>e =.returned (.int .i64 (bu x:Nat))/\w=w':=by
 rw[Aj];have hx:=x.toNat_lt;obtain⟨c,hc⟩:∃c:Int,(x.toNat:Int)=c:=⟨_,rfl⟩;have h0:0<=c:=by omega
 have h1:c<256:=by omega
 rw[hc];clear hx hc;go_enter Tryz.func221,Tryz.ntmps221;go_wp2
 all_goals go_ret
 all_goals refine⟨yN ?_,rfl⟩
 all_goals (simp_all <;> omega)
theorem pR (t:NS)(vd ve:Value)(w:World):Calls Tryz.prog 208 #[.agg #[.bool t.neg,.bool t.down,vd,.int .i64 t.part,ve,.int .i64 t.st,.int .i64 t.n]] w fun e w'=>e =.returned (.bool (dX t.st))/\Below w.heap.size w w':=by
 obtain⟨neg,down,digs,part,exps,st,n⟩:=t
 dsimp only
 have hw:dX st= (decide ((st:Int)=2)||decide ((st:Int)=3)||decide ((st:Int)=5)||decide ((st:Int)=8)):=by
  unfold dX;rw[Bool.eq_iff_iff];simp;omega
 rw[hw];obtain⟨z,hz⟩:∃z:Int,(st:Int)=z:=⟨_,rfl⟩;rw[hz];clear hz hw;have hb:=ac w (.cells #[.bool neg,.bool down,vd,.int .i64 part,ve,.int .i64 z,.int .i64 n] 351);go_enter Tryz.func208,Tryz.ntmps208;go_wp2
 all_goals go_ret
 all_goals refine⟨iR ?_,hb⟩
 all_goals (simp_all <;> omega)
