import Derived.Test.YtohibglohlfjfaaGreatDoorGZ6bk
set_option linter.unusedVariables false
set_option linter.unusedSimpArgs false
set_option maxHeartbeats 64000000
set_option maxRecDepth 100000
namespace Go.Proofs.YtohibglohlfjfaaGreatDoor
open Go.RowKit
variable {cs cur:Array Value}{f f':Fr}{j:JV}{L S:List (ByteArray×Value)}{frs fs:List Fr}{ks:List JV}{u' us:List Value}{B c g i n pb q xb:Nat}{Q:Nat->Prop}{A:Option Addr}{e:TypeId}{dv pv v:Value}{w w' w5:World}
def mo (B xb:Nat)(c:dl)(w:World)(e:Ending)(w':World):Prop:=e =.returned (.tuple #[])/\Below B w w'/\Kp TB w w'/\∃bs,fi B w' xb c.frs c.done bs
theorem CE {bs:List Nat}(h:fi B w xb [] none bs)(hv:VW (Pb B bs) w v j)(hB:B<=w.heap.size):Calls Tryz.prog 104 #[.pointer (some ⟨xb,0,none⟩),v] w (mo B xb (cV [] j) w):=by
 obtain⟨pv,dv,us,h1,h2,h3,h4,h5,h6,h7⟩:=id h;obtain⟨A,q,rfl,-⟩:=ag h3;have c0:=aa h1 (j:=0) (u:=.slice A ([]:List Fr).length q) rfl;have c1:=aa h1 (j:=1) rfl;have f1:=ak h1 1;have Hh:=Qa h;have H1:=Qa h1;have H3:=Qa h3;have H4:=Qa h4;have Hv:=Qa hv;have H5:=Qa h5;have H6:=Qa h6;have H2:=Qa h2;obtain⟨tv,xv,rfl⟩:=hv.iface;clear h h1 h2 h3 h4 h5 h6 h7 hv;simp only[List.length_nil] at c0;go_enter Tryz.func104,Tryz.ntmps104;go_wp2_with fail;(try simp only[Exit.inBlock,Exit.then]);refine Zh (results_none rfl ..) rfl ?_;have a0:=aZ.set (w:=w) xb 1 (.iface tv xv);have hk:Kp TB w (w.setCell ⟨xb,1,none⟩ (.iface tv xv)):=Kp.of_chg a0 fun g e _=>by subst e;exact⟨_,_,_,H1.out,.inr (.inl rfl)⟩
 have hm:Mv [] w (w.setCell ⟨xb,1,none⟩ (.iface tv xv)):=Mv.of_chg a0 fun g e _=>.inr (by subst e;exact⟨_,_,_,H1.out,by simp only[TV];decide⟩)
 obtain rfl:us = []:=List.eq_nil_of_length_eq_zero (by have:=H4.out.1;simpa using this);refine⟨rfl,a0.below hB (fun i e=>by rw[e];exact H2.out),hk,bs,.slice A 0 q,.iface tv xv, [],au H1.out 1 _,H2.out,al H3.out (T:=fun e=>e=167) ?_ (by decide),bo.nil _,H5.out,H6.out,Hv.out.move hm (by simp) (fun g h=>.inl h)⟩;exact aG.setCell _ fun cs e z hg=>by
  have:=H1.out.symm.trans hg;injection this with this
  injection this with _ this _
  exact this.symm
theorem AG.top {done:Option JV}{u:List Value}{us:List (List Value)}{bs:List Nat}(h:AG B w xb (f::fs) done pv dv (u::us) bs)(hm:Mv (bW u) w w')(hx:w'.heap[xb]?=w.heap[xb]?)
  (hp:w'.ownsRow B 213 5 pv (fs.length+1) (u'::us).reverse.flatten) (hb:∀g∈bW u',g∈bW u\/w.heap.size<=g) (hn:(bW u').Nodup) (hf:F6 (Pb B (bW u'++us.flatMap bW)) B w' u' f'):AG B w' xb (f'::fs) done pv dv (u'::us) (bW u'++us.flatMap bW):=by
 obtain⟨h1,h2,h3,h4,h5,h6,h7⟩:=h;have a1:bs=bW u++us.flatMap bW:=by rw[<-h5];rfl
 rw[a1] at h6;obtain⟨n1,n2,n3⟩:=List.nodup_append.1 h6;have hlt:∀g∈us.flatMap bW,g<w.heap.size:=by
  intro g hg;obtain⟨x,hx,a0⟩:=List.mem_flatMap.1 hg;obtain⟨i,hi,rfl⟩:=List.getElem_of_mem hx;have hl:=h4.1;simp only[List.length_cons] at hl;obtain⟨iv,mv,s,xs,L,q1,q2,q3,q4,q5,-⟩:=h4.2 (i+1) us[i] (fs[i]'(by omega)) (by simp[Zd hi]) (by simp);rw[q1] at a0;rcases List.mem_append.1 a0 with a0|a0
  ·obtain⟨_,cur,hh⟩:=aj q3 (g:=g) (by simpa using a0);exact ae hh
  ·obtain⟨_,cur,hh⟩:=aj q5 (g:=g) (by simpa using a0);exact ae hh
 have ht:∀g∈bW u,g∈bs:=fun g hg=>by rw[a1];exact List.mem_append_left _ hg
 have a3:∀g∈bW u'++us.flatMap bW,g∈bs\/w.heap.size<=g:=fun g hg=>by
  rcases List.mem_append.1 hg with hg|hg
  ·exact(hb g hg).imp (ht g) id
  ·exact .inl (by rw[a1];exact List.mem_append_right _ hg)
 refine⟨by rw[hx];exact h1,h2,hp,?_,rfl,List.nodup_append.2 ⟨hn,n2,fun a ha b a2 e=>?_⟩,h7.move hm ht a3⟩
 ·have hl:=h4.1;refine⟨by simpa using hl,fun i a b h1 h2=>?_⟩
  cases i with
  |zero=>simp at h1 h2;subst h1 h2;exact hf
  |succ i=>
   simp only[List.getElem?_cons_succ] at h1 h2;have hq:=h4.2 (i+1) a b (by simpa using h1) (by simpa using h2);exact hq.move hm ht a3 (fun g hg a4=>n3 g a4 g (List.mem_flatMap.2 ⟨a,Zl h1,hg⟩) rfl)
 ·subst e;rcases hb a ha with h|h
  ·exact n3 a h a a2 rfl
  ·have:=hlt a a2;omega
theorem aK {k:Nat}{e':TypeId}{xs:List Value}{z:Nat×Nat}(h:w.ownsRow B e k v n xs)(hg:w.heap[pb]?=some (.cells cur e' z))(hne:e≠e'):v.ownBlock≠some pb:=by
 intro hv;obtain⟨_,cur',a0⟩:=aj h hv;rw[hg] at a0;injection a0 with a0
 injection a0 with _ a0 _
 exact hne a0.symm
theorem fg {o:Obj}(h':w'.heap[g]?=some o)(h:w.heap[g]?=some o)(j:Nat):w'.cell? ⟨g,j,none⟩=w.cell? ⟨g,j,none⟩:=by
 unfold World.cell?;simp only[h,h']
theorem kH (a b c:Value)(A:Option Addr)(n q:Nat):bW [a,.slice A n q,.slice none 0 0,b,c]= (Value.slice A n q).ownBlock.toList:=List.append_nil _
theorem jd (a b c:Value)(A:Option Addr)(n q:Nat):bW [a,.slice none 0 0,.slice A n q,b,c]= (Value.slice A n q).ownBlock.toList:=rfl
theorem lI (v:Value):v.ownBlock.toList.Nodup:=by cases v.ownBlock <;> simp
theorem rK {w6:World}{done:Option JV}{u:List Value}{us:List (List Value)}{bs:List Nat}(h:AG B w xb (f::fs) done (.slice (some ⟨pb,0,none⟩) (us.length+1) q) dv (u::us) bs)(a0:w.heap[pb]?=some (.cells cur 213 (0,0)))(a4:B<=pb)(hB:B<=w.heap.size)
  (h5:aZ (fun k=>k∈bW u) w w5) (h6:aZ (fun k=>k=pb) w5 w6) (hp:w6.ownsRow B 213 5 (.slice (some ⟨pb,0,none⟩) (us.length+1) q) (us.length+1) (u'::us).reverse.flatten) (hb:∀g∈bW u',g∈bW u\/w.heap.size<=g) (hn:(bW u').Nodup)
  (hf:Mv (bW u) w w6->(∀g∈bW u,g∈bs)->(∀g∈bW u'++us.flatMap bW,g∈bs\/w.heap.size<=g)->F6 (Pb B (bW u'++us.flatMap bW)) B w6 u' f'):Below B w w6/\Kp TB w w6/\fi B w6 xb (f'::fs) done (bW u'++us.flatMap bW):=by
 obtain⟨iv,mv,s,xs,L,hu,a7,a5,a3,a6,-⟩:=h.frames.2 0 u f rfl rfl;have a2:∀g∈bW u,B<=g/\∃c e z,w.heap[g]?=some (.cells c e z)/\(e=32\/e=97):=by
  intro g hg;rw[hu] at hg;rcases List.mem_append.1 hg with hg|hg
  ·obtain⟨h1,c,h2⟩:=aj a5 (g:=g) (by simpa using hg);exact⟨h1,c,_,_,h2,.inl rfl⟩
  ·obtain⟨h1,c,h2⟩:=aj a6 (g:=g) (by simpa using hg);exact⟨h1,c,_,_,h2,.inr rfl⟩
 have a1:aZ (fun k=>k∈bW u\/k=pb) w w6:=(h5.mono fun _ h=>.inl h).trans h6 fun i hi=>.inl (.inr hi)
 have hm:Mv (bW u) w w6:=Mv.of_chg a1 fun g hg _=>hg.imp id fun e=>by subst e;exact⟨_,_,_,a0,by simp only[TV];decide⟩
 have ht:∀g∈bW u,g∈bs:=fun g hg=>by rw[<-h.blocks];exact List.mem_append_left _ hg
 refine⟨a1.below hB (fun i hi=>hi.elim (fun h=>(a2 i h).1) fun e=>by rw[e];exact a4),Kp.of_chg a1 fun g hg _=>?_,_,_,_,h.top hm ?_ (by rw[show fs.length=us.length by have:=h.frames.1;simp at this;omega];exact hp) hb hn (hf hm ht fun g hg=>?_)⟩
 ·rcases hg with hg|rfl
  ·obtain⟨-,c,e,z,h1,h2⟩:=a2 g hg;exact⟨c,e,z,h1,.inl (h2.elim (fun h=>.inr (.inr (.inl h))) fun h=>.inr (.inr (.inr h)))⟩
  ·exact⟨_,_,_,a0,.inr (.inr rfl)⟩
 ·refine a1.block xb (ae h.row) fun hx=>?_
  rcases hx with hx|rfl
  ·obtain⟨-,c,e,z,h1,h2⟩:=a2 xb hx;rw[h.row] at h1;injection h1 with h1
   injection h1 with _ h1 _
   rw[<-h1] at h2;exact absurd h2 (by decide)
  ·have h1:=h.row;rw[a0] at h1;injection h1 with h1
   injection h1 with _ h1 _
   exact absurd h1 (by decide)
 ·rcases List.mem_append.1 hg with hg|hg
  ·exact(hb g hg).imp (ht g) id
  ·exact .inl (by rw[<-h.blocks];exact List.mem_append_right _ hg)
theorem lU {t:TypeId}{z:Nat×Nat}(hg:w.heap[g]?=some (.cells cs t z)){j:Nat}(h:i≠j)(u:Value):(w.setCell ⟨g,i,none⟩ u).cell? ⟨g,j,none⟩=w.cell? ⟨g,j,none⟩:=by
 have h1:=au hg i u;unfold World.cell?;simp only[h1,hg,Array.getElem?_setIfInBounds_ne h]
theorem CV {bs:List Nat}(h:fi B w xb (f::fs) none bs)(ho:f.obj=false)(hv:VW (Pb B bs) w v j)(hB:B<=w.heap.size)(hn:f.items.length<=4294967296)(e3:fs.length<=4294967296):Calls Tryz.prog 104 #[.pointer (some ⟨xb,0,none⟩),v] w fun e w'=>mo B xb (cV (f::fs) j) w e w':=by
 obtain⟨pv,dv,us,h⟩:=h;obtain⟨h1,h2,h3,h4,h5,h6,h7⟩:=id h
 cases us with
 |nil=>have:=h4.1;simp at this
 |cons u us=>
 have c7:us.length=fs.length:=by have:=h4.1;simpa using this
 have a1:∀x∈u::us,x.length=5:=fun x hx=>by
  obtain⟨i,hi,rfl⟩:=List.getElem_of_mem hx;exact(h4.2 i _ ((f::fs)[i]'(by have:=h4.1;omega)) (Zd hi) (Zd _)).len
 rw[List.length_cons,<-c7] at h3;obtain⟨pb,q,d9,hT⟩:=ek h3 a1;obtain⟨d3,a0,c2,c1,b4⟩:=hT;obtain⟨iv,mv,s,xs,L,hu,d0,b3,a3,c6,a9,a2,d2,c9⟩:=h4.2 0 u f rfl rfl;obtain rfl:=c9 ho;obtain⟨Ai,qi,rfl,-⟩:=ag b3;subst d3 hu;have c3:xs.length=f.items.length:=a3.1;obtain⟨m,hm⟩:∃m,m=us.length:=⟨_,rfl⟩;rw[<-hm] at a0 c1 b4;have c0:=aa h1 (j:=0) (u:=.slice (some ⟨pb,0,none⟩) (m+1) q) (by rw[hm];rfl);have k0:=a0 0 _ rfl;have k1:=a0 1 _ rfl;rw[ho] at k0;simp only[Bool.false_eq_true,if_false] at k0;rw[Nat.add_zero] at k0;obtain⟨cur,a5⟩:=c2;have f1:=ak a5 (m*5+1);obtain⟨tv,xv,rfl⟩:=hv.iface;have s1:IntKind.i64.wrap (m:Int)= (m:Int):=IntWalk.i64_in _ (by omega);have d4:(((m+1:Nat):Int)==0)=false:=by simp only[beq_eq_false_iff_ne];omega
 have Hh:=Qa h;have Hv:=Qa hv;have e1:=Qa b3;have b1:=Qa a3;have a4:=Qa a5;have H1:=Qa h1;have H2:=Qa h2;have Hm:=Qa hm;have c8:=Qa c3;have Hl:=Qa a1;have H3:=Qa h3;have d1:=Qa (And.intro c6 (And.intro a9 (And.intro a2 d0)));clear h h1 h2 h3 h4 h5 h6 h7 hv b3 a3 c6 a9 a2 d2 c9 a0 a5 a1 d0 c7 hm c3;go_enter Tryz.func104,Tryz.ntmps104;go_wp2_with fail;go_quiet (fail);have d6:w.heap.size<=(w.drewN nq).heap.size:=Zb _;obtain⟨wd,a7⟩:∃wd,w.drewN nq=wd:=⟨_,rfl⟩;have a6:Below w.heap.size w wd:=by rw[<-a7];exact av (Ze _ _) nq
 have hsz:wd.heap.size=w.heap.size:=by rw[<-a7];rfl
 have k0':=Zg a6 k0;have k1':=Zg a6 k1;have f1':wd.frozen? ⟨pb,m*5+1,none⟩=false:=by rw[<-a7];exact f1
 rw[a7];have b0:=Qa (ac wd (.cells #[.iface tv xv] 32));have c5:=Qa (ao (ao e1.out a6 (Zb _)) b0.out (Zb _));have e2:=Qa (ap wd [.iface tv xv] 32);have b8:=Qa a6;have b5:=Qa hsz;clear c0 k0 k1 f1 a7 d6 a6 hsz;have c4:=Qa (ai (ai a4.out b8.out) b0.out);have d5:=Qa (aK c5.out c4.out (by decide));go_wp2_with (at_builtin;refine km yI c5.out e2.out (by have:=b5.out;have:=b0.out.size;omega) ?_ (hlen:=(by unfold maxLen;have:=c8.out;omega)) (hby:=(by have:=c8.out;omega));intro v' w5 p1 p2 p3;obtain⟨A5,q5,rfl,-,-,-⟩:=ag p1;have g5:=aB c4.out p2 d5.out;have f5:=ak g5 (m*5+1);have G5:=Qa g5;have HK:=Qa p1;have HG:=Qa p2;have HD:=Qa p3;have k5:w5.cell? ⟨pb,m*5+1,none⟩=wd.cell? ⟨pb,m*5+1,none⟩:=fg g5 (ai a4.out b8.out) _;rw[k1'] at k5;clear p1 p2 p3 g5);(try simp only[Exit.inBlock,Exit.then]);refine Zh (results_none rfl ..) rfl ?_;obtain rfl:=Hm.out;have b9:aZ (fun k=>(Value.slice Ai xs.length qi).ownBlock=some k) w w5:=(aZ.of_below ((b8.out).trans (b0.out.mono (by have:=b5.out;omega)))).trans (aZ.grown HG.out) fun i hi=>.inl hi
 have e0:w5.ownsRow B 213 5 (.slice (some ⟨pb,0,none⟩) (us.length+1) q) (us.length+1) (([.int .i64 (if f.obj=true then 6 else 5),.slice Ai xs.length qi,.slice none 0 0,.string s,.bool f.name.isSome]:List Value)::us).reverse.flatten:=by
  refine bw H3.out fun b hb=>?_
  obtain rfl:pb=b:=Zi hb;exact G5.out.trans a4.out.symm
 have b6:=eM e0 Hl.out (j:=1) (by decide) (.slice A5 (xs.length+1) q5);have b2:=rK Hh.out a4.out d9 hB (b9.mono fun k hk=>by rw[kH];simpa using hk) (aZ.set pb (us.length*5+1) (.slice A5 (xs.length+1) q5)) b6 (by
  intro g hg;have hg:g∈(Value.slice A5 (xs.length+1) q5).ownBlock.toList:=by rw[<-kH];exact hg
  rw[kH];rcases HD.out with e|e
  ·left;rw[e] at hg;exact hg
  ·right
   rw[e] at hg;have:=Zi (Option.mem_toList.1 hg);have:=b0.out.size;have:=b5.out;omega) (by
  show(bW [_,_,_,_,_]).Nodup
  rw[kH];exact lI _) (f':={f with items:=f.items ++ [j]}) (fun hm ht b7=>?_)
 ·rw[ff ho];exact⟨rfl,b2.1,b2.2.1,_,b2.2.2⟩
 obtain⟨m1,m2,m3,m4⟩:=d1.out;have hne:=aK HK.out G5.out (by decide);refine⟨.slice A5 (xs.length+1) q5,.slice none 0 0,s,xs ++ [.iface tv xv],L,rfl,m4,?_,?_,?_,m2,?_,fun e=>?_,fun _=>rfl⟩
 ·rw[List.length_append];exact bw HK.out fun b hb=>(aZ.set pb _ _).block b (ae (aj HK.out hb).2.choose_spec) fun e=>hne (by rw[hb,e])
 ·exact(b1.out.mono fun _ _ h=>h.move hm ht b7).snoc (Hv.out.move hm ht b7)
 ·exact bw m1 fun b hb=>by cases hb
 ·exact m3.mono fun _ _ h=>h.move hm ht b7
 ·exact absurd (ho.symm.trans e) (by decide)
theorem Fl {bs:List Nat}(h:fi B w xb (f::fs) none bs)(ho:f.obj=true)(hv:VW (Pb B bs) w v j)(hB:B<=w.heap.size)(b4:f.name.isSome=true)(hn:f.mems.length<=4294967296)(d2:fs.length<=4294967296):Calls Tryz.prog 104 #[.pointer (some ⟨xb,0,none⟩),v] w fun e w'=>mo B xb (cV (f::fs) j) w e w':=by
 obtain⟨pv,dv,us,h⟩:=h;obtain⟨h1,h2,h3,h4,h5,h6,h7⟩:=id h
 cases us with
 |nil=>have:=h4.1;simp at this
 |cons u us=>
 have d9:us.length=fs.length:=by have:=h4.1;simpa using this
 have a3:∀x∈u::us,x.length=5:=fun x hx=>by
  obtain⟨i,hi,rfl⟩:=List.getElem_of_mem hx;exact(h4.2 i _ ((f::fs)[i]'(by have:=h4.1;omega)) (Zd hi) (Zd _)).len
 rw[List.length_cons,<-d9] at h3;obtain⟨pb,q,e5,hT⟩:=ek h3 a3;obtain⟨e3,a1,c8,b6,b5⟩:=hT;obtain⟨iv,mv,s,xs,L,hu,e1,d3,a6,c5,a9,a4,d4,f8⟩:=h4.2 0 u f rfl rfl;obtain rfl:=d4 ho;obtain⟨Ai,qi,rfl,-⟩:=ag c5;subst e3 hu;have c9:L.length=f.mems.length:=by have:=congrArg List.length a9;simpa using this
 obtain⟨nn,b4⟩:=Option.isSome_iff_exists.1 b4;obtain rfl:=e1 nn b4;obtain⟨m,hm⟩:∃m,m=us.length:=⟨_,rfl⟩;rw[<-hm] at a1 b6 b5;have c0:=aa h1 (j:=0) (u:=.slice (some ⟨pb,0,none⟩) (m+1) q) (by rw[hm];rfl);have k0:=a1 0 _ rfl;have k2:=a1 2 _ rfl;have k3:=a1 3 _ rfl;have k4:=a1 4 _ rfl;rw[ho] at k0;simp only[if_true] at k0;rw[Nat.add_zero] at k0;obtain⟨cur,a5⟩:=c8;have f2:=ak a5 (m*5+2);have f4:=ak a5 (m*5+4);obtain⟨tv,xv,rfl⟩:=hv.iface;have s1:IntKind.i64.wrap (m:Int)= (m:Int):=IntWalk.i64_in _ (by omega);have f3:(((m+1:Nat):Int)==0)=false:=by simp only[beq_eq_false_iff_ne];omega
 have Hh:=Qa h;have Hv:=Qa hv;have c3:=Qa c5;have a2:=Qa a5;have K4:=Qa k4;have H1:=Qa h1;have H2:=Qa h2;have Hm:=Qa hm;have e0:=Qa c9;have Hl:=Qa a3;have H3:=Qa h3;have f1:=Qa (And.intro d3 (And.intro a9 (And.intro a4 a6)));have e8:=Qa b4;clear h h1 h2 h3 h4 h5 h6 h7 hv d3 a6 c5 a9 a4 d4 f8 a1 a5 a3 e1 d9 hm c9 b4 f2 f4 k4 b6 b5;go_enter Tryz.func104,Tryz.ntmps104;go_wp2_with fail;go_quiet (fail);obtain⟨wd,b8⟩:∃wd,w.drewN nq=wd:=⟨_,rfl⟩;have b3:Below w.heap.size w wd:=by rw[<-b8];exact av (Ze _ _) nq
 have hsz:wd.heap.size=w.heap.size:=by rw[<-b8];rfl
 have k0':=Zg b3 k0;have k2':=Zg b3 k2;have k3':=Zg b3 k3;rw[b8];clear c0 k0 k2 k3 b8;go_wp2_with fail;obtain⟨wr,a7⟩:∃wr,wd.drew=wr:=⟨_,rfl⟩;have c7:Below w.heap.size w wr:=by rw[<-a7];exact b3.drew
 have e2:wr.heap.size=w.heap.size:=by rw[<-a7];exact hsz
 have K2:=Qa (show wr.cell? ⟨pb,m*5+2,none⟩=some (.slice Ai L.length qi) by rw[<-a7];exact k2');have K3:=Qa (show wr.cell? ⟨pb,m*5+3,none⟩=some (.string s) by rw[<-a7];exact k3');have b0:=Qa (ac wr (.cells #[.string s,.iface tv xv] 97));have d6:=Qa (show vD (wr.alloc (.cells #[.string s,.iface tv xv] 97)) B (.slice Ai L.length qi) L from ao (ao c3.out c7 (Zb _)) b0.out (Zb _));have f0:=Qa (ap wr [.string s,.iface tv xv] 97);have b7:=Qa c7;have c2:=Qa e2;have d1:=Qa (ai (ai a2.out b7.out) b0.out);have e4:=Qa (aK d6.out d1.out (by decide));clear k0' k2' k3' b3 hsz c7 e2;refine cP (fun w'=>w'.cell? ⟨pb,m*5+2,none⟩=some (.slice Ai L.length qi)/\w'.cell? ⟨pb,m*5+3,none⟩=some (.string s)) 15 ((by rw[a7];exact⟨K2.out,K3.out⟩)) fun a0=>?_
 rw[a7] at a0 ⊢;clear a7;refine tZ 0 a0 ?_;refine tZ 1 a0 ?_;refine tZ 2 a0 ?_;refine tZ 3 a0 ?_;refine tZ 4 a0 ?_;refine tZ 5 a0 ?_
 try simp only[Act.put,jP,jQ,jR]
 refine tZ 6 a0 ?_;refine tZ 7 a0 ?_;refine tZ 8 a0 ?_;refine tZ 9 a0 ?_;refine tZ 10 a0 ?_
 try simp only[Act.put,jP,jQ,jR]
 refine rZ 11 fun K hK=>?_
 go_simp;refine hK.out _ _ (fun _=>⟨Zg b0.out a0.1,Zg b0.out a0.2⟩) (fun a0=>?_);clear hK K;have a0:=a0 (by decide)
 try simp only[Act.put,jP,jQ,jR]
 refine rZ 12 fun K hK=>?_
 refine xU yF d6.out f0.out (by have:=c2.out;have:=b0.out.size;omega) ?_ (hlen:=(by unfold maxLen;have:=e0.out;omega)) (hby:=(by have:=e0.out;omega));intro v' w5 p1 p2 p3;obtain⟨A5,q5,rfl,-,-,-⟩:=ag p1;have g5:=aB d1.out p2 e4.out;have f5:=ak g5 (m*5+2);have G5:=Qa g5;have HK:=Qa p1;have HG:=Qa p2;have HD:=Qa p3;have k5:w5.cell? ⟨pb,m*5+2,none⟩=some (.slice Ai L.length qi):=(fg g5 (ai a2.out b7.out) _).trans K2.out;have k53:w5.cell? ⟨pb,m*5+3,none⟩=some (.string s):=(fg g5 (ai a2.out b7.out) _).trans K3.out;clear p1 p2 p3 g5;refine hK.out _ _ (fun _=>⟨k5,k53⟩) (fun a0=>?_);clear hK K;have a0:=a0 (by decide)
 try simp only[Act.put,jP,jQ,jR]
 refine rZ 13 fun K hK=>?_
 go_simp;refine hK.out _ _ (fun _=>a0) (fun a0=>?_);clear hK K;have a0:=a0 (by decide)
 try simp only[Act.put,jP,jQ,jR]
 refine tZ 14 a0 ?_
 try simp only[Act.put,jP,jQ,jR]
 refine rZ 15 fun K hK=>?_
 go_simp;refine hK.out _ _ (fun h=>absurd rfl h) (fun _=>?_);clear hK K
 try simp only[Act.put,jP,jQ,jR]
 refine aW (by kernel_rfl) (NoPanic.normal ?_) _;clear a0 f5;have g6:=au G5.out (m*5+2) (.slice A5 (L.length+1) q5);have f6:=ak g6 (m*5+4);have k6:(w5.setCell ⟨pb,m*5+2,none⟩ (.slice A5 (L.length+1) q5)).cell? ⟨pb,m*5+4,none⟩=some (.bool f.name.isSome):=by
  rw[lU G5.out (by omega),fg G5.out a2.out];exact K4.out
 obtain⟨w6,c6⟩:∃w6,w5.setCell ⟨pb,m*5+2,none⟩ (.slice A5 (L.length+1) q5)=w6:=⟨_,rfl⟩;rw[c6] at g6 f6 k6 ⊢;have d0:=Qa c6;have G6:=Qa g6;clear g6 c6;go_wp2_with fail;go_end0;obtain rfl:=Hm.out;have c4:aZ (fun k=>(Value.slice Ai L.length qi).ownBlock=some k) w w5:=(aZ.of_below ((b7.out).trans (b0.out.mono (by have:=c2.out;omega)))).trans (aZ.grown HG.out) fun i hi=>.inl hi
 have e6:w5.ownsRow B 213 5 (.slice (some ⟨pb,0,none⟩) (us.length+1) q) (us.length+1) (([.int .i64 (if f.obj=true then 6 else 5),.slice none 0 0,.slice Ai L.length qi,.string s,.bool f.name.isSome]:List Value)::us).reverse.flatten:=by
  refine bw H3.out fun b hb=>?_
  obtain rfl:pb=b:=Zi hb;exact G5.out.trans a2.out.symm
 have b2:=eM e6 Hl.out (j:=2) (by decide) (.slice A5 (L.length+1) q5);rw[d0.out] at b2;have b1:=eM b2 (fun x hx=>by rcases List.mem_cons.1 hx with rfl|hx;(· rfl);exact Hl.out x (Zm _ hx)) (j:=4) (by decide) (.bool false);have d5:aZ (fun k=>k=pb) w5 (w6.setCell ⟨pb,us.length*5+4,none⟩ (.bool false)):=by
  rw[<-d0.out];exact(aZ.set pb _ _).trans (aZ.set pb _ _) fun i h=>.inl h
 have b9:=rK Hh.out a2.out e5 hB (c4.mono fun k hk=>by rw[jd];simpa using hk) d5 b1 (by
  intro g hg;have hg:g∈(Value.slice A5 (L.length+1) q5).ownBlock.toList:=by rw[<-jd];exact hg
  rw[jd];rcases HD.out with e|e
  ·left;rw[e] at hg;exact hg
  ·right
   rw[e] at hg;have:=Zi (Option.mem_toList.1 hg);have:=b0.out.size;have:=c2.out;omega) (by
  show(bW [_,_,_,_,_]).Nodup
  rw[jd];exact lI _) (f':={f with mems:=f.mems ++ [(f.name.getD ⟨#[]⟩,j)],name:=none}) (fun hm ht c1=>?_)
 ·rw[gG ho];exact⟨rfl,b9.1,b9.2.1,_,b9.2.2⟩
 obtain⟨m1,m2,m3,m4⟩:=f1.out;have hne:=aK HK.out G5.out (by decide);have d2:fI (L ++ [(s,.iface tv xv)])=fI L ++ [.string s,.iface tv xv]:=by simp[fI]
 refine⟨.slice none 0 0,.slice A5 (L.length+1) q5,s,xs,L ++ [(s,.iface tv xv)],rfl,fun t e=>(by cases e),?_,?_,?_,?_,?_,fun _=>rfl,fun e=>?_⟩
 ·exact bw m1 fun b hb=>by cases hb
 ·exact m4.mono fun _ _ h=>h.move hm ht c1
 ·unfold vD;rw[List.length_append,d2];exact bw HK.out fun b hb=>d5.block b (ae (aj HK.out hb).2.choose_spec) fun e=>hne (by rw[hb,e])
 ·rw[List.map_append,List.map_append,m2,e8.out];rfl
 ·rw[List.map_append,List.map_append];exact(m3.mono fun _ _ h=>h.move hm ht c1).snoc (Hv.out.move hm ht c1)
 ·exact absurd (ho.symm.trans e) (by decide)
structure J0 (B:Nat) (w:World) (xb:Nat) (f:Fr) (m pb q:Nat):Prop where
 c0:w.cell? ⟨xb,0,none⟩=some (.slice (some ⟨pb,0,none⟩) (m+1) q)
 k0:w.cell? ⟨pb,m*5,none⟩=some (.int .i64 (if f.obj then 6 else 5))
 k4:w.cell? ⟨pb,m*5+4,none⟩=some (.bool f.name.isSome)
theorem fi.top {done:Option JV}{bs:List Nat}(h:fi B w xb (f::fs) done bs):∃pb q,J0 B w xb f fs.length pb q:=by
 obtain⟨pv,dv,us,h⟩:=h;obtain⟨h1,h2,h3,h4,h5,h6,h7⟩:=id h
 cases us with
 |nil=>have:=h4.1;simp at this
 |cons u us=>
 have a2:us.length=fs.length:=by have:=h4.1;simpa using this
 have a1:∀x∈u::us,x.length=5:=fun x hx=>by
  obtain⟨i,hi,rfl⟩:=List.getElem_of_mem hx;exact(h4.2 i _ ((f::fs)[i]'(by have:=h4.1;omega)) (Zd hi) (Zd _)).len
 rw[List.length_cons,<-a2] at h3;obtain⟨pb,q,a7,hT⟩:=ek h3 a1;obtain⟨a4,a0,a6,a5,a3⟩:=hT;obtain⟨iv,mv,s,xs,L,hu,a9,-⟩:=h4.2 0 u f rfl rfl;subst a4 hu;rw[<-a2];exact⟨pb,q,aa h1 (j:=0) rfl,by have:=a0 0 _ rfl;rwa[Nat.add_zero] at this,a0 4 _ rfl⟩
theorem fi.nils {bs:List Nat}(h:fi B w xb frs none bs):w.cell? ⟨xb,1,none⟩=some .nilIface:=by
 obtain⟨pv,dv,us,h⟩:=h;have e:dv =.nilIface:=h.done;rw[<-e];exact aa h.row (j:=1) rfl
theorem fi.empty {done:Option JV}{bs:List Nat}(h:fi B w xb [] done bs):∃A q,w.cell? ⟨xb,0,none⟩=some (.slice A 0 q):=by
 obtain⟨pv,dv,us,h⟩:=h;obtain⟨A,q,e,-⟩:=ag h.parts;exact⟨A,q,by rw[aa h.row (j:=0) rfl,e];rfl⟩
theorem k8 {bs:List Nat}(h:fi B w xb frs none bs)(hw:∀f fs,frs=f::fs->bZ f=false)(hl:frs.length<=4294967296):Calls Tryz.prog 102 #[.pointer (some ⟨xb,0,none⟩),.int .i64 (frs.length+1:Nat)] w fun e w'=>e =.returned (.tuple #[])/\w=w':=by
 have c1:=h.nils
 cases frs with
 |nil=>
  obtain⟨A,q,c0⟩:=h.empty;clear h hw;simp only[List.length_nil,Nat.zero_add];go_enter Tryz.func102,Tryz.ntmps102;go_wp2_with fail;go_end0;exact⟨rfl,rfl⟩
 |cons f fs=>
  obtain⟨pb,q,c0,k0,k4⟩:=h.top;have hw:=hw f fs rfl;rw[List.length_cons] at hl ⊢;obtain⟨m,hm⟩:∃m,fs.length=m:=⟨_,rfl⟩;rw[hm] at c0 k0 k4 hl ⊢;have s1:IntKind.i64.wrap (m:Int)= (m:Int):=IntWalk.i64_in _ (by omega);have s2:IntKind.i64.wrap ((m:Int)+1+1)= (m:Int)+1+1:=IntWalk.i64_in _ (by omega);have a1:(0:Int)< (m:Int)+1:=by omega
  have a0:((m+1+1:Nat):Int)= (m:Int)+1+1:=by omega
  rw[a0];have ht:f.obj=true->f.name.isSome=true:=fun ho=>by
   simp only[bZ,ho,Bool.true_and] at hw
   cases hn:f.name with
   |none=>rw[hn] at hw;cases hw
   |some _=>rfl
  have Ht:=Qa ht;clear h hw hm ht a0
  by_cases ho:f.obj=true
  ·have hn:=Ht.out ho;rw[ho] at k0;rw[hn] at k4;simp only[if_true] at k0;clear hn ho;go_enter Tryz.func102,Tryz.ntmps102;go_wp2_with fail;go_end0;exact⟨rfl,rfl⟩
  ·rw[if_neg ho] at k0;clear ho k4;go_enter Tryz.func102,Tryz.ntmps102;go_wp2_with fail;go_end0;exact⟨rfl,rfl⟩
theorem AF {α β:Type}{f:α->β}{S L:List β}(hp:S.Perm L):∀ {Z:List α},Z.map f=L->∃Z':List α,Z'.Perm Z/\Z'.map f=S:=by
 induction hp with
 |nil=>intro Z h;exact⟨Z,List.Perm.refl _,h⟩
 |cons x _ ih=>
  intro Z h
  cases Z with
  |nil=>cases h
  |cons z Z=>
   rw[List.map_cons] at h;injection h with h1 h2
   obtain⟨Z',h3,h4⟩:=ih h2;exact⟨z::Z',h3.cons z,by rw[List.map_cons,h1,h4]⟩
 |swap x y l=>
  intro Z h
  match Z,h with
  |a::b::Z,h=>
   simp only[List.map_cons] at h;injection h with h1 h2
   injection h2 with h2 h3
   exact⟨b::a::Z,List.Perm.swap a b Z,by simp[h1,h2,h3]⟩
 |trans _ _ ih1 ih2=>
  intro Z h;obtain⟨Z1,h1,h2⟩:=ih2 h;obtain⟨Z2,h3,h4⟩:=ih1 h2;exact⟨Z2,h3.trans h1,h4⟩
theorem Gy (S:List (ByteArray×Value)):fI S=AW (S.map Prod.fst) (S.map Prod.snd):=by
 unfold fI AW
 congr 1
 induction S with
 |nil=>rfl
 |cons p S ih=>simp[<-ih]
theorem wR {ms:List (ByteArray×JV)}(hg:w.heap[g]?=some (.cells #[.slice A S.length c] 158 (0,0)))(hr:cA Q w 97 2 A S.length c (fI S))(hQ:Q g)(hp:S.Perm L)(hs:(S.map Prod.fst).Pairwise fD)
  (hn:L.map Prod.fst=ms.map Prod.fst) (hv:bo (VW Q w) (L.map Prod.snd) (ms.map Prod.snd)):VW Q w (.iface 116 (.pointer (some ⟨g,0,none⟩))) (mn (fU ms)):=by
 have hl:L.length=ms.length:=by have:=congrArg List.length hn;simpa using this
 have hz:(L.zip ms).map Prod.fst=L:=List.map_fst_zip (by omega);have a5:(L.zip ms).map Prod.snd=ms:=List.map_snd_zip (by omega);obtain⟨Z,hZ,a1⟩:=AF hp hz;have a0:∀z∈L.zip ms,z.1.1=z.2.1/\VW Q w z.1.2 z.2.2:=by
  intro z hz;obtain⟨i,hi,rfl⟩:=List.getElem_of_mem hz;rw[List.length_zip] at hi;have h1:L[i]?=some L[i]:=Zd (by omega);have h2:ms[i]?=some ms[i]:=Zd (by omega);rw[List.getElem_zip];refine⟨?_,hv.2 i _ _ (by rw[List.getElem?_map,h1];rfl) (by rw[List.getElem?_map,h2];rfl)⟩;have:=congrArg (·[i]?) hn;simp only[List.getElem?_map,h1,h2,Option.map_some] at this;exact Zi this
 have a4:fU ms=Z.map Prod.snd:=by
  refine DL ?_ ?_
  ·have:=(hZ.map Prod.snd).symm
   rwa[a5] at this
  ·have e:(Z.map Prod.snd).map Prod.fst=S.map Prod.fst:=by
    rw[<-a1,List.map_map,List.map_map];exact List.map_congr_left fun z hz=>(a0 z (hZ.mem_iff.1 hz)).1.symm
   rw[e];exact hs
 rw[a4];have a2:S.map Prod.fst= (Z.map Prod.snd).map Prod.fst:=by
  rw[<-a1,List.map_map,List.map_map];exact List.map_congr_left fun z hz=>(a0 z (hZ.mem_iff.1 hz)).1
 have a3:S.length=Z.length:=by rw[<-a1];simp
 unfold mn;rw[<-a2];refine VW.obj g A c (S.map Prod.snd) (S.map Prod.fst) _ hQ (by rw[List.length_map];exact hg) (by rw[List.length_map,<-Gy];exact hr) (by simp[a3]) (by simp[a3]) fun i u k h1 h2=>?_
 rw[List.getElem?_map,<-a1,List.getElem?_map] at h1;rw[List.getElem?_map,List.getElem?_map] at h2
 cases hz3:Z[i]? with
 |none=>rw[hz3] at h1;cases h1
 |some z=>
  rw[hz3] at h1 h2;obtain rfl:=Zi h1;obtain rfl:=Zi h2;exact(a0 z (hZ.mem_iff.1 (Zl hz3))).2
theorem yN (hg:w.heap[g]?=some (.cells #[.slice A us.length c] 153 (0,0)))(hr:cA Q w 32 1 A us.length c us)(hQ:Q g)(hv:bo (VW Q w) us ks):VW Q w (.iface 48 (.pointer (some ⟨g,0,none⟩))) (dJ ks):=
 VW.list g A c us ks hQ hg hr hv.1 fun i u k h1 h2=>hv.2 i u k h1 h2
