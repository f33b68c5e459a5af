import Derived.Test.YtibmppoeeppnoaaGreatDoorGZ4bh
set_option linter.unusedVariables false
set_option linter.unusedSimpArgs false
set_option maxHeartbeats 64000000
set_option maxRecDepth 100000
namespace Go.Proofs.YtibmppoeeppnoaaGreatDoor
open Go.RowKit Go.Maps
variable {fin:Bool}{s:ByteArray}{f:Fr}{by_ dp ex lv:Int}{names:List ByteArray}{frs fs:List Fr}{bs maps top:List Nat}{xs:List UInt8}{B c k lb n nd rb want xb:Nat}{F:Nat->Prop}{T:TypeId->Prop}{nv ov v:Value}{w w':World}
theorem Mv.of_keeps (h:aG T w w')(hT:∀e,TV e->¬T e):Mv top w w':=⟨h.1,fun g cs e z hg he _=>h.2 g cs e z hg (hT e he)⟩
theorem fd.keeps {done:Option JV}(h:fd B w xb frs done bs)(hk:aG T w w')(hT:∀e,TB e->¬T e):fd B w' xb frs done bs:=by
 obtain⟨pv,dv,us,h1,h2,h3,h4,h5,h6,h7⟩:=h;have hm:Mv [] w w':=Mv.of_keeps hk (fun e he=>hT e (.inl he));have a0:∀g∈bs,g∈bs\/w.heap.size<=g:=fun g h=>.inl h
 exact⟨pv,dv,us,hk.2 _ _ _ _ h1 (hT _ (.inr (.inl rfl))),h2,al h3 hk (hT _ (.inr (.inr rfl))),h4.mono fun _ _ h=>h.move hm (by simp) a0 (by simp),h5,h6,h7.move hm (by simp) a0⟩
theorem pN {b:Nat}{es:Array MapEntry}(hg:w.grownBy w' (some b))(hb:w.heap[b]?=some (.map es c)):aG (fun _=>False) w w':=
 aG.of_grown hg fun g e cs t z hh=>by
  obtain rfl:=Zh e;rw[hb] at hh
  cases hh
theorem dS.map {b:Nat}(h:dS w b names n):∃es c,w.heap[b]?=some (.map es c):=by
 obtain⟨D,⟨es,c,hh,-⟩,-⟩:=h;exact⟨es,c,hh⟩
theorem ir.named {b:Nat}{l:List ByteArray}(h:ir B w rb lb xb v xs (f::fs) want k nd fin by_ dp ex ov nv (b::maps))(ho:f.obj=true)(hn:f.name=none)(hl:∀t,t∈l↔t∈iQ f)(hnl:n<=f.mems.length)
  (hs:dS w' b (s::l) (n+1)) (hg:w.grownBy w' (some b)):ir B w' rb lb xb v xs ({f with name:=some s}::fs) want k nd fin by_ dp ex ov nv (b::maps):=by
 obtain⟨h1,h2,h3,h4,h5,h6,h7,h8,h9,a2⟩:=h;simp only[List.filter_cons,ho,if_true] at h8;obtain⟨a3,l0,n0,a1,-⟩:=h8.2 0 b f rfl rfl;obtain⟨es,c,hh⟩:=a1.map;have hk:=pN hg hh;have a0:aq w' B v xs:=al h5 hk (fun h=>h);refine⟨hk.2 _ _ _ _ h1 (fun h=>h),h2,⟨hk.2 _ _ _ _ h3.1 (fun h=>h),aq.bs a0⟩,h4,a0,?_,al h7 hk (fun h=>h),?_,h9,a2⟩
 ·have:=al h6 hk (fun h=>h);simpa [gp] using this
 ·simp only[List.filter_cons,ho,if_true];refine⟨by simpa using h8.1,fun i x y q1 q2=>?_⟩
  cases i with
  |zero=>
   simp at q1 q2;subst q1 q2;refine⟨a3,s::l,n+1,hs,by simp;omega,fun t=>?_⟩;have:=hl t;simp only[iQ,hn,Option.toList_none,List.nil_append,Option.toList_some,List.cons_append,List.mem_cons] at this ⊢;rw[this]
  |succ i=>
   obtain⟨z1,z2,z3,z4,z5⟩:=h8.2 (i+1) x y (by simpa using q1) (by simpa using q2);refine⟨z1,z2,z3,z4.grown hg fun e=>?_,z5⟩;obtain rfl:=Zh e;exact(List.nodup_cons.1 h9).1 (Zk (by simpa using q1))
theorem BP {p:Int}(hR:jL B w rb lb xb v xs (f::fs) want k nd false)(d4:fd B w xb (f::fs) none bs)(ho:f.obj=true)(b3:f.name=none)(d7:s∉f.mems.map Prod.fst)(hs:s.size<=4294967296)(hl:fs.length<=1000000000)(hm:f.mems.length<=1000000000)(hB:B<=w.heap.size):Calls Tryz.prog 135 #[.pointer (some ⟨rb,0,none⟩),.agg #[.int .i64 p,.string s]] w (Ge B rb lb xb v xs ⟨{f with name:=some s}::fs,4,none⟩ k nd false w):=by
 have a6:=ac w (.cells #[.int .i64 p,.string s] 272);obtain⟨w1,c0⟩:∃w1,w.alloc (.cells #[.int .i64 p,.string s] 272)=w1:=⟨_,rfl⟩;have c5:=Qa (Ze w (.cells #[.int .i64 p,.string s] 272));rw[c0] at a6 c5;obtain⟨by_,dp,ex,ov,nv,maps,hA⟩:=hR.below a6;have a1:=hA.seen;simp only[List.filter_cons,ho,if_true] at a1
 cases maps with
 |nil=>have:=a1.1;simp at this
 |cons b maps=>
 obtain⟨e5,l,n,d2,hn,c9⟩:=a1.2 0 b f rfl rfl;have hnl:n<=f.mems.length:=by simpa [b3] using hn
 have d9:l.any (fun t=>decide (t=s))=false:=by
  rw[List.any_eq_false];intro t ht;have h1:=(c9 t).1 ht;simp only[iQ,b3,Option.toList_none,List.nil_append] at h1;simp only[decide_eq_true_eq];rintro rfl;exact d7 h1
 have b5:=hA.names;obtain⟨A,q,rfl,-,-,d3⟩:=ag b5;obtain⟨g,rfl⟩:=d3 (by simp);obtain⟨m,b4⟩:∃m,maps.length=m:=⟨_,rfl⟩;rw[List.length_cons,b4] at b5;have cg:=World.ownsRow.cellAt b5 m (by omega);rw[List.reverse_cons,List.map_append,List.getElem?_append_right (by simp;omega),List.length_map,List.length_reverse,b4,Nat.sub_self] at cg;replace cg:w1.cell? ⟨g,m,none⟩=some (.map (some b)):=cg;have f3:m<=fs.length:=by
  have h1:=a1.1;have h2:=List.length_filter_le (fun g:Fr=>g.obj) fs;simp at h1;omega
 have c13:=aa hA.row (j:=13) (u:=.slice (some ⟨g,0,none⟩) (m+1) q) (by rw[<-b4];rfl);have e1:=aa c5.out (j:=1) (u:=.string s) rfl;have s1:IntKind.i64.wrap (m:Int)= (m:Int):=IntWalk.i64_in _ (by omega);have f0:(m:Int)< (m:Int)+1:=by omega
 have HA:=Qa hA;have f8:=Qa (d4.below a6);have HB:=Qa hB;have g2:=Qa a6;have e6:=Qa d2;have f5:=Qa c9;have g1:=Qa d9;have d5:=Qa (show s.size<=maxLen by unfold maxLen;omega);have f4:=Qa (show n<maxLen by unfold maxLen;omega);have e8:=Qa hnl;have Hl:=Qa hl;have g3:=Qa hm;clear hR hA a1 d2 hn c9 hnl d9 b5 d3 b4 f3 hB a6 hs d4 e5 d7 hm hl;go_enter Tryz.func135,Tryz.ntmps135;go_wp2_with fail
 try rw[c0]
 go_quiet (fail);obtain⟨wd,c1⟩:∃wd,w1.drewN nq=wd:=⟨_,rfl⟩;have a2:Below w1.heap.size w1 wd:=by rw[<-c1];exact av (Zd _ _) nq
 have e0:=Qa (HA.out.below a2);have c8:=Qa (f8.out.below a2);have c3:=Qa (ai c5.out a2);have e2:=Zf a2 e1;have a3:=Qa (e6.out.kp (Kp.of_below (fun _=>False) a2));have a9:=a3.out.look d5.out;rw[g1.out] at a9;have c7:=Qa (bt g2.out a2);rw[c1];clear c13 cg e1 a2 c1 c0;go_wp2_with (at_mapUpdate;refine sE a3.out d5.out f4.out rfl (.tmp 28) (.tmp 30) _ rfl (by simp[Act.eval]) (by simp[Act.eval]) (by simp[Act.eval]) ?_;intro w5 p1 p2;have b6:=e0.out.named ho b3 f5.out e8.out p1 p2.grown;obtain⟨es5,cl5,d0⟩:=a3.out.map;have b2:=pN p2.grown d0;have c14:=aa b6.row (j:=14) (u:=.int .i64 want) rfl;have f14:=aj b6.row 14;have f6:=Qa b6;have c2:=Qa (c8.out.keeps b2 (fun _ _ h=>h));have c6:=Qa (b2.2 _ _ _ _ c3.out (fun h=>h));have f1:=Qa p2.grown;have f9:=Qa b2;clear p1 p2 b6 d0 b2);have e4:B<=b:=by
  have a1:=e0.out.seen;simp only[List.filter_cons,ho,if_true] at a1;exact(a1.2 0 b f rfl rfl).1
 have b8:Below B w w5:=(c7.out.mono HB.out).trans ((a8.grown f1.out).below (Zb HB.out c7.out.size) fun i e=>by
  obtain rfl:=Zh e;exact e4)
 have b0:B<=w5.heap.size:=Zb HB.out b8.size;have a5:=Qa (f6.out.setWant b0 4 (z:=4) rfl);have f2:w5.heap.size= (w5.setCell ⟨rb,14,none⟩ (.int .i64 4)).heap.size:=by simp
 obtain⟨w6,d1⟩:∃w6,w5.setCell ⟨rb,14,none⟩ (.int .i64 4)=w6:=⟨_,rfl⟩;rw[d1] at a5 ⊢;have c4:=Qa (show cK B w w6 from(⟨b8,(aG.of_below TA c7.out).trans (f9.out.imp fun _ h=>h.elim)⟩:cK B w w5).trans (cK.rd a5.out.1 a5.out.2.1));have b9:=Qa (c2.out.kp a5.out.2.1 bO);have a7:w6.heap[w.heap.size]?=some (.cells #[.int .i64 p,.string s] 272 (0,0)):=a5.out.2.1.heap c6.out (by simp only[lG];decide);have d6:=a5.out.2.2;obtain⟨wr,b7⟩:∃wr,w6.drew=wr:=⟨_,rfl⟩;have a4:Below w6.heap.size w6 wr:=by rw[<-b7];exact(Zd _ _).drew
 have b1:=d6.below a4;obtain⟨A12,q12,g0,-⟩:=ag b1.opens;subst g0;obtain⟨m9,e3⟩:∃m9,fs.length=m9:=⟨_,rfl⟩;have C11:=Qa (aa b1.row (j:=11) (u:=.func (.func 73) #[.pointer (some ⟨xb,0,none⟩)] #[]) rfl);have C12:=Qa (aa b1.row (j:=12) (u:=.slice A12 (m9+1) q12) (by rw[<-e3];rfl));have E1:=Qa (aa (ai a7 a4) (j:=1) (u:=.string s) rfl);have e7:=Qa (yY (lv:=(m9:Int)+1) (s:=s) (by omega) (b9.out.below a4) ho b3 (by have:=Hl.out;omega) (Zb (Zb HB.out c4.out.b.size) a4.size));have Hr:=Qa (And.intro (c4.out.trans (cK.new a4 (Zb HB.out c4.out.b.size))) b1);clear c14 f14 a4 b1 a7 d6 d1 f2 b0 b8 e4 e3;refine cP (fun w2=>w2.cell? ⟨rb,11,none⟩=some (.func (.func 73) #[.pointer (some ⟨xb,0,none⟩)] #[])/\w2.cell? ⟨rb,12,none⟩=some (.slice A12 (m9+1) q12)/\w2.cell? ⟨w.heap.size,1,none⟩=some (.string s)) 13 ((by rw[b7];exact⟨C11.out,C12.out,E1.out⟩)) fun a0=>?_
 rw[b7] at a0 ⊢;clear b7;refine tR 0 a0 ?_;refine tR 1 a0 ?_;refine tR 2 a0 ?_;refine tR 3 a0 ?_;refine tR 4 a0 ?_;refine tR 5 a0 ?_
 try simp only[Act.put,jP,jQ,jR]
 refine tR 6 a0 ?_;refine tR 7 a0 ?_;refine tR 8 a0 ?_;refine tR 9 a0 ?_;refine tR 10 a0 ?_;refine tR 11 a0 ?_
 try simp only[Act.put,jP,jQ,jR]
 refine tR 12 a0 ?_
 try simp only[Act.put,jP,jQ,jR]
 refine rZ 13 fun K hK=>?_
 go_simp;(with_reducible refine e7.out.mono ?_);rintro e w4 ⟨rfl,h1,h2,h3⟩;have R:=Qa (And.intro h1 (And.intro h2 h3));clear h1 h2 h3;go_wp2_with fail;refine hK.out _ _ (fun h=>absurd rfl h) (fun _=>?_);clear hK K
 try simp only[Act.put,jP,jQ,jR]
 refine aV (by kernel_rfl) (NoPanic.normal ?_) _;go_end0;obtain⟨y1,y2,y3⟩:=R.out;exact⟨rfl,Hr.out.1.trans (cK.tb y1 y2),Hr.out.2.s.tb y2,y3⟩
structure jE (B:Nat) (w:World) (rb lb xb:Nat) (v:Value) (xs:List UInt8) (ofr nfr:List Fr) (want k:Nat) (nd:Nat) (fin:Bool) (by_ dp ex:Int) (ov nv:Value) (maps:List Nat):Prop where
 row:w.heap[rb]?=some (.cells (dD lb xb by_ dp nd ex ov nv want fin) 201 (0,0))
 low:B<=rb
 lex:oU w lb v xs k
 llow:B<=lb
 own:aq w B v xs
 opens:w.ownsRow B 3 1 ov ofr.length (ofr.reverse.map gp)
 names:w.ownsRow B 310 1 nv maps.length (maps.reverse.map wm)
 seen:br (jx B w) maps (nfr.filter (·.obj))
 nodup:maps.Nodup
 le:k<=xs.length
section
variable {B rb lb xb want k nd:Nat}{w w' w5:World}{v:Value}{xs:List UInt8}{frs ofr nfr:List Fr}{fin:Bool}{by_ dp ex:Int}{ov nv:Value}{maps:List Nat}
theorem ir.b (h:ir B w rb lb xb v xs frs want k nd fin by_ dp ex ov nv maps):jE B w rb lb xb v xs frs frs want k nd fin by_ dp ex ov nv maps:=⟨h.row,h.low,h.lex,h.llow,h.own,h.opens,h.names,h.seen,h.nodup,h.le⟩
theorem jE.a (h:jE B w rb lb xb v xs frs frs want k nd fin by_ dp ex ov nv maps):ir B w rb lb xb v xs frs want k nd fin by_ dp ex ov nv maps:=⟨h.row,h.low,h.lex,h.llow,h.own,h.opens,h.names,h.seen,h.nodup,h.le⟩
theorem jE.below (h:jE B w rb lb xb v xs ofr nfr want k nd fin by_ dp ex ov nv maps)(hb:Below w.heap.size w w'):jE B w' rb lb xb v xs ofr nfr want k nd fin by_ dp ex ov nv maps:=by
 obtain⟨h1,h2,h3,h4,h5,h6,h7,h8,h9,a1⟩:=h;have a0:aq w' B v xs:=ao h5 hb (Za _);refine⟨ai h1 hb,h2,h3.below hb,h4,a0,ao h6 hb (Za _),ao h7 hb (Za _),h8.mono fun a b h=>?_,h9,a1⟩;obtain⟨q1,l,n,q2,q3,q4⟩:=h;exact⟨q1,l,n,q2.kp (Kp.of_below (fun _=>False) hb),q3,q4⟩
theorem jE.stay (h:jE B w rb lb xb v xs ofr nfr want k nd fin by_ dp ex ov nv maps)(a0:a8 F w w')(hF:∀g,F g->g<w.heap.size->∃cs e z,w.heap[g]?=some (.cells cs e z)/\lG e):Kp lG w w':=Kp.of_chg a0 hF
theorem jE.seens (h:br (jx B w) maps (nfr.filter (·.obj)))(hk:Kp T w w'):br (jx B w') maps (nfr.filter (·.obj)):=h.mono fun a b h=>by
 obtain⟨q1,l,n,q2,q3,q4⟩:=h;exact⟨q1,l,n,q2.kp hk,q3,q4⟩
theorem jE.setOpen (h:jE B w rb lb xb v xs ofr nfr want k nd fin by_ dp ex ov nv maps)(hB:B<=w.heap.size)(a2:a8 F w w5)(hF:∀g,F g->ov.ownBlock=some g){ov':Value}{ofr':List Fr}(hp:w5.ownsRow B 3 1 ov' ofr'.length (ofr'.reverse.map gp)) :
  Below B w (w5.setCell ⟨rb,12,none⟩ ov')/\Kp lG w (w5.setCell ⟨rb,12,none⟩ ov')/\jE B (w5.setCell ⟨rb,12,none⟩ ov') rb lb xb v xs ofr' nfr want k nd fin by_ dp ex ov' nv maps:=by
 obtain⟨h1,h2,h3,h4,h5,h6,h7,h8,h9,a4⟩:=h;have a0:a8 (fun g=>F g\/g=rb) w (w5.setCell ⟨rb,12,none⟩ ov'):=(a2.mono fun _ h=>.inl h).trans (a8.set rb 12 ov') fun i hi=>.inl (.inr hi)
 have a5:∀g,(F g\/g=rb)->g<w.heap.size->∃cs e z,w.heap[g]?=some (.cells cs e z)/\(e=3\/e=201):=fun g hg _=>by
  rcases hg with hg|rfl
  ·obtain⟨_,cur,hh⟩:=ak h6 (hF g hg);exact⟨_,_,_,hh,.inl rfl⟩
  ·exact⟨_,_,_,h1,.inr rfl⟩
 have hk:Kp (fun e=>e=3\/e=201) w (w5.setCell ⟨rb,12,none⟩ ov'):=Kp.of_chg a0 a5;have a1:aq (w5.setCell ⟨rb,12,none⟩ ov') B v xs:=al h5 hk.keeps (by decide);have hrb:rb<w.heap.size:=ae h1;have a3:w5.heap[rb]?=some (.cells (dD lb xb by_ dp nd ex ov nv want fin) 201 (0,0)):=(a2.block rb hrb fun hf=>aI h6 h1 (by decide) (hF rb hf)).trans h1;have hne:=aI hp a3 (by decide);refine⟨a0.below hB (fun i hi=>hi.elim (fun h=>(ak h6 (hF i h)).1) fun e=>by rw[e];exact h2),hk.imp fun e he=>he.elim (fun h=>.inr (.inr (.inl h))) fun h=>.inl h,au a3 12 ov',h2,⟨hk.heap h3.1 (by decide),aq.bs a1⟩,h4,a1,bz hp fun b hb=>(a8.set rb 12 ov').block b (ae (ak hp hb).2.choose_spec) fun e=>hne (by rw[hb,e]),al h7 hk.keeps (by decide),jE.seens h8 hk,h9,a4⟩
theorem jE.setNames (h:jE B w rb lb xb v xs ofr nfr want k nd fin by_ dp ex ov nv maps)(hB:B<=w.heap.size)(a3:a8 F w w5)(hF:∀g,F g->nv.ownBlock=some g){nv':Value}{maps':List Nat}{nfr':List Fr}(hp:w5.ownsRow B 310 1 nv' maps'.length (maps'.reverse.map wm))(a9:maps'.Nodup)
  (a6:∀w9,Kp (fun e=>e=310\/e=201) w w9->Kp (fun e=>e=201) w5 w9->br (jx B w9) maps' (nfr'.filter (·.obj))) :
  Below B w (w5.setCell ⟨rb,13,none⟩ nv')/\Kp lG w (w5.setCell ⟨rb,13,none⟩ nv')/\jE B (w5.setCell ⟨rb,13,none⟩ nv') rb lb xb v xs ofr nfr' want k nd fin by_ dp ex ov nv' maps':=by
 obtain⟨h1,h2,h3,h4,h5,h6,h7,h8,h9,a7⟩:=h;have a0:a8 (fun g=>F g\/g=rb) w (w5.setCell ⟨rb,13,none⟩ nv'):=(a3.mono fun _ h=>.inl h).trans (a8.set rb 13 nv') fun i hi=>.inl (.inr hi)
 have a5:∀g,(F g\/g=rb)->g<w.heap.size->∃cs e z,w.heap[g]?=some (.cells cs e z)/\(e=310\/e=201):=fun g hg _=>by
  rcases hg with hg|rfl
  ·obtain⟨_,cur,hh⟩:=ak h7 (hF g hg);exact⟨_,_,_,hh,.inl rfl⟩
  ·exact⟨_,_,_,h1,.inr rfl⟩
 have hk:Kp (fun e=>e=310\/e=201) w (w5.setCell ⟨rb,13,none⟩ nv'):=Kp.of_chg a0 a5;have a1:aq (w5.setCell ⟨rb,13,none⟩ nv') B v xs:=al h5 hk.keeps (by decide);have hrb:rb<w.heap.size:=ae h1;have a2:w5.heap[rb]?=some (.cells (dD lb xb by_ dp nd ex ov nv want fin) 201 (0,0)):=(a3.block rb hrb fun hf=>aI h7 h1 (by decide) (hF rb hf)).trans h1;have hne:=aI hp a2 (by decide);have a4:Kp (fun e=>e=201) w5 (w5.setCell ⟨rb,13,none⟩ nv'):=Kp.of_chg (a8.set rb 13 nv') fun g e _=>by subst e;exact⟨_,_,_,a2,rfl⟩
 refine⟨a0.below hB (fun i hi=>hi.elim (fun h=>(ak h7 (hF i h)).1) fun e=>by rw[e];exact h2),hk.imp fun e he=>he.elim (fun h=>.inr (.inr (.inr h))) fun h=>.inl h,au a2 13 nv',h2,⟨hk.heap h3.1 (by decide),aq.bs a1⟩,h4,a1,al h6 hk.keeps (by decide),bz hp fun b hb=>(a8.set rb 13 nv').block b (ae (ak hp hb).2.choose_spec) fun e=>hne (by rw[hb,e]),a6 _ hk a4,a9,a7⟩
theorem jE.setWant (h:jE B w rb lb xb v xs ofr nfr want k nd fin by_ dp ex ov nv maps)(hB:B<=w.heap.size)(n:Nat){z:Int}(hz:z=n):Below B w (w.setCell ⟨rb,14,none⟩ (.int .i64 z))/\Kp lG w (w.setCell ⟨rb,14,none⟩ (.int .i64 z))/\jE B (w.setCell ⟨rb,14,none⟩ (.int .i64 z)) rb lb xb v xs ofr nfr n k nd fin by_ dp ex ov nv maps:=by
 subst hz;obtain⟨h1,h2,h3,h4,h5,h6,h7,h8,h9,a2⟩:=h;have a1:=a8.set (w:=w) rb 14 (.int .i64 n);have hk:Kp (fun e=>e=201) w (w.setCell ⟨rb,14,none⟩ (.int .i64 n)):=Kp.of_chg a1 fun g e _=>by subst e;exact⟨_,_,_,h1,rfl⟩
 have a0:aq (w.setCell ⟨rb,14,none⟩ (.int .i64 n)) B v xs:=al h5 hk.keeps (by decide);exact⟨a1.below hB (fun i e=>by rw[e];exact h2),hk.imp fun e he=>.inl he,au h1 14 _,h2,⟨hk.heap h3.1 (by decide),aq.bs a0⟩,h4,a0,al h6 hk.keeps (by decide),al h7 hk.keeps (by decide),jE.seens h8 hk,h9,a2⟩
end
def Ax:Nat->List UInt8
 |0=> [91,123]
 |1=> [91,123,93]
 |3=> [125]
 |4=> [58]
 |5=> [44,93]
 |6=> [44,125]
 |_=> []
theorem FY (want:Nat)(c:UInt8):yS want c= (Ax want).contains c:=by
 rcases want with _|_|_|_|_|_|_|n <;> rfl
def kA (w:World):Prop:= ∀i,i<8->w.cell? ⟨7,i,none⟩=some (.string ⟨(Ax i).toArray⟩)
theorem kA.below (h:kA w)(hb:Below w.heap.size w w'):kA w':=fun i hi=>Zf hb (h i hi)
theorem nZ (a2:lv= (fs.length+1:Nat))(h:fd B w xb (f::fs) none bs)(ho:f.obj=false)(a5:f.name=none)(a3:f.ok jr)(hi:f.items.length<=4294967296)(a1:f.mems.length<=4294967296)(a4:kG fs)(hB:B<=w.heap.size):Calls Tryz.prog 73 #[.pointer (some ⟨xb,0,none⟩),.iface 214 (.agg #[.int .i64 lv,.int .i64 5])] w fun e w'=>mw B xb (bX fs (dM f)) w e w':=by
 have a0:=ac w (.cells #[.int .i64 lv,.int .i64 5] 214);have Hc:=Qa (xP a2 (h.below a0) ho a5 a3 hi a1 a4 (Zb hB a0.size));have a6:=Qa a0;have HB:=Qa hB;have q1:=uN;have q2:=jF;have q3:=jz;have q4:=jH;clear h a0 hB a2 ho a5 a3 hi a1 a4;go_enter Tryz.func73,Tryz.ntmps73;go_wp2_with fail;(with_reducible refine Hc.out.mono ?_);rintro e w' ⟨rfl,h1,h2,h3⟩;have R:=Qa (And.intro h1 (And.intro h2 h3));clear h1 h2 h3;go_wp2_with fail;go_end0;exact⟨rfl,(a6.out.mono HB.out).trans R.out.1,(Kp.of_below TB a6.out).trans R.out.2.1,R.out.2.2⟩
theorem oV (a2:lv= (fs.length+1:Nat))(h:fd B w xb (f::fs) none bs)(ho:f.obj=true)(a5:f.name=none)(a3:f.ok jr)(hi:f.items.length<=4294967296)(a1:f.mems.length<=4294967296)(a4:kG fs)(hB:B<=w.heap.size):Calls Tryz.prog 73 #[.pointer (some ⟨xb,0,none⟩),.iface 214 (.agg #[.int .i64 lv,.int .i64 6])] w fun e w'=>mw B xb (bX fs (dM f)) w e w':=by
 have a0:=ac w (.cells #[.int .i64 lv,.int .i64 6] 214);have Hc:=Qa (zV a2 (h.below a0) ho a5 a3 hi a1 a4 (Zb hB a0.size));have a6:=Qa a0;have HB:=Qa hB;have q1:=uN;have q2:=jF;have q3:=jz;have q4:=jH;clear h a0 hB a2 ho a5 a3 hi a1 a4;go_enter Tryz.func73,Tryz.ntmps73;go_wp2_with fail;(with_reducible refine Hc.out.mono ?_);rintro e w' ⟨rfl,h1,h2,h3⟩;have R:=Qa (And.intro h1 (And.intro h2 h3));clear h1 h2 h3;go_wp2_with fail;go_end0;exact⟨rfl,(a6.out.mono HB.out).trans R.out.1,(Kp.of_below TB a6.out).trans R.out.2.1,R.out.2.2⟩
