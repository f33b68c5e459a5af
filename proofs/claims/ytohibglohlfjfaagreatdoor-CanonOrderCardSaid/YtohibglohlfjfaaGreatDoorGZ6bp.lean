import Derived.Test.YtohibglohlfjfaaGreatDoorGZ6bo
set_option linter.unusedVariables false
set_option linter.unusedSimpArgs false
set_option maxHeartbeats 64000000
set_option maxRecDepth 100000
namespace Go.Proofs.YtohibglohlfjfaaGreatDoor
open Go.RowKit Go.Maps
variable {fin:Bool}{f:Fr}{by_ dp ex lv:Int}{frs fs:List Fr}{maps:List Nat}{xs:List UInt8}{B c lb n nd rb want xb:Nat}{F:Nat->Prop}{T:TypeId->Prop}{nv ov v:Value}{w w':World}
theorem Mv.of_keeps {top:List Nat}(h:aG T w w')(hT:∀e,TV e->¬T e):Mv top w w':=⟨h.1,fun g cs e z hg he _=>h.2 g cs e z hg (hT e he)⟩
theorem fi.keeps {done:Option JV}{bs:List Nat}(h:fi B w xb frs done bs)(hk:aG T w w')(hT:∀e,TB e->¬T e):fi B w' xb frs done bs:=by
 obtain⟨pv,dv,us,h1,h2,h3,h4,h5,h6,h7⟩:=h;have hm:Mv [] w w':=Mv.of_keeps hk (fun e he=>hT e (.inl he));have a0:∀g∈bs,g∈bs\/w.heap.size<=g:=fun g h=>.inl h
 exact⟨pv,dv,us,hk.2 _ _ _ _ h1 (hT _ (.inr (.inl rfl))),h2,al h3 hk (hT _ (.inr (.inr rfl))),h4.mono fun _ _ h=>h.move hm (by simp) a0 (by simp),h5,h6,h7.move hm (by simp) a0⟩
theorem pZ {b:Nat}{es:Array MapEntry}(hg:w.grownBy w' (some b))(hb:w.heap[b]?=some (.map es c)):aG (fun _=>False) w w':=
 aG.of_grown hg fun g e cs t z hh=>by
  obtain rfl:=Zi e;rw[hb] at hh
  cases hh
theorem dS.map {b:Nat}{names:List ByteArray}(h:dS w b names n):∃es c,w.heap[b]?=some (.map es c):=by
 obtain⟨D,⟨es,c,hh,-⟩,-⟩:=h;exact⟨es,c,hh⟩
theorem iu.named {k:Nat}{b:Nat}{s:ByteArray}{l:List ByteArray}(h:iu B w rb lb xb v xs (f::fs) want k nd fin by_ dp ex ov nv (b::maps))(ho:f.obj=true)(hn:f.name=none)(hl:∀t,t∈l↔t∈i7 f)(hnl:n<=f.mems.length)
  (hs:dS w' b (s::l) (n+1)) (hg:w.grownBy w' (some b)):iu B w' rb lb xb v xs ({f with name:=some s}::fs) want k nd fin by_ dp ex ov nv (b::maps):=by
 obtain⟨h1,h2,h3,h4,h5,h6,h7,h8,h9,a3⟩:=h;simp only[List.filter_cons,ho,if_true] at h8;obtain⟨a2,l0,n0,a1,-⟩:=h8.2 0 b f rfl rfl;obtain⟨es,c,hh⟩:=a1.map;have hk:=pZ hg hh;have a0:aq w' B v xs:=al h5 hk (fun h=>h);refine⟨hk.2 _ _ _ _ h1 (fun h=>h),h2,⟨hk.2 _ _ _ _ h3.1 (fun h=>h),aq.bs a0⟩,h4,a0,?_,al h7 hk (fun h=>h),?_,h9,a3⟩
 ·have:=al h6 hk (fun h=>h);simpa [gK] using this
 ·simp only[List.filter_cons,ho,if_true];refine⟨by simpa using h8.1,fun i x y q1 q2=>?_⟩
  cases i with
  |zero=>
   simp at q1 q2;subst q1 q2;refine⟨a2,s::l,n+1,hs,by simp;omega,fun t=>?_⟩;have:=hl t;simp only[i7,hn,Option.toList_none,List.nil_append,Option.toList_some,List.cons_append,List.mem_cons] at this ⊢;rw[this]
  |succ i=>
   obtain⟨z1,z2,z3,z4,z5⟩:=h8.2 (i+1) x y (by simpa using q1) (by simpa using q2);refine⟨z1,z2,z3,z4.grown hg fun e=>?_,z5⟩;obtain rfl:=Zi e;exact(List.nodup_cons.1 h9).1 (Zl (by simpa using q1))
theorem Cn {k:Nat}{s:ByteArray}{p:Int}{bs:List Nat}(hR:jO B w rb lb xb v xs (f::fs) want k nd false)(e0:fi B w xb (f::fs) none bs)(ho:f.obj=true)(b5:f.name=none)(e4:s∉f.mems.map Prod.fst)(hs:s.size<=4294967296)(hl:fs.length<=1000000000)(hm:f.mems.length<=1000000000)(hB:B<=w.heap.size):Calls Tryz.prog 144 #[.pointer (some ⟨rb,0,none⟩),.agg #[.int .i64 p,.string s]] w (IA B rb lb xb v xs ⟨{f with name:=some s}::fs,4,none⟩ k nd false w):=by
 have a9:=ac w (.cells #[.int .i64 p,.string s] 277);obtain⟨w1,c5⟩:∃w1,w.alloc (.cells #[.int .i64 p,.string s] 277)=w1:=⟨_,rfl⟩;have c7:=Qa (Zf w (.cells #[.int .i64 p,.string s] 277));rw[c5] at a9 c7;obtain⟨by_,dp,ex,ov,nv,maps,hA⟩:=hR.below a9;have a1:=hA.seen;simp only[List.filter_cons,ho,if_true] at a1
 cases maps with
 |nil=>have:=a1.1;simp at this
 |cons b maps=>
 obtain⟨f9,l,n,d4,hn,b8⟩:=a1.2 0 b f rfl rfl;have hnl:n<=f.mems.length:=by simpa [b5] using hn
 have d3:l.any (fun t=>decide (t=s))=false:=by
  rw[List.any_eq_false];intro t ht;have h1:=(b8 t).1 ht;simp only[i7,b5,Option.toList_none,List.nil_append] at h1;simp only[decide_eq_true_eq];rintro rfl;exact e4 h1
 have b4:=hA.names;obtain⟨A,q,rfl,-,-,e5⟩:=ag b4;obtain⟨g,rfl⟩:=e5 (by simp);obtain⟨m,b7⟩:∃m,maps.length=m:=⟨_,rfl⟩;rw[List.length_cons,b7] at b4;have cg:=World.ownsRow.cellAt b4 m (by omega);rw[List.reverse_cons,List.map_append,List.getElem?_append_right (by simp;omega),List.length_map,List.length_reverse,b7,Nat.sub_self] at cg;replace cg:w1.cell? ⟨g,m,none⟩=some (.map (some b)):=cg;have e8:m<=fs.length:=by
  have h1:=a1.1;have h2:=List.length_filter_le (fun g:Fr=>g.obj) fs;simp at h1;omega
 have c13:=aa hA.row (j:=13) (u:=.slice (some ⟨g,0,none⟩) (m+1) q) (by rw[<-b7];rfl);have e1:=aa c7.out (j:=1) (u:=.string s) rfl;have s1:IntKind.i64.wrap (m:Int)= (m:Int):=IntWalk.i64_in _ (by omega);have g2:(m:Int)< (m:Int)+1:=by omega
 have HA:=Qa hA;have e6:=Qa (e0.below a9);have HB:=Qa hB;have f2:=Qa a9;have f3:=Qa d4;have f6:=Qa b8;have g3:=Qa d3;have d5:=Qa (show s.size<=maxLen by unfold maxLen;omega);have g4:=Qa (show n<maxLen by unfold maxLen;omega);have f8:=Qa hnl;have Hl:=Qa hl;have g5:=Qa hm;clear hR hA a1 d4 hn b8 hnl d3 b4 e5 b7 e8 hB a9 hs e0 f9 e4 hm hl;go_enter Tryz.func144,Tryz.ntmps144;go_wp2_with fail
 try rw[c5]
 go_quiet (fail);obtain⟨wd,b9⟩:∃wd,w1.drewN nq=wd:=⟨_,rfl⟩;have a2:Below w1.heap.size w1 wd:=by rw[<-b9];exact av (Ze _ _) nq
 have d9:=Qa (HA.out.below a2);have c9:=Qa (e6.out.below a2);have c8:=Qa (ai c7.out a2);have e2:=Zg a2 e1;have a3:=Qa (f3.out.kp (Kp.of_below (fun _=>False) a2));have b0:=a3.out.look d5.out;rw[g3.out] at b0;have c0:=Qa (bu f2.out a2);rw[b9];clear c13 cg e1 a2 b9 c5;go_wp2_with (at_mapUpdate;refine vy a3.out d5.out g4.out rfl (.tmp 28) (.tmp 30) _ rfl (by simp[Act.eval]) (by simp[Act.eval]) (by simp[Act.eval]) ?_;intro w5 p1 p2;have b3:=d9.out.named ho b5 f6.out f8.out p1 p2.grown;obtain⟨es5,cl5,d1⟩:=a3.out.map;have b6:=pZ p2.grown d1;have c14:=aa b3.row (j:=14) (u:=.int .i64 want) rfl;have f14:=ak b3.row 14;have f4:=Qa b3;have c1:=Qa (c9.out.keeps b6 (fun _ _ h=>h));have c4:=Qa (b6.2 _ _ _ _ c8.out (fun h=>h));have f0:=Qa p2.grown;have f1:=Qa b6;clear p1 p2 b3 d1 b6);have d2:B<=b:=by
  have a1:=d9.out.seen;simp only[List.filter_cons,ho,if_true] at a1;exact(a1.2 0 b f rfl rfl).1
 have c6:Below B w w5:=(c0.out.mono HB.out).trans ((aZ.grown f0.out).below (Zc HB.out c0.out.size) fun i e=>by
  obtain rfl:=Zi e;exact d2)
 have b1:B<=w5.heap.size:=Zc HB.out c6.size;have a5:=Qa (f4.out.setWant b1 4 (z:=4) rfl);have g1:w5.heap.size= (w5.setCell ⟨rb,14,none⟩ (.int .i64 4)).heap.size:=by simp
 obtain⟨w6,d6⟩:∃w6,w5.setCell ⟨rb,14,none⟩ (.int .i64 4)=w6:=⟨_,rfl⟩;rw[d6] at a5 ⊢;have c3:=Qa (show cQ B w w6 from(⟨c6,(aG.of_below TA c0.out).trans (f1.out.imp fun _ h=>h.elim)⟩:cQ B w w5).trans (cQ.rd a5.out.1 a5.out.2.1));have c2:=Qa (c1.out.kp a5.out.2.1 bT);have a7:w6.heap[w.heap.size]?=some (.cells #[.int .i64 p,.string s] 277 (0,0)):=a5.out.2.1.heap c4.out (by simp only[lL];decide);have e3:=a5.out.2.2;obtain⟨wr,b2⟩:∃wr,w6.drew=wr:=⟨_,rfl⟩;have a4:Below w6.heap.size w6 wr:=by rw[<-b2];exact(Ze _ _).drew
 have a6:=e3.below a4;obtain⟨A12,q12,g0,-⟩:=ag a6.opens;subst g0;obtain⟨m9,d0⟩:∃m9,fs.length=m9:=⟨_,rfl⟩;have C11:=Qa (aa a6.row (j:=11) (u:=.func (.func 75) #[.pointer (some ⟨xb,0,none⟩)] #[]) rfl);have C12:=Qa (aa a6.row (j:=12) (u:=.slice A12 (m9+1) q12) (by rw[<-d0];rfl));have E1:=Qa (aa (ai a7 a4) (j:=1) (u:=.string s) rfl);have f5:=Qa (zG (lv:=(m9:Int)+1) (s:=s) (by omega) (c2.out.below a4) ho b5 (by have:=Hl.out;omega) (Zc (Zc HB.out c3.out.b.size) a4.size));have Hr:=Qa (And.intro (c3.out.trans (cQ.new a4 (Zc HB.out c3.out.b.size))) a6);clear c14 f14 a4 a6 a7 e3 d6 g1 b1 c6 d2 d0;refine cP (fun w2=>w2.cell? ⟨rb,11,none⟩=some (.func (.func 75) #[.pointer (some ⟨xb,0,none⟩)] #[])/\w2.cell? ⟨rb,12,none⟩=some (.slice A12 (m9+1) q12)/\w2.cell? ⟨w.heap.size,1,none⟩=some (.string s)) 13 ((by rw[b2];exact⟨C11.out,C12.out,E1.out⟩)) fun a0=>?_
 rw[b2] at a0 ⊢;clear b2;refine tR 0 a0 ?_;refine tR 1 a0 ?_;refine tR 2 a0 ?_;refine tR 3 a0 ?_;refine tR 4 a0 ?_;refine tR 5 a0 ?_
 try simp only[Act.put,jP,jQ,jR]
 refine tR 6 a0 ?_;refine tR 7 a0 ?_;refine tR 8 a0 ?_;refine tR 9 a0 ?_;refine tR 10 a0 ?_;refine tR 11 a0 ?_
 try simp only[Act.put,jP,jQ,jR]
 refine tR 12 a0 ?_
 try simp only[Act.put,jP,jQ,jR]
 refine rZ 13 fun K hK=>?_
 go_simp;refine Za f5 ?_;rintro e w4 ⟨rfl,h1,h2,h3⟩;have R:=Qa (And.intro h1 (And.intro h2 h3));clear h1 h2 h3;go_wp2_with fail;refine hK.out _ _ (fun h=>absurd rfl h) (fun _=>?_);clear hK K
 try simp only[Act.put,jP,jQ,jR]
 refine aW (by kernel_rfl) (NoPanic.normal ?_) _;go_end0;obtain⟨y1,y2,y3⟩:=R.out;exact⟨rfl,Hr.out.1.trans (cQ.tb y1 y2),Hr.out.2.s.tb y2,y3⟩
structure jC (B:Nat) (w:World) (rb lb xb:Nat) (v:Value) (xs:List UInt8) (ofr nfr:List Fr) (want k:Nat) (nd:Nat) (fin:Bool) (by_ dp ex:Int) (ov nv:Value) (maps:List Nat):Prop where
 row:w.heap[rb]?=some (.cells (dB lb xb by_ dp nd ex ov nv want fin) 205 (0,0))
 low:B<=rb
 lex:ph w lb v xs k
 llow:B<=lb
 own:aq w B v xs
 opens:w.ownsRow B 3 1 ov ofr.length (ofr.reverse.map gK)
 names:w.ownsRow B 311 1 nv maps.length (maps.reverse.map vQ)
 seen:bo (jN B w) maps (nfr.filter (·.obj))
 nodup:maps.Nodup
 le:k<=xs.length
section
variable {B rb lb xb want k nd:Nat}{w w' w5:World}{v:Value}{xs:List UInt8}{frs ofr nfr:List Fr}{fin:Bool}{by_ dp ex:Int}{ov nv:Value}{maps:List Nat}
theorem iu.b (h:iu B w rb lb xb v xs frs want k nd fin by_ dp ex ov nv maps):jC B w rb lb xb v xs frs frs want k nd fin by_ dp ex ov nv maps:=⟨h.row,h.low,h.lex,h.llow,h.own,h.opens,h.names,h.seen,h.nodup,h.le⟩
theorem jC.a (h:jC B w rb lb xb v xs frs frs want k nd fin by_ dp ex ov nv maps):iu B w rb lb xb v xs frs want k nd fin by_ dp ex ov nv maps:=⟨h.row,h.low,h.lex,h.llow,h.own,h.opens,h.names,h.seen,h.nodup,h.le⟩
theorem jC.below (h:jC B w rb lb xb v xs ofr nfr want k nd fin by_ dp ex ov nv maps)(hb:Below w.heap.size w w'):jC B w' rb lb xb v xs ofr nfr want k nd fin by_ dp ex ov nv maps:=by
 obtain⟨h1,h2,h3,h4,h5,h6,h7,h8,h9,a1⟩:=h;have a0:aq w' B v xs:=ao h5 hb (Zb _);refine⟨ai h1 hb,h2,h3.below hb,h4,a0,ao h6 hb (Zb _),ao h7 hb (Zb _),h8.mono fun a b h=>?_,h9,a1⟩;obtain⟨q1,l,n,q2,q3,q4⟩:=h;exact⟨q1,l,n,q2.kp (Kp.of_below (fun _=>False) hb),q3,q4⟩
theorem jC.stay (h:jC B w rb lb xb v xs ofr nfr want k nd fin by_ dp ex ov nv maps)(a0:aZ F w w')(hF:∀g,F g->g<w.heap.size->∃cs e z,w.heap[g]?=some (.cells cs e z)/\lL e):Kp lL w w':=Kp.of_chg a0 hF
theorem jC.seens (h:bo (jN B w) maps (nfr.filter (·.obj)))(hk:Kp T w w'):bo (jN B w') maps (nfr.filter (·.obj)):=h.mono fun a b h=>by
 obtain⟨q1,l,n,q2,q3,q4⟩:=h;exact⟨q1,l,n,q2.kp hk,q3,q4⟩
theorem jC.setOpen (h:jC B w rb lb xb v xs ofr nfr want k nd fin by_ dp ex ov nv maps)(hB:B<=w.heap.size)(a3:aZ F w w5)(hF:∀g,F g->ov.ownBlock=some g){ov':Value}{ofr':List Fr}(hp:w5.ownsRow B 3 1 ov' ofr'.length (ofr'.reverse.map gK)) :
  Below B w (w5.setCell ⟨rb,12,none⟩ ov')/\Kp lL w (w5.setCell ⟨rb,12,none⟩ ov')/\jC B (w5.setCell ⟨rb,12,none⟩ ov') rb lb xb v xs ofr' nfr want k nd fin by_ dp ex ov' nv maps:=by
 obtain⟨h1,h2,h3,h4,h5,h6,h7,h8,h9,a5⟩:=h;have a0:aZ (fun g=>F g\/g=rb) w (w5.setCell ⟨rb,12,none⟩ ov'):=(a3.mono fun _ h=>.inl h).trans (aZ.set rb 12 ov') fun i hi=>.inl (.inr hi)
 have a4:∀g,(F g\/g=rb)->g<w.heap.size->∃cs e z,w.heap[g]?=some (.cells cs e z)/\(e=3\/e=205):=fun g hg _=>by
  rcases hg with hg|rfl
  ·obtain⟨_,cur,hh⟩:=aj h6 (hF g hg);exact⟨_,_,_,hh,.inl rfl⟩
  ·exact⟨_,_,_,h1,.inr rfl⟩
 have hk:Kp (fun e=>e=3\/e=205) w (w5.setCell ⟨rb,12,none⟩ ov'):=Kp.of_chg a0 a4;have a1:aq (w5.setCell ⟨rb,12,none⟩ ov') B v xs:=al h5 hk.keeps (by decide);have hrb:rb<w.heap.size:=ae h1;have a2:w5.heap[rb]?=some (.cells (dB lb xb by_ dp nd ex ov nv want fin) 205 (0,0)):=(a3.block rb hrb fun hf=>aK h6 h1 (by decide) (hF rb hf)).trans h1;have hne:=aK hp a2 (by decide);refine⟨a0.below hB (fun i hi=>hi.elim (fun h=>(aj h6 (hF i h)).1) fun e=>by rw[e];exact h2),hk.imp fun e he=>he.elim (fun h=>.inr (.inr (.inl h))) fun h=>.inl h,au a2 12 ov',h2,⟨hk.heap h3.1 (by decide),aq.bs a1⟩,h4,a1,bw hp fun b hb=>(aZ.set rb 12 ov').block b (ae (aj hp hb).2.choose_spec) fun e=>hne (by rw[hb,e]),al h7 hk.keeps (by decide),jC.seens h8 hk,h9,a5⟩
theorem jC.setNames (h:jC B w rb lb xb v xs ofr nfr want k nd fin by_ dp ex ov nv maps)(hB:B<=w.heap.size)(a3:aZ F w w5)(hF:∀g,F g->nv.ownBlock=some g){nv':Value}{maps':List Nat}{nfr':List Fr}(hp:w5.ownsRow B 311 1 nv' maps'.length (maps'.reverse.map vQ))(a5:maps'.Nodup)
  (a4:∀w9,Kp (fun e=>e=311\/e=205) w w9->Kp (fun e=>e=205) w5 w9->bo (jN B w9) maps' (nfr'.filter (·.obj))) :
  Below B w (w5.setCell ⟨rb,13,none⟩ nv')/\Kp lL w (w5.setCell ⟨rb,13,none⟩ nv')/\jC B (w5.setCell ⟨rb,13,none⟩ nv') rb lb xb v xs ofr nfr' want k nd fin by_ dp ex ov nv' maps':=by
 obtain⟨h1,h2,h3,h4,h5,h6,h7,h8,h9,a9⟩:=h;have a0:aZ (fun g=>F g\/g=rb) w (w5.setCell ⟨rb,13,none⟩ nv'):=(a3.mono fun _ h=>.inl h).trans (aZ.set rb 13 nv') fun i hi=>.inl (.inr hi)
 have a7:∀g,(F g\/g=rb)->g<w.heap.size->∃cs e z,w.heap[g]?=some (.cells cs e z)/\(e=311\/e=205):=fun g hg _=>by
  rcases hg with hg|rfl
  ·obtain⟨_,cur,hh⟩:=aj h7 (hF g hg);exact⟨_,_,_,hh,.inl rfl⟩
  ·exact⟨_,_,_,h1,.inr rfl⟩
 have hk:Kp (fun e=>e=311\/e=205) w (w5.setCell ⟨rb,13,none⟩ nv'):=Kp.of_chg a0 a7;have a1:aq (w5.setCell ⟨rb,13,none⟩ nv') B v xs:=al h5 hk.keeps (by decide);have hrb:rb<w.heap.size:=ae h1;have a2:w5.heap[rb]?=some (.cells (dB lb xb by_ dp nd ex ov nv want fin) 205 (0,0)):=(a3.block rb hrb fun hf=>aK h7 h1 (by decide) (hF rb hf)).trans h1;have hne:=aK hp a2 (by decide);have a6:Kp (fun e=>e=205) w5 (w5.setCell ⟨rb,13,none⟩ nv'):=Kp.of_chg (aZ.set rb 13 nv') fun g e _=>by subst e;exact⟨_,_,_,a2,rfl⟩
 refine⟨a0.below hB (fun i hi=>hi.elim (fun h=>(aj h7 (hF i h)).1) fun e=>by rw[e];exact h2),hk.imp fun e he=>he.elim (fun h=>.inr (.inr (.inr h))) fun h=>.inl h,au a2 13 nv',h2,⟨hk.heap h3.1 (by decide),aq.bs a1⟩,h4,a1,al h6 hk.keeps (by decide),bw hp fun b hb=>(aZ.set rb 13 nv').block b (ae (aj hp hb).2.choose_spec) fun e=>hne (by rw[hb,e]),a4 _ hk a6,a5,a9⟩
theorem jC.setWant (h:jC B w rb lb xb v xs ofr nfr want k nd fin by_ dp ex ov nv maps)(hB:B<=w.heap.size)(n:Nat){z:Int}(hz:z=n):Below B w (w.setCell ⟨rb,14,none⟩ (.int .i64 z))/\Kp lL w (w.setCell ⟨rb,14,none⟩ (.int .i64 z))/\jC B (w.setCell ⟨rb,14,none⟩ (.int .i64 z)) rb lb xb v xs ofr nfr n k nd fin by_ dp ex ov nv maps:=by
 subst hz;obtain⟨h1,h2,h3,h4,h5,h6,h7,h8,h9,a2⟩:=h;have a1:=aZ.set (w:=w) rb 14 (.int .i64 n);have hk:Kp (fun e=>e=205) w (w.setCell ⟨rb,14,none⟩ (.int .i64 n)):=Kp.of_chg a1 fun g e _=>by subst e;exact⟨_,_,_,h1,rfl⟩
 have a0:aq (w.setCell ⟨rb,14,none⟩ (.int .i64 n)) B v xs:=al h5 hk.keeps (by decide);exact⟨a1.below hB (fun i e=>by rw[e];exact h2),hk.imp fun e he=>.inl he,au h1 14 _,h2,⟨hk.heap h3.1 (by decide),aq.bs a0⟩,h4,a0,al h6 hk.keeps (by decide),al h7 hk.keeps (by decide),jC.seens h8 hk,h9,a2⟩
end
def zn:Nat->List UInt8
 |0=> [91,123]
 |1=> [91,123,93]
 |3=> [125]
 |4=> [58]
 |5=> [44,93]
 |6=> [44,125]
 |_=> []
theorem GZ (want:Nat)(c:UInt8):BA want c= (zn want).contains c:=by
 rcases want with _|_|_|_|_|_|_|n <;> rfl
def kB (w:World):Prop:= ∀i,i<8->w.cell? ⟨8,i,none⟩=some (.string ⟨(zn i).toArray⟩)
theorem kB.below (h:kB w)(hb:Below w.heap.size w w'):kB w':=fun i hi=>Zg hb (h i hi)
theorem ni {bs:List Nat}(a2:lv= (fs.length+1:Nat))(h:fi B w xb (f::fs) none bs)(ho:f.obj=false)(a5:f.name=none)(a3:f.ok jB)(hi:f.items.length<=4294967296)(a1:f.mems.length<=4294967296)(a6:kv fs)(hB:B<=w.heap.size):Calls Tryz.prog 75 #[.pointer (some ⟨xb,0,none⟩),.iface 218 (.agg #[.int .i64 lv,.int .i64 5])] w fun e w'=>mo B xb (cV fs (dO f)) w e w':=by
 have a0:=ac w (.cells #[.int .i64 lv,.int .i64 5] 218);have Hc:=Qa (wh a2 (h.below a0) ho a5 a3 hi a1 a6 (Zc hB a0.size));have a4:=Qa a0;have HB:=Qa hB;have q1:=sf;have q2:=jE;have q3:=jF;have q4:=jy;clear h a0 hB a2 ho a5 a3 hi a1 a6;go_enter Tryz.func75,Tryz.ntmps75;go_wp2_with fail;refine Za Hc ?_;rintro e w' ⟨rfl,h1,h2,h3⟩;have R:=Qa (And.intro h1 (And.intro h2 h3));clear h1 h2 h3;go_wp2_with fail;go_end0;exact⟨rfl,(a4.out.mono HB.out).trans R.out.1,(Kp.of_below TB a4.out).trans R.out.2.1,R.out.2.2⟩
theorem oT {bs:List Nat}(a2:lv= (fs.length+1:Nat))(h:fi B w xb (f::fs) none bs)(ho:f.obj=true)(a5:f.name=none)(a3:f.ok jB)(hi:f.items.length<=4294967296)(a1:f.mems.length<=4294967296)(a6:kv fs)(hB:B<=w.heap.size):Calls Tryz.prog 75 #[.pointer (some ⟨xb,0,none⟩),.iface 218 (.agg #[.int .i64 lv,.int .i64 6])] w fun e w'=>mo B xb (cV fs (dO f)) w e w':=by
 have a0:=ac w (.cells #[.int .i64 lv,.int .i64 6] 218);have Hc:=Qa (zR a2 (h.below a0) ho a5 a3 hi a1 a6 (Zc hB a0.size));have a4:=Qa a0;have HB:=Qa hB;have q1:=sf;have q2:=jE;have q3:=jF;have q4:=jy;clear h a0 hB a2 ho a5 a3 hi a1 a6;go_enter Tryz.func75,Tryz.ntmps75;go_wp2_with fail;refine Za Hc ?_;rintro e w' ⟨rfl,h1,h2,h3⟩;have R:=Qa (And.intro h1 (And.intro h2 h3));clear h1 h2 h3;go_wp2_with fail;go_end0;exact⟨rfl,(a4.out.mono HB.out).trans R.out.1,(Kp.of_below TB a4.out).trans R.out.2.1,R.out.2.2⟩
