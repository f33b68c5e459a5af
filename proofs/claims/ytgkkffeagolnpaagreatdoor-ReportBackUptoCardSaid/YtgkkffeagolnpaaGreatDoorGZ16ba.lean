import Derived.Test.YtgkkffeagolnpaaGreatDoorGZ16az
set_option linter.unusedVariables false
set_option linter.unusedSimpArgs false
set_option maxHeartbeats 64000000
set_option maxRecDepth 100000
namespace Go.Proofs.YtgkkffeagolnpaaGreatDoor
open Go.RowKit Go.Maps
variable {fin:Bool}{f:Fr}{by_ dp ex lv:Int}{l:List ByteArray}{frs fs:List Fr}{maps:List Nat}{xs:List UInt8}{B c lb n nd rb want xb:Nat}{F:Nat->Prop}{T:TypeId->Prop}{nv ov v:Value}{w w':World}
theorem Mv.of_keeps {top:List Nat}(h:bL T w w')(hT:∀e,TV e->¬T e):Mv top w w':=⟨h.1,fun g cs e z hg he _=>h.2 g cs e z hg (hT e he)⟩
theorem d8.keeps {done:Option JV}{bs:List Nat}(h:d8 B w xb frs done bs)(hk:bL T w w')(hT:∀e,TB e->¬T e):d8 B w' xb frs done bs:=by
 obtain⟨pv,dv,us,h1,h2,h3,h4,h5,h6,h7⟩:=h;have hm:Mv [] w w':=Mv.of_keeps hk (fun e he=>hT e (.inl he));have a0:∀g∈bs,g∈bs\/w.heap.size<=g:=fun g h=>.inl h
 exact⟨pv,dv,us,hk.2 _ _ _ _ h1 (hT _ (.inr (.inl rfl))),h2,aw h3 hk (hT _ (.inr (.inr rfl))),h4.mono fun _ _ h=>h.move hm (by simp) a0 (by simp),h5,h6,h7.move hm (by simp) a0⟩
theorem oT {b:Nat}{es:Array MapEntry}(hg:w.grownBy w' (some b))(hb:w.heap[b]?=some (.map es c)):bL (fun _=>False) w w':=
 bL.of_grown hg fun g e cs t z hh=>by
  obtain rfl:=Zi e;rw[hb] at hh
  cases hh
theorem df.map {b:Nat}{names:List ByteArray}(h:df w b names n):∃es c,w.heap[b]?=some (.map es c):=by
 obtain⟨D,⟨es,c,hh,-⟩,-⟩:=h;exact⟨es,c,hh⟩
theorem fW.named {k:Nat}{b:Nat}{s:ByteArray}(h:fW B w rb lb xb v xs (f::fs) want k nd fin by_ dp ex ov nv (b::maps))(ho:f.obj=true)(hn:f.name=none)(hl:∀t,t∈l↔t∈fJ f)(a4:n<=f.mems.length)
  (hs:df w' b (s::l) (n+1)) (hg:w.grownBy w' (some b)):fW B w' rb lb xb v xs ({f with name:=some s}::fs) want k nd fin by_ dp ex ov nv (b::maps):=by
 obtain⟨h1,h2,h3,h4,h5,h6,h7,h8,h9,a1⟩:=h;simp only[List.filter_cons,ho,if_true] at h8;obtain⟨a2,l0,n0,a3,-⟩:=h8.2 0 b f rfl rfl;obtain⟨es,c,hh⟩:=a3.map;have hk:=oT hg hh;have a0:aq w' B v xs:=aw h5 hk (fun h=>h);refine⟨hk.2 _ _ _ _ h1 (fun h=>h),h2,⟨hk.2 _ _ _ _ h3.1 (fun h=>h),aq.bs a0⟩,h4,a0,?_,aw h7 hk (fun h=>h),?_,h9,a1⟩
 ·have:=aw h6 hk (fun h=>h);simpa [fD] using this
 ·simp only[List.filter_cons,ho,if_true];refine⟨by simpa using h8.1,fun i x y q1 q2=>?_⟩
  cases i with
  |zero=>
   simp at q1 q2;subst q1 q2;refine⟨a2,s::l,n+1,hs,by simp;omega,fun t=>?_⟩;have:=hl t;simp only[fJ,hn,Option.toList_none,List.nil_append,Option.toList_some,List.cons_append,List.mem_cons] at this ⊢;rw[this]
  |succ i=>
   obtain⟨z1,z2,z3,z4,z5⟩:=h8.2 (i+1) x y (by simpa using q1) (by simpa using q2);refine⟨z1,z2,z3,z4.grown hg fun e=>?_,z5⟩;obtain rfl:=Zi e;exact(List.nodup_cons.1 h9).1 (Zk (by simpa using q1))
theorem AG {k:Nat}{s:ByteArray}{p:Int}{bs:List Nat}(hR:gK B w rb lb xb v xs (f::fs) want k nd false)(f1:d8 B w xb (f::fs) none bs)(ho:f.obj=true)(c0:f.name=none)(d6:s∉f.mems.map Prod.fst)(hs:s.size<=4294967296)(hl:fs.length<=1000000000)(hm:f.mems.length<=1000000000)(hB:B<=w.heap.size):Calls Tryz.prog 169 #[.pointer (some ⟨rb,0,none⟩),.agg #[.int .i64 p,.string s]] w (It B rb lb xb v xs ⟨{f with name:=some s}::fs,4,none⟩ k nd false w):=by
 have b3:=aa w (.cells #[.int .i64 p,.string s] 296);obtain⟨w1,c5⟩:∃w1,w.alloc (.cells #[.int .i64 p,.string s] 296)=w1:=⟨_,rfl⟩;have c3:=Qa (Zf w (.cells #[.int .i64 p,.string s] 296));rw[c5] at b3 c3;obtain⟨by_,dp,ex,ov,nv,maps,hA⟩:=hR.below b3;have a1:=hA.seen;simp only[List.filter_cons,ho,if_true] at a1
 cases maps with
 |nil=>have:=a1.1;simp at this
 |cons b maps=>
 obtain⟨g3,l,n,e6,hn,d2⟩:=a1.2 0 b f rfl rfl;have d5:n<=f.mems.length:=by simpa [c0] using hn
 have d9:l.any (fun t=>decide (t=s))=false:=by
  rw[List.any_eq_false];intro t ht;have h1:=(d2 t).1 ht;simp only[fJ,c0,Option.toList_none,List.nil_append] at h1;simp only[decide_eq_true_eq];rintro rfl;exact d6 h1
 have c1:=hA.names;obtain⟨A,q,rfl,-,-,e3⟩:=ag c1;obtain⟨g,rfl⟩:=e3 (by simp);obtain⟨m,b8⟩:∃m,maps.length=m:=⟨_,rfl⟩;rw[List.length_cons,b8] at c1;have cg:=World.ownsRow.cellAt c1 m (by omega);rw[List.reverse_cons,List.map_append,List.getElem?_append_right (by simp;omega),List.length_map,List.length_reverse,b8,Nat.sub_self] at cg;replace cg:w1.cell? ⟨g,m,none⟩=some (.map (some b)):=cg;have f8:m<=fs.length:=by
  have h1:=a1.1;have h2:=List.length_filter_le (fun g:Fr=>g.obj) fs;simp at h1;omega
 have c13:=ac hA.row (j:=13) (u:=.slice (some ⟨g,0,none⟩) (m+1) q) (by rw[<-b8];rfl);have e1:=ac c3.out (j:=1) (u:=.string s) rfl;have s1:IntKind.i64.wrap (m:Int)= (m:Int):=IntWalk.i64_in _ (by omega);have f7:(m:Int)< (m:Int)+1:=by omega
 have HA:=Qa hA;have g7:=Qa (f1.below b3);have HB:=Qa hB;have g6:=Qa b3;have f9:=Qa e6;have g4:=Qa d2;have f4:=Qa d9;have e5:=Qa (show s.size<=maxLen by unfold maxLen;omega);have g8:=Qa (show n<maxLen by unfold maxLen;omega);have g1:=Qa d5;have Hl:=Qa hl;have h0:=Qa hm;clear hR hA a1 e6 hn d2 d5 d9 c1 e3 b8 f8 hB b3 hs f1 g3 d6 hm hl;go_enter Tryz.func169,Tryz.ntmps169;go_wp2_with fail
 try rw[c5]
 go_quiet (fail);obtain⟨wd,hwd⟩:∃wd,w1.drewN nq=wd:=⟨_,rfl⟩;have a3:Below w1.heap.size w1 wd:=by rw[<-hwd];exact ap (Ze _ _) nq
 have f0:=Qa (HA.out.below a3);have c4:=Qa (g7.out.below a3);have c6:=Qa (ah c3.out a3);have e2:=Zg a3 e1;have a2:=Qa (f9.out.kp (Kp.of_below (fun _=>False) a3));have b0:=a2.out.look e5.out;rw[f4.out] at b0;have c8:=Qa (aj g6.out a3);rw[hwd];clear c13 cg e1 a3 hwd c5;go_wp2_with (at_mapUpdate;refine rC a2.out e5.out g8.out rfl (.tmp 28) (.tmp 30) _ rfl (by simp[Act.eval]) (by simp[Act.eval]) (by simp[Act.eval]) ?_;intro w5 p1 p2;have b4:=f0.out.named ho c0 g4.out g1.out p1 p2.grown;obtain⟨es5,cl5,d3⟩:=a2.out.map;have b9:=oT p2.grown d3;have c14:=ac b4.row (j:=14) (u:=.int .i64 want) rfl;have f14:=al b4.row 14;have f3:=Qa b4;have c7:=Qa (c4.out.keeps b9 (fun _ _ h=>h));have c2:=Qa (b9.2 _ _ _ _ c6.out (fun h=>h));have f5:=Qa p2.grown;have g0:=Qa b9;clear p1 p2 b4 d3 b9);have d4:B<=b:=by
  have a1:=f0.out.seen;simp only[List.filter_cons,ho,if_true] at a1;exact(a1.2 0 b f rfl rfl).1
 have d1:Below B w w5:=(c8.out.mono HB.out).trans ((aP.grown f5.out).below (Zc HB.out c8.out.size) fun i e=>by
  obtain rfl:=Zi e;exact d4)
 have a9:B<=w5.heap.size:=Zc HB.out d1.size;have a4:=Qa (f3.out.setWant a9 4 (z:=4) rfl);have g5:w5.heap.size= (w5.setCell ⟨rb,14,none⟩ (.int .i64 4)).heap.size:=by simp
 obtain⟨w6,f2⟩:∃w6,w5.setCell ⟨rb,14,none⟩ (.int .i64 4)=w6:=⟨_,rfl⟩;rw[f2] at a4 ⊢;have d0:=Qa (show bQ B w w6 from(⟨d1,(bL.of_below TA c8.out).trans (g0.out.imp fun _ h=>h.elim)⟩:bQ B w w5).trans (bQ.rd a4.out.1 a4.out.2.1));have c9:=Qa (c7.out.kp a4.out.2.1 bE);have b1:w6.heap[w.heap.size]?=some (.cells #[.int .i64 p,.string s] 296 (0,0)):=a4.out.2.1.heap c2.out (by simp only[js];decide);have e4:=a4.out.2.2;obtain⟨wr,b5⟩:∃wr,w6.drew=wr:=⟨_,rfl⟩;have a5:Below w6.heap.size w6 wr:=by rw[<-b5];exact(Ze _ _).drew
 have b2:=e4.below a5;obtain⟨A12,q12,f6,-⟩:=ag b2.opens;subst f6;obtain⟨m9,e0⟩:∃m9,fs.length=m9:=⟨_,rfl⟩;have C11:=Qa (ac b2.row (j:=11) (u:=.func (.func 114) #[.pointer (some ⟨xb,0,none⟩)] #[]) rfl);have C12:=Qa (ac b2.row (j:=12) (u:=.slice A12 (m9+1) q12) (by rw[<-e0];rfl));have E1:=Qa (ac (ah b1 a5) (j:=1) (u:=.string s) rfl);have g2:=Qa (yj (lv:=(m9:Int)+1) (s:=s) (by omega) (c9.out.below a5) ho c0 (by have:=Hl.out;omega) (Zc (Zc HB.out d0.out.b.size) a5.size));have Hr:=Qa (And.intro (d0.out.trans (bQ.new a5 (Zc HB.out d0.out.b.size))) b2);clear c14 f14 a5 b2 b1 e4 f2 g5 a9 d1 d4 e0;refine cC (fun w2=>w2.cell? ⟨rb,11,none⟩=some (.func (.func 114) #[.pointer (some ⟨xb,0,none⟩)] #[])/\w2.cell? ⟨rb,12,none⟩=some (.slice A12 (m9+1) q12)/\w2.cell? ⟨w.heap.size,1,none⟩=some (.string s)) 13 ((by rw[b5];exact⟨C11.out,C12.out,E1.out⟩)) fun a0=>?_
 rw[b5] at a0 ⊢;clear b5;refine tR 0 a0 ?_;refine tR 1 a0 ?_;refine tR 2 a0 ?_;refine tR 3 a0 ?_;refine tR 4 a0 ?_;refine tR 5 a0 ?_
 try simp only[Act.put,jP,jQ,jR]
 refine tR 6 a0 ?_;refine tR 7 a0 ?_;refine tR 8 a0 ?_;refine tR 9 a0 ?_;refine tR 10 a0 ?_;refine tR 11 a0 ?_
 try simp only[Act.put,jP,jQ,jR]
 refine tR 12 a0 ?_
 try simp only[Act.put,jP,jQ,jR]
 refine rZ 13 fun K hK=>?_
 go_simp;refine Za g2 ?_;rintro e w4 ⟨rfl,h1,h2,h3⟩;have R:=Qa (And.intro h1 (And.intro h2 h3));clear h1 h2 h3;go_wp2_with fail;refine hK.out _ _ (fun h=>absurd rfl h) (fun _=>?_);clear hK K
 try simp only[Act.put,jP,jQ,jR]
 refine aK (by kernel_rfl) (NoPanic.normal ?_) _;go_end0;obtain⟨y1,y2,y3⟩:=R.out;exact⟨rfl,Hr.out.1.trans (bQ.tb y1 y2),Hr.out.2.s.tb y2,y3⟩
structure iV (B:Nat) (w:World) (rb lb xb:Nat) (v:Value) (xs:List UInt8) (ofr nfr:List Fr) (want k:Nat) (nd:Nat) (fin:Bool) (by_ dp ex:Int) (ov nv:Value) (maps:List Nat):Prop where
 row:w.heap[rb]?=some (.cells (bI lb xb by_ dp nd ex ov nv want fin) 238 (0,0))
 low:B<=rb
 lex:kE w lb v xs k
 llow:B<=lb
 own:aq w B v xs
 opens:w.ownsRow B 3 1 ov ofr.length (ofr.reverse.map fD)
 names:w.ownsRow B 308 1 nv maps.length (maps.reverse.map t7)
 seen:ch (iL B w) maps (nfr.filter (·.obj))
 nodup:maps.Nodup
 le:k<=xs.length
section
variable {B rb lb xb want k nd:Nat}{w w' w5:World}{v:Value}{xs:List UInt8}{frs ofr nfr:List Fr}{fin:Bool}{by_ dp ex:Int}{ov nv:Value}{maps:List Nat}
theorem fW.b (h:fW B w rb lb xb v xs frs want k nd fin by_ dp ex ov nv maps):iV B w rb lb xb v xs frs frs want k nd fin by_ dp ex ov nv maps:=⟨h.row,h.low,h.lex,h.llow,h.own,h.opens,h.names,h.seen,h.nodup,h.le⟩
theorem iV.a (h:iV B w rb lb xb v xs frs frs want k nd fin by_ dp ex ov nv maps):fW B w rb lb xb v xs frs want k nd fin by_ dp ex ov nv maps:=⟨h.row,h.low,h.lex,h.llow,h.own,h.opens,h.names,h.seen,h.nodup,h.le⟩
theorem iV.below (h:iV B w rb lb xb v xs ofr nfr want k nd fin by_ dp ex ov nv maps)(hb:Below w.heap.size w w'):iV B w' rb lb xb v xs ofr nfr want k nd fin by_ dp ex ov nv maps:=by
 obtain⟨h1,h2,h3,h4,h5,h6,h7,h8,h9,a1⟩:=h;have a0:aq w' B v xs:=ai h5 hb (Zb _);refine⟨ah h1 hb,h2,h3.below hb,h4,a0,ai h6 hb (Zb _),ai h7 hb (Zb _),h8.mono fun a b h=>?_,h9,a1⟩;obtain⟨q1,l,n,q2,q3,q4⟩:=h;exact⟨q1,l,n,q2.kp (Kp.of_below (fun _=>False) hb),q3,q4⟩
theorem iV.stay (h:iV B w rb lb xb v xs ofr nfr want k nd fin by_ dp ex ov nv maps)(a0:aP F w w')(hF:∀g,F g->g<w.heap.size->∃cs e z,w.heap[g]?=some (.cells cs e z)/\js e):Kp js w w':=Kp.of_chg a0 hF
theorem iV.seens (h:ch (iL B w) maps (nfr.filter (·.obj)))(hk:Kp T w w'):ch (iL B w') maps (nfr.filter (·.obj)):=h.mono fun a b h=>by
 obtain⟨q1,l,n,q2,q3,q4⟩:=h;exact⟨q1,l,n,q2.kp hk,q3,q4⟩
theorem iV.setOpen (h:iV B w rb lb xb v xs ofr nfr want k nd fin by_ dp ex ov nv maps)(hB:B<=w.heap.size)(a2:aP F w w5)(hF:∀g,F g->ov.ownBlock=some g){ov':Value}{ofr':List Fr}(hp:w5.ownsRow B 3 1 ov' ofr'.length (ofr'.reverse.map fD)) :
  Below B w (w5.setCell ⟨rb,12,none⟩ ov')/\Kp js w (w5.setCell ⟨rb,12,none⟩ ov')/\iV B (w5.setCell ⟨rb,12,none⟩ ov') rb lb xb v xs ofr' nfr want k nd fin by_ dp ex ov' nv maps:=by
 obtain⟨h1,h2,h3,h4,h5,h6,h7,h8,h9,a4⟩:=h;have a1:aP (fun g=>F g\/g=rb) w (w5.setCell ⟨rb,12,none⟩ ov'):=(a2.mono fun _ h=>.inl h).trans (aP.set rb 12 ov') fun i hi=>.inl (.inr hi)
 have a5:∀g,(F g\/g=rb)->g<w.heap.size->∃cs e z,w.heap[g]?=some (.cells cs e z)/\(e=3\/e=238):=fun g hg _=>by
  rcases hg with hg|rfl
  ·obtain⟨_,cur,hh⟩:=ao h6 (hF g hg);exact⟨_,_,_,hh,.inl rfl⟩
  ·exact⟨_,_,_,h1,.inr rfl⟩
 have hk:Kp (fun e=>e=3\/e=238) w (w5.setCell ⟨rb,12,none⟩ ov'):=Kp.of_chg a1 a5;have a0:aq (w5.setCell ⟨rb,12,none⟩ ov') B v xs:=aw h5 hk.keeps (by decide);have hrb:rb<w.heap.size:=ak h1;have a3:w5.heap[rb]?=some (.cells (bI lb xb by_ dp nd ex ov nv want fin) 238 (0,0)):=(a2.block rb hrb fun hf=>aL h6 h1 (by decide) (hF rb hf)).trans h1;have hne:=aL hp a3 (by decide);refine⟨a1.below hB (fun i hi=>hi.elim (fun h=>(ao h6 (hF i h)).1) fun e=>by rw[e];exact h2),hk.imp fun e he=>he.elim (fun h=>.inr (.inr (.inl h))) fun h=>.inl h,ar a3 12 ov',h2,⟨hk.heap h3.1 (by decide),aq.bs a0⟩,h4,a0,bh hp fun b hb=>(aP.set rb 12 ov').block b (ak (ao hp hb).2.choose_spec) fun e=>hne (by rw[hb,e]),aw h7 hk.keeps (by decide),iV.seens h8 hk,h9,a4⟩
theorem iV.setNames (h:iV B w rb lb xb v xs ofr nfr want k nd fin by_ dp ex ov nv maps)(hB:B<=w.heap.size)(a3:aP F w w5)(hF:∀g,F g->nv.ownBlock=some g){nv':Value}{maps':List Nat}{nfr':List Fr}(hp:w5.ownsRow B 308 1 nv' maps'.length (maps'.reverse.map t7))(a4:maps'.Nodup)
  (b1:∀w9,Kp (fun e=>e=308\/e=238) w w9->Kp (fun e=>e=238) w5 w9->ch (iL B w9) maps' (nfr'.filter (·.obj))) :
  Below B w (w5.setCell ⟨rb,13,none⟩ nv')/\Kp js w (w5.setCell ⟨rb,13,none⟩ nv')/\iV B (w5.setCell ⟨rb,13,none⟩ nv') rb lb xb v xs ofr nfr' want k nd fin by_ dp ex ov nv' maps':=by
 obtain⟨h1,h2,h3,h4,h5,h6,h7,h8,h9,a5⟩:=h;have a0:aP (fun g=>F g\/g=rb) w (w5.setCell ⟨rb,13,none⟩ nv'):=(a3.mono fun _ h=>.inl h).trans (aP.set rb 13 nv') fun i hi=>.inl (.inr hi)
 have a9:∀g,(F g\/g=rb)->g<w.heap.size->∃cs e z,w.heap[g]?=some (.cells cs e z)/\(e=308\/e=238):=fun g hg _=>by
  rcases hg with hg|rfl
  ·obtain⟨_,cur,hh⟩:=ao h7 (hF g hg);exact⟨_,_,_,hh,.inl rfl⟩
  ·exact⟨_,_,_,h1,.inr rfl⟩
 have hk:Kp (fun e=>e=308\/e=238) w (w5.setCell ⟨rb,13,none⟩ nv'):=Kp.of_chg a0 a9;have a1:aq (w5.setCell ⟨rb,13,none⟩ nv') B v xs:=aw h5 hk.keeps (by decide);have hrb:rb<w.heap.size:=ak h1;have a2:w5.heap[rb]?=some (.cells (bI lb xb by_ dp nd ex ov nv want fin) 238 (0,0)):=(a3.block rb hrb fun hf=>aL h7 h1 (by decide) (hF rb hf)).trans h1;have hne:=aL hp a2 (by decide);have b0:Kp (fun e=>e=238) w5 (w5.setCell ⟨rb,13,none⟩ nv'):=Kp.of_chg (aP.set rb 13 nv') fun g e _=>by subst e;exact⟨_,_,_,a2,rfl⟩
 refine⟨a0.below hB (fun i hi=>hi.elim (fun h=>(ao h7 (hF i h)).1) fun e=>by rw[e];exact h2),hk.imp fun e he=>he.elim (fun h=>.inr (.inr (.inr h))) fun h=>.inl h,ar a2 13 nv',h2,⟨hk.heap h3.1 (by decide),aq.bs a1⟩,h4,a1,aw h6 hk.keeps (by decide),bh hp fun b hb=>(aP.set rb 13 nv').block b (ak (ao hp hb).2.choose_spec) fun e=>hne (by rw[hb,e]),b1 _ hk b0,a4,a5⟩
theorem iV.setWant (h:iV B w rb lb xb v xs ofr nfr want k nd fin by_ dp ex ov nv maps)(hB:B<=w.heap.size)(n:Nat){z:Int}(hz:z=n):Below B w (w.setCell ⟨rb,14,none⟩ (.int .i64 z))/\Kp js w (w.setCell ⟨rb,14,none⟩ (.int .i64 z))/\iV B (w.setCell ⟨rb,14,none⟩ (.int .i64 z)) rb lb xb v xs ofr nfr n k nd fin by_ dp ex ov nv maps:=by
 subst hz;obtain⟨h1,h2,h3,h4,h5,h6,h7,h8,h9,a2⟩:=h;have a1:=aP.set (w:=w) rb 14 (.int .i64 n);have hk:Kp (fun e=>e=238) w (w.setCell ⟨rb,14,none⟩ (.int .i64 n)):=Kp.of_chg a1 fun g e _=>by subst e;exact⟨_,_,_,h1,rfl⟩
 have a0:aq (w.setCell ⟨rb,14,none⟩ (.int .i64 n)) B v xs:=aw h5 hk.keeps (by decide);exact⟨a1.below hB (fun i e=>by rw[e];exact h2),hk.imp fun e he=>.inl he,ar h1 14 _,h2,⟨hk.heap h3.1 (by decide),aq.bs a0⟩,h4,a0,aw h6 hk.keeps (by decide),aw h7 hk.keeps (by decide),iV.seens h8 hk,h9,a2⟩
end
def rl:Nat->List UInt8
 |0=> [91,123]
 |1=> [91,123,93]
 |3=> [125]
 |4=> [58]
 |5=> [44,93]
 |6=> [44,125]
 |_=> []
theorem AO (want:Nat)(c:UInt8):px want c= (rl want).contains c:=by
 rcases want with _|_|_|_|_|_|_|n <;> rfl
def iE (w:World):Prop:= ∀i,i<8->w.cell? ⟨13,i,none⟩=some (.string ⟨(rl i).toArray⟩)
theorem iE.below (h:iE w)(hb:Below w.heap.size w w'):iE w':=fun i hi=>Zg hb (h i hi)
theorem mZ {bs:List Nat}(a2:lv= (fs.length+1:Nat))(h:d8 B w xb (f::fs) none bs)(ho:f.obj=false)(a9:f.name=none)(a3:f.ok dd)(hi:f.items.length<=4294967296)(a4:f.mems.length<=4294967296)(a1:jy fs)(hB:B<=w.heap.size):Calls Tryz.prog 114 #[.pointer (some ⟨xb,0,none⟩),.iface 251 (.agg #[.int .i64 lv,.int .i64 5])] w fun e w'=>lF B xb (bD fs (cK f)) w e w':=by
 have a0:=aa w (.cells #[.int .i64 lv,.int .i64 5] 251);have Hc:=Qa (vC a2 (h.below a0) ho a9 a3 hi a4 a1 (Zc hB a0.size));have a5:=Qa a0;have HB:=Qa hB;have q1:=rP;have q2:=iW;have q3:=iO;have q4:=iY;clear h a0 hB a2 ho a9 a3 hi a4 a1;go_enter Tryz.func114,Tryz.ntmps114;go_wp2_with fail;refine Za Hc ?_;rintro e w' ⟨rfl,h1,h2,h3⟩;have R:=Qa (And.intro h1 (And.intro h2 h3));clear h1 h2 h3;go_wp2_with fail;go_end0;exact⟨rfl,(a5.out.mono HB.out).trans R.out.1,(Kp.of_below TB a5.out).trans R.out.2.1,R.out.2.2⟩
theorem nA {bs:List Nat}(a2:lv= (fs.length+1:Nat))(h:d8 B w xb (f::fs) none bs)(ho:f.obj=true)(a9:f.name=none)(a3:f.ok dd)(hi:f.items.length<=4294967296)(a4:f.mems.length<=4294967296)(a1:jy fs)(hB:B<=w.heap.size):Calls Tryz.prog 114 #[.pointer (some ⟨xb,0,none⟩),.iface 251 (.agg #[.int .i64 lv,.int .i64 6])] w fun e w'=>lF B xb (bD fs (cK f)) w e w':=by
 have a0:=aa w (.cells #[.int .i64 lv,.int .i64 6] 251);have Hc:=Qa (zm a2 (h.below a0) ho a9 a3 hi a4 a1 (Zc hB a0.size));have a5:=Qa a0;have HB:=Qa hB;have q1:=rP;have q2:=iW;have q3:=iO;have q4:=iY;clear h a0 hB a2 ho a9 a3 hi a4 a1;go_enter Tryz.func114,Tryz.ntmps114;go_wp2_with fail;refine Za Hc ?_;rintro e w' ⟨rfl,h1,h2,h3⟩;have R:=Qa (And.intro h1 (And.intro h2 h3));clear h1 h2 h3;go_wp2_with fail;go_end0;exact⟨rfl,(a5.out.mono HB.out).trans R.out.1,(Kp.of_below TB a5.out).trans R.out.2.1,R.out.2.2⟩
