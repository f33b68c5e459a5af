import Derived.Test.YtafobflehfecpaaGreatDoorGZ15az
set_option linter.unusedVariables false
set_option linter.unusedSimpArgs false
set_option maxHeartbeats 64000000
set_option maxRecDepth 100000
namespace Go.Proofs.YtafobflehfecpaaGreatDoor
open Go.RowKit Go.Maps
variable {fin:Bool}{f:Fr}{by_ dp ex lv:Int}{l:List ByteArray}{frs fs:List Fr}{maps:List Nat}{xs:List UInt8}{B c lb n nd rb want xb:Nat}{F:Nat->Prop}{T:TypeId->Prop}{nv ov v:Value}{w w':World}
theorem Mv.of_keeps {top:List Nat}(h:bz T w w')(hT:∀e,TV e->¬T e):Mv top w w':=⟨h.1,fun g cs e z hg he _=>h.2 g cs e z hg (hT e he)⟩
theorem dV.keeps {done:Option JV}{bs:List Nat}(h:dV B w xb frs done bs)(hk:bz T w w')(hT:∀e,TB e->¬T e):dV B w' xb frs done bs:=by
 obtain⟨pv,dv,us,h1,h2,h3,h4,h5,h6,h7⟩:=h;have hm:Mv [] w w':=Mv.of_keeps hk (fun e he=>hT e (.inl he));have a0:∀g∈bs,g∈bs\/w.heap.size<=g:=fun g h=>.inl h
 exact⟨pv,dv,us,hk.2 _ _ _ _ h1 (hT _ (.inr (.inl rfl))),h2,au h3 hk (hT _ (.inr (.inr rfl))),h4.mono fun _ _ h=>h.move hm (by simp) a0 (by simp),h5,h6,h7.move hm (by simp) a0⟩
theorem nA {b:Nat}{es:Array MapEntry}(hg:w.grownBy w' (some b))(hb:w.heap[b]?=some (.map es c)):bz (fun _=>False) w w':=
 bz.of_grown hg fun g e cs t z hh=>by
  obtain rfl:=Zi e;rw[hb] at hh
  cases hh
theorem cS.map {b:Nat}{names:List ByteArray}(h:cS w b names n):∃es c,w.heap[b]?=some (.map es c):=by
 obtain⟨D,⟨es,c,hh,-⟩,-⟩:=h;exact⟨es,c,hh⟩
theorem fp.named {k:Nat}{b:Nat}{s:ByteArray}(h:fp B w rb lb xb v xs (f::fs) want k nd fin by_ dp ex ov nv (b::maps))(ho:f.obj=true)(hn:f.name=none)(hl:∀t,t∈l↔t∈fJ f)(a4:n<=f.mems.length)
  (hs:cS w' b (s::l) (n+1)) (hg:w.grownBy w' (some b)):fp B w' rb lb xb v xs ({f with name:=some s}::fs) want k nd fin by_ dp ex ov nv (b::maps):=by
 obtain⟨h1,h2,h3,h4,h5,h6,h7,h8,h9,a1⟩:=h;simp only[List.filter_cons,ho,if_true] at h8;obtain⟨a2,l0,n0,a3,-⟩:=h8.2 0 b f rfl rfl;obtain⟨es,c,hh⟩:=a3.map;have hk:=nA hg hh;have a0:ao w' B v xs:=au h5 hk (fun h=>h);refine⟨hk.2 _ _ _ _ h1 (fun h=>h),h2,⟨hk.2 _ _ _ _ h3.1 (fun h=>h),ao.bs a0⟩,h4,a0,?_,au h7 hk (fun h=>h),?_,h9,a1⟩
 ·have:=au h6 hk (fun h=>h);simpa [eJ] using this
 ·simp only[List.filter_cons,ho,if_true];refine⟨by simpa using h8.1,fun i x y q1 q2=>?_⟩
  cases i with
  |zero=>
   simp at q1 q2;subst q1 q2;refine⟨a2,s::l,n+1,hs,by simp;omega,fun t=>?_⟩;have:=hl t;simp only[fJ,hn,Option.toList_none,List.nil_append,Option.toList_some,List.cons_append,List.mem_cons] at this ⊢;rw[this]
  |succ i=>
   obtain⟨z1,z2,z3,z4,z5⟩:=h8.2 (i+1) x y (by simpa using q1) (by simpa using q2);refine⟨z1,z2,z3,z4.grown hg fun e=>?_,z5⟩;obtain rfl:=Zi e;exact(List.nodup_cons.1 h9).1 (Zk (by simpa using q1))
theorem zY {k:Nat}{s:ByteArray}{p:Int}{bs:List Nat}(hR:gH B w rb lb xb v xs (f::fs) want k nd false)(f1:dV B w xb (f::fs) none bs)(ho:f.obj=true)(b5:f.name=none)(e3:s∉f.mems.map Prod.fst)(hs:s.size<=4294967296)(hl:fs.length<=1000000000)(hm:f.mems.length<=1000000000)(hB:B<=w.heap.size):Calls Tryz.prog 155 #[.pointer (some ⟨rb,0,none⟩),.agg #[.int .i64 p,.string s]] w (Fe B rb lb xb v xs ⟨{f with name:=some s}::fs,4,none⟩ k nd false w):=by
 have b0:=ac w (.cells #[.int .i64 p,.string s] 277);obtain⟨w1,d0⟩:∃w1,w.alloc (.cells #[.int .i64 p,.string s] 277)=w1:=⟨_,rfl⟩;have c3:=Qa (Zf w (.cells #[.int .i64 p,.string s] 277));rw[d0] at b0 c3;obtain⟨by_,dp,ex,ov,nv,maps,hA⟩:=hR.below b0;have a1:=hA.seen;simp only[List.filter_cons,ho,if_true] at a1
 cases maps with
 |nil=>have:=a1.1;simp at this
 |cons b maps=>
 obtain⟨f9,l,n,e6,hn,c8⟩:=a1.2 0 b f rfl rfl;have d9:n<=f.mems.length:=by simpa [b5] using hn
 have d4:l.any (fun t=>decide (t=s))=false:=by
  rw[List.any_eq_false];intro t ht;have h1:=(c8 t).1 ht;simp only[fJ,b5,Option.toList_none,List.nil_append] at h1;simp only[decide_eq_true_eq];rintro rfl;exact e3 h1
 have c0:=hA.names;obtain⟨A,q,rfl,-,-,f2⟩:=af c0;obtain⟨g,rfl⟩:=f2 (by simp);obtain⟨m,b9⟩:∃m,maps.length=m:=⟨_,rfl⟩;rw[List.length_cons,b9] at c0;have cg:=World.ownsRow.cellAt c0 m (by omega);rw[List.reverse_cons,List.map_append,List.getElem?_append_right (by simp;omega),List.length_map,List.length_reverse,b9,Nat.sub_self] at cg;replace cg:w1.cell? ⟨g,m,none⟩=some (.map (some b)):=cg;have g7:m<=fs.length:=by
  have h1:=a1.1;have h2:=List.length_filter_le (fun g:Fr=>g.obj) fs;simp at h1;omega
 have c13:=aa hA.row (j:=13) (u:=.slice (some ⟨g,0,none⟩) (m+1) q) (by rw[<-b9];rfl);have e1:=aa c3.out (j:=1) (u:=.string s) rfl;have s1:IntKind.i64.wrap (m:Int)= (m:Int):=IntWalk.i64_in _ (by omega);have f3:(m:Int)< (m:Int)+1:=by omega
 have HA:=Qa hA;have g0:=Qa (f1.below b0);have HB:=Qa hB;have f7:=Qa b0;have g8:=Qa e6;have g1:=Qa c8;have g5:=Qa d4;have d3:=Qa (show s.size<=maxLen by unfold maxLen;omega);have g6:=Qa (show n<maxLen by unfold maxLen;omega);have f4:=Qa d9;have Hl:=Qa hl;have h0:=Qa hm;clear hR hA a1 e6 hn c8 d9 d4 c0 f2 b9 g7 hB b0 hs f1 f9 e3 hm hl;go_enter Tryz.func155,Tryz.ntmps155;go_wp2_with fail
 try rw[d0]
 go_quiet (fail);obtain⟨wd,hwd⟩:∃wd,w1.drewN nq=wd:=⟨_,rfl⟩;have a3:Below w1.heap.size w1 wd:=by rw[<-hwd];exact ap (Ze _ _) nq
 have e5:=Qa (HA.out.below a3);have d1:=Qa (g0.out.below a3);have c7:=Qa (ah c3.out a3);have e2:=Zg a3 e1;have a2:=Qa (g8.out.kp (Kp.of_below (fun _=>False) a3));have b3:=a2.out.look d3.out;rw[g5.out] at b3;have d2:=Qa (ak f7.out a3);rw[hwd];clear c13 cg e1 a3 hwd d0;go_wp2_with (at_mapUpdate;refine rX a2.out d3.out g6.out rfl (.tmp 28) (.tmp 30) _ rfl (by simp[Act.eval]) (by simp[Act.eval]) (by simp[Act.eval]) ?_;intro w5 p1 p2;have c1:=e5.out.named ho b5 g1.out f4.out p1 p2.grown;obtain⟨es5,cl5,e4⟩:=a2.out.map;have b8:=nA p2.grown e4;have c14:=aa c1.row (j:=14) (u:=.int .i64 want) rfl;have f14:=aj c1.row 14;have g2:=Qa c1;have c9:=Qa (d1.out.keeps b8 (fun _ _ h=>h));have c2:=Qa (b8.2 _ _ _ _ c7.out (fun h=>h));have f6:=Qa p2.grown;have g3:=Qa b8;clear p1 p2 c1 e4 b8);have d5:B<=b:=by
  have a1:=e5.out.seen;simp only[List.filter_cons,ho,if_true] at a1;exact(a1.2 0 b f rfl rfl).1
 have c5:Below B w w5:=(d2.out.mono HB.out).trans ((aM.grown f6.out).below (Zc HB.out d2.out.size) fun i e=>by
  obtain rfl:=Zi e;exact d5)
 have b2:B<=w5.heap.size:=Zc HB.out c5.size;have a4:=Qa (g2.out.setWant b2 4 (z:=4) rfl);have f8:w5.heap.size= (w5.setCell ⟨rb,14,none⟩ (.int .i64 4)).heap.size:=by simp
 obtain⟨w6,d6⟩:∃w6,w5.setCell ⟨rb,14,none⟩ (.int .i64 4)=w6:=⟨_,rfl⟩;rw[d6] at a4 ⊢;have c6:=Qa (show bZ B w w6 from(⟨c5,(bz.of_below TA d2.out).trans (g3.out.imp fun _ h=>h.elim)⟩:bZ B w w5).trans (bZ.rd a4.out.1 a4.out.2.1));have c4:=Qa (c9.out.kp a4.out.2.1 bq);have b1:w6.heap[w.heap.size]?=some (.cells #[.int .i64 p,.string s] 277 (0,0)):=a4.out.2.1.heap c2.out (by simp only[j1];decide);have e0:=a4.out.2.2;obtain⟨wr,b4⟩:∃wr,w6.drew=wr:=⟨_,rfl⟩;have a5:Below w6.heap.size w6 wr:=by rw[<-b4];exact(Ze _ _).drew
 have a9:=e0.below a5;obtain⟨A12,q12,g4,-⟩:=af a9.opens;subst g4;obtain⟨m9,f0⟩:∃m9,fs.length=m9:=⟨_,rfl⟩;have C11:=Qa (aa a9.row (j:=11) (u:=.func (.func 99) #[.pointer (some ⟨xb,0,none⟩)] #[]) rfl);have C12:=Qa (aa a9.row (j:=12) (u:=.slice A12 (m9+1) q12) (by rw[<-f0];rfl));have E1:=Qa (aa (ah b1 a5) (j:=1) (u:=.string s) rfl);have f5:=Qa (xO (lv:=(m9:Int)+1) (s:=s) (by omega) (c4.out.below a5) ho b5 (by have:=Hl.out;omega) (Zc (Zc HB.out c6.out.b.size) a5.size));have Hr:=Qa (And.intro (c6.out.trans (bZ.new a5 (Zc HB.out c6.out.b.size))) a9);clear c14 f14 a5 a9 b1 e0 d6 f8 b2 c5 d5 f0;refine ch (fun w2=>w2.cell? ⟨rb,11,none⟩=some (.func (.func 99) #[.pointer (some ⟨xb,0,none⟩)] #[])/\w2.cell? ⟨rb,12,none⟩=some (.slice A12 (m9+1) q12)/\w2.cell? ⟨w.heap.size,1,none⟩=some (.string s)) 13 ((by rw[b4];exact⟨C11.out,C12.out,E1.out⟩)) fun a0=>?_
 rw[b4] at a0 ⊢;clear b4;refine tR 0 a0 ?_;refine tR 1 a0 ?_;refine tR 2 a0 ?_;refine tR 3 a0 ?_;refine tR 4 a0 ?_;refine tR 5 a0 ?_
 try simp only[Act.put,jP,jQ,jR]
 refine tR 6 a0 ?_;refine tR 7 a0 ?_;refine tR 8 a0 ?_;refine tR 9 a0 ?_;refine tR 10 a0 ?_;refine tR 11 a0 ?_
 try simp only[Act.put,jP,jQ,jR]
 refine tR 12 a0 ?_
 try simp only[Act.put,jP,jQ,jR]
 refine rZ 13 fun K hK=>?_
 go_simp;refine Za f5 ?_;rintro e w4 ⟨rfl,h1,h2,h3⟩;have R:=Qa (And.intro h1 (And.intro h2 h3));clear h1 h2 h3;go_wp2_with fail;refine hK.out _ _ (fun h=>absurd rfl h) (fun _=>?_);clear hK K
 try simp only[Act.put,jP,jQ,jR]
 refine aH (by kernel_rfl) (NoPanic.normal ?_) _;go_end0;obtain⟨y1,y2,y3⟩:=R.out;exact⟨rfl,Hr.out.1.trans (bZ.tb y1 y2),Hr.out.2.s.tb y2,y3⟩
structure gL (B:Nat) (w:World) (rb lb xb:Nat) (v:Value) (xs:List UInt8) (ofr nfr:List Fr) (want k:Nat) (nd:Nat) (fin:Bool) (by_ dp ex:Int) (ov nv:Value) (maps:List Nat):Prop where
 row:w.heap[rb]?=some (.cells (cv lb xb by_ dp nd ex ov nv want fin) 225 (0,0))
 low:B<=rb
 lex:mG w lb v xs k
 llow:B<=lb
 own:ao w B v xs
 opens:w.ownsRow B 3 1 ov ofr.length (ofr.reverse.map eJ)
 names:w.ownsRow B 305 1 nv maps.length (maps.reverse.map vc)
 seen:cd (gV B w) maps (nfr.filter (·.obj))
 nodup:maps.Nodup
 le:k<=xs.length
section
variable {B rb lb xb want k nd:Nat}{w w' w5:World}{v:Value}{xs:List UInt8}{frs ofr nfr:List Fr}{fin:Bool}{by_ dp ex:Int}{ov nv:Value}{maps:List Nat}
theorem fp.b (h:fp B w rb lb xb v xs frs want k nd fin by_ dp ex ov nv maps):gL B w rb lb xb v xs frs frs want k nd fin by_ dp ex ov nv maps:=⟨h.row,h.low,h.lex,h.llow,h.own,h.opens,h.names,h.seen,h.nodup,h.le⟩
theorem gL.a (h:gL B w rb lb xb v xs frs frs want k nd fin by_ dp ex ov nv maps):fp B w rb lb xb v xs frs want k nd fin by_ dp ex ov nv maps:=⟨h.row,h.low,h.lex,h.llow,h.own,h.opens,h.names,h.seen,h.nodup,h.le⟩
theorem gL.below (h:gL B w rb lb xb v xs ofr nfr want k nd fin by_ dp ex ov nv maps)(hb:Below w.heap.size w w'):gL B w' rb lb xb v xs ofr nfr want k nd fin by_ dp ex ov nv maps:=by
 obtain⟨h1,h2,h3,h4,h5,h6,h7,h8,h9,a1⟩:=h;have a0:ao w' B v xs:=ai h5 hb (Zb _);refine⟨ah h1 hb,h2,h3.below hb,h4,a0,ai h6 hb (Zb _),ai h7 hb (Zb _),h8.mono fun a b h=>?_,h9,a1⟩;obtain⟨q1,l,n,q2,q3,q4⟩:=h;exact⟨q1,l,n,q2.kp (Kp.of_below (fun _=>False) hb),q3,q4⟩
theorem gL.stay (h:gL B w rb lb xb v xs ofr nfr want k nd fin by_ dp ex ov nv maps)(a0:aM F w w')(hF:∀g,F g->g<w.heap.size->∃cs e z,w.heap[g]?=some (.cells cs e z)/\j1 e):Kp j1 w w':=Kp.of_chg a0 hF
theorem gL.seens (h:cd (gV B w) maps (nfr.filter (·.obj)))(hk:Kp T w w'):cd (gV B w') maps (nfr.filter (·.obj)):=h.mono fun a b h=>by
 obtain⟨q1,l,n,q2,q3,q4⟩:=h;exact⟨q1,l,n,q2.kp hk,q3,q4⟩
theorem gL.setOpen (h:gL B w rb lb xb v xs ofr nfr want k nd fin by_ dp ex ov nv maps)(hB:B<=w.heap.size)(a2:aM F w w5)(hF:∀g,F g->ov.ownBlock=some g){ov':Value}{ofr':List Fr}(hp:w5.ownsRow B 3 1 ov' ofr'.length (ofr'.reverse.map eJ)) :
  Below B w (w5.setCell ⟨rb,12,none⟩ ov')/\Kp j1 w (w5.setCell ⟨rb,12,none⟩ ov')/\gL B (w5.setCell ⟨rb,12,none⟩ ov') rb lb xb v xs ofr' nfr want k nd fin by_ dp ex ov' nv maps:=by
 obtain⟨h1,h2,h3,h4,h5,h6,h7,h8,h9,a4⟩:=h;have a0:aM (fun g=>F g\/g=rb) w (w5.setCell ⟨rb,12,none⟩ ov'):=(a2.mono fun _ h=>.inl h).trans (aM.set rb 12 ov') fun i hi=>.inl (.inr hi)
 have a5:∀g,(F g\/g=rb)->g<w.heap.size->∃cs e z,w.heap[g]?=some (.cells cs e z)/\(e=3\/e=225):=fun g hg _=>by
  rcases hg with hg|rfl
  ·obtain⟨_,cur,hh⟩:=al h6 (hF g hg);exact⟨_,_,_,hh,.inl rfl⟩
  ·exact⟨_,_,_,h1,.inr rfl⟩
 have hk:Kp (fun e=>e=3\/e=225) w (w5.setCell ⟨rb,12,none⟩ ov'):=Kp.of_chg a0 a5;have a1:ao (w5.setCell ⟨rb,12,none⟩ ov') B v xs:=au h5 hk.keeps (by decide);have hrb:rb<w.heap.size:=ag h1;have a3:w5.heap[rb]?=some (.cells (cv lb xb by_ dp nd ex ov nv want fin) 225 (0,0)):=(a2.block rb hrb fun hf=>aD h6 h1 (by decide) (hF rb hf)).trans h1;have hne:=aD hp a3 (by decide);refine⟨a0.below hB (fun i hi=>hi.elim (fun h=>(al h6 (hF i h)).1) fun e=>by rw[e];exact h2),hk.imp fun e he=>he.elim (fun h=>.inr (.inr (.inl h))) fun h=>.inl h,ar a3 12 ov',h2,⟨hk.heap h3.1 (by decide),ao.bs a1⟩,h4,a1,a8 hp fun b hb=>(aM.set rb 12 ov').block b (ag (al hp hb).2.choose_spec) fun e=>hne (by rw[hb,e]),au h7 hk.keeps (by decide),gL.seens h8 hk,h9,a4⟩
theorem gL.setNames (h:gL B w rb lb xb v xs ofr nfr want k nd fin by_ dp ex ov nv maps)(hB:B<=w.heap.size)(a3:aM F w w5)(hF:∀g,F g->nv.ownBlock=some g){nv':Value}{maps':List Nat}{nfr':List Fr}(hp:w5.ownsRow B 305 1 nv' maps'.length (maps'.reverse.map vc))(a5:maps'.Nodup)
  (b0:∀w9,Kp (fun e=>e=305\/e=225) w w9->Kp (fun e=>e=225) w5 w9->cd (gV B w9) maps' (nfr'.filter (·.obj))) :
  Below B w (w5.setCell ⟨rb,13,none⟩ nv')/\Kp j1 w (w5.setCell ⟨rb,13,none⟩ nv')/\gL B (w5.setCell ⟨rb,13,none⟩ nv') rb lb xb v xs ofr nfr' want k nd fin by_ dp ex ov nv' maps':=by
 obtain⟨h1,h2,h3,h4,h5,h6,h7,h8,h9,a9⟩:=h;have a0:aM (fun g=>F g\/g=rb) w (w5.setCell ⟨rb,13,none⟩ nv'):=(a3.mono fun _ h=>.inl h).trans (aM.set rb 13 nv') fun i hi=>.inl (.inr hi)
 have b1:∀g,(F g\/g=rb)->g<w.heap.size->∃cs e z,w.heap[g]?=some (.cells cs e z)/\(e=305\/e=225):=fun g hg _=>by
  rcases hg with hg|rfl
  ·obtain⟨_,cur,hh⟩:=al h7 (hF g hg);exact⟨_,_,_,hh,.inl rfl⟩
  ·exact⟨_,_,_,h1,.inr rfl⟩
 have hk:Kp (fun e=>e=305\/e=225) w (w5.setCell ⟨rb,13,none⟩ nv'):=Kp.of_chg a0 b1;have a1:ao (w5.setCell ⟨rb,13,none⟩ nv') B v xs:=au h5 hk.keeps (by decide);have hrb:rb<w.heap.size:=ag h1;have a2:w5.heap[rb]?=some (.cells (cv lb xb by_ dp nd ex ov nv want fin) 225 (0,0)):=(a3.block rb hrb fun hf=>aD h7 h1 (by decide) (hF rb hf)).trans h1;have hne:=aD hp a2 (by decide);have a4:Kp (fun e=>e=225) w5 (w5.setCell ⟨rb,13,none⟩ nv'):=Kp.of_chg (aM.set rb 13 nv') fun g e _=>by subst e;exact⟨_,_,_,a2,rfl⟩
 refine⟨a0.below hB (fun i hi=>hi.elim (fun h=>(al h7 (hF i h)).1) fun e=>by rw[e];exact h2),hk.imp fun e he=>he.elim (fun h=>.inr (.inr (.inr h))) fun h=>.inl h,ar a2 13 nv',h2,⟨hk.heap h3.1 (by decide),ao.bs a1⟩,h4,a1,au h6 hk.keeps (by decide),a8 hp fun b hb=>(aM.set rb 13 nv').block b (ag (al hp hb).2.choose_spec) fun e=>hne (by rw[hb,e]),b0 _ hk a4,a5,a9⟩
theorem gL.setWant (h:gL B w rb lb xb v xs ofr nfr want k nd fin by_ dp ex ov nv maps)(hB:B<=w.heap.size)(n:Nat){z:Int}(hz:z=n):Below B w (w.setCell ⟨rb,14,none⟩ (.int .i64 z))/\Kp j1 w (w.setCell ⟨rb,14,none⟩ (.int .i64 z))/\gL B (w.setCell ⟨rb,14,none⟩ (.int .i64 z)) rb lb xb v xs ofr nfr n k nd fin by_ dp ex ov nv maps:=by
 subst hz;obtain⟨h1,h2,h3,h4,h5,h6,h7,h8,h9,a2⟩:=h;have a1:=aM.set (w:=w) rb 14 (.int .i64 n);have hk:Kp (fun e=>e=225) w (w.setCell ⟨rb,14,none⟩ (.int .i64 n)):=Kp.of_chg a1 fun g e _=>by subst e;exact⟨_,_,_,h1,rfl⟩
 have a0:ao (w.setCell ⟨rb,14,none⟩ (.int .i64 n)) B v xs:=au h5 hk.keeps (by decide);exact⟨a1.below hB (fun i e=>by rw[e];exact h2),hk.imp fun e he=>.inl he,ar h1 14 _,h2,⟨hk.heap h3.1 (by decide),ao.bs a0⟩,h4,a0,au h6 hk.keeps (by decide),au h7 hk.keeps (by decide),gL.seens h8 hk,h9,a2⟩
end
def xl:Nat->List UInt8
 |0=> [91,123]
 |1=> [91,123,93]
 |3=> [125]
 |4=> [58]
 |5=> [44,93]
 |6=> [44,125]
 |_=> []
theorem EE (want:Nat)(c:UInt8):yf want c= (xl want).contains c:=by
 rcases want with _|_|_|_|_|_|_|n <;> rfl
def jx (w:World):Prop:= ∀i,i<8->w.cell? ⟨13,i,none⟩=some (.string ⟨(xl i).toArray⟩)
theorem jx.below (h:jx w)(hb:Below w.heap.size w w'):jx w':=fun i hi=>Zg hb (h i hi)
theorem li {bs:List Nat}(a1:lv= (fs.length+1:Nat))(h:dV B w xb (f::fs) none bs)(ho:f.obj=false)(a2:f.name=none)(a5:f.ok eC)(hi:f.items.length<=4294967296)(a3:f.mems.length<=4294967296)(a4:iM fs)(hB:B<=w.heap.size):Calls Tryz.prog 99 #[.pointer (some ⟨xb,0,none⟩),.iface 238 (.agg #[.int .i64 lv,.int .i64 5])] w fun e w'=>kw B xb (bu fs (cN f)) w e w':=by
 have a0:=ac w (.cells #[.int .i64 lv,.int .i64 5] 238);have Hc:=Qa (uI a1 (h.below a0) ho a2 a5 hi a3 a4 (Zc hB a0.size));have a9:=Qa a0;have HB:=Qa hB;have q1:=rq;have q2:=gQ;have q3:=gE;have q4:=gG;clear h a0 hB a1 ho a2 a5 hi a3 a4;go_enter Tryz.func99,Tryz.ntmps99;go_wp2_with fail;refine Za Hc ?_;rintro e w' ⟨rfl,h1,h2,h3⟩;have R:=Qa (And.intro h1 (And.intro h2 h3));clear h1 h2 h3;go_wp2_with fail;go_end0;exact⟨rfl,(a9.out.mono HB.out).trans R.out.1,(Kp.of_below TB a9.out).trans R.out.2.1,R.out.2.2⟩
theorem mu {bs:List Nat}(a1:lv= (fs.length+1:Nat))(h:dV B w xb (f::fs) none bs)(ho:f.obj=true)(a2:f.name=none)(a5:f.ok eC)(hi:f.items.length<=4294967296)(a3:f.mems.length<=4294967296)(a4:iM fs)(hB:B<=w.heap.size):Calls Tryz.prog 99 #[.pointer (some ⟨xb,0,none⟩),.iface 238 (.agg #[.int .i64 lv,.int .i64 6])] w fun e w'=>kw B xb (bu fs (cN f)) w e w':=by
 have a0:=ac w (.cells #[.int .i64 lv,.int .i64 6] 238);have Hc:=Qa (xd a1 (h.below a0) ho a2 a5 hi a3 a4 (Zc hB a0.size));have a9:=Qa a0;have HB:=Qa hB;have q1:=rq;have q2:=gQ;have q3:=gE;have q4:=gG;clear h a0 hB a1 ho a2 a5 hi a3 a4;go_enter Tryz.func99,Tryz.ntmps99;go_wp2_with fail;refine Za Hc ?_;rintro e w' ⟨rfl,h1,h2,h3⟩;have R:=Qa (And.intro h1 (And.intro h2 h3));clear h1 h2 h3;go_wp2_with fail;go_end0;exact⟨rfl,(a9.out.mono HB.out).trans R.out.1,(Kp.of_below TB a9.out).trans R.out.2.1,R.out.2.2⟩
