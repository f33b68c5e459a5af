import Derived.Test.YtehpfidnpfcniaaGreatDoorGZ14az
set_option linter.unusedVariables false
set_option linter.unusedSimpArgs false
set_option maxHeartbeats 64000000
set_option maxRecDepth 100000
namespace Go.Proofs.YtehpfidnpfcniaaGreatDoor
open Go.RowKit Go.Maps
variable {fin:Bool}{f:Fr}{by_ dp ex lv:Int}{l:List ByteArray}{frs fs:List Fr}{maps:List Nat}{xs:List UInt8}{B c lb n nd rb want xb:Nat}{F:Nat->Prop}{T:TypeId->Prop}{nv ov v:Value}{w w':World}
theorem Mv.of_keeps {top:List Nat}(h:bw T w w')(hT:∀e,TV e->¬T e):Mv top w w':=⟨h.1,fun g cs e z hg he _=>h.2 g cs e z hg (hT e he)⟩
theorem dT.keeps {done:Option JV}{bs:List Nat}(h:dT B w xb frs done bs)(hk:bw T w w')(hT:∀e,TB e->¬T e):dT B w' xb frs done bs:=by
 obtain⟨pv,dv,us,h1,h2,h3,h4,h5,h6,h7⟩:=h;have hm:Mv [] w w':=Mv.of_keeps hk (fun e he=>hT e (.inl he));have a0:∀g∈bs,g∈bs\/w.heap.size<=g:=fun g h=>.inl h
 exact⟨pv,dv,us,hk.2 _ _ _ _ h1 (hT _ (.inr (.inl rfl))),h2,av h3 hk (hT _ (.inr (.inr rfl))),h4.mono fun _ _ h=>h.move hm (by simp) a0 (by simp),h5,h6,h7.move hm (by simp) a0⟩
theorem mI {b:Nat}{es:Array MapEntry}(hg:w.grownBy w' (some b))(hb:w.heap[b]?=some (.map es c)):bw (fun _=>False) w w':=
 bw.of_grown hg fun g e cs t z hh=>by
  obtain rfl:=Zi e;rw[hb] at hh
  cases hh
theorem cQ.map {b:Nat}{names:List ByteArray}(h:cQ w b names n):∃es c,w.heap[b]?=some (.map es c):=by
 obtain⟨D,⟨es,c,hh,-⟩,-⟩:=h;exact⟨es,c,hh⟩
theorem fm.named {k:Nat}{b:Nat}{s:ByteArray}(h:fm B w rb lb xb v xs (f::fs) want k nd fin by_ dp ex ov nv (b::maps))(ho:f.obj=true)(hn:f.name=none)(hl:∀t,t∈l↔t∈fC f)(a4:n<=f.mems.length)
  (hs:cQ w' b (s::l) (n+1)) (hg:w.grownBy w' (some b)):fm B w' rb lb xb v xs ({f with name:=some s}::fs) want k nd fin by_ dp ex ov nv (b::maps):=by
 obtain⟨h1,h2,h3,h4,h5,h6,h7,h8,h9,a1⟩:=h;simp only[List.filter_cons,ho,if_true] at h8;obtain⟨a3,l0,n0,a2,-⟩:=h8.2 0 b f rfl rfl;obtain⟨es,c,hh⟩:=a2.map;have hk:=mI hg hh;have a0:ao w' B v xs:=av h5 hk (fun h=>h);refine⟨hk.2 _ _ _ _ h1 (fun h=>h),h2,⟨hk.2 _ _ _ _ h3.1 (fun h=>h),ao.bs a0⟩,h4,a0,?_,av h7 hk (fun h=>h),?_,h9,a1⟩
 ·have:=av h6 hk (fun h=>h);simpa [eF] using this
 ·simp only[List.filter_cons,ho,if_true];refine⟨by simpa using h8.1,fun i x y q1 q2=>?_⟩
  cases i with
  |zero=>
   simp at q1 q2;subst q1 q2;refine⟨a3,s::l,n+1,hs,by simp;omega,fun t=>?_⟩;have:=hl t;simp only[fC,hn,Option.toList_none,List.nil_append,Option.toList_some,List.cons_append,List.mem_cons] at this ⊢;rw[this]
  |succ i=>
   obtain⟨z1,z2,z3,z4,z5⟩:=h8.2 (i+1) x y (by simpa using q1) (by simpa using q2);refine⟨z1,z2,z3,z4.grown hg fun e=>?_,z5⟩;obtain rfl:=Zi e;exact(List.nodup_cons.1 h9).1 (Zk (by simpa using q1))
theorem Bh {k:Nat}{s:ByteArray}{p:Int}{bs:List Nat}(hR:gT B w rb lb xb v xs (f::fs) want k nd false)(d9:dT B w xb (f::fs) none bs)(ho:f.obj=true)(b4:f.name=none)(e6:s∉f.mems.map Prod.fst)(hs:s.size<=4294967296)(hl:fs.length<=1000000000)(hm:f.mems.length<=1000000000)(hB:B<=w.heap.size):Calls Tryz.prog 178 #[.pointer (some ⟨rb,0,none⟩),.agg #[.int .i64 p,.string s]] w (Fa B rb lb xb v xs ⟨{f with name:=some s}::fs,4,none⟩ k nd false w):=by
 have b1:=ac w (.cells #[.int .i64 p,.string s] 305);obtain⟨w1,d0⟩:∃w1,w.alloc (.cells #[.int .i64 p,.string s] 305)=w1:=⟨_,rfl⟩;have d1:=H8 (Zf w (.cells #[.int .i64 p,.string s] 305));rw[d0] at b1 d1;obtain⟨by_,dp,ex,ov,nv,maps,hA⟩:=hR.below b1;have a1:=hA.seen;simp only[List.filter_cons,ho,if_true] at a1
 cases maps with
 |nil=>have:=a1.1;simp at this
 |cons b maps=>
 obtain⟨f5,l,n,e4,hn,c2⟩:=a1.2 0 b f rfl rfl;have e3:n<=f.mems.length:=by simpa [b4] using hn
 have d6:l.any (fun t=>decide (t=s))=false:=by
  rw[List.any_eq_false];intro t ht;have h1:=(c2 t).1 ht;simp only[fC,b4,Option.toList_none,List.nil_append] at h1;simp only[decide_eq_true_eq];rintro rfl;exact e6 h1
 have c1:=hA.names;obtain⟨A,q,rfl,-,-,d4⟩:=af c1;obtain⟨g,rfl⟩:=d4 (by simp);obtain⟨m,b8⟩:∃m,maps.length=m:=⟨_,rfl⟩;rw[List.length_cons,b8] at c1;have cg:=World.ownsRow.cellAt c1 m (by omega);rw[List.reverse_cons,List.map_append,List.getElem?_append_right (by simp;omega),List.length_map,List.length_reverse,b8,Nat.sub_self] at cg;replace cg:w1.cell? ⟨g,m,none⟩=some (.map (some b)):=cg;have g6:m<=fs.length:=by
  have h1:=a1.1;have h2:=List.length_filter_le (fun g:Fr=>g.obj) fs;simp at h1;omega
 have c13:=aa hA.row (j:=13) (u:=.slice (some ⟨g,0,none⟩) (m+1) q) (by rw[<-b8];rfl);have e1:=aa d1.out (j:=1) (u:=.string s) rfl;have s1:IntKind.i64.wrap (m:Int)= (m:Int):=IntWalk.i64_in _ (by omega);have f4:(m:Int)< (m:Int)+1:=by omega
 have HA:=H8 hA;have g8:=H8 (d9.below b1);have HB:=H8 hB;have g5:=H8 b1;have f9:=H8 e4;have g1:=H8 c2;have f3:=H8 d6;have d5:=H8 (show s.size<=maxLen by unfold maxLen;omega);have g2:=H8 (show n<maxLen by unfold maxLen;omega);have g0:=H8 e3;have Hl:=H8 hl;have h0:=H8 hm;clear hR hA a1 e4 hn c2 e3 d6 c1 d4 b8 g6 hB b1 hs d9 f5 e6 hm hl;go_enter Tryz.func178,Tryz.ntmps178;go_wp2_with fail
 try rw[d0]
 go_quiet (fail);obtain⟨wd,hwd⟩:∃wd,w1.drewN nq=wd:=⟨_,rfl⟩;have a2:Below w1.heap.size w1 wd:=by rw[<-hwd];exact ap (Ze _ _) nq
 have f0:=H8 (HA.out.below a2);have d2:=H8 (g8.out.below a2);have c8:=H8 (ai d1.out a2);have e2:=Zg a2 e1;have a3:=H8 (f9.out.kp (Kp.of_below (fun _=>False) a2));have b2:=a3.out.look d5.out;rw[f3.out] at b2;have c6:=H8 (ak g5.out a2);rw[hwd];clear c13 cg e1 a2 hwd d0;go_wp2_with (at_mapUpdate;refine pp a3.out d5.out g2.out rfl (.tmp 28) (.tmp 30) _ rfl (by simp[Act.eval]) (by simp[Act.eval]) (by simp[Act.eval]) ?_;intro w5 p1 p2;have b5:=f0.out.named ho b4 g1.out g0.out p1 p2.grown;obtain⟨es5,cl5,f1⟩:=a3.out.map;have c0:=mI p2.grown f1;have c14:=aa b5.row (j:=14) (u:=.int .i64 want) rfl;have f14:=aj b5.row 14;have g7:=H8 b5;have c4:=H8 (d2.out.keeps c0 (fun _ _ h=>h));have c3:=H8 (c0.2 _ _ _ _ c8.out (fun h=>h));have f6:=H8 p2.grown;have f8:=H8 c0;clear p1 p2 b5 f1 c0);have e5:B<=b:=by
  have a1:=f0.out.seen;simp only[List.filter_cons,ho,if_true] at a1;exact(a1.2 0 b f rfl rfl).1
 have c9:Below B w w5:=(c6.out.mono HB.out).trans ((aM.grown f6.out).below (Zc HB.out c6.out.size) fun i e=>by
  obtain rfl:=Zi e;exact e5)
 have b0:B<=w5.heap.size:=Zc HB.out c9.size;have a5:=H8 (g7.out.setWant b0 4 (z:=4) rfl);have g3:w5.heap.size= (w5.setCell ⟨rb,14,none⟩ (.int .i64 4)).heap.size:=by simp
 obtain⟨w6,f2⟩:∃w6,w5.setCell ⟨rb,14,none⟩ (.int .i64 4)=w6:=⟨_,rfl⟩;rw[f2] at a5 ⊢;have c7:=H8 (show bW B w w6 from(⟨c9,(bw.of_below TA c6.out).trans (f8.out.imp fun _ h=>h.elim)⟩:bW B w w5).trans (bW.rd a5.out.1 a5.out.2.1));have c5:=H8 (c4.out.kp a5.out.2.1 bq);have b3:w6.heap[w.heap.size]?=some (.cells #[.int .i64 p,.string s] 305 (0,0)):=a5.out.2.1.heap c3.out (by simp only[ka];decide);have d3:=a5.out.2.2;obtain⟨wr,b9⟩:∃wr,w6.drew=wr:=⟨_,rfl⟩;have a4:Below w6.heap.size w6 wr:=by rw[<-b9];exact(Ze _ _).drew
 have a9:=d3.below a4;obtain⟨A12,q12,g4,-⟩:=af a9.opens;subst g4;obtain⟨m9,e0⟩:∃m9,fs.length=m9:=⟨_,rfl⟩;have C11:=H8 (aa a9.row (j:=11) (u:=.func (.func 123) #[.pointer (some ⟨xb,0,none⟩)] #[]) rfl);have C12:=H8 (aa a9.row (j:=12) (u:=.slice A12 (m9+1) q12) (by rw[<-e0];rfl));have E1:=H8 (aa (ai b3 a4) (j:=1) (u:=.string s) rfl);have f7:=H8 (xH (lv:=(m9:Int)+1) (s:=s) (by omega) (c5.out.below a4) ho b4 (by have:=Hl.out;omega) (Zc (Zc HB.out c7.out.b.size) a4.size));have Hr:=H8 (And.intro (c7.out.trans (bW.new a4 (Zc HB.out c7.out.b.size))) a9);clear c14 f14 a4 a9 b3 d3 f2 g3 b0 c9 e5 e0;refine ce (fun w2=>w2.cell? ⟨rb,11,none⟩=some (.func (.func 123) #[.pointer (some ⟨xb,0,none⟩)] #[])/\w2.cell? ⟨rb,12,none⟩=some (.slice A12 (m9+1) q12)/\w2.cell? ⟨w.heap.size,1,none⟩=some (.string s)) 13 ((by rw[b9];exact⟨C11.out,C12.out,E1.out⟩)) fun a0=>?_
 rw[b9] at a0 ⊢;clear b9;refine tR 0 a0 ?_;refine tR 1 a0 ?_;refine tR 2 a0 ?_;refine tR 3 a0 ?_;refine tR 4 a0 ?_;refine tR 5 a0 ?_
 try simp only[Act.put,jP,jQ,jR]
 refine tR 6 a0 ?_;refine tR 7 a0 ?_;refine tR 8 a0 ?_;refine tR 9 a0 ?_;refine tR 10 a0 ?_;refine tR 11 a0 ?_
 try simp only[Act.put,jP,jQ,jR]
 refine tR 12 a0 ?_
 try simp only[Act.put,jP,jQ,jR]
 refine rZ 13 fun K hK=>?_
 go_simp;refine Za f7 ?_;rintro e w4 ⟨rfl,h1,h2,h3⟩;have R:=H8 (And.intro h1 (And.intro h2 h3));clear h1 h2 h3;go_wp2_with fail;refine hK.out _ _ (fun h=>absurd rfl h) (fun _=>?_);clear hK K
 try simp only[Act.put,jP,jQ,jR]
 refine aI (by kernel_rfl) (NoPanic.normal ?_) _;go_end0;obtain⟨y1,y2,y3⟩:=R.out;exact⟨rfl,Hr.out.1.trans (bW.tb y1 y2),Hr.out.2.s.tb y2,y3⟩
structure gX (B:Nat) (w:World) (rb lb xb:Nat) (v:Value) (xs:List UInt8) (ofr nfr:List Fr) (want k:Nat) (nd:Nat) (fin:Bool) (by_ dp ex:Int) (ov nv:Value) (maps:List Nat):Prop where
 row:w.heap[rb]?=some (.cells (cA lb xb by_ dp nd ex ov nv want fin) 247 (0,0))
 low:B<=rb
 lex:mf w lb v xs k
 llow:B<=lb
 own:ao w B v xs
 opens:w.ownsRow B 3 1 ov ofr.length (ofr.reverse.map eF)
 names:w.ownsRow B 317 1 nv maps.length (maps.reverse.map sU)
 seen:bY (gG B w) maps (nfr.filter (·.obj))
 nodup:maps.Nodup
 le:k<=xs.length
section
variable {B rb lb xb want k nd:Nat}{w w' w5:World}{v:Value}{xs:List UInt8}{frs ofr nfr:List Fr}{fin:Bool}{by_ dp ex:Int}{ov nv:Value}{maps:List Nat}
theorem fm.b (h:fm B w rb lb xb v xs frs want k nd fin by_ dp ex ov nv maps):gX B w rb lb xb v xs frs frs want k nd fin by_ dp ex ov nv maps:=⟨h.row,h.low,h.lex,h.llow,h.own,h.opens,h.names,h.seen,h.nodup,h.le⟩
theorem gX.a (h:gX B w rb lb xb v xs frs frs want k nd fin by_ dp ex ov nv maps):fm B w rb lb xb v xs frs want k nd fin by_ dp ex ov nv maps:=⟨h.row,h.low,h.lex,h.llow,h.own,h.opens,h.names,h.seen,h.nodup,h.le⟩
theorem gX.below (h:gX B w rb lb xb v xs ofr nfr want k nd fin by_ dp ex ov nv maps)(hb:Below w.heap.size w w'):gX B w' rb lb xb v xs ofr nfr want k nd fin by_ dp ex ov nv maps:=by
 obtain⟨h1,h2,h3,h4,h5,h6,h7,h8,h9,a1⟩:=h;have a0:ao w' B v xs:=ag h5 hb (Zb _);refine⟨ai h1 hb,h2,h3.below hb,h4,a0,ag h6 hb (Zb _),ag h7 hb (Zb _),h8.mono fun a b h=>?_,h9,a1⟩;obtain⟨q1,l,n,q2,q3,q4⟩:=h;exact⟨q1,l,n,q2.kp (Kp.of_below (fun _=>False) hb),q3,q4⟩
theorem gX.stay (h:gX B w rb lb xb v xs ofr nfr want k nd fin by_ dp ex ov nv maps)(a0:aM F w w')(hF:∀g,F g->g<w.heap.size->∃cs e z,w.heap[g]?=some (.cells cs e z)/\ka e):Kp ka w w':=Kp.of_chg a0 hF
theorem gX.seens (h:bY (gG B w) maps (nfr.filter (·.obj)))(hk:Kp T w w'):bY (gG B w') maps (nfr.filter (·.obj)):=h.mono fun a b h=>by
 obtain⟨q1,l,n,q2,q3,q4⟩:=h;exact⟨q1,l,n,q2.kp hk,q3,q4⟩
theorem gX.setOpen (h:gX B w rb lb xb v xs ofr nfr want k nd fin by_ dp ex ov nv maps)(hB:B<=w.heap.size)(a2:aM F w w5)(hF:∀g,F g->ov.ownBlock=some g){ov':Value}{ofr':List Fr}(hp:w5.ownsRow B 3 1 ov' ofr'.length (ofr'.reverse.map eF)) :
  Below B w (w5.setCell ⟨rb,12,none⟩ ov')/\Kp ka w (w5.setCell ⟨rb,12,none⟩ ov')/\gX B (w5.setCell ⟨rb,12,none⟩ ov') rb lb xb v xs ofr' nfr want k nd fin by_ dp ex ov' nv maps:=by
 obtain⟨h1,h2,h3,h4,h5,h6,h7,h8,h9,a4⟩:=h;have a0:aM (fun g=>F g\/g=rb) w (w5.setCell ⟨rb,12,none⟩ ov'):=(a2.mono fun _ h=>.inl h).trans (aM.set rb 12 ov') fun i hi=>.inl (.inr hi)
 have a5:∀g,(F g\/g=rb)->g<w.heap.size->∃cs e z,w.heap[g]?=some (.cells cs e z)/\(e=3\/e=247):=fun g hg _=>by
  rcases hg with hg|rfl
  ·obtain⟨_,cur,hh⟩:=al h6 (hF g hg);exact⟨_,_,_,hh,.inl rfl⟩
  ·exact⟨_,_,_,h1,.inr rfl⟩
 have hk:Kp (fun e=>e=3\/e=247) w (w5.setCell ⟨rb,12,none⟩ ov'):=Kp.of_chg a0 a5;have a1:ao (w5.setCell ⟨rb,12,none⟩ ov') B v xs:=av h5 hk.keeps (by decide);have hrb:rb<w.heap.size:=ah h1;have a3:w5.heap[rb]?=some (.cells (cA lb xb by_ dp nd ex ov nv want fin) 247 (0,0)):=(a2.block rb hrb fun hf=>aG h6 h1 (by decide) (hF rb hf)).trans h1;have hne:=aG hp a3 (by decide);refine⟨a0.below hB (fun i hi=>hi.elim (fun h=>(al h6 (hF i h)).1) fun e=>by rw[e];exact h2),hk.imp fun e he=>he.elim (fun h=>.inr (.inr (.inl h))) fun h=>.inl h,au a3 12 ov',h2,⟨hk.heap h3.1 (by decide),ao.bs a1⟩,h4,a1,be hp fun b hb=>(aM.set rb 12 ov').block b (ah (al hp hb).2.choose_spec) fun e=>hne (by rw[hb,e]),av h7 hk.keeps (by decide),gX.seens h8 hk,h9,a4⟩
theorem gX.setNames (h:gX B w rb lb xb v xs ofr nfr want k nd fin by_ dp ex ov nv maps)(hB:B<=w.heap.size)(a3:aM F w w5)(hF:∀g,F g->nv.ownBlock=some g){nv':Value}{maps':List Nat}{nfr':List Fr}(hp:w5.ownsRow B 317 1 nv' maps'.length (maps'.reverse.map sU))(a9:maps'.Nodup)
  (b0:∀w9,Kp (fun e=>e=317\/e=247) w w9->Kp (fun e=>e=247) w5 w9->bY (gG B w9) maps' (nfr'.filter (·.obj))) :
  Below B w (w5.setCell ⟨rb,13,none⟩ nv')/\Kp ka w (w5.setCell ⟨rb,13,none⟩ nv')/\gX B (w5.setCell ⟨rb,13,none⟩ nv') rb lb xb v xs ofr nfr' want k nd fin by_ dp ex ov nv' maps':=by
 obtain⟨h1,h2,h3,h4,h5,h6,h7,h8,h9,a4⟩:=h;have a0:aM (fun g=>F g\/g=rb) w (w5.setCell ⟨rb,13,none⟩ nv'):=(a3.mono fun _ h=>.inl h).trans (aM.set rb 13 nv') fun i hi=>.inl (.inr hi)
 have b1:∀g,(F g\/g=rb)->g<w.heap.size->∃cs e z,w.heap[g]?=some (.cells cs e z)/\(e=317\/e=247):=fun g hg _=>by
  rcases hg with hg|rfl
  ·obtain⟨_,cur,hh⟩:=al h7 (hF g hg);exact⟨_,_,_,hh,.inl rfl⟩
  ·exact⟨_,_,_,h1,.inr rfl⟩
 have hk:Kp (fun e=>e=317\/e=247) w (w5.setCell ⟨rb,13,none⟩ nv'):=Kp.of_chg a0 b1;have a1:ao (w5.setCell ⟨rb,13,none⟩ nv') B v xs:=av h5 hk.keeps (by decide);have hrb:rb<w.heap.size:=ah h1;have a2:w5.heap[rb]?=some (.cells (cA lb xb by_ dp nd ex ov nv want fin) 247 (0,0)):=(a3.block rb hrb fun hf=>aG h7 h1 (by decide) (hF rb hf)).trans h1;have hne:=aG hp a2 (by decide);have a5:Kp (fun e=>e=247) w5 (w5.setCell ⟨rb,13,none⟩ nv'):=Kp.of_chg (aM.set rb 13 nv') fun g e _=>by subst e;exact⟨_,_,_,a2,rfl⟩
 refine⟨a0.below hB (fun i hi=>hi.elim (fun h=>(al h7 (hF i h)).1) fun e=>by rw[e];exact h2),hk.imp fun e he=>he.elim (fun h=>.inr (.inr (.inr h))) fun h=>.inl h,au a2 13 nv',h2,⟨hk.heap h3.1 (by decide),ao.bs a1⟩,h4,a1,av h6 hk.keeps (by decide),be hp fun b hb=>(aM.set rb 13 nv').block b (ah (al hp hb).2.choose_spec) fun e=>hne (by rw[hb,e]),b0 _ hk a5,a9,a4⟩
theorem gX.setWant (h:gX B w rb lb xb v xs ofr nfr want k nd fin by_ dp ex ov nv maps)(hB:B<=w.heap.size)(n:Nat){z:Int}(hz:z=n):Below B w (w.setCell ⟨rb,14,none⟩ (.int .i64 z))/\Kp ka w (w.setCell ⟨rb,14,none⟩ (.int .i64 z))/\gX B (w.setCell ⟨rb,14,none⟩ (.int .i64 z)) rb lb xb v xs ofr nfr n k nd fin by_ dp ex ov nv maps:=by
 subst hz;obtain⟨h1,h2,h3,h4,h5,h6,h7,h8,h9,a2⟩:=h;have a1:=aM.set (w:=w) rb 14 (.int .i64 n);have hk:Kp (fun e=>e=247) w (w.setCell ⟨rb,14,none⟩ (.int .i64 n)):=Kp.of_chg a1 fun g e _=>by subst e;exact⟨_,_,_,h1,rfl⟩
 have a0:ao (w.setCell ⟨rb,14,none⟩ (.int .i64 n)) B v xs:=av h5 hk.keeps (by decide);exact⟨a1.below hB (fun i e=>by rw[e];exact h2),hk.imp fun e he=>.inl he,au h1 14 _,h2,⟨hk.heap h3.1 (by decide),ao.bs a0⟩,h4,a0,av h6 hk.keeps (by decide),av h7 hk.keeps (by decide),gX.seens h8 hk,h9,a2⟩
end
def ye:Nat->List UInt8
 |0=> [91,123]
 |1=> [91,123,93]
 |3=> [125]
 |4=> [58]
 |5=> [44,93]
 |6=> [44,125]
 |_=> []
theorem EQ (want:Nat)(c:UInt8):yh want c= (ye want).contains c:=by
 rcases want with _|_|_|_|_|_|_|n <;> rfl
def l9 (w:World):Prop:= ∀i,i<8->w.cell? ⟨16,i,none⟩=some (.string ⟨(ye i).toArray⟩)
theorem l9.below (h:l9 w)(hb:Below w.heap.size w w'):l9 w':=fun i hi=>Zg hb (h i hi)
theorem l5 {bs:List Nat}(a5:lv= (fs.length+1:Nat))(h:dT B w xb (f::fs) none bs)(ho:f.obj=false)(a4:f.name=none)(a3:f.ok ey)(hi:f.items.length<=4294967296)(a2:f.mems.length<=4294967296)(a9:iO fs)(hB:B<=w.heap.size):Calls Tryz.prog 123 #[.pointer (some ⟨xb,0,none⟩),.iface 259 (.agg #[.int .i64 lv,.int .i64 5])] w fun e w'=>km B xb (bt fs (cM f)) w e w':=by
 have a0:=ac w (.cells #[.int .i64 lv,.int .i64 5] 259);have Hc:=H8 (uV a5 (h.below a0) ho a4 a3 hi a2 a9 (Zc hB a0.size));have a1:=H8 a0;have HB:=H8 hB;have q1:=pY;have q2:=gJ;have q3:=gO;have q4:=gM;clear h a0 hB a5 ho a4 a3 hi a2 a9;go_enter Tryz.func123,Tryz.ntmps123;go_wp2_with fail;refine Za Hc ?_;rintro e w' ⟨rfl,h1,h2,h3⟩;have R:=H8 (And.intro h1 (And.intro h2 h3));clear h1 h2 h3;go_wp2_with fail;go_end0;exact⟨rfl,(a1.out.mono HB.out).trans R.out.1,(Kp.of_below TB a1.out).trans R.out.2.1,R.out.2.2⟩
theorem mq {bs:List Nat}(a5:lv= (fs.length+1:Nat))(h:dT B w xb (f::fs) none bs)(ho:f.obj=true)(a4:f.name=none)(a3:f.ok ey)(hi:f.items.length<=4294967296)(a2:f.mems.length<=4294967296)(a9:iO fs)(hB:B<=w.heap.size):Calls Tryz.prog 123 #[.pointer (some ⟨xb,0,none⟩),.iface 259 (.agg #[.int .i64 lv,.int .i64 6])] w fun e w'=>km B xb (bt fs (cM f)) w e w':=by
 have a0:=ac w (.cells #[.int .i64 lv,.int .i64 6] 259);have Hc:=H8 (xO a5 (h.below a0) ho a4 a3 hi a2 a9 (Zc hB a0.size));have a1:=H8 a0;have HB:=H8 hB;have q1:=pY;have q2:=gJ;have q3:=gO;have q4:=gM;clear h a0 hB a5 ho a4 a3 hi a2 a9;go_enter Tryz.func123,Tryz.ntmps123;go_wp2_with fail;refine Za Hc ?_;rintro e w' ⟨rfl,h1,h2,h3⟩;have R:=H8 (And.intro h1 (And.intro h2 h3));clear h1 h2 h3;go_wp2_with fail;go_end0;exact⟨rfl,(a1.out.mono HB.out).trans R.out.1,(Kp.of_below TB a1.out).trans R.out.2.1,R.out.2.2⟩
