import Derived.Test.YthknekoamnnhhaaGreatDoorGZ5au
set_option linter.unusedVariables false
set_option linter.unusedSimpArgs false
set_option maxHeartbeats 64000000
set_option maxRecDepth 100000
namespace Go.Proofs.YthknekoamnnhhaaGreatDoor
open Go.RowKit Go.Maps
variable {fin:Bool}{f:Fr}{by_ dp ex lv:Int}{j:JV}{frs fs nfr:List Fr}{maps:List Nat}{xs:List UInt8}{B c i k0 lb n nd nd' q rb want xb:Nat}{F:Nat->Prop}{A:Option Addr}{e:TypeId}{T:TypeId->Prop}{nv ov v x:Value}{w w':World}
theorem Mv.of_keeps {top:List Nat}(h:aJ T w w')(hT:∀e,TV e->¬T e):Mv top w w':=⟨h.1,fun g cs e z hg he _=>h.2 g cs e z hg (hT e he)⟩
theorem fC.keeps {done:Option JV}{bs:List Nat}(h:fC B w xb frs done bs)(hk:aJ T w w')(hT:∀e,TB e->¬T e):fC B w' xb frs done bs:=by
 obtain⟨pv,dv,us,h1,h2,h3,h4,h5,h6,h7⟩:=h;have hm:Mv [] w w':=Mv.of_keeps hk (fun e he=>hT e (.inl he));have a0:∀g∈bs,g∈bs\/w.heap.size<=g:=fun g h=>.inl h
 exact⟨pv,dv,us,hk.2 _ _ _ _ h1 (hT _ (.inr (.inl rfl))),h2,ao h3 hk (hT _ (.inr (.inr rfl))),h4.mono fun _ _ h=>h.move hm (by simp) a0 (by simp),h5,h6,h7.move hm (by simp) a0⟩
theorem p7 {b:Nat}{es:Array MapEntry}(hg:w.grownBy w' (some b))(hb:w.heap[b]?=some (.map es c)):aJ (fun _=>False) w w':=
 aJ.of_grown hg fun g e cs t z hh=>by
  obtain rfl:=Zh e;rw[hb] at hh
  cases hh
theorem d7.map {b:Nat}{names:List ByteArray}(h:d7 w b names n):∃es c,w.heap[b]?=some (.map es c):=by
 obtain⟨D,⟨es,c,hh,-⟩,-⟩:=h;exact⟨es,c,hh⟩
theorem iP.named {k:Nat}{b:Nat}{s:ByteArray}{l:List ByteArray}(h:iP B w rb lb xb v xs (f::fs) want k nd fin by_ dp ex ov nv (b::maps))(ho:f.obj=true)(hn:f.name=none)(hl:∀t,t∈l↔t∈jf f)(hnl:n<=f.mems.length)
  (hs:d7 w' b (s::l) (n+1)) (hg:w.grownBy w' (some b)):iP B w' rb lb xb v xs ({f with name:=some s}::fs) want k nd fin by_ dp ex ov nv (b::maps):=by
 obtain⟨h1,h2,h3,h4,h5,h6,h7,h8,h9,a1⟩:=h;simp only[List.filter_cons,ho,if_true] at h8;obtain⟨a2,l0,n0,a3,-⟩:=h8.2 0 b f rfl rfl;obtain⟨es,c,hh⟩:=a3.map;have hk:=p7 hg hh;have a0:au w' B v xs:=ao h5 hk (fun h=>h);refine⟨hk.2 _ _ _ _ h1 (fun h=>h),h2,⟨hk.2 _ _ _ _ h3.1 (fun h=>h),au.bs a0⟩,h4,a0,?_,ao h7 hk (fun h=>h),?_,h9,a1⟩
 ·have:=ao h6 hk (fun h=>h);simpa [gY] using this
 ·simp only[List.filter_cons,ho,if_true];refine⟨by simpa using h8.1,fun i x y q1 q2=>?_⟩
  cases i with
  |zero=>
   simp at q1 q2;subst q1 q2;refine⟨a2,s::l,n+1,hs,by simp;omega,fun t=>?_⟩;have:=hl t;simp only[jf,hn,Option.toList_none,List.nil_append,Option.toList_some,List.cons_append,List.mem_cons] at this ⊢;rw[this]
  |succ i=>
   obtain⟨z1,z2,z3,z4,z5⟩:=h8.2 (i+1) x y (by simpa using q1) (by simpa using q2);refine⟨z1,z2,z3,z4.grown hg fun e=>?_,z5⟩;obtain rfl:=Zh e;exact(List.nodup_cons.1 h9).1 (Zk (by simpa using q1))
theorem D3 {k:Nat}{s:ByteArray}{p:Int}{bs:List Nat}(hR:kc B w rb lb xb v xs (f::fs) want k nd false)(e3:fC B w xb (f::fs) none bs)(ho:f.obj=true)(b3:f.name=none)(d5:s∉f.mems.map Prod.fst)(hs:s.size<=4294967296)(hl:fs.length<=1000000000)(hm:f.mems.length<=1000000000)(hB:B<=w.heap.size):Calls Tryz.prog 180 #[.pointer (some ⟨rb,0,none⟩),.agg #[.int .i64 p,.string s]] w (Ig B rb lb xb v xs ⟨{f with name:=some s}::fs,4,none⟩ k nd false w):=by
 have a7:=ac w (.cells #[.int .i64 p,.string s] 304);obtain⟨w1,c0⟩:∃w1,w.alloc (.cells #[.int .i64 p,.string s] 304)=w1:=⟨_,rfl⟩;have c8:=Qa (Ze w (.cells #[.int .i64 p,.string s] 304));rw[c0] at a7 c8;obtain⟨by_,dp,ex,ov,nv,maps,hA⟩:=hR.below a7;have a1:=hA.seen;simp only[List.filter_cons,ho,if_true] at a1
 cases maps with
 |nil=>have:=a1.1;simp at this
 |cons b maps=>
 obtain⟨e7,l,n,e0,hn,b8⟩:=a1.2 0 b f rfl rfl;have hnl:n<=f.mems.length:=by simpa [b3] using hn
 have d3:l.any (fun t=>decide (t=s))=false:=by
  rw[List.any_eq_false];intro t ht;have h1:=(b8 t).1 ht;simp only[jf,b3,Option.toList_none,List.nil_append] at h1;simp only[decide_eq_true_eq];rintro rfl;exact d5 h1
 have b5:=hA.names;obtain⟨A,q,rfl,-,-,d9⟩:=ah b5;obtain⟨g,rfl⟩:=d9 (by simp);obtain⟨m,b7⟩:∃m,maps.length=m:=⟨_,rfl⟩;rw[List.length_cons,b7] at b5;have cg:=World.ownsRow.cellAt b5 m (by omega);rw[List.reverse_cons,List.map_append,List.getElem?_append_right (by simp;omega),List.length_map,List.length_reverse,b7,Nat.sub_self] at cg;replace cg:w1.cell? ⟨g,m,none⟩=some (.map (some b)):=cg;have g1:m<=fs.length:=by
  have h1:=a1.1;have h2:=List.length_filter_le (fun g:Fr=>g.obj) fs;simp at h1;omega
 have c13:=aa hA.row (j:=13) (u:=.slice (some ⟨g,0,none⟩) (m+1) q) (by rw[<-b7];rfl);have e1:=aa c8.out (j:=1) (u:=.string s) rfl;have s1:IntKind.i64.wrap (m:Int)= (m:Int):=IntWalk.i64_in _ (by omega);have f3:(m:Int)< (m:Int)+1:=by omega
 have HA:=Qa hA;have f4:=Qa (e3.below a7);have HB:=Qa hB;have e6:=Qa a7;have f9:=Qa e0;have g3:=Qa b8;have f2:=Qa d3;have d1:=Qa (show s.size<=maxLen by unfold maxLen;omega);have f8:=Qa (show n<maxLen by unfold maxLen;omega);have f6:=Qa hnl;have Hl:=Qa hl;have g4:=Qa hm;clear hR hA a1 e0 hn b8 hnl d3 b5 d9 b7 g1 hB a7 hs e3 e7 d5 hm hl;go_enter Tryz.func180,Tryz.ntmps180;go_wp2_with fail
 try rw[c0]
 go_quiet (fail);obtain⟨wd,c6⟩:∃wd,w1.drewN nq=wd:=⟨_,rfl⟩;have a3:Below w1.heap.size w1 wd:=by rw[<-c6];exact az (Zd _ _) nq
 have d0:=Qa (HA.out.below a3);have c2:=Qa (f4.out.below a3);have c9:=Qa (aj c8.out a3);have e2:=Zf a3 e1;have a2:=Qa (f9.out.kp (Kp.of_below (fun _=>False) a3));have a6:=a2.out.look d1.out;rw[f2.out] at a6;have c4:=Qa (bE e6.out a3);rw[c6];clear c13 cg e1 a3 c6 c0;go_wp2_with (at_mapUpdate;refine t8 a2.out d1.out f8.out rfl (.tmp 28) (.tmp 30) _ rfl (by simp[Act.eval]) (by simp[Act.eval]) (by simp[Act.eval]) ?_;intro w5 p1 p2;have b4:=d0.out.named ho b3 g3.out f6.out p1 p2.grown;obtain⟨es5,cl5,d6⟩:=a2.out.map;have b2:=p7 p2.grown d6;have c14:=aa b4.row (j:=14) (u:=.int .i64 want) rfl;have f14:=am b4.row 14;have e8:=Qa b4;have c1:=Qa (c2.out.keeps b2 (fun _ _ h=>h));have b9:=Qa (b2.2 _ _ _ _ c9.out (fun h=>h));have g0:=Qa p2.grown;have f1:=Qa b2;clear p1 p2 b4 d6 b2);have d4:B<=b:=by
  have a1:=d0.out.seen;simp only[List.filter_cons,ho,if_true] at a1;exact(a1.2 0 b f rfl rfl).1
 have c3:Below B w w5:=(c4.out.mono HB.out).trans ((br.grown g0.out).below (Zb HB.out c4.out.size) fun i e=>by
  obtain rfl:=Zh e;exact d4)
 have b1:B<=w5.heap.size:=Zb HB.out c3.size;have a4:=Qa (e8.out.setWant b1 4 (z:=4) rfl);have f5:w5.heap.size= (w5.setCell ⟨rb,14,none⟩ (.int .i64 4)).heap.size:=by simp
 obtain⟨w6,e4⟩:∃w6,w5.setCell ⟨rb,14,none⟩ (.int .i64 4)=w6:=⟨_,rfl⟩;rw[e4] at a4 ⊢;have c5:=Qa (show cZ B w w6 from(⟨c3,(aJ.of_below TA c4.out).trans (f1.out.imp fun _ h=>h.elim)⟩:cZ B w w5).trans (cZ.rd a4.out.1 a4.out.2.1));have c7:=Qa (c1.out.kp a4.out.2.1 bY);have a9:w6.heap[w.heap.size]?=some (.cells #[.int .i64 p,.string s] 304 (0,0)):=a4.out.2.1.heap b9.out (by simp only[mm];decide);have d2:=a4.out.2.2;obtain⟨wr,b6⟩:∃wr,w6.drew=wr:=⟨_,rfl⟩;have a5:Below w6.heap.size w6 wr:=by rw[<-b6];exact(Zd _ _).drew
 have b0:=d2.below a5;obtain⟨A12,q12,f0,-⟩:=ah b0.opens;subst f0;obtain⟨m9,e5⟩:∃m9,fs.length=m9:=⟨_,rfl⟩;have C11:=Qa (aa b0.row (j:=11) (u:=.func (.func 109) #[.pointer (some ⟨xb,0,none⟩)] #[]) rfl);have C12:=Qa (aa b0.row (j:=12) (u:=.slice A12 (m9+1) q12) (by rw[<-e5];rfl));have E1:=Qa (aa (aj a9 a5) (j:=1) (u:=.string s) rfl);have g2:=Qa (zP (lv:=(m9:Int)+1) (s:=s) (by omega) (c7.out.below a5) ho b3 (by have:=Hl.out;omega) (Zb (Zb HB.out c5.out.b.size) a5.size));have Hr:=Qa (And.intro (c5.out.trans (cZ.new a5 (Zb HB.out c5.out.b.size))) b0);clear c14 f14 a5 b0 a9 d2 e4 f5 b1 c3 d4 e5;refine dj (fun w2=>w2.cell? ⟨rb,11,none⟩=some (.func (.func 109) #[.pointer (some ⟨xb,0,none⟩)] #[])/\w2.cell? ⟨rb,12,none⟩=some (.slice A12 (m9+1) q12)/\w2.cell? ⟨w.heap.size,1,none⟩=some (.string s)) 13 ((by rw[b6];exact⟨C11.out,C12.out,E1.out⟩)) fun a0=>?_
 rw[b6] at a0 ⊢;clear b6;refine tR 0 a0 ?_;refine tR 1 a0 ?_;refine tR 2 a0 ?_;refine tR 3 a0 ?_;refine tR 4 a0 ?_;refine tR 5 a0 ?_
 try simp only[Act.put,jP,jQ,jR]
 refine tR 6 a0 ?_;refine tR 7 a0 ?_;refine tR 8 a0 ?_;refine tR 9 a0 ?_;refine tR 10 a0 ?_;refine tR 11 a0 ?_
 try simp only[Act.put,jP,jQ,jR]
 refine tR 12 a0 ?_
 try simp only[Act.put,jP,jQ,jR]
 refine rZ 13 fun K hK=>?_
 go_simp;(with_reducible refine g2.out.mono ?_);rintro e w4 ⟨rfl,h1,h2,h3⟩;have R:=Qa (And.intro h1 (And.intro h2 h3));clear h1 h2 h3;go_wp2_with fail;refine hK.out _ _ (fun h=>absurd rfl h) (fun _=>?_);clear hK K
 try simp only[Act.put,jP,jQ,jR]
 refine bi (by kernel_rfl) (NoPanic.normal ?_) _;go_end0;obtain⟨y1,y2,y3⟩:=R.out;exact⟨rfl,Hr.out.1.trans (cZ.tb y1 y2),Hr.out.2.s.tb y2,y3⟩
structure j9 (B:Nat) (w:World) (rb lb xb:Nat) (v:Value) (xs:List UInt8) (ofr nfr:List Fr) (want k:Nat) (nd:Nat) (fin:Bool) (by_ dp ex:Int) (ov nv:Value) (maps:List Nat):Prop where
 row:w.heap[rb]?=some (.cells (dK lb xb by_ dp nd ex ov nv want fin) 230 (0,0))
 low:B<=rb
 lex:pe w lb v xs k
 llow:B<=lb
 own:au w B v xs
 opens:w.ownsRow B 3 1 ov ofr.length (ofr.reverse.map gY)
 names:w.ownsRow B 336 1 nv maps.length (maps.reverse.map yb)
 seen:bB (kg B w) maps (nfr.filter (·.obj))
 nodup:maps.Nodup
 le:k<=xs.length
section
variable {B rb lb xb want k nd:Nat}{w w' w5:World}{v:Value}{xs:List UInt8}{frs ofr nfr:List Fr}{fin:Bool}{by_ dp ex:Int}{ov nv:Value}{maps:List Nat}
theorem iP.b (h:iP B w rb lb xb v xs frs want k nd fin by_ dp ex ov nv maps):j9 B w rb lb xb v xs frs frs want k nd fin by_ dp ex ov nv maps:=⟨h.row,h.low,h.lex,h.llow,h.own,h.opens,h.names,h.seen,h.nodup,h.le⟩
theorem j9.a (h:j9 B w rb lb xb v xs frs frs want k nd fin by_ dp ex ov nv maps):iP B w rb lb xb v xs frs want k nd fin by_ dp ex ov nv maps:=⟨h.row,h.low,h.lex,h.llow,h.own,h.opens,h.names,h.seen,h.nodup,h.le⟩
theorem j9.below (h:j9 B w rb lb xb v xs ofr nfr want k nd fin by_ dp ex ov nv maps)(hb:Below w.heap.size w w'):j9 B w' rb lb xb v xs ofr nfr want k nd fin by_ dp ex ov nv maps:=by
 obtain⟨h1,h2,h3,h4,h5,h6,h7,h8,h9,a1⟩:=h;have a0:au w' B v xs:=aq h5 hb (Za _);refine⟨aj h1 hb,h2,h3.below hb,h4,a0,aq h6 hb (Za _),aq h7 hb (Za _),h8.mono fun a b h=>?_,h9,a1⟩;obtain⟨q1,l,n,q2,q3,q4⟩:=h;exact⟨q1,l,n,q2.kp (Kp.of_below (fun _=>False) hb),q3,q4⟩
theorem j9.stay (h:j9 B w rb lb xb v xs ofr nfr want k nd fin by_ dp ex ov nv maps)(a0:br F w w')(hF:∀g,F g->g<w.heap.size->∃cs e z,w.heap[g]?=some (.cells cs e z)/\mm e):Kp mm w w':=Kp.of_chg a0 hF
theorem j9.seens (h:bB (kg B w) maps (nfr.filter (·.obj)))(hk:Kp T w w'):bB (kg B w') maps (nfr.filter (·.obj)):=h.mono fun a b h=>by
 obtain⟨q1,l,n,q2,q3,q4⟩:=h;exact⟨q1,l,n,q2.kp hk,q3,q4⟩
theorem j9.setOpen (h:j9 B w rb lb xb v xs ofr nfr want k nd fin by_ dp ex ov nv maps)(hB:B<=w.heap.size)(a2:br F w w5)(hF:∀g,F g->ov.ownBlock=some g){ov':Value}{ofr':List Fr}(hp:w5.ownsRow B 3 1 ov' ofr'.length (ofr'.reverse.map gY)) :
  Below B w (w5.setCell ⟨rb,12,none⟩ ov')/\Kp mm w (w5.setCell ⟨rb,12,none⟩ ov')/\j9 B (w5.setCell ⟨rb,12,none⟩ ov') rb lb xb v xs ofr' nfr want k nd fin by_ dp ex ov' nv maps:=by
 obtain⟨h1,h2,h3,h4,h5,h6,h7,h8,h9,a4⟩:=h;have a1:br (fun g=>F g\/g=rb) w (w5.setCell ⟨rb,12,none⟩ ov'):=(a2.mono fun _ h=>.inl h).trans (br.set rb 12 ov') fun i hi=>.inl (.inr hi)
 have a5:∀g,(F g\/g=rb)->g<w.heap.size->∃cs e z,w.heap[g]?=some (.cells cs e z)/\(e=3\/e=230):=fun g hg _=>by
  rcases hg with hg|rfl
  ·obtain⟨_,cur,hh⟩:=al h6 (hF g hg);exact⟨_,_,_,hh,.inl rfl⟩
  ·exact⟨_,_,_,h1,.inr rfl⟩
 have hk:Kp (fun e=>e=3\/e=230) w (w5.setCell ⟨rb,12,none⟩ ov'):=Kp.of_chg a1 a5;have a0:au (w5.setCell ⟨rb,12,none⟩ ov') B v xs:=ao h5 hk.keeps (by decide);have hrb:rb<w.heap.size:=ae h1;have a3:w5.heap[rb]?=some (.cells (dK lb xb by_ dp nd ex ov nv want fin) 230 (0,0)):=(a2.block rb hrb fun hf=>aO h6 h1 (by decide) (hF rb hf)).trans h1;have hne:=aO hp a3 (by decide);refine⟨a1.below hB (fun i hi=>hi.elim (fun h=>(al h6 (hF i h)).1) fun e=>by rw[e];exact h2),hk.imp fun e he=>he.elim (fun h=>.inr (.inr (.inl h))) fun h=>.inl h,aw a3 12 ov',h2,⟨hk.heap h3.1 (by decide),au.bs a0⟩,h4,a0,bH hp fun b hb=>(br.set rb 12 ov').block b (ae (al hp hb).2.choose_spec) fun e=>hne (by rw[hb,e]),ao h7 hk.keeps (by decide),j9.seens h8 hk,h9,a4⟩
theorem j9.setNames (h:j9 B w rb lb xb v xs ofr nfr want k nd fin by_ dp ex ov nv maps)(hB:B<=w.heap.size)(a3:br F w w5)(hF:∀g,F g->nv.ownBlock=some g){nv':Value}{maps':List Nat}{nfr':List Fr}(hp:w5.ownsRow B 336 1 nv' maps'.length (maps'.reverse.map yb))(a7:maps'.Nodup)
  (a6:∀w9,Kp (fun e=>e=336\/e=230) w w9->Kp (fun e=>e=230) w5 w9->bB (kg B w9) maps' (nfr'.filter (·.obj))) :
  Below B w (w5.setCell ⟨rb,13,none⟩ nv')/\Kp mm w (w5.setCell ⟨rb,13,none⟩ nv')/\j9 B (w5.setCell ⟨rb,13,none⟩ nv') rb lb xb v xs ofr nfr' want k nd fin by_ dp ex ov nv' maps':=by
 obtain⟨h1,h2,h3,h4,h5,h6,h7,h8,h9,a5⟩:=h;have a1:br (fun g=>F g\/g=rb) w (w5.setCell ⟨rb,13,none⟩ nv'):=(a3.mono fun _ h=>.inl h).trans (br.set rb 13 nv') fun i hi=>.inl (.inr hi)
 have a9:∀g,(F g\/g=rb)->g<w.heap.size->∃cs e z,w.heap[g]?=some (.cells cs e z)/\(e=336\/e=230):=fun g hg _=>by
  rcases hg with hg|rfl
  ·obtain⟨_,cur,hh⟩:=al h7 (hF g hg);exact⟨_,_,_,hh,.inl rfl⟩
  ·exact⟨_,_,_,h1,.inr rfl⟩
 have hk:Kp (fun e=>e=336\/e=230) w (w5.setCell ⟨rb,13,none⟩ nv'):=Kp.of_chg a1 a9;have a0:au (w5.setCell ⟨rb,13,none⟩ nv') B v xs:=ao h5 hk.keeps (by decide);have hrb:rb<w.heap.size:=ae h1;have a2:w5.heap[rb]?=some (.cells (dK lb xb by_ dp nd ex ov nv want fin) 230 (0,0)):=(a3.block rb hrb fun hf=>aO h7 h1 (by decide) (hF rb hf)).trans h1;have hne:=aO hp a2 (by decide);have a4:Kp (fun e=>e=230) w5 (w5.setCell ⟨rb,13,none⟩ nv'):=Kp.of_chg (br.set rb 13 nv') fun g e _=>by subst e;exact⟨_,_,_,a2,rfl⟩
 refine⟨a1.below hB (fun i hi=>hi.elim (fun h=>(al h7 (hF i h)).1) fun e=>by rw[e];exact h2),hk.imp fun e he=>he.elim (fun h=>.inr (.inr (.inr h))) fun h=>.inl h,aw a2 13 nv',h2,⟨hk.heap h3.1 (by decide),au.bs a0⟩,h4,a0,ao h6 hk.keeps (by decide),bH hp fun b hb=>(br.set rb 13 nv').block b (ae (al hp hb).2.choose_spec) fun e=>hne (by rw[hb,e]),a6 _ hk a4,a7,a5⟩
theorem j9.setWant (h:j9 B w rb lb xb v xs ofr nfr want k nd fin by_ dp ex ov nv maps)(hB:B<=w.heap.size)(n:Nat){z:Int}(hz:z=n):Below B w (w.setCell ⟨rb,14,none⟩ (.int .i64 z))/\Kp mm w (w.setCell ⟨rb,14,none⟩ (.int .i64 z))/\j9 B (w.setCell ⟨rb,14,none⟩ (.int .i64 z)) rb lb xb v xs ofr nfr n k nd fin by_ dp ex ov nv maps:=by
 subst hz;obtain⟨h1,h2,h3,h4,h5,h6,h7,h8,h9,a2⟩:=h;have a1:=br.set (w:=w) rb 14 (.int .i64 n);have hk:Kp (fun e=>e=230) w (w.setCell ⟨rb,14,none⟩ (.int .i64 n)):=Kp.of_chg a1 fun g e _=>by subst e;exact⟨_,_,_,h1,rfl⟩
 have a0:au (w.setCell ⟨rb,14,none⟩ (.int .i64 n)) B v xs:=ao h5 hk.keeps (by decide);exact⟨a1.below hB (fun i e=>by rw[e];exact h2),hk.imp fun e he=>.inl he,aw h1 14 _,h2,⟨hk.heap h3.1 (by decide),au.bs a0⟩,h4,a0,ao h6 hk.keeps (by decide),ao h7 hk.keeps (by decide),j9.seens h8 hk,h9,a2⟩
end
def AN:Nat->List UInt8
 |0=> [91,123]
 |1=> [91,123,93]
 |3=> [125]
 |4=> [58]
 |5=> [44,93]
 |6=> [44,125]
 |_=> []
theorem GB (want:Nat)(c:UInt8):zQ want c= (AN want).contains c:=by
 rcases want with _|_|_|_|_|_|_|n <;> rfl
def kR (w:World):Prop:= ∀i,i<8->w.cell? ⟨8,i,none⟩=some (.string ⟨(AN i).toArray⟩)
theorem kR.below (h:kR w)(hb:Below w.heap.size w w'):kR w':=fun i hi=>Zf hb (h i hi)
theorem oV {bs:List Nat}(a1:lv= (fs.length+1:Nat))(h:fC B w xb (f::fs) none bs)(ho:f.obj=false)(a2:f.name=none)(a3:f.ok kf)(hi:f.items.length<=4294967296)(a5:f.mems.length<=4294967296)(a4:kN fs)(hB:B<=w.heap.size):Calls Tryz.prog 109 #[.pointer (some ⟨xb,0,none⟩),.iface 243 (.agg #[.int .i64 lv,.int .i64 5])] w fun e w'=>mU B xb (cW fs (dZ f)) w e w':=by
 have a0:=ac w (.cells #[.int .i64 lv,.int .i64 5] 243);have Hc:=Qa (wX a1 (h.below a0) ho a2 a3 hi a5 a4 (Zb hB a0.size));have a6:=Qa a0;have HB:=Qa hB;have q1:=tS;have q2:=ke;have q3:=j4;have q4:=jX;clear h a0 hB a1 ho a2 a3 hi a5 a4;go_enter Tryz.func109,Tryz.ntmps109;go_wp2_with fail;(with_reducible refine Hc.out.mono ?_);rintro e w' ⟨rfl,h1,h2,h3⟩;have R:=Qa (And.intro h1 (And.intro h2 h3));clear h1 h2 h3;go_wp2_with fail;go_end0;exact⟨rfl,(a6.out.mono HB.out).trans R.out.1,(Kp.of_below TB a6.out).trans R.out.2.1,R.out.2.2⟩
theorem pF {bs:List Nat}(a1:lv= (fs.length+1:Nat))(h:fC B w xb (f::fs) none bs)(ho:f.obj=true)(a2:f.name=none)(a3:f.ok kf)(hi:f.items.length<=4294967296)(a5:f.mems.length<=4294967296)(a4:kN fs)(hB:B<=w.heap.size):Calls Tryz.prog 109 #[.pointer (some ⟨xb,0,none⟩),.iface 243 (.agg #[.int .i64 lv,.int .i64 6])] w fun e w'=>mU B xb (cW fs (dZ f)) w e w':=by
 have a0:=ac w (.cells #[.int .i64 lv,.int .i64 6] 243);have Hc:=Qa (BA a1 (h.below a0) ho a2 a3 hi a5 a4 (Zb hB a0.size));have a6:=Qa a0;have HB:=Qa hB;have q1:=tS;have q2:=ke;have q3:=j4;have q4:=jX;clear h a0 hB a1 ho a2 a3 hi a5 a4;go_enter Tryz.func109,Tryz.ntmps109;go_wp2_with fail;(with_reducible refine Hc.out.mono ?_);rintro e w' ⟨rfl,h1,h2,h3⟩;have R:=Qa (And.intro h1 (And.intro h2 h3));clear h1 h2 h3;go_wp2_with fail;go_end0;exact⟨rfl,(a6.out.mono HB.out).trans R.out.1,(Kp.of_below TB a6.out).trans R.out.2.1,R.out.2.2⟩
theorem pG {L:List UInt8}{y c:UInt8}(h:L[i]?=some y):(L.take (i+1)).contains c= ((L.take i).contains c||c==y):=by
 rw[List.take_add_one,h];rw[Bool.eq_iff_iff];simp[List.contains_eq_mem]
theorem DZ:dE 23 3 (.int .i64 0) 1 8:=⟨Tryz.underlying23,by kernel_rfl,rfl,by decide⟩
theorem GN:dE 228 336 (.map none) 1 8:=⟨Tryz.underlying228,by kernel_rfl,rfl,by decide⟩
theorem j9.pushName {k:Nat}{ofr:List Fr}(h:j9 B w rb lb xb v xs ofr nfr want k nd fin by_ dp ex ov nv maps)(hB:B<=w.heap.size){z:Nat}(hz:w.heap.size=z){W8:World}(hW:((w.alloc (.map #[] 0)).alloc (.cells #[.map (some z)] 336))=W8) :
  W8.ownsRow B 336 1 nv maps.length (maps.reverse.map yb)/\Below w.heap.size w W8/\(∀j u, [Value.map (some z)][j]?=some u->W8.cell? ⟨z+1,j,none⟩=some u)/\∀w9 nv',W8.grownBy w9 nv.ownBlock->w9.ownsRow B 336 1 nv' (maps.length+1) (maps.reverse.map yb ++ [.map (some z)])->
   w9.heap[rb]?=some (.cells (dK lb xb by_ dp nd ex ov nv want fin) 230 (0,0))/\Below B W8 (w9.setCell ⟨rb,13,none⟩ nv')/\Kp mm W8 (w9.setCell ⟨rb,13,none⟩ nv')/\j9 B (w9.setCell ⟨rb,13,none⟩ nv') rb lb xb v xs ofr (⟨true, [], [],none⟩::nfr) want k nd fin by_ dp ex ov nv' (z::maps):=by
 subst hz;have a3:=ac w (.map #[] 0);have a1:=ac (w.alloc (.map #[] 0)) (.cells #[.map (some w.heap.size)] 336);rw[hW] at a1;have hb:=bE a3 a1;have h8:=h.below hb;have a0:d7 W8 w.heap.size [] 0:=(d7.made w).kp (Kp.of_below (fun _=>False) a1);have hlt:∀b∈maps,b<w.heap.size:=fun b hb=>by
  obtain⟨i,hi,rfl⟩:=List.getElem_of_mem hb;have hl:=h.seen.1;obtain⟨-,l,n,hs,-⟩:=h.seen.2 i maps[i] ((nfr.filter (·.obj))[i]'(by omega)) (Zc hi) (Zc _);exact hs.lt
 have hcn:=ar (w.alloc (.map #[] 0)) [.map (some w.heap.size)] 336;rw[World.size_alloc] at hcn;refine⟨h8.names,hb,by rw[<-hW];exact hcn,fun w9 nv' hg hp=>?_⟩;have a2:=aF h8.row hg (aO h8.names h8.row (by decide));have hs:=h8.setNames (Zb hB hb.size) (br.grown hg) (fun g h=>h) (nv':=nv') (maps':=w.heap.size::maps) (nfr':=⟨true, [], [],none⟩::nfr) (by rw[List.length_cons,List.reverse_cons,List.map_append];exact hp) (List.nodup_cons.2 ⟨fun hm=>Nat.lt_irrefl _ (hlt _ hm),h8.nodup⟩) (fun w10 hk _=>by
  simp only[List.filter_cons,if_true];refine bB.cons ⟨hB, [],0,a0.kp hk,Zj _,fun s=>by simp[jf]⟩ (j9.seens h8.seen hk))
 exact⟨a2,hs⟩
theorem sM {xs:List Value}(h:w.ownsRow B e 1 (.slice A (n+1) q) (n+1) (xs ++ [x]))(hx:xs.length=n):w.ownsRow B e 1 (.slice A n q) n xs:=ko h (by rw[hx,Nat.mul_one])
theorem j9.topOpen {k:Nat}(h:j9 B w rb lb xb v xs (f::fs) nfr want k nd fin by_ dp ex ov nv maps):∃g q,ov =.slice (some ⟨g,0,none⟩) (fs.length+1) q/\w.cell? ⟨g,fs.length,none⟩=some (.int .i64 (if f.obj then 6 else 5))/\fs.length+1<=q:=by
 have ho:=h.opens;rw[List.length_cons] at ho;obtain⟨A,q,rfl,hq,-,hA⟩:=ah ho;obtain⟨g,rfl⟩:=hA (by omega);have cg:=World.ownsRow.cellAt ho fs.length (by omega);rw[List.reverse_cons,List.map_append,List.getElem?_append_right (by simp),List.length_map,List.length_reverse,Nat.sub_self] at cg;exact⟨g,q,rfl,cg,hq⟩
theorem iP.topKind {k:Nat}(h:iP B w rb lb xb v xs (f::fs) want k nd fin by_ dp ex ov nv maps):∃g q,ov =.slice (some ⟨g,0,none⟩) (fs.length+1) q/\w.cell? ⟨g,fs.length,none⟩=some (.int .i64 (if f.obj then 6 else 5))/\fs.length+1<=q:=by
 have ho:=h.opens;rw[List.length_cons] at ho;obtain⟨A,q,rfl,hq,-,hA⟩:=ah ho;obtain⟨g,rfl⟩:=hA (by omega);have cg:=World.ownsRow.cellAt ho fs.length (by omega);rw[List.reverse_cons,List.map_append,List.getElem?_append_right (by simp),List.length_map,List.length_reverse,Nat.sub_self] at cg;exact⟨g,q,rfl,cg,hq⟩
inductive jW (nd:Nat):Int->UInt8->List Fr->dH->Nat->Prop
 |colon (frs:List Fr):jW nd 58 58 frs ⟨frs,0,none⟩ nd
 |comma5 (f:Fr) (fs:List Fr) (ho:f.obj=false) (hl:fs.length<=4294967296):jW nd 44 44 (f::fs) ⟨f::fs,0,none⟩ nd
 |comma6 (f:Fr) (fs:List Fr) (ho:f.obj=true) (hl:fs.length<=4294967296):jW nd 44 44 (f::fs) ⟨f::fs,2,none⟩ nd
 |open5 (frs:List Fr) (hl:frs.length<=1000000000) (hn:nd<=1000000000) (hlk:∀f fs,frs=f::fs->cj f=false):jW nd 91 91 frs ⟨⟨false, [], [],none⟩::frs,1,none⟩ (nd+1)
 |open6 (frs:List Fr) (hl:frs.length<=1000000000) (hn:nd<=1000000000) (hlk:∀f fs,frs=f::fs->cj f=false):jW nd 123 123 frs ⟨⟨true, [], [],none⟩::frs,3,none⟩ (nd+1)
 |close5 (f:Fr) (fs:List Fr) (ho:f.obj=false) (hnn:f.name=none) (hfo:f.ok kf) (hi:f.items.length<=4294967296) (hmi:f.mems.length<=4294967296) (hTB:kN fs) (hl:fs.length<=1000000000):jW nd 93 93 (f::fs) (cW fs (dZ f)) nd
 |close6 (f:Fr) (fs:List Fr) (ho:f.obj=true) (hnn:f.name=none) (hfo:f.ok kf) (hi:f.items.length<=4294967296) (hmi:f.mems.length<=4294967296) (hTB:kN fs) (hl:fs.length<=1000000000):jW nd 125 125 (f::fs) (cW fs (dZ f)) nd
theorem jW.eq {z:Int}{c:UInt8}{C:dH}(h:jW nd z c frs C nd'):z=c.toNat:=by cases h <;> rfl
theorem fR {k:Nat}{p z:Int}{c:UInt8}{C:dH}{bs:List Nat}(hM:kR w)(hw:want<8)(c1:zQ want c=true)(hR:kc B w rb lb xb v xs frs want k nd false)(m4:fC B w xb frs none bs)(hB:B<=w.heap.size)(hc:jW nd z c frs C nd'):Calls Tryz.prog 179 #[.pointer (some ⟨rb,0,none⟩),.agg #[.int .i64 p,.int .u8 z]] w (Ig B rb lb xb v xs C k nd' false w):=by
 have f3:=ac w (.cells #[.int .i64 p,.int .u8 z] 301);obtain⟨w1,o2⟩:∃w1,w.alloc (.cells #[.int .i64 p,.int .u8 z] 301)=w1:=⟨_,rfl⟩;have j2:=Qa (Ze w (.cells #[.int .i64 p,.int .u8 z] 301));rw[o2] at f3 j2;have HR:=Qa (hR.below f3);have n1:=Qa (m4.below f3);have HM:=Qa (hM.below f3);have HB:=Qa hB;have n3:=Qa f3;have Hz:=Qa hc.eq;have m2:=Qa hc;obtain⟨by_,dp,ex,ov,nv,maps,hA⟩:=HR.out;have HA:=Qa hA;have c14:=aa hA.row (j:=14) (u:=.int .i64 want) rfl;have m0:=HM.out want hw;rw[GB] at c1;obtain⟨L,hL⟩:∃L,AN want=L:=⟨_,rfl⟩;have n6:L.length<=3:=by rw[<-hL];have:∀i,i<8->(AN i).length<=3:=(by decide);exact this want hw
 rw[hL] at m0 c1;have m3:=Qa c1;have m9:=Qa (show((⟨L.toArray⟩:ByteArray)).size=L.length by simp[ByteArray.size]);have p4:(want:Int)<8:=by omega
 clear hM hR m4 hB f3 hA hL c1 hw hc;go_enter Tryz.func179,Tryz.ntmps179;go_wp2_with fail;have HX:=Qa (True.intro)
 go_loopg [4,14] L.length (fun m s4 s14 wr=> ∃i:Nat,m+i=L.length/\s14 =.int .i64 i/\s4 =.bool ((L.take i).contains c)/\Below w1.heap.size w1 wr)
 case atStart=>exact⟨0,rfl,rfl,rfl,Zd _ _⟩
 case round=>
  obtain⟨i,c2,rfl,rfl,hb⟩:=hrel;have Hb:=Qa hb;have Hmi:=Qa c2;have d14:=Zf hb c14;have n0:=Zf hb m0;have n4:=m9.out
  by_cases hlt:i<L.length
  ·obtain⟨y,hy⟩:∃y,L[i]?=some y:=⟨_,Zc hlt⟩;have m1:(i:Int)<L.length:=by omega
   have e1:=Zf hb (aa j2.out (j:=1) (u:=.int .u8 z) rfl);have q4:∀w',(Instr.index 9 (.string ⟨L.toArray⟩) (.int .i64 (i:Int))).run Tryz.prog w' =.ok (.int .u8 y.toNat) w':=fun w'=>jE (s:=⟨L.toArray⟩) (by simpa using hy) w'
   have Htk:=Qa (pG (c:=c) hy);have hyc:((y.toNat:Int)==z)= (c==y):=by
    rw[Hz.out,Bool.eq_iff_iff];simp only[beq_iff_eq];exact⟨fun h=>UInt8.toNat_inj.1 (by omega),fun h=>by rw[h]⟩
   have f2:0+0=0:=rfl;clear hb c2 hlt hy c14 m0
   cases hok:(L.take i).contains c
   all_goals
    go_wp2_with fail;go_quiet (fail);go_wp2_with fail;go_roundg (L.length - (i+1))
    case measure=>have:=Hmi.out;omega
    case rel=>exact⟨i+1,by have:=Hmi.out;omega,by go_num,by rw[Htk.out,hok];simp[hyc],az Hb.out _⟩
  ·obtain rfl:i=L.length:=by omega
   have m1:¬ (L.length:Int)<L.length:=by omega
   have hok:(L.take L.length).contains c=true:=by rw[List.take_length];exact m3.out
   rw[hok];have e1:=Zf hb (aa j2.out (j:=1) (u:=.int .u8 z) rfl);have a6:=Qa (HA.out.below hb);have a7:=Qa (n1.out.below hb);have d2:=Qa (cZ.new (bE n3.out hb) HB.out);have b1:B<=wr.heap.size:=Zb HB.out d2.out.b.size;have q0:=m2.out;clear hb c2 hlt c14 m0 d14 n0 n4 hok p4 n6 m2 Hz HX m3 m9 HM HR HA n1 j2;rcases q0 with ⟨frs⟩|⟨f,fs,ho,hl⟩|⟨f,fs,ho,hl⟩|⟨frs,hl,hn,i2⟩|⟨frs,hl,hn,i2⟩|⟨f,fs,ho,f2,i5,hi,c2,h4,hl⟩|⟨f,fs,ho,f2,i5,hi,c2,h4,hl⟩
   ·have d14:=aa a6.out.row (j:=14) (u:=.int .i64 want) rfl;have f14:=am a6.out.row 14;have Hs:=Qa (a6.out.setWant b1 0 (z:=0) rfl);go_wp2_with fail;go_end0;exact⟨rfl,d2.out.trans (cZ.rd Hs.out.1 Hs.out.2.1),Hs.out.2.2.s,_,a7.out.kp Hs.out.2.1 bY⟩
   ·have d14:=aa a6.out.row (j:=14) (u:=.int .i64 want) rfl;have f14:=am a6.out.row 14;have Hs:=Qa (a6.out.setWant b1 0 (z:=0) rfl);obtain⟨w6,g5⟩:∃w6,wr.setCell ⟨rb,14,none⟩ (.int .i64 0)=w6:=⟨_,rfl⟩;rw[g5] at Hs;obtain⟨g,q,a9,cg,hq⟩:=Hs.out.2.2.topKind;rw[ho] at cg;simp only[Bool.false_eq_true,if_false,if_true] at cg;subst a9;obtain⟨m,hm⟩:∃m,fs.length=m:=⟨_,rfl⟩;rw[hm] at cg hq hl;have c12:=aa Hs.out.2.2.row (j:=12) (u:=.slice (some ⟨g,0,none⟩) (m+1) q) (by rw[<-hm];rfl);have s1:IntKind.i64.wrap (m:Int)= (m:Int):=IntWalk.i64_in _ (by omega);have e6:(m:Int)< (m:Int)+1:=by omega
    have l4:=Qa g5;clear hm hq hl;go_wp2_with fail
    try rw[l4.out]
    go_quiet (fail);go_wp2_with fail;go_end0;have a1:=az (Zd w6.heap.size w6) nq;exact⟨rfl,(d2.out.trans (cZ.rd Hs.out.1 Hs.out.2.1)).trans (cZ.new a1 (Zb b1 Hs.out.2.1.1)),(Hs.out.2.2.below a1).s,_,(a7.out.kp Hs.out.2.1 bY).below a1⟩
   ·have d14:=aa a6.out.row (j:=14) (u:=.int .i64 want) rfl;have f14:=am a6.out.row 14;have Hs:=Qa (a6.out.setWant b1 0 (z:=0) rfl);obtain⟨w6,g5⟩:∃w6,wr.setCell ⟨rb,14,none⟩ (.int .i64 0)=w6:=⟨_,rfl⟩;rw[g5] at Hs;obtain⟨g,q,a9,cg,hq⟩:=Hs.out.2.2.topKind;rw[ho] at cg;simp only[Bool.false_eq_true,if_false,if_true] at cg;subst a9;obtain⟨m,hm⟩:∃m,fs.length=m:=⟨_,rfl⟩;rw[hm] at cg hq hl;have c12:=aa Hs.out.2.2.row (j:=12) (u:=.slice (some ⟨g,0,none⟩) (m+1) q) (by rw[<-hm];rfl);have s1:IntKind.i64.wrap (m:Int)= (m:Int):=IntWalk.i64_in _ (by omega);have e6:(m:Int)< (m:Int)+1:=by omega
    have l4:=Qa g5;clear hm hq hl;go_wp2_with fail
    try rw[l4.out]
    go_quiet (fail);have a1:=az (Zd w6.heap.size w6) nq;have h0:=Hs.out.2.2.below a1;obtain⟨w7,m5⟩:∃w7,w6.drewN nq=w7:=⟨_,rfl⟩;rw[m5] at a1 h0 ⊢;have g14:=aa h0.row (j:=14) (u:=.int .i64 0) rfl;have f14':=am h0.row 14;have n2:=Zb (Zb b1 Hs.out.2.1.1) a1.size;have j1:=Qa (h0.setWant n2 2 (z:=2) rfl);have a4:=Qa a1;clear h0 a1 m5 c12 cg d14 f14;go_wp2_with fail;go_end0;exact⟨rfl,((d2.out.trans (cZ.rd Hs.out.1 Hs.out.2.1)).trans (cZ.new a4.out (Zb b1 Hs.out.2.1.1))).trans (cZ.rd j1.out.1 j1.out.2.1),j1.out.2.2.s,_,((a7.out.kp Hs.out.2.1 bY).below a4.out).kp j1.out.2.1 bY⟩
   ·have Hl:=Qa hl;have Hn:=Qa hn;have l3:=Qa i2;clear hl hn i2;have g1:=Qa (gg a6.out.s Hl.out Hn.out b1);go_wp2_with fail;(with_reducible refine g1.out.mono ?_);rintro e w2 ⟨rfl,h8,c7,g7⟩;have b5:=a7.out.kp c7 bY;have b2:=Zb b1 c7.1;have c0:=Qa (d2.out.trans (cZ.rd h8 c7));clear g1 c7 h8;obtain⟨wq,hwq⟩:∃wq,w2.drew=wq:=⟨_,rfl⟩;have a1:Below w2.heap.size w2 wq:=by rw[<-hwq];exact(Zd _ _).drew
    have a5:=g7.below a1;have b4:=b5.below a1;have c6:=Qa (ea a5 (by have:=Hl.out;omega));have Htk:=Qa (yi (lv:=(frs.length:Int)+1) (by omega) b4 l3.out (by have:=Hl.out;omega) (Zb b2 a1.size));obtain⟨by2,dp2,ex2,ov2,nv2,maps2,i8⟩:=id a5;have C11:=Qa (aa i8.row (j:=11) (u:=.func (.func 109) #[.pointer (some ⟨xb,0,none⟩)] #[]) rfl);have a4:=Qa (And.intro (c0.out.trans (cZ.new a1 b2)) a5);clear a1 a5 b4 i8 b5 g7 b2;go_wp2_with fail;refine dj (fun w9=>w9.cell? ⟨rb,11,none⟩=some (.func (.func 109) #[.pointer (some ⟨xb,0,none⟩)] #[])) 8 ((by rw[hwq];exact C11.out)) fun a0=>?_
    rw[hwq] at a0 ⊢;clear hwq;refine tR 0 a0 ?_;refine tR 1 a0 ?_;refine tR 2 a0 ?_;refine tR 3 a0 ?_;refine tR 4 a0 ?_
    try simp only[Act.put,jP,jQ,jR]
    refine rZ 5 fun K hK=>?_
    go_simp;(with_reducible refine c6.out.mono ?_);rintro e w' ⟨rfl,rfl⟩;go_wp2_with fail;refine hK.out _ _ (fun _=>a0) (fun a0=>?_);clear hK K;have a0:=a0 (by decide)
    try simp only[Act.put,jP,jQ,jR]
    refine tR 6 a0 ?_;refine tR 7 a0 ?_
    try simp only[Act.put,jP,jQ,jR]
    refine rZ 8 fun K hK=>?_
    go_simp;(with_reducible refine Htk.out.mono ?_);rintro e w4 ⟨rfl,h1,h2,h3⟩;have R:=Qa (And.intro h1 (And.intro h2 h3));clear h1 h2 h3;go_wp2_with fail;refine hK.out _ _ (fun h=>absurd rfl h) (fun _=>?_);clear hK K
    try simp only[Act.put,jP,jQ,jR]
    refine bi (by kernel_rfl) (NoPanic.normal ?_) _;obtain⟨y1,y2,bs2,y3⟩:=R.out;obtain⟨by4,dp4,ex4,ov4,nv4,maps4,a3⟩:=a4.out.2.tb y2;have c5:=Qa (a4.out.1.trans (cZ.tb y1 y2));have d6:B<=w4.heap.size:=Zb HB.out c5.out.b.size;obtain⟨A12,q12,a9,-⟩:=ah a3.opens;subst a9;obtain⟨m,hm⟩:∃m,frs.length=m:=⟨_,rfl⟩;have c12:=aa a3.row (j:=12) (u:=.slice A12 m q12) (by rw[<-hm];rfl);have a2:=ac w4 (.cells #[.int .i64 5] 3);have l5:=Qa (ar w4 [.int .i64 5] 3);have e8:=a3.below a2;have h7:=Qa (show(w4.alloc (.cells #[.int .i64 5] 3)).ownsRow B 3 1 (.slice A12 m q12) m (frs.reverse.map gY) by have:=e8.opens;rwa[hm] at this);have e3:=Qa e8;have k5:=Qa y3;have j5:=Qa (show cZ B w (w4.alloc (.cells #[.int .i64 5] 3)) from c5.out.trans (cZ.new a2 d6));have k4:m<=1000000000:=by rw[<-hm];exact Hl.out
    have Hm:=Qa hm;have c3:=Qa (show B<=(w4.alloc (.cells #[.int .i64 5] 3)).heap.size from Zb d6 a2.size);have d4:=Qa a2;clear y1 y2 y3 a3 d6 a2 e8 R a4 hm;go_wp2_with ((at_builtin;refine ju DZ h7.out l5.out c3.out ?_;intro v' w5 p1 p2 p3;obtain⟨A5,q5,rfl,-,-,-⟩:=ah p1;have e2:=aF e3.out.row p2 (aO h7.out e3.out.row (by decide));have c12':=aa e2 (j:=12) (u:=.slice A12 m q12) (by rw[<-Hm.out];rfl);have f12':=am e2 12;have hs:=e3.out.b.setOpen c3.out (br.grown p2) (fun g h=>by rw[Hm.out];exact h) (ofr':=⟨false, [], [],none⟩::frs) (ov':=.slice A5 (m+1) q5) (by rw[List.length_cons,Hm.out,List.reverse_cons,List.map_append];exact p1);have c14':=aa hs.2.2.row (j:=14) (u:=.int .i64 want) rfl;have f14':=am hs.2.2.row 14;have Hs:=Qa hs;have p0:=Qa p2;clear p1 p2 p3 e2 hs));go_end0;obtain⟨s1,s2,s3⟩:=Hs.out;obtain⟨z1,z2,z3⟩:=s3.setWant (Zb c3.out s2.1) 1 (z:=1) rfl;refine⟨rfl,(j5.out.trans (cZ.rd s1 s2)).trans (cZ.rd z1 z2),⟨by4,dp4,ex4,_,nv4,maps4,z3.row,z3.low,z3.lex,z3.llow,z3.own,z3.opens,z3.names,?_,z3.nodup,z3.le⟩,bs2,((k5.out.below d4.out).kp s2 bY).kp z2 bY⟩;have:=z3.seen;simpa [List.filter_cons] using this
   ·have Hl:=Qa hl;have Hn:=Qa hn;have l3:=Qa i2;clear hl hn i2;have g1:=Qa (gg a6.out.s Hl.out Hn.out b1);go_wp2_with fail;(with_reducible refine g1.out.mono ?_);rintro e w2 ⟨rfl,h8,c7,g7⟩;have b5:=a7.out.kp c7 bY;have b2:=Zb b1 c7.1;have c0:=Qa (d2.out.trans (cZ.rd h8 c7));clear g1 c7 h8;obtain⟨wq,hwq⟩:∃wq,w2.drew=wq:=⟨_,rfl⟩;have a1:Below w2.heap.size w2 wq:=by rw[<-hwq];exact(Zd _ _).drew
    have a5:=g7.below a1;have b4:=b5.below a1;have c6:=Qa (ea a5 (by have:=Hl.out;omega));have Htk:=Qa (xj (lv:=(frs.length:Int)+1) (by omega) b4 l3.out (by have:=Hl.out;omega) (Zb b2 a1.size));obtain⟨by2,dp2,ex2,ov2,nv2,maps2,i8⟩:=id a5;have C11:=Qa (aa i8.row (j:=11) (u:=.func (.func 109) #[.pointer (some ⟨xb,0,none⟩)] #[]) rfl);have a4:=Qa (And.intro (c0.out.trans (cZ.new a1 b2)) a5);clear a1 a5 b4 i8 b5 g7 b2;go_wp2_with fail;refine dj (fun w9=>w9.cell? ⟨rb,11,none⟩=some (.func (.func 109) #[.pointer (some ⟨xb,0,none⟩)] #[])) 8 ((by rw[hwq];exact C11.out)) fun a0=>?_
    rw[hwq] at a0 ⊢;clear hwq;refine tR 0 a0 ?_;refine tR 1 a0 ?_;refine tR 2 a0 ?_;refine tR 3 a0 ?_;refine tR 4 a0 ?_
    try simp only[Act.put,jP,jQ,jR]
    refine rZ 5 fun K hK=>?_
    go_simp;(with_reducible refine c6.out.mono ?_);rintro e w' ⟨rfl,rfl⟩;go_wp2_with fail;refine hK.out _ _ (fun _=>a0) (fun a0=>?_);clear hK K;have a0:=a0 (by decide)
    try simp only[Act.put,jP,jQ,jR]
    refine tR 6 a0 ?_;refine tR 7 a0 ?_
    try simp only[Act.put,jP,jQ,jR]
    refine rZ 8 fun K hK=>?_
    go_simp;(with_reducible refine Htk.out.mono ?_);rintro e w4 ⟨rfl,h1,h2,h3⟩;have R:=Qa (And.intro h1 (And.intro h2 h3));clear h1 h2 h3;go_wp2_with fail;refine hK.out _ _ (fun h=>absurd rfl h) (fun _=>?_);clear hK K
    try simp only[Act.put,jP,jQ,jR]
    refine bi (by kernel_rfl) (NoPanic.normal ?_) _;obtain⟨y1,y2,bs2,y3⟩:=R.out;obtain⟨by4,dp4,ex4,ov4,nv4,maps4,a3⟩:=a4.out.2.tb y2;have c5:=Qa (a4.out.1.trans (cZ.tb y1 y2));have d6:B<=w4.heap.size:=Zb HB.out c5.out.b.size;obtain⟨A12,q12,a9,-⟩:=ah a3.opens;subst a9;obtain⟨m,hm⟩:∃m,frs.length=m:=⟨_,rfl⟩;have c12:=aa a3.row (j:=12) (u:=.slice A12 m q12) (by rw[<-hm];rfl);have a2:=ac w4 (.cells #[.int .i64 6] 3);have l5:=Qa (ar w4 [.int .i64 6] 3);have e8:=a3.below a2;have h7:=Qa (show(w4.alloc (.cells #[.int .i64 6] 3)).ownsRow B 3 1 (.slice A12 m q12) m (frs.reverse.map gY) by have:=e8.opens;rwa[hm] at this);have e3:=Qa e8;have k5:=Qa y3;have j5:=Qa (show cZ B w (w4.alloc (.cells #[.int .i64 6] 3)) from c5.out.trans (cZ.new a2 d6));have k4:m<=1000000000:=by rw[<-hm];exact Hl.out
    have Hm:=Qa hm;have c3:=Qa (show B<=(w4.alloc (.cells #[.int .i64 6] 3)).heap.size from Zb d6 a2.size);have d4:=Qa a2;have g9:maps4.length<=1000000000:=by
     have h1:=a3.seen.1;have h2:=List.length_filter_le (fun g:Fr=>g.obj) frs;have:=Hl.out;omega
    have h5:=Qa g9;clear g9;obtain⟨A13,q13,k3,-⟩:=ah a3.names;subst k3;have q6:= @run_makeMap Tryz.prog;clear y1 y2 y3 a3 d6 a2 e8 R a4 hm;go_wp2_with (first|(at_builtin;refine ju DZ h7.out l5.out c3.out ?_;intro v' w5 p1 p2 p3;obtain⟨A5,q5,rfl,-,-,-⟩:=ah p1;have e2:=aF e3.out.row p2 (aO h7.out e3.out.row (by decide));have c12':=aa e2 (j:=12) (u:=.slice A12 m q12) (by rw[<-Hm.out];rfl);have f12':=am e2 12;have hs:=e3.out.b.setOpen c3.out (br.grown p2) (fun g h=>by rw[Hm.out];exact h) (ofr':=⟨true, [], [],none⟩::frs) (ov':=.slice A5 (m+1) q5) (by rw[List.length_cons,Hm.out,List.reverse_cons,List.map_append];exact p1);have c14':=aa hs.2.2.row (j:=14) (u:=.int .i64 want) rfl;have f14':=am hs.2.2.row 14;have Hs:=Qa hs;have p0:=Qa p2;have c13':=aa hs.2.2.row (j:=13) (u:=.slice A13 maps4.length q13) rfl;have i3:=Qa (hs.2.2.pushName (Zb c3.out hs.2.1.1) (z:=w5.heap.size) (by simp) rfl);clear p1 p2 p3 e2 hs)|(at_builtin;refine ju GN i3.out.1 i3.out.2.2.1 (by have:=Hs.out.2.1.1;have:=c3.out;have:=i3.out.2.1.size;omega) ?_ (hlen:=(by unfold maxLen;have:=h5.out;omega)) (hby:=(by have:=h5.out;omega));intro v9 w9 p1 p2 p3;obtain⟨A9,q9,rfl,-,-,-⟩:=ah p1;have f4:=i3.out.2.2.2 w9 _ p2 p1;have c13q:=aa f4.1 (j:=13) (u:=.slice A13 maps4.length q13) rfl;have f13q:=am f4.1 13;have c14q:=aa f4.2.2.2.row (j:=14) (u:=.int .i64 want) rfl;have f14q:=am f4.2.2.2.row 14;have o1:=Qa f4;clear p1 p2 p3 f4));go_end0;obtain⟨s1,s2,s3⟩:=Hs.out;obtain⟨t1,t2,t3,t4⟩:=i3.out;obtain⟨r0,r1,r2,r3⟩:=o1.out;have c9:=Zb c3.out s2.1;have n5:=Zb c9 t2.size;obtain⟨z1,z2,z3⟩:=r3.setWant (Zb n5 r2.1) 3 (z:=3) rfl;exact⟨rfl,(((j5.out.trans (cZ.rd s1 s2)).trans (cZ.new t2 c9)).trans (cZ.rd r1 r2)).trans (cZ.rd z1 z2),⟨by4,dp4,ex4,_,_,_,z3.a⟩,bs2,((((k5.out.below d4.out).kp s2 bY).below t2).kp r2 bY).kp z2 bY⟩
   ·have Ho:=Qa ho;have k1:=Qa f2;have j3:=Qa i5;have Hi:=Qa hi;have d9:=Qa c2;have f8:=Qa h4;have Hl:=Qa hl;clear ho f2 i5 hi c2 h4 hl;have d14:=aa a6.out.row (j:=14) (u:=.int .i64 want) rfl;obtain⟨g,q,a9,cg,hq⟩:=a6.out.topKind;rw[Ho.out] at cg;simp only[Bool.false_eq_true,if_false,if_true] at cg;subst a9;obtain⟨m,hm⟩:∃m,fs.length=m:=⟨_,rfl⟩;rw[hm] at cg hq;have k4:m<=1000000000:=by rw[<-hm];exact Hl.out
    have c12:=aa a6.out.row (j:=12) (u:=.slice (some ⟨g,0,none⟩) (m+1) q) (by rw[<-hm];rfl);have s1:IntKind.i64.wrap (m:Int)= (m:Int):=IntWalk.i64_in _ (by omega);have e6:(m:Int)< (m:Int)+1:=by omega
    have Hm:=Qa hm;have Hq:=Qa hq;clear hm d14 hq;go_wp2_with fail;go_quiet (fail);have a1:=az (Zd wr.heap.size wr) nq;obtain⟨w2,f9⟩:∃w2,wr.drewN nq=w2:=⟨_,rfl⟩;rw[f9] at a1 ⊢;have d1:=Qa (a6.out.below a1);have b7:=Qa (a7.out.below a1);have c0:=Qa (d2.out.trans (cZ.new a1 b1));clear a1 f9 c12 cg e1;go_wp2_with fail;have j0:=Qa (show ∃by_ dp ex ov nv maps,j9 B w2 rb lb xb v xs (f::fs) (f::fs) want k nd false by_ dp ex ov nv maps from⟨_,_,_,_,_,_,d1.out.b⟩);obtain⟨w3,g6⟩:∃w3,w3=w2:=⟨_,rfl⟩;have c4:=b7;have f5:=c0;rw[<-g6] at j0 c4 f5 ⊢;clear d1 b7 c0 g6;obtain⟨by3,dp3,ex3,ov3,nv3,maps3,e0⟩:=j0.out;obtain⟨g3,q3,a9,-,l2⟩:=e0.topOpen;subst a9;have e7:=Zb HB.out f5.out.b.size;obtain⟨w4,c8⟩:∃w4,w3.drew=w4:=⟨_,rfl⟩;have b6:Below w3.heap.size w3 w4:=by rw[<-c8];exact(Zd _ _).drew
    have a3:=e0.below b6;have C12:=Qa (aa a3.row (j:=12) (u:=.slice (some ⟨g3,0,none⟩) (m+1) q3) (by rw[<-Hm.out];rfl));have f12:=am a3.row 12;have l1:(m:Int)<=q3:=by have:=Hm.out;omega
    have b3:w4.ownsRow B 3 1 (.slice (some ⟨g3,0,none⟩) m q3) fs.length (fs.reverse.map gY):=by
     have:=a3.opens;rw[List.length_cons,List.reverse_cons,List.map_append] at this;rw[<-Hm.out];exact sM this (by simp)
    have b8:=Qa (a3.setOpen (Zb e7 b6.size) (br.refl (fun _=>False) w4) (fun _ h=>h.elim) (ofr':=fs) (ov':=.slice (some ⟨g3,0,none⟩) m q3) b3);have e4:=Qa (c4.out.below b6);have c5:=Qa (f5.out.trans (cZ.new b6 e7));have c12s:=C12.out;clear e0 a3 b3 b6 e7 l2;refine dj (fun w9=>w9.cell? ⟨rb,12,none⟩=some (.slice (some ⟨g3,0,none⟩) (m+1) q3)) 14 ((by rw[c8];exact C12.out)) fun a0=>?_
    rw[c8] at a0 ⊢;clear c8;refine tR 0 a0 ?_;refine tR 1 a0 ?_;refine tR 2 a0 ?_;refine tR 3 a0 ?_;refine tR 4 a0 ?_;refine tR 5 a0 ?_
    try simp only[Act.put,jP,jQ,jR]
    refine tR 6 a0 ?_;refine tR 7 a0 ?_;refine tR 8 a0 ?_;refine tR 9 a0 ?_;refine tR 10 a0 ?_;refine tR 11 a0 ?_
    try simp only[Act.put,jP,jQ,jR]
    refine tR 12 a0 ?_;refine tR 13 a0 ?_
    try simp only[Act.put,jP,jQ,jR]
    refine rZ 14 fun K hK=>?_
    go_simp;refine hK.out _ _ (fun h=>absurd rfl h) (fun _=>?_);clear hK K
    try simp only[Act.put,jP,jQ,jR]
    refine bi (by kernel_rfl) (NoPanic.normal ?_) _;clear a0 c12s f12;obtain⟨w5,g2⟩:∃w5,w4.setCell ⟨rb,12,none⟩ (.slice (some ⟨g3,0,none⟩) m q3)=w5:=⟨_,rfl⟩;rw[g2] at b8 ⊢;have g0:=j9.a (frs:=fs) (by have h:=b8.out.2.2;exact⟨h.row,h.low,h.lex,h.llow,h.own,h.opens,h.names,(by have:=h.seen;rw[List.filter_cons,Ho.out] at this;simpa using this),h.nodup,h.le⟩);have d5:=Qa (e4.out.kp b8.out.2.1 bY);have g4:=Qa (c5.out.trans (cZ.rd b8.out.1 b8.out.2.1));clear g2;go_wp2_with fail;obtain⟨wq,hwq⟩:∃wq,w5.drew=wq:=⟨_,rfl⟩;have a1:Below w5.heap.size w5 wq:=by rw[<-hwq];exact(Zd _ _).drew
    have e5:=Zb HB.out g4.out.b.size;have a5:=g0.s.below a1;have c6:=Qa (ea a5 (by have:=Hl.out;omega));have Htk:=Qa (oV (lv:=(fs.length:Int)+1) (by omega) (d5.out.below a1) Ho.out k1.out j3.out Hi.out d9.out f8.out (Zb e5 a1.size));obtain⟨by2,dp2,ex2,ov2,nv2,maps2,b9⟩:=id a5;have C11:=Qa (aa b9.row (j:=11) (u:=.func (.func 109) #[.pointer (some ⟨xb,0,none⟩)] #[]) rfl);have a4:=Qa (And.intro (g4.out.trans (cZ.new a1 e5)) a5);clear a1 a5 b9 g0 e5;refine dj (fun w9=>w9.cell? ⟨rb,11,none⟩=some (.func (.func 109) #[.pointer (some ⟨xb,0,none⟩)] #[])) 9 ((by rw[hwq];exact C11.out)) fun a0=>?_
    rw[hwq] at a0 ⊢;clear hwq;refine tR 0 a0 ?_;refine tR 1 a0 ?_;refine tR 2 a0 ?_;refine tR 3 a0 ?_;refine tR 4 a0 ?_;refine tR 6 a0 ?_
    try simp only[Act.put,jP,jQ,jR]
    refine rZ 5 fun K hK=>?_
    go_simp;(with_reducible refine c6.out.mono ?_);rintro e w' ⟨rfl,rfl⟩;go_wp2_with fail;refine hK.out _ _ (fun _=>a0) (fun a0=>?_);clear hK K;have a0:=a0 (by decide)
    try simp only[Act.put,jP,jQ,jR]
    refine tR 7 a0 ?_;refine tR 8 a0 ?_
    try simp only[Act.put,jP,jQ,jR]
    refine rZ 9 fun K hK=>?_
    go_simp;(with_reducible refine Htk.out.mono ?_);rintro e w6 ⟨rfl,h1,h2,h3⟩;have R:=Qa (And.intro h1 (And.intro h2 h3));clear h1 h2 h3;go_wp2_with fail;refine hK.out _ _ (fun h=>absurd rfl h) (fun _=>?_);clear hK K
    try simp only[Act.put,jP,jQ,jR]
    refine bi (by kernel_rfl) (NoPanic.normal ?_) _;obtain⟨y1,y2,bs2,y3⟩:=R.out;have g8:=(a4.out.2.tb y2).put (fun f fs e=>(f8.out.2 f fs e).1) (dZ f);have c9:B<=w6.heap.size:=Zb (Zb HB.out a4.out.1.b.size) y1.size;have k9:=Qa (jA g8 c9 (by rw[lm];have:=Hl.out;omega));have R6:=Qa (And.intro (a4.out.1.trans (cZ.tb y1 y2)) y3);clear y1 y2 y3 g8 c9 R a4 c6 Htk C11;go_wp2_with fail;(with_reducible refine k9.out.mono ?_);rintro e w7 ⟨rfl,h1,h2,h3⟩;have R7:=Qa (And.intro h1 (And.intro h2 h3));clear h1 h2 h3;go_wp2_with fail;go_end0;refine⟨rfl,R6.out.1.trans (cZ.rd R7.out.1 R7.out.2.1),?_,bs2,R6.out.2.kp R7.out.2.1 bY⟩;rw[jH];exact R7.out.2.2
   ·have Ho:=Qa ho;have k1:=Qa f2;have j3:=Qa i5;have Hi:=Qa hi;have d9:=Qa c2;have f8:=Qa h4;have Hl:=Qa hl;clear ho f2 i5 hi c2 h4 hl;have d14:=aa a6.out.row (j:=14) (u:=.int .i64 want) rfl;obtain⟨g,q,a9,cg,hq⟩:=a6.out.topKind;rw[Ho.out] at cg;simp only[Bool.false_eq_true,if_false,if_true] at cg;subst a9;obtain⟨m,hm⟩:∃m,fs.length=m:=⟨_,rfl⟩;rw[hm] at cg hq;have k4:m<=1000000000:=by rw[<-hm];exact Hl.out
    have c12:=aa a6.out.row (j:=12) (u:=.slice (some ⟨g,0,none⟩) (m+1) q) (by rw[<-hm];rfl);have s1:IntKind.i64.wrap (m:Int)= (m:Int):=IntWalk.i64_in _ (by omega);have e6:(m:Int)< (m:Int)+1:=by omega
    have Hm:=Qa hm;have Hq:=Qa hq;clear hm d14 hq;go_wp2_with fail;go_quiet (fail);have a1:=az (Zd wr.heap.size wr) nq;obtain⟨w2,f9⟩:∃w2,wr.drewN nq=w2:=⟨_,rfl⟩;rw[f9] at a1 ⊢;have d1:=Qa (a6.out.below a1);have b7:=Qa (a7.out.below a1);have c0:=Qa (d2.out.trans (cZ.new a1 b1));clear a1 f9 c12 cg e1;go_wp2_with fail;obtain⟨b0,maps9,n8⟩:∃b m',maps=b::m':=by
     have f6:=d1.out.seen;simp only[List.filter_cons,Ho.out,if_true] at f6
     cases maps with
     |nil=>have:=f6.1;simp at this
     |cons b m'=>exact⟨b,m',rfl⟩
    subst n8;obtain⟨A13,q13,k3,i4,-,i0⟩:=ah d1.out.names;subst k3;obtain⟨g13,k6⟩:=i0 (by simp);subst k6;obtain⟨n9,l0⟩:∃n,maps9.length=n:=⟨_,rfl⟩;have k2:n9<=m:=by
     have h1:=d1.out.seen.1;have h2:=List.length_filter_le (fun g:Fr=>g.obj) fs;simp only[List.filter_cons,Ho.out,if_true,List.length_cons] at h1;have:=Hm.out;omega
    have b2:=Zb HB.out c0.out.b.size;obtain⟨wb,i9⟩:∃wb,w2.drew=wb:=⟨_,rfl⟩;have h6:Below w2.heap.size w2 wb:=by rw[<-i9];exact(Zd _ _).drew
    have f0:=d1.out.below h6;have C13:=Qa (aa f0.row (j:=13) (u:=.slice (some ⟨g13,0,none⟩) (n9+1) q13) (by rw[<-l0];rfl));have c13s:=C13.out;have f13:=am f0.row 13;have s9:IntKind.i64.wrap (n9:Int)= (n9:Int):=IntWalk.i64_in _ (by omega);have k0:(n9:Int)<=q13:=by rw[List.length_cons] at i4;omega
    have d3:wb.ownsRow B 336 1 (.slice (some ⟨g13,0,none⟩) n9 q13) maps9.length (maps9.reverse.map yb):=by
     have:=f0.names;rw[List.length_cons,List.reverse_cons,List.map_append] at this;rw[<-l0];exact sM this (by simp)
    have f1:=Qa (f0.b.setNames (Zb b2 h6.size) (br.refl (fun _=>False) wb) (fun _ h=>h.elim) (maps':=maps9) (nfr':=fs) (nv':=.slice (some ⟨g13,0,none⟩) n9 q13) d3 (List.nodup_cons.1 f0.nodup).2 (fun w10 hk _=>by
     have f6:=f0.seen;simp only[List.filter_cons,Ho.out,if_true] at f6;refine j9.seens (nfr:=fs) ⟨by simpa using f6.1,fun i x y q1 q2=>f6.2 (i+1) x y (by simpa using q1) (by simpa using q2)⟩ hk))
    have d0:=Qa (b7.out.below h6);have h9:=Qa (c0.out.trans (cZ.new h6 b2));clear d3 f0 h6 b2 i4 i0 k2 l0;refine dj (fun w9=>w9.cell? ⟨rb,13,none⟩=some (.slice (some ⟨g13,0,none⟩) (n9+1) q13)) 14 ((by rw[i9];exact C13.out)) fun a0=>?_
    rw[i9] at a0 ⊢;clear i9;refine tR 0 a0 ?_;refine tR 1 a0 ?_;refine tR 2 a0 ?_;refine tR 3 a0 ?_;refine tR 4 a0 ?_;refine tR 5 a0 ?_
    try simp only[Act.put,jP,jQ,jR]
    refine tR 6 a0 ?_;refine tR 7 a0 ?_;refine tR 8 a0 ?_;refine tR 9 a0 ?_;refine tR 10 a0 ?_;refine tR 11 a0 ?_
    try simp only[Act.put,jP,jQ,jR]
    refine tR 12 a0 ?_;refine tR 13 a0 ?_
    try simp only[Act.put,jP,jQ,jR]
    refine rZ 14 fun K hK=>?_
    go_simp;refine hK.out _ _ (fun h=>absurd rfl h) (fun _=>?_);clear hK K
    try simp only[Act.put,jP,jQ,jR]
    refine bi (by kernel_rfl) (NoPanic.normal ?_) _;clear a0 c13s f13 s9 k0;obtain⟨w3,g6⟩:∃w3,wb.setCell ⟨rb,13,none⟩ (.slice (some ⟨g13,0,none⟩) n9 q13)=w3:=⟨_,rfl⟩;rw[g6] at f1 ⊢;have j0:=Qa (show ∃by_ dp ex ov nv maps,j9 B w3 rb lb xb v xs (f::fs) fs want k nd false by_ dp ex ov nv maps from⟨_,_,_,_,_,_,f1.out.2.2⟩);have c4:=Qa (d0.out.kp f1.out.2.1 bY);have f5:=Qa (h9.out.trans (cZ.rd f1.out.1 f1.out.2.1));clear g6 f1 d0 h9 d1 b7 c0;go_wp2_with fail;obtain⟨by3,dp3,ex3,ov3,nv3,maps3,e0⟩:=j0.out;obtain⟨g3,q3,a9,-,l2⟩:=e0.topOpen;subst a9;have e7:=Zb HB.out f5.out.b.size;obtain⟨w4,c8⟩:∃w4,w3.drew=w4:=⟨_,rfl⟩;have b6:Below w3.heap.size w3 w4:=by rw[<-c8];exact(Zd _ _).drew
    have a3:=e0.below b6;have C12:=Qa (aa a3.row (j:=12) (u:=.slice (some ⟨g3,0,none⟩) (m+1) q3) (by rw[<-Hm.out];rfl));have f12:=am a3.row 12;have l1:(m:Int)<=q3:=by have:=Hm.out;omega
    have b3:w4.ownsRow B 3 1 (.slice (some ⟨g3,0,none⟩) m q3) fs.length (fs.reverse.map gY):=by
     have:=a3.opens;rw[List.length_cons,List.reverse_cons,List.map_append] at this;rw[<-Hm.out];exact sM this (by simp)
    have b8:=Qa (a3.setOpen (Zb e7 b6.size) (br.refl (fun _=>False) w4) (fun _ h=>h.elim) (ofr':=fs) (ov':=.slice (some ⟨g3,0,none⟩) m q3) b3);have e4:=Qa (c4.out.below b6);have c5:=Qa (f5.out.trans (cZ.new b6 e7));have c12s:=C12.out;clear e0 a3 b3 b6 e7 l2;refine dj (fun w9=>w9.cell? ⟨rb,12,none⟩=some (.slice (some ⟨g3,0,none⟩) (m+1) q3)) 14 ((by rw[c8];exact C12.out)) fun a0=>?_
    rw[c8] at a0 ⊢;clear c8;refine tR 0 a0 ?_;refine tR 1 a0 ?_;refine tR 2 a0 ?_;refine tR 3 a0 ?_;refine tR 4 a0 ?_;refine tR 5 a0 ?_
    try simp only[Act.put,jP,jQ,jR]
    refine tR 6 a0 ?_;refine tR 7 a0 ?_;refine tR 8 a0 ?_;refine tR 9 a0 ?_;refine tR 10 a0 ?_;refine tR 11 a0 ?_
    try simp only[Act.put,jP,jQ,jR]
    refine tR 12 a0 ?_;refine tR 13 a0 ?_
    try simp only[Act.put,jP,jQ,jR]
    refine rZ 14 fun K hK=>?_
    go_simp;refine hK.out _ _ (fun h=>absurd rfl h) (fun _=>?_);clear hK K
    try simp only[Act.put,jP,jQ,jR]
    refine bi (by kernel_rfl) (NoPanic.normal ?_) _;clear a0 c12s f12;obtain⟨w5,g2⟩:∃w5,w4.setCell ⟨rb,12,none⟩ (.slice (some ⟨g3,0,none⟩) m q3)=w5:=⟨_,rfl⟩;rw[g2] at b8 ⊢;have g0:=j9.a (frs:=fs) (b8.out.2.2);have d5:=Qa (e4.out.kp b8.out.2.1 bY);have g4:=Qa (c5.out.trans (cZ.rd b8.out.1 b8.out.2.1));clear g2;go_wp2_with fail;obtain⟨wq,hwq⟩:∃wq,w5.drew=wq:=⟨_,rfl⟩;have a1:Below w5.heap.size w5 wq:=by rw[<-hwq];exact(Zd _ _).drew
    have e5:=Zb HB.out g4.out.b.size;have a5:=g0.s.below a1;have c6:=Qa (ea a5 (by have:=Hl.out;omega));have Htk:=Qa (pF (lv:=(fs.length:Int)+1) (by omega) (d5.out.below a1) Ho.out k1.out j3.out Hi.out d9.out f8.out (Zb e5 a1.size));obtain⟨by2,dp2,ex2,ov2,nv2,maps2,b9⟩:=id a5;have C11:=Qa (aa b9.row (j:=11) (u:=.func (.func 109) #[.pointer (some ⟨xb,0,none⟩)] #[]) rfl);have a4:=Qa (And.intro (g4.out.trans (cZ.new a1 e5)) a5);clear a1 a5 b9 g0 e5;refine dj (fun w9=>w9.cell? ⟨rb,11,none⟩=some (.func (.func 109) #[.pointer (some ⟨xb,0,none⟩)] #[])) 9 ((by rw[hwq];exact C11.out)) fun a0=>?_
    rw[hwq] at a0 ⊢;clear hwq;refine tR 0 a0 ?_;refine tR 1 a0 ?_;refine tR 2 a0 ?_;refine tR 3 a0 ?_;refine tR 4 a0 ?_;refine tR 6 a0 ?_
    try simp only[Act.put,jP,jQ,jR]
    refine rZ 5 fun K hK=>?_
    go_simp;(with_reducible refine c6.out.mono ?_);rintro e w' ⟨rfl,rfl⟩;go_wp2_with fail;refine hK.out _ _ (fun _=>a0) (fun a0=>?_);clear hK K;have a0:=a0 (by decide)
    try simp only[Act.put,jP,jQ,jR]
    refine tR 7 a0 ?_;refine tR 8 a0 ?_
    try simp only[Act.put,jP,jQ,jR]
    refine rZ 9 fun K hK=>?_
    go_simp;(with_reducible refine Htk.out.mono ?_);rintro e w6 ⟨rfl,h1,h2,h3⟩;have R:=Qa (And.intro h1 (And.intro h2 h3));clear h1 h2 h3;go_wp2_with fail;refine hK.out _ _ (fun h=>absurd rfl h) (fun _=>?_);clear hK K
    try simp only[Act.put,jP,jQ,jR]
    refine bi (by kernel_rfl) (NoPanic.normal ?_) _;obtain⟨y1,y2,bs2,y3⟩:=R.out;have g8:=(a4.out.2.tb y2).put (fun f fs e=>(f8.out.2 f fs e).1) (dZ f);have c9:B<=w6.heap.size:=Zb (Zb HB.out a4.out.1.b.size) y1.size;have k9:=Qa (jA g8 c9 (by rw[lm];have:=Hl.out;omega));have R6:=Qa (And.intro (a4.out.1.trans (cZ.tb y1 y2)) y3);clear y1 y2 y3 g8 c9 R a4 c6 Htk C11;go_wp2_with fail;(with_reducible refine k9.out.mono ?_);rintro e w7 ⟨rfl,h1,h2,h3⟩;have R7:=Qa (And.intro h1 (And.intro h2 h3));clear h1 h2 h3;go_wp2_with fail;go_end0;refine⟨rfl,R6.out.1.trans (cZ.rd R7.out.1 R7.out.2.1),?_,bs2,R6.out.2.kp R7.out.2.1 bY⟩;rw[jH];exact R7.out.2.2
theorem uO:∀ (f:Nat) (xs out:List UInt8) (n:Nat) (p:List UInt8×Nat),fM out->out.length<=4*n->fZ f xs out n=some p->fM p.1/\p.1.length<=4*p.2
 |0,_,_,_,_,_,_,h=>by cases h
 |f+1,xs,out,n,p,hu,hl,h=>by
  unfold fZ at h
  split at h
  ·cases h
  ·injection h with h
   subst h;exact⟨hu,by simp only;omega⟩
  ·rename_i c k hp
   obtain⟨h1,h2,-⟩:=oW hp;have h3:=gC c;exact uO f _ _ _ p (hu.snoc h1) (by rw[List.length_append];simp only at h2 h3 ⊢;omega) h
theorem vT {s:ByteArray}(hl:xs.length<=1000000000)(h:dC xs=some (.str s,n)):kf s:=by
 cases xs with
 |nil=>cases h
 |cons x xs=>
  simp only[dC] at h
  split at h
  ·injection h with h;injection h with h _;cases h
  ·rw[Option.map_eq_some_iff] at h;obtain⟨j,-,h⟩:=h;injection h with h _;cases h
  ·rw[Option.map_eq_some_iff] at h;obtain⟨j,-,h⟩:=h;injection h with h _;cases h
  ·rw[Option.map_eq_some_iff] at h;obtain⟨p,hp,h⟩:=h;injection h with h _
   injection h with h
   subst h;unfold mT at hp
   split at hp
   ·rename_i ys e
    injection e with e1 e2
    subst e2;obtain⟨h1,h2⟩:=uO _ _ _ _ _ fM.nil (Zj _) hp;have h3:=rY _ _ _ _ _ hp;rw[List.length_cons] at hl;refine⟨by obtain⟨cs,a,b⟩:=h1;exact⟨cs,a,by simpa using b⟩,?_⟩
    show(p.1.toArray).size<=_
    rw[List.size_toArray];omega
   ·cases hp
  ·cases h
theorem z8 (h:dC xs=some (.leaf j,n)):uq j:=by
 cases xs with
 |nil=>cases h
 |cons x xs=>
  simp only[dC] at h
  split at h
  ·injection h with h;injection h with h _;cases h
  ·rw[Option.map_eq_some_iff] at h;obtain⟨j',hj,h⟩:=h;injection h with h _
   injection h with h
   subst h;unfold vC at hj
   split at hj
   ·obtain rfl:=Zh hj;exact .null
   ·split at hj
    ·obtain rfl:=Zh hj;exact .bool true
    ·split at hj
     ·obtain rfl:=Zh hj;exact .bool false
     ·cases hj
  ·rw[Option.map_eq_some_iff] at h;obtain⟨p,hp,h⟩:=h;injection h with h _
   injection h with h
   subst h;unfold o5 at hp;simp only at hp
   split at hp
   ·rw[Option.map_eq_some_iff] at hp;obtain⟨d,hd,rfl⟩:=hp;refine .num d ?_;unfold iT at hd;simp only at hd
    split at hd
    ·obtain rfl:=Zh hd;simp
    ·split at hd
     ·rename_i hx;obtain rfl:=Zh hd;exact hx
     ·cases hd
   ·cases hp
  ·rw[Option.map_eq_some_iff] at h;obtain⟨p,-,h⟩:=h;injection h with h _;cases h
  ·cases h
theorem EK {t:sX}(hl:xs.length<=1000000000)(h:dC xs=some (t,n)):FR kf t:=by
 cases t with
 |mark c=>trivial
 |leaf j=>trivial
 |str s=>exact vT hl h
theorem uS {k:Nat}{t:sX}{bs:List Nat}(ht:(t =.leaf j/\uq j)\/∃s,t =.str s/\j=eW s)(hw:want=0\/want=1)(hR:kc B w rb lb xb v xs frs want k nd false)(a0:fC B w xb frs none bs)(hT:kN frs)(hl:frs.length<=1000000000)(hn:nd<=1000000000)(hB:B<=w.heap.size) :
  Calls Tryz.prog 181 #[.pointer (some ⟨rb,0,none⟩),mN k0 t] w (Ig B rb lb xb v xs (cW frs j) k (nd+1) false w):=by
 rcases ht with ⟨rfl,hj⟩|⟨s,rfl,rfl⟩
 ·cases hj with
  |null=>
   have hs:=fun w=>uN k0 w
   have hm:∀W,(Instr.typeAssert (.iface 58 (.agg #[])) 158 127 true).run Tryz.prog W =.ok (.tuple #[.agg #[.bool false,.string ⟨#[]⟩,.int .i64 0],.bool false]) W:=fun W=>by kernel_rfl
   exact ku hw hR a0 hT hl hn hB hs (fun P w=>VW.null) rfl hm
  |bool b=>
   have hs:=fun w=>vA k0 b w
   have hm:∀W,(Instr.typeAssert (.iface 59 (.bool b)) 158 127 true).run Tryz.prog W =.ok (.tuple #[.agg #[.bool false,.string ⟨#[]⟩,.int .i64 0],.bool false]) W:=fun W=>by kernel_rfl
   exact ku hw hR a0 hT hl hn hB hs (fun P w=>VW.bool b) rfl hm
  |num d hd=>
   have hs:=fun w=>xL k0 d w
   exact BK hw hR a0 hT hl hn hB hs (fun P w=>VW.num d) d rfl hd
 ·have hs:=fun w=>yN k0 s w
  have hm:∀W,(Instr.typeAssert (.iface 40 (.string s)) 158 127 true).run Tryz.prog W =.ok (.tuple #[.agg #[.bool false,.string ⟨#[]⟩,.int .i64 0],.bool false]) W:=fun W=>by kernel_rfl
  exact ku hw hR a0 hT hl hn hB hs (fun P w=>VW.text s) rfl hm
theorem EH {d:Option JV}(h:yI want frs d):want<8:=by
 rcases want with _|_|_|_|_|_|_|_|n <;> first|omega|exact h.elim
theorem mZ {N:ByteArray->Prop}(h:eo frs<=1000000000)(hw:∀f fs,frs=f::fs->cj f=false):kN frs:=by
 refine⟨by have:=ll frs;omega,fun f fs e=>⟨hw f fs e,?_⟩⟩;subst e;have:=nh f fs;omega
def Ii (B rb lb xb:Nat)(v:Value)(xs:List UInt8)(c:dH)(k nd:Nat)(w:World)(e:Ending)(w':World):Prop:= ∃nd',nd'<=nd+1/\Ig B rb lb xb v xs c k nd' false w e w'
theorem BZ {k:Nat}{c c':dH}{x:UInt8}{p:Int}(hM:kR w)(h:PS B rb lb xb v xs c k nd false w)(a5:c.ok kf)(hs:dV c (.mark x)=some c')(hc:eo c.frs<=1000000000)(hn:nd<=1000000000)(hB:B<=w.heap.size) :
  Calls Tryz.prog 179 #[.pointer (some ⟨rb,0,none⟩),.agg #[.int .i64 p,.int .u8 x.toNat]] w (Ii B rb lb xb v xs c' k nd w):=by
 obtain⟨frs,want,done⟩:=c;obtain⟨h1,h2,h3⟩:=a5;obtain⟨hR,bs,a0⟩:=h;simp only at h1 h2 h3 hR a0 hc;have hlen:=ll frs;have a1:=EH h3;simp only[dV] at hs
 split at hs
 case isFalse=>cases hs
 rename_i hm
 rcases D6 hm with ⟨hx,hw⟩|⟨hx,hw⟩|⟨hx,hw⟩|⟨hx,hw⟩|⟨hx,hw⟩
 ·obtain⟨hd,hq⟩:=dt h3 hw;subst hd;rcases hx with rfl|rfl
  ·rw[if_pos rfl] at hs;obtain rfl:=Zh hs;exact(fR hM a1 hm hR a0 hB (.open5 _ (by omega) hn hq)).mono fun e w' h=>⟨_,Za _,h⟩
  ·rw[if_neg (by decide),if_pos rfl] at hs;obtain rfl:=Zh hs;exact(fR hM a1 hm hR a0 hB (.open6 _ (by omega) hn hq)).mono fun e w' h=>⟨_,Za _,h⟩
 ·subst hx;rw[if_neg (by decide),if_neg (by decide)] at hs
  cases frs with
  |nil=>cases hs
  |cons f fs=>
   simp only[true_or,if_true] at hs;obtain rfl:=Zh hs;have a6:=nh f fs;have a4:eo fs<=eo (f::fs):=by simp[eo]
   have hob:f.obj=false:=by
    rcases hw with rfl|rfl
    ·obtain⟨-,g,gs,e,h⟩:=h3;injection e with e _;rw[e];exact h
    ·obtain⟨-,g,gs,e,h⟩:=h3;injection e with e _;rw[e];exact h
   have a3:done=none:=by rcases hw with rfl|rfl <;> exact h3.1
   subst a3;have a2:=h1 f (by simp);exact(fR hM a1 hm hR a0 hB (.close5 _ _ hob (a2.list hob).2 a2 (by omega) (by omega) (mZ (N:=kf) (by omega) (fun g gs e=>h2 g (by rw[List.tail_cons,e];simp))) (by omega))).mono fun e w' h=>⟨_,Nat.le_succ _,h⟩
 ·subst hx;rw[if_neg (by decide),if_neg (by decide)] at hs
  cases frs with
  |nil=>cases hs
  |cons f fs=>
   simp only[or_true,if_true] at hs;obtain rfl:=Zh hs;have a6:=nh f fs;have a4:eo fs<=eo (f::fs):=by simp[eo]
   have hob:f.obj=true/\f.name=none:=by
    rcases hw with rfl|rfl
    ·obtain⟨-,g,gs,e,h⟩:=h3;injection e with e _;rw[e];exact h
    ·obtain⟨-,g,gs,e,h⟩:=h3;injection e with e _;rw[e];exact h
   have a3:done=none:=by rcases hw with rfl|rfl <;> exact h3.1
   subst a3;have a2:=h1 f (by simp);exact(fR hM a1 hm hR a0 hB (.close6 _ _ hob.1 hob.2 a2 (by omega) (by omega) (mZ (N:=kf) (by omega) (fun g gs e=>h2 g (by rw[List.tail_cons,e];simp))) (by omega))).mono fun e w' h=>⟨_,Nat.le_succ _,h⟩
 ·obtain⟨rfl,rfl⟩:=And.intro hx hw;rw[if_neg (by decide),if_neg (by decide)] at hs;obtain⟨rfl,f,fs,rfl,h5,h6⟩:=h3
  try simp only at hs
  rw[if_neg (by decide),if_neg (by decide)] at hs;obtain rfl:=Zh hs;exact(fR hM a1 hm hR a0 hB (.colon _)).mono fun e w' h=>⟨_,Nat.le_succ _,h⟩
 ·subst hx;rw[if_neg (by decide),if_neg (by decide)] at hs
  cases frs with
  |nil=>cases hs
  |cons f fs=>
   try simp only at hs
   rw[if_neg (by decide)] at hs;simp only[if_true] at hs;obtain rfl:=Zh hs;rw[List.length_cons] at hlen;rcases hw with rfl|rfl
   ·obtain⟨rfl,g,gs,e,h5⟩:=h3;injection e with e1 e2
    subst e1 e2;have:=fR (p:=p) hM a1 hm hR a0 hB (.comma5 _ _ h5 (by omega));simp only[h5,Bool.false_eq_true,if_false] at this ⊢;exact this.mono fun e w' h=>⟨_,Nat.le_succ _,h⟩
   ·obtain⟨rfl,g,gs,e,h5,h6⟩:=h3;injection e with e1 e2
    subst e1 e2;have:=fR (p:=p) hM a1 hm hR a0 hB (.comma6 _ _ h5 (by omega));simp only[h5,if_true] at this ⊢;exact this.mono fun e w' h=>⟨_,Nat.le_succ _,h⟩
