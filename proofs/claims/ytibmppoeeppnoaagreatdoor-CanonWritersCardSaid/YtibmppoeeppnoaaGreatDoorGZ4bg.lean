import Derived.Test.YtibmppoeeppnoaaGreatDoorGZ4bf
set_option linter.unusedVariables false
set_option linter.unusedSimpArgs false
set_option maxHeartbeats 64000000
set_option maxRecDepth 100000
namespace Go.Proofs.YtibmppoeeppnoaaGreatDoor
open Go.RowKit
variable {f:Fr}{lv:Int}{names:List ByteArray}{frs fs:List Fr}{bs:List Nat}{B b c k n xb:Nat}{A:Option Addr}{e:TypeId}{T:TypeId->Prop}{dv pv v:Value}{w w':World}
theorem zP.kp {done:Option JV}{us:List (List Value)}(h:zP B w xb frs done pv dv us bs)(hk:Kp T w w')(hT:∀e,TB e->¬T e):zP B w' xb frs done pv dv us bs:=by
 obtain⟨h1,h2,h3,h4,h5,h6,h7⟩:=h;have hm:Mv [] w w':=Mv.of_kp hk (fun e he=>hT e (.inl he));have a0:∀g∈bs,g∈bs\/w.heap.size<=g:=fun g h=>.inl h
 exact⟨hk.heap h1 (hT _ (.inr (.inl rfl))),h2,al h3 hk.keeps (hT _ (.inr (.inr rfl))),h4.mono fun _ _ h=>h.move hm (by simp) a0 (by simp),h5,h6,h7.move hm (by simp) a0⟩
theorem zP.below {done:Option JV}{us:List (List Value)}(h:zP B w xb frs done pv dv us bs)(hb:Below w.heap.size w w'):zP B w' xb frs done pv dv us bs:=h.kp (T:=fun _=>False) (Kp.of_below _ hb) (fun _ _ h=>h)
theorem fd.lt {done:Option JV}(h:fd B w xb frs done bs):∀g∈bs,g<w.heap.size:=by
 obtain⟨pv,dv,us,h⟩:=h;intro g hg;rw[<-h.blocks] at hg;obtain⟨x,hx,a0⟩:=List.mem_flatMap.1 hg;obtain⟨i,hi,rfl⟩:=List.getElem_of_mem hx;have hl:=h.frames.1;obtain⟨iv,mv,s,xs,L,q1,q2,q3,q4,q5,-⟩:=h.frames.2 i us[i] (frs[i]'(by omega)) (Zc hi) (Zc _);rw[q1] at a0;rcases List.mem_append.1 a0 with a0|a0
 ·obtain⟨_,cur,hh⟩:=ak q3 (g:=g) (by simpa using a0);exact ae hh
 ·obtain⟨_,cur,hh⟩:=ak q5 (g:=g) (by simpa using a0);exact ae hh
theorem ce.fresh {xs:List Value}(h:ce (w.heap.size<= ·) w' e k A n c xs)(hB:B<=w.heap.size)(a0:∀g∈bs,g<w.heap.size):ce (Pb B bs) w' e k A n c xs:=
 h.stay fun g o hp hg _ _=>⟨⟨Zb hB hp,fun hb=>by have:=a0 g hb;omega⟩,hg⟩
theorem xP (h0:lv= (fs.length+1:Nat))(h:fd B w xb (f::fs) none bs)(ho:f.obj=false)(g7:f.name=none)(e6:f.ok jr)(hi:f.items.length<=4294967296)(f4:f.mems.length<=4294967296)(d7:kG fs)(hB:B<=w.heap.size):Calls Tryz.prog 100 #[.pointer (some ⟨xb,0,none⟩),.agg #[.int .i64 lv,.int .i64 5]] w fun e w'=>mw B xb (bX fs (dM f)) w e w':=by
 have hl:=d7.1;have c1:=ac w (.cells #[.int .i64 lv,.int .i64 5] 214);have e5:=h.below c1;have d5:=Qa (Ze w (.cells #[.int .i64 lv,.int .i64 5] 214));obtain⟨w1,d1⟩:∃w1,w.alloc (.cells #[.int .i64 lv,.int .i64 5] 214)=w1:=⟨_,rfl⟩;rw[d1] at c1 e5 d5;obtain⟨pv,dv,us,h1⟩:=e5;obtain⟨e3,h2,h3,h4,h5,h6,h7⟩:=id h1
 cases us with
 |nil=>have:=h4.1;simp at this
 |cons u us=>
 have e2:us.length=fs.length:=by have:=h4.1;simpa using this
 have a4:∀x∈u::us,x.length=5:=fun x hx=>by
  obtain⟨i,hi,rfl⟩:=List.getElem_of_mem hx;exact(h4.2 i _ ((f::fs)[i]'(by have:=h4.1;omega)) (Zc hi) (Zc _)).len
 rw[List.length_cons,<-e2] at h3;obtain⟨pb,q,j0,hT⟩:=el h3 a4;obtain⟨g6,a1,c8,a7,a6⟩:=hT;obtain⟨iv,mv,s0,xs,L,hu,g8,c9,a5,e8,b2,a2,i5,f1⟩:=h4.2 0 u f rfl rfl;obtain rfl:=f1 ho;obtain⟨Ai,qi,rfl,-⟩:=ag c9;subst g6 hu;obtain⟨m,hm⟩:∃m,m=us.length:=⟨_,rfl⟩;rw[<-hm] at a1 a7 a6;have c0:=aa e3 (j:=0) (u:=.slice (some ⟨pb,0,none⟩) (m+1) q) (by rw[hm];rfl);have k0:=a1 0 _ rfl;have k1:=a1 1 _ rfl;have k2:=a1 2 _ rfl;have k3:=a1 3 _ rfl;have k4:=a1 4 _ rfl;rw[ho] at k0;rw[g7] at k4;simp only[Bool.false_eq_true,if_false,if_true] at k0;rw[Nat.add_zero] at k0;simp only[Option.isSome_none] at k4;have e0:=aa d5.out (j:=0) (u:=.int .i64 lv) rfl;have e1:=aa d5.out (j:=1) (u:=.int .i64 5) rfl;have s1:IntKind.i64.wrap (m:Int)= (m:Int):=IntWalk.i64_in _ (by omega);have d9:(((m+1:Nat):Int)==0)=false:=by simp only[beq_eq_false_iff_ne];omega
 have a9:lv= (m:Int)+1:=by omega
 have d0:(m:Int)< (m:Int)+1:=by omega
 have b5:(((m:Int)+1)==0)=false:=by simp only[beq_eq_false_iff_ne];omega
 have HA:=Qa h1;have Hm:=Qa hm;have j3:=Qa e2;have f8:=Qa (And.intro c9 (And.intro a5 (And.intro e8 (And.intro b2 a2))));have b8:=Qa c1;have HB:=Qa hB;have j1:=Qa e6;have i2:=Qa d7;have i0:=Qa hi;have j2:=Qa f4;have c7:(lv== (m:Int)+1)=true:=by rw[a9];simp
 have b6:(lv != (m:Int)+1)=false:=by rw[a9];simp
 have C0:=Qa c0;have K0:=Qa k0;have K1:=Qa k1;have K2:=Qa k2;have K3:=Qa k3;have K4:=Qa k4;have E0:=Qa e0;have E1:=Qa e1;have Hq:=Qa (And.intro a6 a7);clear h h1 e3 h2 h3 h4 h5 h6 h7 c9 a5 e8 b2 a2 i5 f1 a1 c8 a4 g8 e2 hm h0 a9 c1 hB a7 a6 e6 d7 hi f4 k0 k1 k2 k3 k4 e0 e1 hl;go_enter Tryz.func100,Tryz.ntmps100;go_wp2_with fail
 try rw[d1]
 clear c0;refine aO (fun w2=>w2.cell? ⟨xb,0,none⟩=some (.slice (some ⟨pb,0,none⟩) (m+1) q)/\w2.cell? ⟨pb,m*5,none⟩=some (.int .i64 5)/\w2.cell? ⟨pb,m*5+4,none⟩=some (.bool false)/\w2.cell? ⟨w.heap.size,0,none⟩=some (.int .i64 lv)/\w2.cell? ⟨w.heap.size,1,none⟩=some (.int .i64 5)) (⟨C0.out,K0.out,K4.out,E0.out,E1.out⟩) fun a0=>?_
 refine tH 0 a0 ?_;refine tH 1 a0 ?_;refine tH 2 a0 ?_;refine tH 3 a0 ?_;refine tH 4 a0 ?_;refine tH 5 a0 ?_
 try simp only[Act.put,jP,jQ,jR]
 refine tH 6 a0 ?_;refine tH 7 a0 ?_;refine tH 8 a0 ?_;refine tH 9 a0 ?_;refine tH 10 a0 ?_;refine tH 11 a0 ?_
 try simp only[Act.put,jP,jQ,jR]
 refine tH 12 a0 ?_;refine tH 13 a0 ?_;refine tH 14 a0 ?_;refine tH 15 a0 ?_;refine tH 16 a0 ?_;refine tH 17 a0 ?_
 try simp only[Act.put,jP,jQ,jR]
 refine tH 18 a0 ?_;refine tH 19 a0 ?_;refine tH 20 a0 ?_;refine tH 21 a0 ?_;refine tH 22 a0 ?_;refine tH 23 a0 ?_
 try simp only[Act.put,jP,jQ,jR]
 refine tH 24 a0 ?_;refine tH 25 a0 ?_;refine tH 26 a0 ?_;refine tH 27 a0 ?_;refine tH 28 a0 ?_;refine tH 29 a0 ?_
 try simp only[Act.put,jP,jQ,jR]
 refine tH 30 a0 ?_;refine tH 31 a0 ?_;refine tH 32 a0 ?_
 try simp only[Act.put,jP,jQ,jR]
 refine wpAnyH_done (by kernel_rfl) (NoPanic.normal ?_) _;obtain⟨wr,d2⟩:∃wr,w1.drew=wr:=⟨_,rfl⟩;have a3:Below w1.heap.size w1 wr:=by rw[<-d2];exact(Zd _ _).drew
 rw[d2];clear a0 d2 d1;have r0:=Zf a3 C0.out;have r1:=Zf a3 K0.out;have r2:=Zf a3 K1.out;have r3:=Zf a3 K2.out;have r4:=Zf a3 K3.out;have r5:=Zf a3 K4.out;have h8:(m:Int)<=q:=by have:=Hq.out.1;omega
 have d4:=ac wr (.cells #[.int .i64 5,.slice Ai xs.length qi,.slice none 0 0,.string s0,.bool false] 209);have c3:=Qa ((HA.out.below a3).below d4);have b4:=Qa (Ze wr (.cells #[.int .i64 5,.slice Ai xs.length qi,.slice none 0 0,.string s0,.bool false] 209));have c4:=Qa d4;have c2:=Qa a3;have fx:=aj c3.out.row 0;have cx:=aa c3.out.row (j:=0) (u:=.slice (some ⟨pb,0,none⟩) (m+1) q) (by rw[Hm.out];rfl);have bx0:=aa b4.out (j:=0) rfl;have i4:xb≠wr.heap.size:=fun e=>by have:=ae (HA.out.below a3).row;omega
 clear a3 d4;go_wp2_with fail;obtain⟨wA,d3⟩:∃wA,wr.alloc (.cells #[.int .i64 5,.slice Ai xs.length qi,.slice none 0 0,.string s0,.bool false] 209)=wA:=⟨_,rfl⟩;rw[d3];rw[d3] at c3 c4 b4;clear cx fx bx0 i4 d3 r0 r1 r2 r3 r4 r5 s1 d9 d0 b5 c7 b6 h8;obtain rfl:=Hm.out;have f2:B<=wA.heap.size:=by have:=c4.out.size;have:=c2.out.size;have:=b8.out.size;have:=HB.out;omega
 obtain⟨p1,p2,p3,p4⟩:=yw c3.out f2;obtain⟨w5,f0⟩:∃w5,wA.setCell ⟨xb,0,none⟩ (.slice (some ⟨pb,0,none⟩) us.length q)=w5:=⟨_,rfl⟩;rw[f0] at p1 p2 p4 ⊢;have b9:Kp (fun e=>e=164) w1 w5:=((Kp.of_below _ c2.out).trans (Kp.of_below _ c4.out)).trans p2;have f6:Mv [] w1 w5:=Mv.of_kp b9 fun e he=>by rcases he with rfl|rfl|rfl|rfl <;> decide
 have e7:Below B w w5:=((b8.out.mono HB.out).trans ((c2.out.mono (Zb HB.out b8.out.size)).trans (c4.out.mono (by have:=c2.out.size;have:=b8.out.size;have:=HB.out;omega)))).trans p1;have P3:=Qa p3;have P4:=Qa p4;have i8:=Qa ((Kp.of_below TB b8.out).trans (b9.imp fun e he=>.inr (.inl he)));have h9:=Qa f6;have g9:=Qa e7;have c5:=Qa (show B<=w5.heap.size from Zb f2 p2.1);obtain⟨g1,g2,g3,g4,g5⟩:=f8.out;have f3:Sl w5 (.slice Ai xs.length qi) xs:=Sl.of_own (al g1 b9.keeps (by decide));have i3:xs.length=f.items.length:=g2.1;have b7:=Qa (i1 f3 (fun v hv=>by
  obtain⟨i,hi,rfl⟩:=List.getElem_of_mem hv;exact(g2.2 i _ (f.items[i]'(by omega)) (Zc hi) (Zc _)).iface) (by have:=i0.out;omega))
 clear f3 i3;clear p1 p2 p3 p4 b9 f6 e7 f0 g1 g2 g3 g4 g5;(with_reducible refine b7.out.mono ?_);rintro e w6 ⟨g,A6,c6,rfl,b0,e4,a1,b1⟩;have d6:=b0;have f9:=P4.out.below b0;have b3:Mv [] w1 w6:=h9.out.trans (Mv.of_below b0);have f5:VW (Pb B (us.flatMap bV)) w6 (.iface 52 (.pointer (some ⟨g,0,none⟩))) (dM f):=by
  have hlt:=P4.out.lt;have hQ:Pb B (us.flatMap bV) g:=⟨Zb c5.out e4,fun hb=>by have:=hlt g hb;omega⟩;obtain⟨g1,g2,g3,g4,g5⟩:=f8.out;rw[show dM f=cR f.items from if_neg (by rw[ho];decide)];exact p9 a1 (b1.fresh c5.out hlt) hQ (g2.mono fun _ _ h=>h.move b3 (by simp) fun x hx=>.inl (P3.out x hx))
 have i9:=Qa (rB f9 i2.out f5 (Zb c5.out b0.size));have g0:=Qa b0;clear d6 b0 f9 b3 f5 b1 a1 e4 b7;go_wp2_with fail;(with_reducible refine i9.out.mono ?_);rintro e w7 ⟨rfl,h1,h2,h3⟩;have R:=Qa (And.intro h1 (And.intro h2 h3));clear h1 h2 h3;go_wp2_with fail;(try simp only[Exit.inBlock,Exit.then]);refine Zg (results_none rfl ..) rfl ?_;exact⟨rfl,(g9.out.trans (g0.out.mono c5.out)).trans R.out.1,(i8.out.trans (Kp.of_below TB g0.out)).trans R.out.2.1,R.out.2.2⟩
theorem zV (i2:lv= (fs.length+1:Nat))(h:fd B w xb (f::fs) none bs)(ho:f.obj=true)(h8:f.name=none)(e7:f.ok jr)(hi:f.items.length<=4294967296)(f6:f.mems.length<=4294967296)(d9:kG fs)(hB:B<=w.heap.size):Calls Tryz.prog 100 #[.pointer (some ⟨xb,0,none⟩),.agg #[.int .i64 lv,.int .i64 6]] w fun e w'=>mw B xb (bX fs (dM f)) w e w':=by
 have hl:=d9.1;have c1:=ac w (.cells #[.int .i64 lv,.int .i64 6] 214);have e6:=h.below c1;have d5:=Qa (Ze w (.cells #[.int .i64 lv,.int .i64 6] 214));obtain⟨w1,d1⟩:∃w1,w.alloc (.cells #[.int .i64 lv,.int .i64 6] 214)=w1:=⟨_,rfl⟩;rw[d1] at c1 e6 d5;obtain⟨pv,dv,us,h1⟩:=e6;obtain⟨e4,h2,h3,h4,h5,h6,h7⟩:=id h1
 cases us with
 |nil=>have:=h4.1;simp at this
 |cons u us=>
 have e3:us.length=fs.length:=by have:=h4.1;simpa using this
 have a4:∀x∈u::us,x.length=5:=fun x hx=>by
  obtain⟨i,hi,rfl⟩:=List.getElem_of_mem hx;exact(h4.2 i _ ((f::fs)[i]'(by have:=h4.1;omega)) (Zc hi) (Zc _)).len
 rw[List.length_cons,<-e3] at h3;obtain⟨pb,q,k5,hT⟩:=el h3 a4;obtain⟨h0,a0,c8,a9,a7⟩:=hT;obtain⟨iv,mv,s0,xs,L,hu,h9,e8,a5,d0,b2,a2,g0,i8⟩:=h4.2 0 u f rfl rfl;obtain rfl:=g0 ho;obtain⟨Ai,qi,rfl,-⟩:=ag d0;subst h0 hu;obtain⟨m,hm⟩:∃m,m=us.length:=⟨_,rfl⟩;rw[<-hm] at a0 a9 a7;have c0:=aa e4 (j:=0) (u:=.slice (some ⟨pb,0,none⟩) (m+1) q) (by rw[hm];rfl);have k0:=a0 0 _ rfl;have k1:=a0 1 _ rfl;have k2:=a0 2 _ rfl;have k3:=a0 3 _ rfl;have k4:=a0 4 _ rfl;rw[ho] at k0;rw[h8] at k4;simp only[Bool.false_eq_true,if_false,if_true] at k0;rw[Nat.add_zero] at k0;simp only[Option.isSome_none] at k4;have e0:=aa d5.out (j:=0) (u:=.int .i64 lv) rfl;have e1:=aa d5.out (j:=1) (u:=.int .i64 6) rfl;have s1:IntKind.i64.wrap (m:Int)= (m:Int):=IntWalk.i64_in _ (by omega);have e2:(((m+1:Nat):Int)==0)=false:=by simp only[beq_eq_false_iff_ne];omega
 have b0:lv= (m:Int)+1:=by omega
 have c9:(m:Int)< (m:Int)+1:=by omega
 have b5:(((m:Int)+1)==0)=false:=by simp only[beq_eq_false_iff_ne];omega
 have HA:=Qa h1;have Hm:=Qa hm;have l0:=Qa e3;have g7:=Qa (And.intro e8 (And.intro a5 (And.intro d0 (And.intro b2 a2))));have b8:=Qa c1;have HB:=Qa hB;have f2:=Qa e7;have i9:=Qa d9;have k9:=Qa hi;have j1:=Qa f6;have c7:(lv== (m:Int)+1)=true:=by rw[b0];simp
 have b6:(lv != (m:Int)+1)=false:=by rw[b0];simp
 have C0:=Qa c0;have K0:=Qa k0;have K1:=Qa k1;have K2:=Qa k2;have K3:=Qa k3;have K4:=Qa k4;have E0:=Qa e0;have E1:=Qa e1;have Hq:=Qa (And.intro a7 a9);clear h h1 e4 h2 h3 h4 h5 h6 h7 e8 a5 d0 b2 a2 g0 i8 a0 c8 a4 h9 e3 hm i2 b0 c1 hB a9 a7 e7 d9 hi f6 k0 k1 k2 k3 k4 e0 e1 hl;go_enter Tryz.func100,Tryz.ntmps100;go_wp2_with fail
 try rw[d1]
 clear c0;refine aO (fun w2=>w2.cell? ⟨xb,0,none⟩=some (.slice (some ⟨pb,0,none⟩) (m+1) q)/\w2.cell? ⟨pb,m*5,none⟩=some (.int .i64 6)/\w2.cell? ⟨pb,m*5+4,none⟩=some (.bool false)/\w2.cell? ⟨w.heap.size,0,none⟩=some (.int .i64 lv)/\w2.cell? ⟨w.heap.size,1,none⟩=some (.int .i64 6)) (⟨C0.out,K0.out,K4.out,E0.out,E1.out⟩) fun a1=>?_
 refine tH 0 a1 ?_;refine tH 1 a1 ?_;refine tH 2 a1 ?_;refine tH 3 a1 ?_;refine tH 4 a1 ?_;refine tH 5 a1 ?_
 try simp only[Act.put,jP,jQ,jR]
 refine tH 6 a1 ?_;refine tH 7 a1 ?_;refine tH 8 a1 ?_;refine tH 9 a1 ?_;refine tH 10 a1 ?_;refine tH 11 a1 ?_
 try simp only[Act.put,jP,jQ,jR]
 refine tH 12 a1 ?_;refine tH 13 a1 ?_;refine tH 14 a1 ?_;refine tH 15 a1 ?_;refine tH 16 a1 ?_;refine tH 17 a1 ?_
 try simp only[Act.put,jP,jQ,jR]
 refine tH 18 a1 ?_;refine tH 19 a1 ?_;refine tH 20 a1 ?_;refine tH 21 a1 ?_;refine tH 22 a1 ?_;refine tH 23 a1 ?_
 try simp only[Act.put,jP,jQ,jR]
 refine tH 24 a1 ?_;refine tH 25 a1 ?_;refine tH 26 a1 ?_;refine tH 27 a1 ?_;refine tH 28 a1 ?_;refine tH 29 a1 ?_
 try simp only[Act.put,jP,jQ,jR]
 refine tH 30 a1 ?_;refine tH 31 a1 ?_;refine tH 32 a1 ?_
 try simp only[Act.put,jP,jQ,jR]
 refine wpAnyH_done (by kernel_rfl) (NoPanic.normal ?_) _;obtain⟨wr,d2⟩:∃wr,w1.drew=wr:=⟨_,rfl⟩;have a3:Below w1.heap.size w1 wr:=by rw[<-d2];exact(Zd _ _).drew
 rw[d2];clear a1 d2 d1;have r0:=Zf a3 C0.out;have r1:=Zf a3 K0.out;have r2:=Zf a3 K1.out;have r3:=Zf a3 K2.out;have r4:=Zf a3 K3.out;have r5:=Zf a3 K4.out;have i3:(m:Int)<=q:=by have:=Hq.out.1;omega
 have d4:=ac wr (.cells #[.int .i64 6,.slice none 0 0,.slice Ai L.length qi,.string s0,.bool false] 209);have c3:=Qa ((HA.out.below a3).below d4);have b4:=Qa (Ze wr (.cells #[.int .i64 6,.slice none 0 0,.slice Ai L.length qi,.string s0,.bool false] 209));have c4:=Qa d4;have c2:=Qa a3;have fx:=aj c3.out.row 0;have cx:=aa c3.out.row (j:=0) (u:=.slice (some ⟨pb,0,none⟩) (m+1) q) (by rw[Hm.out];rfl);have bx0:=aa b4.out (j:=0) rfl;have j0:xb≠wr.heap.size:=fun e=>by have:=ae (HA.out.below a3).row;omega
 clear a3 d4;go_wp2_with fail;obtain⟨wA,d3⟩:∃wA,wr.alloc (.cells #[.int .i64 6,.slice none 0 0,.slice Ai L.length qi,.string s0,.bool false] 209)=wA:=⟨_,rfl⟩;rw[d3];rw[d3] at c3 c4 b4;clear cx fx bx0 j0 d3 r0 r1 r2 r3 r4 r5 s1 e2 c9 b5 c7 b6 i3;obtain rfl:=Hm.out;have f4:B<=wA.heap.size:=by have:=c4.out.size;have:=c2.out.size;have:=b8.out.size;have:=HB.out;omega
 obtain⟨p1,p2,p3,p4⟩:=yw c3.out f4;obtain⟨w5,f3⟩:∃w5,wA.setCell ⟨xb,0,none⟩ (.slice (some ⟨pb,0,none⟩) us.length q)=w5:=⟨_,rfl⟩;rw[f3] at p1 p2 p4 ⊢;have b9:Kp (fun e=>e=164) w1 w5:=((Kp.of_below _ c2.out).trans (Kp.of_below _ c4.out)).trans p2;have g6:Mv [] w1 w5:=Mv.of_kp b9 fun e he=>by rcases he with rfl|rfl|rfl|rfl <;> decide
 have f0:Below B w w5:=((b8.out.mono HB.out).trans ((c2.out.mono (Zb HB.out b8.out.size)).trans (c4.out.mono (by have:=c2.out.size;have:=b8.out.size;have:=HB.out;omega)))).trans p1;have P3:=Qa p3;have P4:=Qa p4;have j2:=Qa ((Kp.of_below TB b8.out).trans (b9.imp fun e he=>.inr (.inl he)));have i4:=Qa g6;have i0:=Qa f0;have c5:=Qa (show B<=w5.heap.size from Zb f4 p2.1);obtain⟨g1,g2,g3,g4,g5⟩:=g7.out;have f5:yO 2 w5 (.slice Ai L.length qi) L.length (fI L):=yO.of_own (al g3 b9.keeps (by decide));have f9:L.length=f.mems.length:=by have:=congrArg List.length g4;simpa using this
 have b7:=Qa (gc f5 (fun p hp=>by
  obtain⟨i,hi,rfl⟩:=List.getElem_of_mem hp;refine⟨?_,?_⟩
  ·have e:=congrArg (·[i]?) g4;simp only[List.getElem?_map,Zc hi,Zc (show i<f.mems.length by omega),Option.map_some] at e;rw[Zh e];exact f2.out.names _ (List.getElem_mem _)
  ·exact(g5.2 i _ ((f.mems.map Prod.snd)[i]'(by simp;omega)) (by rw[List.getElem?_map,Zc hi];rfl) (Zc _)).iface) (by rw[g4];exact f2.out.nodup) (by have:=j1.out;omega))
 have k6:=Qa f9;clear f5 f9;clear p1 p2 p3 p4 b9 g6 f0 f3 g1 g2 g3 g4 g5;(with_reducible refine b7.out.mono ?_);rintro e w6 ⟨g,A6,c6,S,rfl,b1,e5,a0,a6,d6,f1⟩;have d7:=b1;have g8:=P4.out.below b1;have b3:Mv [] w1 w6:=i4.out.trans (Mv.of_below b1);have f8:VW (Pb B (us.flatMap bV)) w6 (.iface 124 (.pointer (some ⟨g,0,none⟩))) (dM f):=by
  have hlt:=P4.out.lt;have hQ:Pb B (us.flatMap bV) g:=⟨Zb c5.out e5,fun hb=>by have:=hlt g hb;omega⟩;obtain⟨g1,g2,g3,g4,g5⟩:=g7.out;rw[show dM f=kq (fp f.mems) from if_pos ho];have i5:S.length=L.length:=d6.length_eq;rw[<-i5] at a0 a6;exact vD a0 (a6.fresh c5.out hlt) hQ d6 f1 g4 (g5.mono fun _ _ h=>h.move b3 (by simp) fun x hx=>.inl (P3.out x hx))
 have j3:=Qa (rB g8 i9.out f8 (Zb c5.out b1.size));have g9:=Qa b1;clear d7 b1 g8 b3 f8 a6 a0 e5 b7 d6 f1;go_wp2_with fail;(with_reducible refine j3.out.mono ?_);rintro e w7 ⟨rfl,h1,h2,h3⟩;have R:=Qa (And.intro h1 (And.intro h2 h3));clear h1 h2 h3;go_wp2_with fail;go_end0;exact⟨rfl,(i0.out.trans (g9.out.mono c5.out)).trans R.out.1,(j2.out.trans (Kp.of_below TB g9.out)).trans R.out.2.1,R.out.2.2⟩
open Go.Maps
def dS (w:World)(b:Nat)(names:List ByteArray)(n:Nat):Prop:= ∃D:DataW Unit,w.ownsMap Tryz.prog 9 (plainElem Tryz.prog 4) b n D/\∀s:ByteArray,s.size<=maxLen->D.atKey (.string s.data.toList) (.lit (.bool false)) =.lit (.bool (names.any fun t=>decide (t=s)))
theorem Cm:Keyed Tryz.prog 9:=string_keyed Tryz.underlying9
theorem Gn (w:World):(zeroValue 4).run Tryz.prog w =.ok (.bool false) w:=by kernel_rfl
theorem dS.made (w:World):dS (w.alloc (.map #[] 0)) w.heap.size [] 0:=
 ⟨.map [],World.ownsMap_made _ _ _ _,fun s _=>by simp[DataW.atKey]⟩
theorem yU {d:DataW Unit}{ps:List MemPlace}(h:plainElem (H:=Unit) Tryz.prog 4 v=some (d,ps)):∃x,v =.bool x/\d =.lit (.bool x):=by
 unfold plainElem at h;rw[Tryz.underlying4] at h
 cases v with
 |bool x=>simp at h;exact⟨x,rfl,h.1.symm⟩
 |_=>simp at h
theorem dS.look (h:dS w b names n){s:ByteArray}(hs:s.size<=maxLen):(Instr.lookup 310 (.map (some b)) (.string s) false).run Tryz.prog w =.ok (.bool (names.any (fun t=>decide (t=s)))) w:=by
 obtain⟨D,h1,h2⟩:=h;obtain⟨v,ps,a0,hv⟩:=h1.lookup Cm Tryz.underlying310 (Gn w) (show plainElem (H:=Unit) Tryz.prog 4 (.bool false)=some (.lit (.bool false), []) from plainElem_bool Tryz.underlying4 false) (WideMaps.keyOf_string_mk Tryz.underlying9 hs);obtain⟨x,rfl,hx⟩:=yU hv;rw[h2 s hs] at hx;injection hx with hx
 injection hx with hx
 rw[a0,hx]
theorem dS.grown {row:Option Nat}(h:dS w b names n)(hg:w.grownBy w' row)(hb:some b≠row):dS w' b names n:=by
 obtain⟨D,h1,h2⟩:=h;exact⟨D,h1.kept hg hb,h2⟩
theorem dS.kp (h:dS w b names n)(hk:Kp T w w'):dS w' b names n:=by
 obtain⟨D,⟨es,clock,hh,r⟩,h2⟩:=h;exact⟨D,⟨es,clock,hk.2 b _ hh (fun _ _ _ e=>by cases e),r⟩,h2⟩
theorem dS.lt (h:dS w b names n):b<w.heap.size:=by
 obtain⟨D,h1,-⟩:=h;exact h1.lt
theorem sE {ops:Array Oper}{rest:List Oper}{o:Oper}{a:Act}{Q:Exit->Act->World->Prop}{s:ByteArray}(h:dS w b names n)(hs:s.size<=maxLen)(hn:n<maxLen)(hg:o.guard=none)(m x v:Operand)(a3:o.op=Op.mapUpdate 310 m x v)
  (hm:a.eval m =.map (some b)) (hx:a.eval x =.string s) (hv:a.eval v =.bool true)
  (hK:∀w',dS w' b (s::names) (n+1)->w.mapTurned w' b->wpList Tryz.prog ops Q rest (a.put o.dst undef) w'):wpList Tryz.prog ops Q (o::rest) a w:=by
 obtain⟨D,h1,h2⟩:=h;have a1:=h1.isMap;refine wpList_plain hg fun K' a2=>?_
 obtain⟨w',a0,r1,r2⟩:=h1.store Cm Tryz.underlying310 hn (WideMaps.keyOf_string_mk Tryz.underlying9 hs) (show plainElem (H:=Unit) Tryz.prog 4 (.bool true)=some (.lit (.bool true), []) from plainElem_bool Tryz.underlying4 true);unfold Oper.wp;simp[execOp,a3,hm,hx,hv,a0,Result.andThen];refine a2 _ _ (hK w' ⟨_,r1,fun t ht=>?_⟩ r2)
 by_cases e:t=s
 ·subst e;rw[atKey_put_same a1 (by exact trivial:WideAt.IsKeyLit (.string t.data.toList)) _ _];simp
 ·have hne:Lit.string t.data.toList≠Lit.string s.data.toList:=fun h=>by
   injection h with h
   cases s;cases t;simp only[Array.toList_inj] at h;exact e (by rw[h])
  rw[atKey_put_other hne,h2 t ht];rw[List.any_cons];have e2:decide (s=t)=false:=decide_eq_false fun h=>e h.symm
  rw[e2,Bool.false_or]
def eQ:Value:=.agg #[.int .i64 1073741824,.int .i64 1073741824,.int .i64 1073741824,.int .i64 1073741824,.int .i64 1073741824,.int .i64 4611686018427387903]
theorem lY (w:World):Calls Tryz.prog 129 #[eQ] w fun e w'=>e =.returned eQ/\Below w.heap.size w w':=by
 unfold eQ;have hb:=Qa (bt (ac w (.cells #[.int .i64 1073741824,.int .i64 1073741824,.int .i64 1073741824,.int .i64 1073741824,.int .i64 1073741824,.int .i64 4611686018427387903] 107)) (ac _ (.cells #[.int .i64 1073741824,.int .i64 1073741824,.int .i64 1073741824,.int .i64 1073741824,.int .i64 1073741824,.int .i64 4611686018427387903] 253)));go_enter Tryz.func129,Tryz.ntmps129;go_wp2_with fail;have Hb:=hb.out;generalize hwa:(w.alloc (.cells #[.int .i64 1073741824,.int .i64 1073741824,.int .i64 1073741824,.int .i64 1073741824,.int .i64 1073741824,.int .i64 4611686018427387903] 107))=wa at *;have a0:w.heap.size+1=wa.heap.size:=by rw[<-hwa];simp
 rw[a0];have hn:=Ze wa (.cells #[.int .i64 1073741824,.int .i64 1073741824,.int .i64 1073741824,.int .i64 1073741824,.int .i64 1073741824,.int .i64 4611686018427387903] 253);have n0:=aa hn (j:=0) rfl;have n1:=aa hn (j:=1) rfl;have n2:=aa hn (j:=2) rfl;have n3:=aa hn (j:=3) rfl;have n4:=aa hn (j:=4) rfl;have n5:=aa hn (j:=5) rfl;refine Zg (v:=.agg #[.int .i64 1073741824,.int .i64 1073741824,.int .i64 1073741824,.int .i64 1073741824,.int .i64 1073741824,.int .i64 4611686018427387903]) ?_ rfl ⟨rfl,Hb⟩;simp[results,Tryz.results129,go_sem,n0,n1,n2,n3,n4,n5]
theorem EZ (a b c d e f:Value)(W:World):(Instr.index 253 (.agg #[a,b,c,d,e,f]) (.int .i64 0)).run Tryz.prog W =.ok a W:=by kernel_rfl
theorem E3 (a b c d e f:Value)(W:World):(Instr.index 253 (.agg #[a,b,c,d,e,f]) (.int .i64 1)).run Tryz.prog W =.ok b W:=by kernel_rfl
theorem EY (a b c d e f:Value)(W:World):(Instr.index 253 (.agg #[a,b,c,d,e,f]) (.int .i64 2)).run Tryz.prog W =.ok c W:=by kernel_rfl
theorem ER (a b c d e f:Value)(W:World):(Instr.index 253 (.agg #[a,b,c,d,e,f]) (.int .i64 3)).run Tryz.prog W =.ok d W:=by kernel_rfl
theorem EW (a b c d e f:Value)(W:World):(Instr.index 253 (.agg #[a,b,c,d,e,f]) (.int .i64 4)).run Tryz.prog W =.ok e W:=by kernel_rfl
theorem EQ (a b c d e f:Value)(W:World):(Instr.index 253 (.agg #[a,b,c,d,e,f]) (.int .i64 5)).run Tryz.prog W =.ok f W:=by kernel_rfl
theorem yc {m:Int}(hm:m=1\/m=2\/m=3\/m=5)(w:World):Calls Tryz.prog 130 #[eQ,.int .i64 m] w fun e w'=>e =.returned (.tuple #[.int .i64 1073741824,.bool true])/\Below w.heap.size w w':=by
 have a0:=ac w (.cells #[.int .i64 1073741824,.int .i64 1073741824,.int .i64 1073741824,.int .i64 1073741824,.int .i64 1073741824,.int .i64 4611686018427387903] 107);have H:=Qa (fun w=>lY w);unfold eQ at *;have x0:=EZ;have x1:=E3;have x2:=EY;have x3:=ER;have x4:=EW;have x5:=EQ;have a1:=Qa a0;clear a0;rcases hm with rfl|rfl|rfl|rfl
 all_goals
  go_enter Tryz.func130,Tryz.ntmps130;go_wp2_with fail;(with_reducible refine(H.out _).mono ?_);rintro e w1 ⟨rfl,hb⟩;have Hb:=Qa hb;clear hb;go_wp2_with fail;go_ret2;exact⟨rfl,bt a1.out Hb.out⟩
theorem sT {m x:Int}(hm:m=1\/m=2\/m=3\/m=5)(hx:x<=1073741824)(w:World):Calls Tryz.prog 93 #[eQ,.int .i64 m,.int .i64 x] w fun e w'=>e =.returned .nilIface/\Below w.heap.size w w':=by
 have a0:=ac w (.cells #[.int .i64 1073741824,.int .i64 1073741824,.int .i64 1073741824,.int .i64 1073741824,.int .i64 1073741824,.int .i64 4611686018427387903] 107);have H:=Qa (fun w=>yc hm w);unfold eQ at *;have a1:=Qa a0;clear a0 hm;go_enter Tryz.func93,Tryz.ntmps93;go_wp2_with fail;(with_reducible refine(H.out _).mono ?_);rintro e w1 ⟨rfl,hb⟩;have Hb:=Qa hb;clear hb;go_wp2_with fail;go_ret;exact⟨rfl,bt a1.out Hb.out⟩
theorem wG (w:World):Calls Tryz.prog 92 #[eQ] w fun e w'=>e =.returned .nilIface/\Below w.heap.size w w':=by
 have a0:=ac w (.cells #[.int .i64 1073741824,.int .i64 1073741824,.int .i64 1073741824,.int .i64 1073741824,.int .i64 1073741824,.int .i64 4611686018427387903] 107);have H:=Qa (fun w=>lY w);unfold eQ at *;have x0:=EZ;have x1:=E3;have x2:=EY;have x3:=ER;have x4:=EW;have x5:=EQ;have a1:=Qa a0;clear a0;go_enter Tryz.func92,Tryz.ntmps92;go_wp2_with fail;(with_reducible refine(H.out _).mono ?_);rintro e w1 ⟨rfl,hb⟩;have Hb:=Qa hb;clear hb;go_wp2_with fail
 go_loopg [8] 6 (fun k s8 wr=> ∃i:Nat,k+i=6/\s8 =.int .i64 i/\wr=w1)
 case atStart=>exact⟨0,rfl,rfl,rfl⟩
 case round=>
  obtain⟨i,hk,rfl,rfl⟩:=hrel;have hi:i=0\/i=1\/i=2\/i=3\/i=4\/i=5\/i=6:=by omega
  rcases hi with rfl|rfl|rfl|rfl|rfl|rfl|rfl
  ·go_wp2_with fail;go_roundg 5
   case measure=>omega
   case rel=>exact⟨1,rfl,rfl,rfl⟩
  ·go_wp2_with fail;go_roundg 4
   case measure=>omega
   case rel=>exact⟨2,rfl,rfl,rfl⟩
  ·go_wp2_with fail;go_roundg 3
   case measure=>omega
   case rel=>exact⟨3,rfl,rfl,rfl⟩
  ·go_wp2_with fail;go_roundg 2
   case measure=>omega
   case rel=>exact⟨4,rfl,rfl,rfl⟩
  ·go_wp2_with fail;go_roundg 1
   case measure=>omega
   case rel=>exact⟨5,rfl,rfl,rfl⟩
  ·go_wp2_with fail;go_roundg 0
   case measure=>omega
   case rel=>exact⟨6,rfl,rfl,rfl⟩
  ·go_wp2_with fail;go_ret;exact⟨rfl,bt a1.out Hb.out⟩
def dD (lb xb:Nat)(by_ dp nd ex:Int)(ov nv:Value)(want:Int)(fin:Bool):Array Value:=
 #[.pointer (some ⟨lb, 0, none⟩), .int .i64 1073741824, .int .i64 1073741824, .int .i64 1073741824, .int .i64 1073741824, .int .i64 1073741824, .int .i64 4611686018427387903, .int .i64 by_, .int .i64 dp, .int .i64 nd, .int .i64 ex,
  .func (.func 73) #[.pointer (some ⟨xb,0,none⟩)] #[],ov,nv,.int .i64 want,.bool fin]
def gp (f:Fr):Value:=.int .i64 (if f.obj then 6 else 5)
def wm (b:Nat):Value:=.map (some b)
def iQ (f:Fr):List ByteArray:=f.name.toList++f.mems.map Prod.fst
def jx (B:Nat)(w:World)(b:Nat)(f:Fr):Prop:=B<=b/\∃l n,dS w b l n/\n<=f.mems.length+f.name.toList.length/\∀s,s∈l↔s∈iQ f
structure ir (B:Nat) (w:World) (rb lb xb:Nat) (v:Value) (xs:List UInt8) (frs:List Fr) (want k:Nat) (nd:Nat) (fin:Bool) (by_ dp ex:Int) (ov nv:Value) (maps:List Nat):Prop where
 row:w.heap[rb]?=some (.cells (dD lb xb by_ dp nd ex ov nv want fin) 201 (0,0))
 low:B<=rb
 lex:oU w lb v xs k
 llow:B<=lb
 own:aq w B v xs
 opens:w.ownsRow B 3 1 ov frs.length (frs.reverse.map gp)
 names:w.ownsRow B 310 1 nv maps.length (maps.reverse.map wm)
 seen:br (jx B w) maps (frs.filter (·.obj))
 nodup:maps.Nodup
 le:k<=xs.length
def lG (e:TypeId):Prop:=e=201\/e=260\/e=3\/e=310
def jL (B:Nat)(w:World)(rb lb xb:Nat)(v:Value)(xs:List UInt8)(frs:List Fr)(want k nd:Nat)(fin:Bool):Prop:= ∃by_ dp ex ov nv maps,ir B w rb lb xb v xs frs want k nd fin by_ dp ex ov nv maps
section
variable {B rb lb xb want k nd:Nat}{w w':World}{v:Value}{xs:List UInt8}{frs:List Fr}{fin:Bool}{by_ dp ex:Int}{ov nv:Value}{maps:List Nat}
theorem ir.s (h:ir B w rb lb xb v xs frs want k nd fin by_ dp ex ov nv maps):jL B w rb lb xb v xs frs want k nd fin:=⟨_,_,_,_,_,_,h⟩
theorem ir.kp (h:ir B w rb lb xb v xs frs want k nd fin by_ dp ex ov nv maps)(hk:Kp T w w')(hT:∀e,lG e->¬T e)(h8:¬T 5):ir B w' rb lb xb v xs frs want k nd fin by_ dp ex ov nv maps:=by
 obtain⟨h1,h2,h3,h4,h5,h6,h7,a2,h9,a1⟩:=h;have a0:aq w' B v xs:=al h5 hk.keeps h8;refine⟨hk.heap h1 (hT _ (.inl rfl)),h2,⟨hk.heap h3.1 (hT _ (.inr (.inl rfl))),aq.bs a0⟩,h4,a0,al h6 hk.keeps (hT _ (.inr (.inr (.inl rfl)))),al h7 hk.keeps (hT _ (.inr (.inr (.inr rfl)))),a2.mono fun a b h=>?_,h9,a1⟩;obtain⟨q1,l,n,q2,q3,q4⟩:=h;exact⟨q1,l,n,q2.kp hk,q3,q4⟩
theorem ir.below (h:ir B w rb lb xb v xs frs want k nd fin by_ dp ex ov nv maps)(hb:Below w.heap.size w w'):ir B w' rb lb xb v xs frs want k nd fin by_ dp ex ov nv maps:=h.kp (T:=fun _=>False) (Kp.of_below _ hb) (fun _ _ h=>h) (fun h=>h)
theorem jL.kp (h:jL B w rb lb xb v xs frs want k nd fin)(hk:Kp T w w')(hT:∀e,lG e->¬T e)(h8:¬T 5):jL B w' rb lb xb v xs frs want k nd fin:=by
 obtain⟨a,b,c,d,e,f,h⟩:=h;exact⟨a,b,c,d,e,f,h.kp hk hT h8⟩
theorem jL.below (h:jL B w rb lb xb v xs frs want k nd fin)(hb:Below w.heap.size w w'):jL B w' rb lb xb v xs frs want k nd fin:=by
 obtain⟨a,b,c,d,e,f,h⟩:=h;exact⟨a,b,c,d,e,f,h.below hb⟩
theorem Bg:∀e,lG e->¬TB e:=fun e h=>by rcases h with rfl|rfl|rfl|rfl <;> (simp only[TB,TV];decide)
theorem bO:∀e,TB e->¬lG e:=fun e h h2=>Bg e h2 h
theorem jL.tb (h:jL B w rb lb xb v xs frs want k nd fin)(hk:Kp TB w w'):jL B w' rb lb xb v xs frs want k nd fin:=h.kp hk Bg (by simp only[TB,TV];decide)
theorem ir.setR (h:ir B w rb lb xb v xs frs want k nd fin by_ dp ex ov nv maps)(hB:B<=w.heap.size)(j:Nat)(u:Value):Below B w (w.setCell ⟨rb,j,none⟩ u)/\Kp lG w (w.setCell ⟨rb,j,none⟩ u)/\(w.setCell ⟨rb,j,none⟩ u).heap[rb]?=some (.cells ((dD lb xb by_ dp nd ex ov nv want fin).setIfInBounds j u) 201 (0,0))/\∀cells',(w.setCell ⟨rb,j,none⟩ u).heap[rb]?=some (.cells cells' 201 (0,0))->
  oU (w.setCell ⟨rb,j,none⟩ u) lb v xs k/\aq (w.setCell ⟨rb,j,none⟩ u) B v xs/\(w.setCell ⟨rb,j,none⟩ u).ownsRow B 3 1 ov frs.length (frs.reverse.map gp)/\(w.setCell ⟨rb,j,none⟩ u).ownsRow B 310 1 nv maps.length (maps.reverse.map wm)/\br (jx B (w.setCell ⟨rb,j,none⟩ u)) maps (frs.filter (·.obj)):=by
 obtain⟨h1,h2,h3,h4,h5,h6,h7,a2,h9,a3⟩:=h;have a1:=a8.set (w:=w) rb j u;have hk:Kp (fun e=>e=201) w (w.setCell ⟨rb,j,none⟩ u):=Kp.of_chg a1 fun g e _=>by subst e;exact⟨_,_,_,h1,rfl⟩
 have a0:aq (w.setCell ⟨rb,j,none⟩ u) B v xs:=al h5 hk.keeps (by decide);refine⟨a1.below hB (fun i e=>by rw[e];exact h2),hk.imp fun e he=>.inl he,au h1 j u,fun _ _=>⟨⟨hk.heap h3.1 (by decide),aq.bs a0⟩,a0,al h6 hk.keeps (by decide),al h7 hk.keeps (by decide),a2.mono fun a b h=>?_⟩⟩;obtain⟨q1,l,n,q2,q3,q4⟩:=h;exact⟨q1,l,n,q2.kp hk,q3,q4⟩
end
