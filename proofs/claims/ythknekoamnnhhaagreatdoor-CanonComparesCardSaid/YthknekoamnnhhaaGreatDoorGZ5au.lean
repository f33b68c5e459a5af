import Derived.Test.YthknekoamnnhhaaGreatDoorGZ5at
set_option linter.unusedVariables false
set_option linter.unusedSimpArgs false
set_option maxHeartbeats 64000000
set_option maxRecDepth 100000
namespace Go.Proofs.YthknekoamnnhhaaGreatDoor
open Go.RowKit
variable {fin:Bool}{f f':Fr}{lv:Int}{j:JV}{frs fs:List Fr}{xs:List UInt8}{B c lb n nd rb want xb:Nat}{A:Option Addr}{e:TypeId}{T U:TypeId->Prop}{dv pv u v:Value}{w w':World}
theorem Bz.kp {done:Option JV}{us:List (List Value)}{bs:List Nat}(h:Bz B w xb frs done pv dv us bs)(hk:Kp T w w')(hT:∀e,TB e->¬T e):Bz B w' xb frs done pv dv us bs:=by
 obtain⟨h1,h2,h3,h4,h5,h6,h7⟩:=h;have hm:Mv [] w w':=Mv.of_kp hk (fun e he=>hT e (.inl he));have a0:∀g∈bs,g∈bs\/w.heap.size<=g:=fun g h=>.inl h
 exact⟨hk.heap h1 (hT _ (.inr (.inl rfl))),h2,ao h3 hk.keeps (hT _ (.inr (.inr rfl))),h4.mono fun _ _ h=>h.move hm (by simp) a0 (by simp),h5,h6,h7.move hm (by simp) a0⟩
theorem Bz.below {done:Option JV}{us:List (List Value)}{bs:List Nat}(h:Bz B w xb frs done pv dv us bs)(hb:Below w.heap.size w w'):Bz B w' xb frs done pv dv us bs:=h.kp (T:=fun _=>False) (Kp.of_below _ hb) (fun _ _ h=>h)
theorem fC.lt {done:Option JV}{bs:List Nat}(h:fC B w xb frs done bs):∀g∈bs,g<w.heap.size:=by
 obtain⟨pv,dv,us,h⟩:=h;intro g hg;rw[<-h.blocks] at hg;obtain⟨x,hx,a0⟩:=List.mem_flatMap.1 hg;obtain⟨i,hi,rfl⟩:=List.getElem_of_mem hx;have hl:=h.frames.1;obtain⟨iv,mv,s,xs,L,q1,q2,q3,q4,q5,-⟩:=h.frames.2 i us[i] (frs[i]'(by omega)) (Zc hi) (Zc _);rw[q1] at a0;rcases List.mem_append.1 a0 with a0|a0
 ·obtain⟨_,cur,hh⟩:=al q3 (g:=g) (by simpa using a0);exact ae hh
 ·obtain⟨_,cur,hh⟩:=al q5 (g:=g) (by simpa using a0);exact ae hh
theorem cv.fresh {bs:List Nat}{k:Nat}{xs:List Value}(h:cv (w.heap.size<= ·) w' e k A n c xs)(hB:B<=w.heap.size)(a0:∀g∈bs,g<w.heap.size):cv (Pb B bs) w' e k A n c xs:=
 h.stay fun g o hp hg _ _=>⟨⟨Zb hB hp,fun hb=>by have:=a0 g hb;omega⟩,hg⟩
theorem wX {bs:List Nat}(h0:lv= (fs.length+1:Nat))(h:fC B w xb (f::fs) none bs)(ho:f.obj=false)(g8:f.name=none)(f4:f.ok kf)(hi:f.items.length<=4294967296)(f3:f.mems.length<=4294967296)(c7:kN fs)(hB:B<=w.heap.size):Calls Tryz.prog 140 #[.pointer (some ⟨xb,0,none⟩),.agg #[.int .i64 lv,.int .i64 5]] w fun e w'=>mU B xb (cW fs (dZ f)) w e w':=by
 have hl:=c7.1;have c2:=ac w (.cells #[.int .i64 lv,.int .i64 5] 243);have f8:=h.below c2;have d9:=Qa (Ze w (.cells #[.int .i64 lv,.int .i64 5] 243));obtain⟨w1,d0⟩:∃w1,w.alloc (.cells #[.int .i64 lv,.int .i64 5] 243)=w1:=⟨_,rfl⟩;rw[d0] at c2 f8 d9;obtain⟨pv,dv,us,h1⟩:=f8;obtain⟨g0,h2,h3,h4,h5,h6,h7⟩:=id h1
 cases us with
 |nil=>have:=h4.1;simp at this
 |cons u us=>
 have d6:us.length=fs.length:=by have:=h4.1;simpa using this
 have a5:∀x∈u::us,x.length=5:=fun x hx=>by
  obtain⟨i,hi,rfl⟩:=List.getElem_of_mem hx;exact(h4.2 i _ ((f::fs)[i]'(by have:=h4.1;omega)) (Zc hi) (Zc _)).len
 rw[List.length_cons,<-d6] at h3;obtain⟨pb,q,j3,hT⟩:=eK h3 a5;obtain⟨i9,a1,d5,a7,a9⟩:=hT;obtain⟨iv,mv,s0,xs,L,hu,h8,e2,a4,f5,b2,a2,g7,e5⟩:=h4.2 0 u f rfl rfl;obtain rfl:=e5 ho;obtain⟨Ai,qi,rfl,-⟩:=ah e2;subst i9 hu;obtain⟨m,hm⟩:∃m,m=us.length:=⟨_,rfl⟩;rw[<-hm] at a1 a7 a9;have c0:=aa g0 (j:=0) (u:=.slice (some ⟨pb,0,none⟩) (m+1) q) (by rw[hm];rfl);have k0:=a1 0 _ rfl;have k1:=a1 1 _ rfl;have k2:=a1 2 _ rfl;have k3:=a1 3 _ rfl;have k4:=a1 4 _ rfl;rw[ho] at k0;rw[g8] at k4;simp only[Bool.false_eq_true,if_false,if_true] at k0;rw[Nat.add_zero] at k0;simp only[Option.isSome_none] at k4;have e0:=aa d9.out (j:=0) (u:=.int .i64 lv) rfl;have e1:=aa d9.out (j:=1) (u:=.int .i64 5) rfl;have s1:IntKind.i64.wrap (m:Int)= (m:Int):=IntWalk.i64_in _ (by omega);have e3:(((m+1:Nat):Int)==0)=false:=by simp only[beq_eq_false_iff_ne];omega
 have a6:lv= (m:Int)+1:=by omega
 have d4:(m:Int)< (m:Int)+1:=by omega
 have b7:(((m:Int)+1)==0)=false:=by simp only[beq_eq_false_iff_ne];omega
 have HA:=Qa h1;have Hm:=Qa hm;have j1:=Qa d6;have e6:=Qa (And.intro e2 (And.intro a4 (And.intro f5 (And.intro b2 a2))));have b1:=Qa c2;have HB:=Qa hB;have j2:=Qa f4;have g9:=Qa c7;have i5:=Qa hi;have j5:=Qa f3;have c8:(lv== (m:Int)+1)=true:=by rw[a6];simp
 have b4:(lv != (m:Int)+1)=false:=by rw[a6];simp
 have C0:=Qa c0;have K0:=Qa k0;have K1:=Qa k1;have K2:=Qa k2;have K3:=Qa k3;have K4:=Qa k4;have E0:=Qa e0;have E1:=Qa e1;have Hq:=Qa (And.intro a9 a7);clear h h1 g0 h2 h3 h4 h5 h6 h7 e2 a4 f5 b2 a2 g7 e5 a1 d5 a5 h8 d6 hm h0 a6 c2 hB a7 a9 f4 c7 hi f3 k0 k1 k2 k3 k4 e0 e1 hl;go_enter Tryz.func140,Tryz.ntmps140;go_wp2_with fail
 try rw[d0]
 clear c0;refine aR (fun w2=>w2.cell? ⟨xb,0,none⟩=some (.slice (some ⟨pb,0,none⟩) (m+1) q)/\w2.cell? ⟨pb,m*5,none⟩=some (.int .i64 5)/\w2.cell? ⟨pb,m*5+4,none⟩=some (.bool false)/\w2.cell? ⟨w.heap.size,0,none⟩=some (.int .i64 lv)/\w2.cell? ⟨w.heap.size,1,none⟩=some (.int .i64 5)) (⟨C0.out,K0.out,K4.out,E0.out,E1.out⟩) fun a0=>?_
 refine tH 0 a0 ?_;refine tH 1 a0 ?_;refine tH 2 a0 ?_;refine tH 3 a0 ?_;refine tH 4 a0 ?_;refine tH 5 a0 ?_
 try simp only[Act.put,jP,jQ,jR]
 refine tH 6 a0 ?_;refine tH 7 a0 ?_;refine tH 8 a0 ?_;refine tH 9 a0 ?_;refine tH 10 a0 ?_;refine tH 11 a0 ?_
 try simp only[Act.put,jP,jQ,jR]
 refine tH 12 a0 ?_;refine tH 13 a0 ?_;refine tH 14 a0 ?_;refine tH 15 a0 ?_;refine tH 16 a0 ?_;refine tH 17 a0 ?_
 try simp only[Act.put,jP,jQ,jR]
 refine tH 18 a0 ?_;refine tH 19 a0 ?_;refine tH 20 a0 ?_;refine tH 21 a0 ?_;refine tH 22 a0 ?_;refine tH 23 a0 ?_
 try simp only[Act.put,jP,jQ,jR]
 refine tH 24 a0 ?_;refine tH 25 a0 ?_;refine tH 26 a0 ?_;refine tH 27 a0 ?_;refine tH 28 a0 ?_;refine tH 29 a0 ?_
 try simp only[Act.put,jP,jQ,jR]
 refine tH 30 a0 ?_;refine tH 31 a0 ?_;refine tH 32 a0 ?_
 try simp only[Act.put,jP,jQ,jR]
 refine wpAnyH_done (by kernel_rfl) (NoPanic.normal ?_) _;obtain⟨wr,d1⟩:∃wr,w1.drew=wr:=⟨_,rfl⟩;have a3:Below w1.heap.size w1 wr:=by rw[<-d1];exact(Zd _ _).drew
 rw[d1];clear a0 d1 d0;have r0:=Zf a3 C0.out;have r1:=Zf a3 K0.out;have r2:=Zf a3 K1.out;have r3:=Zf a3 K2.out;have r4:=Zf a3 K3.out;have r5:=Zf a3 K4.out;have i8:(m:Int)<=q:=by have:=Hq.out.1;omega
 have d2:=ac wr (.cells #[.int .i64 5,.slice Ai xs.length qi,.slice none 0 0,.string s0,.bool false] 238);have c1:=Qa ((HA.out.below a3).below d2);have b3:=Qa (Ze wr (.cells #[.int .i64 5,.slice Ai xs.length qi,.slice none 0 0,.string s0,.bool false] 238));have c5:=Qa d2;have c3:=Qa a3;have fx:=am c1.out.row 0;have cx:=aa c1.out.row (j:=0) (u:=.slice (some ⟨pb,0,none⟩) (m+1) q) (by rw[Hm.out];rfl);have bx0:=aa b3.out (j:=0) rfl;have i4:xb≠wr.heap.size:=fun e=>by have:=ae (HA.out.below a3).row;omega
 clear a3 d2;go_wp2_with fail;obtain⟨wA,d3⟩:∃wA,wr.alloc (.cells #[.int .i64 5,.slice Ai xs.length qi,.slice none 0 0,.string s0,.bool false] 238)=wA:=⟨_,rfl⟩;rw[d3];rw[d3] at c1 c5 b3;clear cx fx bx0 i4 d3 r0 r1 r2 r3 r4 r5 s1 e3 d4 b7 c8 b4 i8;obtain rfl:=Hm.out;have f0:B<=wA.heap.size:=by have:=c5.out.size;have:=c3.out.size;have:=b1.out.size;have:=HB.out;omega
 obtain⟨p1,p2,p3,p4⟩:=zK c1.out f0;obtain⟨w5,f1⟩:∃w5,wA.setCell ⟨xb,0,none⟩ (.slice (some ⟨pb,0,none⟩) us.length q)=w5:=⟨_,rfl⟩;rw[f1] at p1 p2 p4 ⊢;have b9:Kp (fun e=>e=192) w1 w5:=((Kp.of_below _ c3.out).trans (Kp.of_below _ c5.out)).trans p2;have f6:Mv [] w1 w5:=Mv.of_kp b9 fun e he=>by rcases he with rfl|rfl|rfl|rfl <;> decide
 have e7:Below B w w5:=((b1.out.mono HB.out).trans ((c3.out.mono (Zb HB.out b1.out.size)).trans (c5.out.mono (by have:=c3.out.size;have:=b1.out.size;have:=HB.out;omega)))).trans p1;have P3:=Qa p3;have P4:=Qa p4;have i2:=Qa ((Kp.of_below TB b1.out).trans (b9.imp fun e he=>.inr (.inl he)));have h9:=Qa f6;have i3:=Qa e7;have c4:=Qa (show B<=w5.heap.size from Zb f0 p2.1);obtain⟨g1,g2,g3,g4,g5⟩:=e6.out;have e8:Sl w5 (.slice Ai xs.length qi) xs:=Sl.of_own (ao g1 b9.keeps (by decide));have j0:xs.length=f.items.length:=g2.1;have b6:=Qa (mC e8 (fun v hv=>by
  obtain⟨i,hi,rfl⟩:=List.getElem_of_mem hv;exact(g2.2 i _ (f.items[i]'(by omega)) (Zc hi) (Zc _)).iface) (by have:=i5.out;omega))
 clear e8 j0;clear p1 p2 p3 p4 b9 f6 e7 f1 g1 g2 g3 g4 g5;(with_reducible refine b6.out.mono ?_);rintro e w6 ⟨g,A6,c6,rfl,b0,e4,a1,b8⟩;have c9:=b0;have g6:=P4.out.below b0;have b5:Mv [] w1 w6:=h9.out.trans (Mv.of_below b0);have f9:VW (Pb B (us.flatMap bZ)) w6 (.iface 57 (.pointer (some ⟨g,0,none⟩))) (dZ f):=by
  have hlt:=P4.out.lt;have hQ:Pb B (us.flatMap bZ) g:=⟨Zb c4.out e4,fun hb=>by have:=hlt g hb;omega⟩;obtain⟨g1,g2,g3,g4,g5⟩:=e6.out;rw[show dZ f=dU f.items from if_neg (by rw[ho];decide)];exact zJ a1 (b8.fresh c4.out hlt) hQ (g2.mono fun _ _ h=>h.move b5 (by simp) fun x hx=>.inl (P3.out x hx))
 have i0:=Qa (qF g6 g9.out f9 (Zb c4.out b0.size));have f2:=Qa b0;clear c9 b0 g6 b5 f9 b8 a1 e4 b6;go_wp2_with fail;(with_reducible refine i0.out.mono ?_);rintro e w7 ⟨rfl,h1,h2,h3⟩;have R:=Qa (And.intro h1 (And.intro h2 h3));clear h1 h2 h3;go_wp2_with fail;(try simp only[Exit.inBlock,Exit.then]);refine Zg (results_none rfl ..) rfl ?_;exact⟨rfl,(i3.out.trans (f2.out.mono c4.out)).trans R.out.1,(i2.out.trans (Kp.of_below TB f2.out)).trans R.out.2.1,R.out.2.2⟩
theorem BA {bs:List Nat}(i2:lv= (fs.length+1:Nat))(h:fC B w xb (f::fs) none bs)(ho:f.obj=true)(h8:f.name=none)(f6:f.ok kf)(hi:f.items.length<=4294967296)(f5:f.mems.length<=4294967296)(c7:kN fs)(hB:B<=w.heap.size):Calls Tryz.prog 140 #[.pointer (some ⟨xb,0,none⟩),.agg #[.int .i64 lv,.int .i64 6]] w fun e w'=>mU B xb (cW fs (dZ f)) w e w':=by
 have hl:=c7.1;have c2:=ac w (.cells #[.int .i64 lv,.int .i64 6] 243);have g6:=h.below c2;have e3:=Qa (Ze w (.cells #[.int .i64 lv,.int .i64 6] 243));obtain⟨w1,d0⟩:∃w1,w.alloc (.cells #[.int .i64 lv,.int .i64 6] 243)=w1:=⟨_,rfl⟩;rw[d0] at c2 g6 e3;obtain⟨pv,dv,us,h1⟩:=g6;obtain⟨g8,h2,h3,h4,h5,h6,h7⟩:=id h1
 cases us with
 |nil=>have:=h4.1;simp at this
 |cons u us=>
 have d9:us.length=fs.length:=by have:=h4.1;simpa using this
 have a5:∀x∈u::us,x.length=5:=fun x hx=>by
  obtain⟨i,hi,rfl⟩:=List.getElem_of_mem hx;exact(h4.2 i _ ((f::fs)[i]'(by have:=h4.1;omega)) (Zc hi) (Zc _)).len
 rw[List.length_cons,<-d9] at h3;obtain⟨pb,q,k6,hT⟩:=eK h3 a5;obtain⟨j3,a0,d6,a7,b0⟩:=hT;obtain⟨iv,mv,s0,xs,L,hu,i3,g0,a4,e2,b3,a2,e5,i8⟩:=h4.2 0 u f rfl rfl;obtain rfl:=e5 ho;obtain⟨Ai,qi,rfl,-⟩:=ah e2;subst j3 hu;obtain⟨m,hm⟩:∃m,m=us.length:=⟨_,rfl⟩;rw[<-hm] at a0 a7 b0;have c0:=aa g8 (j:=0) (u:=.slice (some ⟨pb,0,none⟩) (m+1) q) (by rw[hm];rfl);have k0:=a0 0 _ rfl;have k1:=a0 1 _ rfl;have k2:=a0 2 _ rfl;have k3:=a0 3 _ rfl;have k4:=a0 4 _ rfl;rw[ho] at k0;rw[h8] at k4;simp only[Bool.false_eq_true,if_false,if_true] at k0;rw[Nat.add_zero] at k0;simp only[Option.isSome_none] at k4;have e0:=aa e3.out (j:=0) (u:=.int .i64 lv) rfl;have e1:=aa e3.out (j:=1) (u:=.int .i64 6) rfl;have s1:IntKind.i64.wrap (m:Int)= (m:Int):=IntWalk.i64_in _ (by omega);have e4:(((m+1:Nat):Int)==0)=false:=by simp only[beq_eq_false_iff_ne];omega
 have a6:lv= (m:Int)+1:=by omega
 have d5:(m:Int)< (m:Int)+1:=by omega
 have b8:(((m:Int)+1)==0)=false:=by simp only[beq_eq_false_iff_ne];omega
 have HA:=Qa h1;have Hm:=Qa hm;have k5:=Qa d9;have e8:=Qa (And.intro g0 (And.intro a4 (And.intro e2 (And.intro b3 a2))));have b2:=Qa c2;have HB:=Qa hB;have e6:=Qa f6;have i0:=Qa c7;have k9:=Qa hi;have j5:=Qa f5;have c8:(lv== (m:Int)+1)=true:=by rw[a6];simp
 have b5:(lv != (m:Int)+1)=false:=by rw[a6];simp
 have C0:=Qa c0;have K0:=Qa k0;have K1:=Qa k1;have K2:=Qa k2;have K3:=Qa k3;have K4:=Qa k4;have E0:=Qa e0;have E1:=Qa e1;have Hq:=Qa (And.intro b0 a7);clear h h1 g8 h2 h3 h4 h5 h6 h7 g0 a4 e2 b3 a2 e5 i8 a0 d6 a5 i3 d9 hm i2 a6 c2 hB a7 b0 f6 c7 hi f5 k0 k1 k2 k3 k4 e0 e1 hl;go_enter Tryz.func140,Tryz.ntmps140;go_wp2_with fail
 try rw[d0]
 clear c0;refine aR (fun w2=>w2.cell? ⟨xb,0,none⟩=some (.slice (some ⟨pb,0,none⟩) (m+1) q)/\w2.cell? ⟨pb,m*5,none⟩=some (.int .i64 6)/\w2.cell? ⟨pb,m*5+4,none⟩=some (.bool false)/\w2.cell? ⟨w.heap.size,0,none⟩=some (.int .i64 lv)/\w2.cell? ⟨w.heap.size,1,none⟩=some (.int .i64 6)) (⟨C0.out,K0.out,K4.out,E0.out,E1.out⟩) fun a1=>?_
 refine tH 0 a1 ?_;refine tH 1 a1 ?_;refine tH 2 a1 ?_;refine tH 3 a1 ?_;refine tH 4 a1 ?_;refine tH 5 a1 ?_
 try simp only[Act.put,jP,jQ,jR]
 refine tH 6 a1 ?_;refine tH 7 a1 ?_;refine tH 8 a1 ?_;refine tH 9 a1 ?_;refine tH 10 a1 ?_;refine tH 11 a1 ?_
 try simp only[Act.put,jP,jQ,jR]
 refine tH 12 a1 ?_;refine tH 13 a1 ?_;refine tH 14 a1 ?_;refine tH 15 a1 ?_;refine tH 16 a1 ?_;refine tH 17 a1 ?_
 try simp only[Act.put,jP,jQ,jR]
 refine tH 18 a1 ?_;refine tH 19 a1 ?_;refine tH 20 a1 ?_;refine tH 21 a1 ?_;refine tH 22 a1 ?_;refine tH 23 a1 ?_
 try simp only[Act.put,jP,jQ,jR]
 refine tH 24 a1 ?_;refine tH 25 a1 ?_;refine tH 26 a1 ?_;refine tH 27 a1 ?_;refine tH 28 a1 ?_;refine tH 29 a1 ?_
 try simp only[Act.put,jP,jQ,jR]
 refine tH 30 a1 ?_;refine tH 31 a1 ?_;refine tH 32 a1 ?_
 try simp only[Act.put,jP,jQ,jR]
 refine wpAnyH_done (by kernel_rfl) (NoPanic.normal ?_) _;obtain⟨wr,d1⟩:∃wr,w1.drew=wr:=⟨_,rfl⟩;have a3:Below w1.heap.size w1 wr:=by rw[<-d1];exact(Zd _ _).drew
 rw[d1];clear a1 d1 d0;have r0:=Zf a3 C0.out;have r1:=Zf a3 K0.out;have r2:=Zf a3 K1.out;have r3:=Zf a3 K2.out;have r4:=Zf a3 K3.out;have r5:=Zf a3 K4.out;have j2:(m:Int)<=q:=by have:=Hq.out.1;omega
 have d2:=ac wr (.cells #[.int .i64 6,.slice none 0 0,.slice Ai L.length qi,.string s0,.bool false] 238);have c1:=Qa ((HA.out.below a3).below d2);have b4:=Qa (Ze wr (.cells #[.int .i64 6,.slice none 0 0,.slice Ai L.length qi,.string s0,.bool false] 238));have c5:=Qa d2;have c3:=Qa a3;have fx:=am c1.out.row 0;have cx:=aa c1.out.row (j:=0) (u:=.slice (some ⟨pb,0,none⟩) (m+1) q) (by rw[Hm.out];rfl);have bx0:=aa b4.out (j:=0) rfl;have j1:xb≠wr.heap.size:=fun e=>by have:=ae (HA.out.below a3).row;omega
 clear a3 d2;go_wp2_with fail;obtain⟨wA,d4⟩:∃wA,wr.alloc (.cells #[.int .i64 6,.slice none 0 0,.slice Ai L.length qi,.string s0,.bool false] 238)=wA:=⟨_,rfl⟩;rw[d4];rw[d4] at c1 c5 b4;clear cx fx bx0 j1 d4 r0 r1 r2 r3 r4 r5 s1 e4 d5 b8 c8 b5 j2;obtain rfl:=Hm.out;have f2:B<=wA.heap.size:=by have:=c5.out.size;have:=c3.out.size;have:=b2.out.size;have:=HB.out;omega
 obtain⟨p1,p2,p3,p4⟩:=zK c1.out f2;obtain⟨w5,f3⟩:∃w5,wA.setCell ⟨xb,0,none⟩ (.slice (some ⟨pb,0,none⟩) us.length q)=w5:=⟨_,rfl⟩;rw[f3] at p1 p2 p4 ⊢;have b9:Kp (fun e=>e=192) w1 w5:=((Kp.of_below _ c3.out).trans (Kp.of_below _ c5.out)).trans p2;have f9:Mv [] w1 w5:=Mv.of_kp b9 fun e he=>by rcases he with rfl|rfl|rfl|rfl <;> decide
 have f0:Below B w w5:=((b2.out.mono HB.out).trans ((c3.out.mono (Zb HB.out b2.out.size)).trans (c5.out.mono (by have:=c3.out.size;have:=b2.out.size;have:=HB.out;omega)))).trans p1;have P3:=Qa p3;have P4:=Qa p4;have i9:=Qa ((Kp.of_below TB b2.out).trans (b9.imp fun e he=>.inr (.inl he)));have i4:=Qa f9;have j0:=Qa f0;have c4:=Qa (show B<=w5.heap.size from Zb f2 p2.1);obtain⟨g1,g2,g3,g4,g5⟩:=e8.out;have f1:zd 2 w5 (.slice Ai L.length qi) L.length (ga L):=zd.of_own (ao g3 b9.keeps (by decide));have f8:L.length=f.mems.length:=by have:=congrArg List.length g4;simpa using this
 have b7:=Qa (gL f1 (fun p hp=>by
  obtain⟨i,hi,rfl⟩:=List.getElem_of_mem hp;refine⟨?_,?_⟩
  ·have e:=congrArg (·[i]?) g4;simp only[List.getElem?_map,Zc hi,Zc (show i<f.mems.length by omega),Option.map_some] at e;rw[Zh e];exact e6.out.names _ (List.getElem_mem _)
  ·exact(g5.2 i _ ((f.mems.map Prod.snd)[i]'(by simp;omega)) (by rw[List.getElem?_map,Zc hi];rfl) (Zc _)).iface) (by rw[g4];exact e6.out.nodup) (by have:=j5.out;omega))
 have l0:=Qa f8;clear f1 f8;clear p1 p2 p3 p4 b9 f9 f0 f3 g1 g2 g3 g4 g5;(with_reducible refine b7.out.mono ?_);rintro e w6 ⟨g,A6,c6,S,rfl,b1,e7,a0,a9,d3,h0⟩;have c9:=b1;have g9:=P4.out.below b1;have b6:Mv [] w1 w6:=i4.out.trans (Mv.of_below b1);have g7:VW (Pb B (us.flatMap bZ)) w6 (.iface 130 (.pointer (some ⟨g,0,none⟩))) (dZ f):=by
  have hlt:=P4.out.lt;have hQ:Pb B (us.flatMap bZ) g:=⟨Zb c4.out e7,fun hb=>by have:=hlt g hb;omega⟩;obtain⟨g1,g2,g3,g4,g5⟩:=e8.out;rw[show dZ f=mJ (gw f.mems) from if_pos ho];have h9:S.length=L.length:=d3.length_eq;rw[<-h9] at a0 a9;exact xG a0 (a9.fresh c4.out hlt) hQ d3 h0 g4 (g5.mono fun _ _ h=>h.move b6 (by simp) fun x hx=>.inl (P3.out x hx))
 have i5:=Qa (qF g9 i0.out g7 (Zb c4.out b1.size));have f4:=Qa b1;clear c9 b1 g9 b6 g7 a9 a0 e7 b7 d3 h0;go_wp2_with fail;(with_reducible refine i5.out.mono ?_);rintro e w7 ⟨rfl,h1,h2,h3⟩;have R:=Qa (And.intro h1 (And.intro h2 h3));clear h1 h2 h3;go_wp2_with fail;go_end0;exact⟨rfl,(j0.out.trans (f4.out.mono c4.out)).trans R.out.1,(i9.out.trans (Kp.of_below TB f4.out)).trans R.out.2.1,R.out.2.2⟩
open Go.Maps
def d7 (w:World)(b:Nat)(names:List ByteArray)(n:Nat):Prop:= ∃D:DataW Unit,w.ownsMap Tryz.prog 9 (plainElem Tryz.prog 4) b n D/\∀s:ByteArray,s.size<=maxLen->D.atKey (.string s.data.toList) (.lit (.bool false)) =.lit (.bool (names.any fun t=>decide (t=s)))
theorem CA:Keyed Tryz.prog 9:=string_keyed Tryz.underlying9
theorem It (w:World):(zeroValue 4).run Tryz.prog w =.ok (.bool false) w:=by kernel_rfl
theorem d7.made (w:World):d7 (w.alloc (.map #[] 0)) w.heap.size [] 0:=
 ⟨.map [],World.ownsMap_made _ _ _ _,fun s _=>by simp[DataW.atKey]⟩
theorem Bw {d:DataW Unit}{ps:List MemPlace}(h:plainElem (H:=Unit) Tryz.prog 4 v=some (d,ps)):∃x,v =.bool x/\d =.lit (.bool x):=by
 unfold plainElem at h;rw[Tryz.underlying4] at h
 cases v with
 |bool x=>simp at h;exact⟨x,rfl,h.1.symm⟩
 |_=>simp at h
theorem d7.look {b:Nat}{names:List ByteArray}(h:d7 w b names n){s:ByteArray}(hs:s.size<=maxLen):(Instr.lookup 336 (.map (some b)) (.string s) false).run Tryz.prog w =.ok (.bool (names.any (fun t=>decide (t=s)))) w:=by
 obtain⟨D,h1,h2⟩:=h;obtain⟨v,ps,a0,hv⟩:=h1.lookup CA Tryz.underlying336 (It w) (show plainElem (H:=Unit) Tryz.prog 4 (.bool false)=some (.lit (.bool false), []) from plainElem_bool Tryz.underlying4 false) (WideMaps.keyOf_string_mk Tryz.underlying9 hs);obtain⟨x,rfl,hx⟩:=Bw hv;rw[h2 s hs] at hx;injection hx with hx
 injection hx with hx
 rw[a0,hx]
theorem d7.grown {b:Nat}{names:List ByteArray}{row:Option Nat}(h:d7 w b names n)(hg:w.grownBy w' row)(hb:some b≠row):d7 w' b names n:=by
 obtain⟨D,h1,h2⟩:=h;exact⟨D,h1.kept hg hb,h2⟩
theorem d7.kp {b:Nat}{names:List ByteArray}(h:d7 w b names n)(hk:Kp T w w'):d7 w' b names n:=by
 obtain⟨D,⟨es,clock,hh,r⟩,h2⟩:=h;exact⟨D,⟨es,clock,hk.2 b _ hh (fun _ _ _ e=>by cases e),r⟩,h2⟩
theorem d7.lt {b:Nat}{names:List ByteArray}(h:d7 w b names n):b<w.heap.size:=by
 obtain⟨D,h1,-⟩:=h;exact h1.lt
theorem t8 {ops:Array Oper}{rest:List Oper}{o:Oper}{a:Act}{Q:Exit->Act->World->Prop}{b:Nat}{names:List ByteArray}{s:ByteArray}(h:d7 w b names n)(hs:s.size<=maxLen)(hn:n<maxLen)(hg:o.guard=none)(m x v:Operand)(a3:o.op=Op.mapUpdate 336 m x v)
  (hm:a.eval m =.map (some b)) (hx:a.eval x =.string s) (hv:a.eval v =.bool true)
  (hK:∀w',d7 w' b (s::names) (n+1)->w.mapTurned w' b->wpList Tryz.prog ops Q rest (a.put o.dst undef) w'):wpList Tryz.prog ops Q (o::rest) a w:=by
 obtain⟨D,h1,h2⟩:=h;have a2:=h1.isMap;refine wpList_plain hg fun K' a1=>?_
 obtain⟨w',a0,r1,r2⟩:=h1.store CA Tryz.underlying336 hn (WideMaps.keyOf_string_mk Tryz.underlying9 hs) (show plainElem (H:=Unit) Tryz.prog 4 (.bool true)=some (.lit (.bool true), []) from plainElem_bool Tryz.underlying4 true);unfold Oper.wp;simp[execOp,a3,hm,hx,hv,a0,Result.andThen];refine a1 _ _ (hK w' ⟨_,r1,fun t ht=>?_⟩ r2)
 by_cases e:t=s
 ·subst e;rw[atKey_put_same a2 (by exact trivial:WideAt.IsKeyLit (.string t.data.toList)) _ _];simp
 ·have hne:Lit.string t.data.toList≠Lit.string s.data.toList:=fun h=>by
   injection h with h
   cases s;cases t;simp only[Array.toList_inj] at h;exact e (by rw[h])
  rw[atKey_put_other hne,h2 t ht];rw[List.any_cons];have e2:decide (s=t)=false:=decide_eq_false fun h=>e h.symm
  rw[e2,Bool.false_or]
def eZ:Value:=.agg #[.int .i64 1073741824,.int .i64 1073741824,.int .i64 1073741824,.int .i64 1073741824,.int .i64 1073741824,.int .i64 4611686018427387903]
theorem mB (w:World):Calls Tryz.prog 174 #[eZ] w fun e w'=>e =.returned eZ/\Below w.heap.size w w':=by
 unfold eZ;have hb:=Qa (bE (ac w (.cells #[.int .i64 1073741824,.int .i64 1073741824,.int .i64 1073741824,.int .i64 1073741824,.int .i64 1073741824,.int .i64 4611686018427387903] 121)) (ac _ (.cells #[.int .i64 1073741824,.int .i64 1073741824,.int .i64 1073741824,.int .i64 1073741824,.int .i64 1073741824,.int .i64 4611686018427387903] 285)));go_enter Tryz.func174,Tryz.ntmps174;go_wp2_with fail;have Hb:=hb.out;generalize hwa:(w.alloc (.cells #[.int .i64 1073741824,.int .i64 1073741824,.int .i64 1073741824,.int .i64 1073741824,.int .i64 1073741824,.int .i64 4611686018427387903] 121))=wa at *;have hsz:w.heap.size+1=wa.heap.size:=by rw[<-hwa];simp
 rw[hsz];have hn:=Ze wa (.cells #[.int .i64 1073741824,.int .i64 1073741824,.int .i64 1073741824,.int .i64 1073741824,.int .i64 1073741824,.int .i64 4611686018427387903] 285);have n0:=aa hn (j:=0) rfl;have n1:=aa hn (j:=1) rfl;have n2:=aa hn (j:=2) rfl;have n3:=aa hn (j:=3) rfl;have n4:=aa hn (j:=4) rfl;have n5:=aa hn (j:=5) rfl;refine Zg (v:=.agg #[.int .i64 1073741824,.int .i64 1073741824,.int .i64 1073741824,.int .i64 1073741824,.int .i64 1073741824,.int .i64 4611686018427387903]) ?_ rfl ⟨rfl,Hb⟩;simp[results,Tryz.results174,go_sem,n0,n1,n2,n3,n4,n5]
theorem FZ (a b c d e f:Value)(W:World):(Instr.index 285 (.agg #[a,b,c,d,e,f]) (.int .i64 0)).run Tryz.prog W =.ok a W:=by kernel_rfl
theorem F4 (a b c d e f:Value)(W:World):(Instr.index 285 (.agg #[a,b,c,d,e,f]) (.int .i64 1)).run Tryz.prog W =.ok b W:=by kernel_rfl
theorem FS (a b c d e f:Value)(W:World):(Instr.index 285 (.agg #[a,b,c,d,e,f]) (.int .i64 2)).run Tryz.prog W =.ok c W:=by kernel_rfl
theorem F1 (a b c d e f:Value)(W:World):(Instr.index 285 (.agg #[a,b,c,d,e,f]) (.int .i64 3)).run Tryz.prog W =.ok d W:=by kernel_rfl
theorem F3 (a b c d e f:Value)(W:World):(Instr.index 285 (.agg #[a,b,c,d,e,f]) (.int .i64 4)).run Tryz.prog W =.ok e W:=by kernel_rfl
theorem FT (a b c d e f:Value)(W:World):(Instr.index 285 (.agg #[a,b,c,d,e,f]) (.int .i64 5)).run Tryz.prog W =.ok f W:=by kernel_rfl
theorem xr {m:Int}(hm:m=1\/m=2\/m=3\/m=5)(w:World):Calls Tryz.prog 175 #[eZ,.int .i64 m] w fun e w'=>e =.returned (.tuple #[.int .i64 1073741824,.bool true])/\Below w.heap.size w w':=by
 have a0:=ac w (.cells #[.int .i64 1073741824,.int .i64 1073741824,.int .i64 1073741824,.int .i64 1073741824,.int .i64 1073741824,.int .i64 4611686018427387903] 121);have H:=Qa (fun w=>mB w);unfold eZ at *;have x0:=FZ;have x1:=F4;have x2:=FS;have x3:=F1;have x4:=F3;have x5:=FT;have a1:=Qa a0;clear a0;rcases hm with rfl|rfl|rfl|rfl
 all_goals
  go_enter Tryz.func175,Tryz.ntmps175;go_wp2_with fail;(with_reducible refine(H.out _).mono ?_);rintro e w1 ⟨rfl,hb⟩;have Hb:=Qa hb;clear hb;go_wp2_with fail;go_ret2;exact⟨rfl,bE a1.out Hb.out⟩
theorem tf {m x:Int}(hm:m=1\/m=2\/m=3\/m=5)(hx:x<=1073741824)(w:World):Calls Tryz.prog 133 #[eZ,.int .i64 m,.int .i64 x] w fun e w'=>e =.returned .nilIface/\Below w.heap.size w w':=by
 have a0:=ac w (.cells #[.int .i64 1073741824,.int .i64 1073741824,.int .i64 1073741824,.int .i64 1073741824,.int .i64 1073741824,.int .i64 4611686018427387903] 121);have H:=Qa (fun w=>xr hm w);unfold eZ at *;have a1:=Qa a0;clear a0 hm;go_enter Tryz.func133,Tryz.ntmps133;go_wp2_with fail;(with_reducible refine(H.out _).mono ?_);rintro e w1 ⟨rfl,hb⟩;have Hb:=Qa hb;clear hb;go_wp2_with fail;go_ret;exact⟨rfl,bE a1.out Hb.out⟩
theorem xa (w:World):Calls Tryz.prog 132 #[eZ] w fun e w'=>e =.returned .nilIface/\Below w.heap.size w w':=by
 have a0:=ac w (.cells #[.int .i64 1073741824,.int .i64 1073741824,.int .i64 1073741824,.int .i64 1073741824,.int .i64 1073741824,.int .i64 4611686018427387903] 121);have H:=Qa (fun w=>mB w);unfold eZ at *;have x0:=FZ;have x1:=F4;have x2:=FS;have x3:=F1;have x4:=F3;have x5:=FT;have a1:=Qa a0;clear a0;go_enter Tryz.func132,Tryz.ntmps132;go_wp2_with fail;(with_reducible refine(H.out _).mono ?_);rintro e w1 ⟨rfl,hb⟩;have Hb:=Qa hb;clear hb;go_wp2_with fail
 go_loopg [8] 6 (fun k s8 wr=> ∃i:Nat,k+i=6/\s8 =.int .i64 i/\wr=w1)
 case atStart=>exact⟨0,rfl,rfl,rfl⟩
 case round=>
  obtain⟨i,hk,rfl,rfl⟩:=hrel;have hi:i=0\/i=1\/i=2\/i=3\/i=4\/i=5\/i=6:=by omega
  rcases hi with rfl|rfl|rfl|rfl|rfl|rfl|rfl
  ·go_wp2_with fail;go_roundg 5
   case measure=>omega
   case rel=>exact⟨1,rfl,rfl,rfl⟩
  ·go_wp2_with fail;go_roundg 4
   case measure=>omega
   case rel=>exact⟨2,rfl,rfl,rfl⟩
  ·go_wp2_with fail;go_roundg 3
   case measure=>omega
   case rel=>exact⟨3,rfl,rfl,rfl⟩
  ·go_wp2_with fail;go_roundg 2
   case measure=>omega
   case rel=>exact⟨4,rfl,rfl,rfl⟩
  ·go_wp2_with fail;go_roundg 1
   case measure=>omega
   case rel=>exact⟨5,rfl,rfl,rfl⟩
  ·go_wp2_with fail;go_roundg 0
   case measure=>omega
   case rel=>exact⟨6,rfl,rfl,rfl⟩
  ·go_wp2_with fail;go_ret;exact⟨rfl,bE a1.out Hb.out⟩
def dK (lb xb:Nat)(by_ dp nd ex:Int)(ov nv:Value)(want:Int)(fin:Bool):Array Value:=
 #[.pointer (some ⟨lb, 0, none⟩), .int .i64 1073741824, .int .i64 1073741824, .int .i64 1073741824, .int .i64 1073741824, .int .i64 1073741824, .int .i64 4611686018427387903, .int .i64 by_, .int .i64 dp, .int .i64 nd, .int .i64 ex,
  .func (.func 109) #[.pointer (some ⟨xb,0,none⟩)] #[],ov,nv,.int .i64 want,.bool fin]
def gY (f:Fr):Value:=.int .i64 (if f.obj then 6 else 5)
def yb (b:Nat):Value:=.map (some b)
def jf (f:Fr):List ByteArray:=f.name.toList++f.mems.map Prod.fst
def kg (B:Nat)(w:World)(b:Nat)(f:Fr):Prop:=B<=b/\∃l n,d7 w b l n/\n<=f.mems.length+f.name.toList.length/\∀s,s∈l↔s∈jf f
structure iP (B:Nat) (w:World) (rb lb xb:Nat) (v:Value) (xs:List UInt8) (frs:List Fr) (want k:Nat) (nd:Nat) (fin:Bool) (by_ dp ex:Int) (ov nv:Value) (maps:List Nat):Prop where
 row:w.heap[rb]?=some (.cells (dK lb xb by_ dp nd ex ov nv want fin) 230 (0,0))
 low:B<=rb
 lex:pe w lb v xs k
 llow:B<=lb
 own:au w B v xs
 opens:w.ownsRow B 3 1 ov frs.length (frs.reverse.map gY)
 names:w.ownsRow B 336 1 nv maps.length (maps.reverse.map yb)
 seen:bB (kg B w) maps (frs.filter (·.obj))
 nodup:maps.Nodup
 le:k<=xs.length
def mm (e:TypeId):Prop:=e=230\/e=292\/e=3\/e=336
def kc (B:Nat)(w:World)(rb lb xb:Nat)(v:Value)(xs:List UInt8)(frs:List Fr)(want k nd:Nat)(fin:Bool):Prop:= ∃by_ dp ex ov nv maps,iP B w rb lb xb v xs frs want k nd fin by_ dp ex ov nv maps
section
variable {B rb lb xb want k nd:Nat}{w w':World}{v:Value}{xs:List UInt8}{frs:List Fr}{fin:Bool}{by_ dp ex:Int}{ov nv:Value}{maps:List Nat}
theorem iP.s (h:iP B w rb lb xb v xs frs want k nd fin by_ dp ex ov nv maps):kc B w rb lb xb v xs frs want k nd fin:=⟨_,_,_,_,_,_,h⟩
theorem iP.kp (h:iP B w rb lb xb v xs frs want k nd fin by_ dp ex ov nv maps)(hk:Kp T w w')(hT:∀e,mm e->¬T e)(h8:¬T 5):iP B w' rb lb xb v xs frs want k nd fin by_ dp ex ov nv maps:=by
 obtain⟨h1,h2,h3,h4,h5,h6,h7,a2,h9,a1⟩:=h;have a0:au w' B v xs:=ao h5 hk.keeps h8;refine⟨hk.heap h1 (hT _ (.inl rfl)),h2,⟨hk.heap h3.1 (hT _ (.inr (.inl rfl))),au.bs a0⟩,h4,a0,ao h6 hk.keeps (hT _ (.inr (.inr (.inl rfl)))),ao h7 hk.keeps (hT _ (.inr (.inr (.inr rfl)))),a2.mono fun a b h=>?_,h9,a1⟩;obtain⟨q1,l,n,q2,q3,q4⟩:=h;exact⟨q1,l,n,q2.kp hk,q3,q4⟩
theorem iP.below (h:iP B w rb lb xb v xs frs want k nd fin by_ dp ex ov nv maps)(hb:Below w.heap.size w w'):iP B w' rb lb xb v xs frs want k nd fin by_ dp ex ov nv maps:=h.kp (T:=fun _=>False) (Kp.of_below _ hb) (fun _ _ h=>h) (fun h=>h)
theorem kc.kp (h:kc B w rb lb xb v xs frs want k nd fin)(hk:Kp T w w')(hT:∀e,mm e->¬T e)(h8:¬T 5):kc B w' rb lb xb v xs frs want k nd fin:=by
 obtain⟨a,b,c,d,e,f,h⟩:=h;exact⟨a,b,c,d,e,f,h.kp hk hT h8⟩
theorem kc.below (h:kc B w rb lb xb v xs frs want k nd fin)(hb:Below w.heap.size w w'):kc B w' rb lb xb v xs frs want k nd fin:=by
 obtain⟨a,b,c,d,e,f,h⟩:=h;exact⟨a,b,c,d,e,f,h.below hb⟩
theorem Dz:∀e,mm e->¬TB e:=fun e h=>by rcases h with rfl|rfl|rfl|rfl <;> (simp only[TB,TV];decide)
theorem bY:∀e,TB e->¬mm e:=fun e h h2=>Dz e h2 h
theorem kc.tb (h:kc B w rb lb xb v xs frs want k nd fin)(hk:Kp TB w w'):kc B w' rb lb xb v xs frs want k nd fin:=h.kp hk Dz (by simp only[TB,TV];decide)
theorem iP.setR (h:iP B w rb lb xb v xs frs want k nd fin by_ dp ex ov nv maps)(hB:B<=w.heap.size)(j:Nat)(u:Value):Below B w (w.setCell ⟨rb,j,none⟩ u)/\Kp mm w (w.setCell ⟨rb,j,none⟩ u)/\(w.setCell ⟨rb,j,none⟩ u).heap[rb]?=some (.cells ((dK lb xb by_ dp nd ex ov nv want fin).setIfInBounds j u) 230 (0,0))/\∀cells',(w.setCell ⟨rb,j,none⟩ u).heap[rb]?=some (.cells cells' 230 (0,0))->
  pe (w.setCell ⟨rb,j,none⟩ u) lb v xs k/\au (w.setCell ⟨rb,j,none⟩ u) B v xs/\(w.setCell ⟨rb,j,none⟩ u).ownsRow B 3 1 ov frs.length (frs.reverse.map gY)/\(w.setCell ⟨rb,j,none⟩ u).ownsRow B 336 1 nv maps.length (maps.reverse.map yb)/\bB (kg B (w.setCell ⟨rb,j,none⟩ u)) maps (frs.filter (·.obj)):=by
 obtain⟨h1,h2,h3,h4,h5,h6,h7,a2,h9,a3⟩:=h;have a1:=br.set (w:=w) rb j u;have hk:Kp (fun e=>e=230) w (w.setCell ⟨rb,j,none⟩ u):=Kp.of_chg a1 fun g e _=>by subst e;exact⟨_,_,_,h1,rfl⟩
 have a0:au (w.setCell ⟨rb,j,none⟩ u) B v xs:=ao h5 hk.keeps (by decide);refine⟨a1.below hB (fun i e=>by rw[e];exact h2),hk.imp fun e he=>.inl he,aw h1 j u,fun _ _=>⟨⟨hk.heap h3.1 (by decide),au.bs a0⟩,a0,ao h6 hk.keeps (by decide),ao h7 hk.keeps (by decide),a2.mono fun a b h=>?_⟩⟩;obtain⟨q1,l,n,q2,q3,q4⟩:=h;exact⟨q1,l,n,q2.kp hk,q3,q4⟩
end
section
variable {B rb lb xb want k nd:Nat}{w w':World}{v:Value}{xs:List UInt8}{frs:List Fr}{fin:Bool}{by_ dp ex:Int}{ov nv:Value}{maps:List Nat}
theorem iP.setWant (h:iP B w rb lb xb v xs frs want k nd fin by_ dp ex ov nv maps)(hB:B<=w.heap.size)(n:Nat){z:Int}(hz:z=n):Below B w (w.setCell ⟨rb,14,none⟩ (.int .i64 z))/\Kp mm w (w.setCell ⟨rb,14,none⟩ (.int .i64 z))/\iP B (w.setCell ⟨rb,14,none⟩ (.int .i64 z)) rb lb xb v xs frs n k nd fin by_ dp ex ov nv maps:=by
 subst hz;obtain⟨h1,h2,h3,h4⟩:=h.setR hB 14 (.int .i64 n);obtain⟨q1,q2,q3,q4,q5⟩:=h4 _ h3;exact⟨h1,h2,h3,h.low,q1,h.llow,q2,q3,q4,q5,h.nodup,h.le⟩
theorem iP.setNodes (h:iP B w rb lb xb v xs frs want k nd fin by_ dp ex ov nv maps)(hB:B<=w.heap.size)(n:Nat){z:Int}(hz:z=n):Below B w (w.setCell ⟨rb,9,none⟩ (.int .i64 z))/\Kp mm w (w.setCell ⟨rb,9,none⟩ (.int .i64 z))/\iP B (w.setCell ⟨rb,9,none⟩ (.int .i64 z)) rb lb xb v xs frs want k n fin by_ dp ex ov nv maps:=by
 subst hz;obtain⟨h1,h2,h3,h4⟩:=h.setR hB 9 (.int .i64 n);obtain⟨q1,q2,q3,q4,q5⟩:=h4 _ h3;exact⟨h1,h2,h3,h.low,q1,h.llow,q2,q3,q4,q5,h.nodup,h.le⟩
theorem iP.setDepth (h:iP B w rb lb xb v xs frs want k nd fin by_ dp ex ov nv maps)(hB:B<=w.heap.size)(z:Int):Below B w (w.setCell ⟨rb,8,none⟩ (.int .i64 z))/\Kp mm w (w.setCell ⟨rb,8,none⟩ (.int .i64 z))/\iP B (w.setCell ⟨rb,8,none⟩ (.int .i64 z)) rb lb xb v xs frs want k nd fin by_ z ex ov nv maps:=by
 obtain⟨h1,h2,h3,h4⟩:=h.setR hB 8 (.int .i64 z);obtain⟨q1,q2,q3,q4,q5⟩:=h4 _ h3;exact⟨h1,h2,h3,h.low,q1,h.llow,q2,q3,q4,q5,h.nodup,h.le⟩
theorem iP.setExpo (h:iP B w rb lb xb v xs frs want k nd fin by_ dp ex ov nv maps)(hB:B<=w.heap.size)(z:Int):Below B w (w.setCell ⟨rb,10,none⟩ (.int .i64 z))/\Kp mm w (w.setCell ⟨rb,10,none⟩ (.int .i64 z))/\iP B (w.setCell ⟨rb,10,none⟩ (.int .i64 z)) rb lb xb v xs frs want k nd fin by_ dp z ov nv maps:=by
 obtain⟨h1,h2,h3,h4⟩:=h.setR hB 10 (.int .i64 z);obtain⟨q1,q2,q3,q4,q5⟩:=h4 _ h3;exact⟨h1,h2,h3,h.low,q1,h.llow,q2,q3,q4,q5,h.nodup,h.le⟩
theorem iP.setDone (h:iP B w rb lb xb v xs frs want k nd fin by_ dp ex ov nv maps)(hB:B<=w.heap.size)(b:Bool):Below B w (w.setCell ⟨rb,15,none⟩ (.bool b))/\Kp mm w (w.setCell ⟨rb,15,none⟩ (.bool b))/\iP B (w.setCell ⟨rb,15,none⟩ (.bool b)) rb lb xb v xs frs want k nd b by_ dp ex ov nv maps:=by
 obtain⟨h1,h2,h3,h4⟩:=h.setR hB 15 (.bool b);obtain⟨q1,q2,q3,q4,q5⟩:=h4 _ h3;exact⟨h1,h2,h3,h.low,q1,h.llow,q2,q3,q4,q5,h.nodup,h.le⟩
end
theorem ea {k:Nat}(h:kc B w rb lb xb v xs frs want k nd fin)(hl:frs.length<=4294967296):Calls Tryz.prog 211 #[.pointer (some ⟨rb,0,none⟩)] w fun e w'=>e =.returned (.int .i64 ((frs.length:Int)+1))/\w=w':=by
 obtain⟨by_,dp,ex,ov,nv,maps,h⟩:=h;obtain⟨A,q,rfl,-⟩:=ah h.opens;have c12:=aa h.row (j:=12) (u:=.slice A frs.length q) rfl;have s1:IntKind.i64.wrap ((frs.length:Int)+1)= (frs.length:Int)+1:=IntWalk.i64_in _ (by omega);clear h;go_enter Tryz.func211,Tryz.ntmps211;go_wp2_with fail;go_ret;exact⟨rfl,rfl⟩
theorem sR {k:Nat}(h:kc B w rb lb xb v xs frs want k nd fin){m x:Int}(hm:m=1\/m=2\/m=3\/m=5)(hx:x<=1073741824):Calls Tryz.prog 214 #[.pointer (some ⟨rb,0,none⟩),.int .i64 m,.int .i64 x] w fun e w'=>e =.returned (.tuple #[])/\Below w.heap.size w w':=by
 obtain⟨by_,dp,ex,ov,nv,maps,h⟩:=h;have c1:=aa h.row (j:=1) (u:=.int .i64 1073741824) rfl;have c2:=aa h.row (j:=2) (u:=.int .i64 1073741824) rfl;have c3:=aa h.row (j:=3) (u:=.int .i64 1073741824) rfl;have c4:=aa h.row (j:=4) (u:=.int .i64 1073741824) rfl;have c5:=aa h.row (j:=5) (u:=.int .i64 1073741824) rfl;have c6:=aa h.row (j:=6) (u:=.int .i64 4611686018427387903) rfl;have H:=Qa (fun w=>tf hm hx w);unfold eZ at H;clear h hm hx;go_enter Tryz.func214,Tryz.ntmps214;go_wp2_with fail;(with_reducible refine(H.out _).mono ?_);rintro e w1 ⟨rfl,hb⟩;have Hb:=Qa hb;clear hb c1 c2 c3 c4 c5 c6;go_wp2_with fail;go_end0;exact⟨rfl,Hb.out⟩
def Jg (B rb lb xb:Nat)(v:Value)(xs:List UInt8)(frs:List Fr)(want k nd:Nat)(fin:Bool)(w:World)(e:Ending)(w':World):Prop:=e =.returned (.tuple #[])/\Below B w w'/\Kp mm w w'/\kc B w' rb lb xb v xs frs want k nd fin
theorem gg {k:Nat}(h:kc B w rb lb xb v xs frs want k nd fin)(hl:frs.length<=1000000000)(hn:nd<=1000000000)(hB:B<=w.heap.size):Calls Tryz.prog 210 #[.pointer (some ⟨rb,0,none⟩)] w (Jg B rb lb xb v xs frs want k (nd+1) fin w):=by
 have b6:=Qa (fun (w:World) (h:kc B w rb lb xb v xs frs want k (nd+1) fin)=>ea h (by omega));have b2:=Qa (ea h (by omega));have b3:=Qa (sR h (m:=2) (x:=(frs.length:Int)+1) (by omega) (by omega));have H:=Qa h;have HB:=Qa hB;have Hl:=Qa hl;have s1:IntKind.i64.wrap ((nd:Int)+1)= (nd:Int)+1:=IntWalk.i64_in _ (by omega);clear h hB hl;go_enter Tryz.func210,Tryz.ntmps210;go_wp2_with fail;(with_reducible refine b2.out.mono ?_);rintro e w' ⟨rfl,rfl⟩;go_wp2_with fail;(with_reducible refine b3.out.mono ?_);rintro e w1 ⟨rfl,a6⟩;have H1:=H.out.below a6;have b1:=Qa (sR H1 (m:=3) (x:=(nd:Int)+1) (by omega) (by omega));obtain⟨by_,dp,ex,ov,nv,maps,hA⟩:=id H1;have c9:=aa hA.row (j:=9) (u:=.int .i64 nd) rfl;have H1:=Qa H1;have HA:=Qa hA;have b4:=Qa a6;clear hA a6 b3 b2;go_wp2_with fail;(with_reducible refine b1.out.mono ?_);rintro e w2 ⟨rfl,a5⟩;have a4:=HA.out.below a5;have a2:B<=w2.heap.size:=by have:=HB.out;have:=b4.out.size;have:=a5.size;omega
 have a1:=Qa (a4.setNodes a2 (nd+1) (z:=(nd:Int)+1) (by omega));have d9:=aa a4.row (j:=9) (u:=.int .i64 nd) rfl;have f9:=am a4.row 9;have a7:=Qa (bE b4.out a5);clear a4 a5 b1 c9 a2;go_wp2_with fail;generalize w2.setCell ⟨rb,9,none⟩ (.int .i64 ((nd:Int)+1))=w3 at *;clear d9 f9;obtain⟨wr,a3⟩:∃wr,w3.drew=wr:=⟨_,rfl⟩;have a9:Below w3.heap.size w3 wr:=by rw[<-a3];exact(Zd _ _).drew
 have HR:=Qa (a1.out.2.2.below a9);have c8:=aa HR.out.row (j:=8) (u:=.int .i64 dp) rfl;have f8:=am HR.out.row 8;have C8:=Qa c8;have b0:=Qa a9;clear a9;refine dj (fun w2=>w2.cell? ⟨rb,8,none⟩=some (.int .i64 dp)) 12 ((by rw[a3];exact C8.out)) fun a0=>?_
 rw[a3] at a0 ⊢;clear a3;refine tZ 0 a0 ?_;refine tZ 1 a0 ?_;refine tZ 2 a0 ?_;refine tZ 3 a0 ?_;refine tZ 4 a0 ?_;refine tZ 5 a0 ?_
 try simp only[Act.put,jP,jQ,jR]
 refine tZ 6 a0 ?_
 try simp only[Act.put,jP,jQ,jR]
 refine rZ 7 fun K hK=>?_
 go_simp;(with_reducible refine(b6.out _ HR.out.s).mono ?_);rintro e w' ⟨rfl,rfl⟩;go_wp2_with fail;refine hK.out _ _ (fun _=>a0) (fun a0=>?_);clear hK K;have a0:=a0 (by decide)
 try simp only[Act.put,jP,jQ,jR]
 refine tZ 8 a0 ?_
 try simp only[Act.put,jP,jQ,jR]
 refine rZ 9 fun K hK=>?_
 go_simp;refine hK.out _ _ (fun _=>a0) (fun a0=>?_);clear hK K;have a0:=a0 (by decide)
 try simp only[Act.put,jP,jQ,jR]
 refine rZ 10 fun K hK=>?_
 go_simp;refine hK.out _ _ (fun _=>a0) (fun a0=>?_);clear hK K;have a0:=a0 (by decide)
 try simp only[Act.put,jP,jQ,jR]
 refine tZ 11 a0 ?_
 try simp only[Act.put,jP,jQ,jR]
 refine rZ 12 fun K hK=>?_
 go_simp;refine hK.out _ _ (fun h=>absurd rfl h) (fun _=>?_);clear hK K
 try simp only[Act.put,jP,jQ,jR]
 refine bi (by kernel_rfl) (NoPanic.normal ?_) _;go_end0;obtain⟨r1,r2,r3⟩:=a1.out;have a2:B<=w2.heap.size:=by have:=HB.out;have:=a7.out.size;omega
 have b5:B<=wr.heap.size:=by have:=r2.1;have:=b0.out.size;omega
 obtain⟨q1,q2,q3⟩:=HR.out.setDepth b5 (max dp ((frs.length:Int)+1));exact⟨rfl,((a7.out.mono HB.out).trans r1).trans ((b0.out.mono (Zb a2 r2.1)).trans q1),((Kp.of_below _ a7.out).trans r2).trans ((Kp.of_below _ b0.out).trans q2),q3.s⟩
theorem Bj {k:Nat}(h:kc B w rb lb xb v xs [] want k nd fin)(hB:B<=w.heap.size):Calls Tryz.prog 212 #[.pointer (some ⟨rb,0,none⟩)] w fun e w'=>Jg B rb lb xb v xs [] 7 k nd fin w e w':=by
 obtain⟨by_,dp,ex,ov,nv,maps,h⟩:=h;obtain⟨A,q,rfl,-⟩:=ah h.opens;have c12:=aa h.row (j:=12) (u:=.slice A 0 q) rfl;have c14:=aa h.row (j:=14) (u:=.int .i64 want) rfl;have f14:=am h.row 14;have Hs:=Qa (h.setWant hB 7 (z:=7) rfl);clear h hB;go_enter Tryz.func212,Tryz.ntmps212;go_wp2_with fail;go_end0;exact⟨rfl,Hs.out.1,Hs.out.2.1,Hs.out.2.2.s⟩
theorem yw {k:Nat}(h:kc B w rb lb xb v xs (f::fs) want k nd fin)(hB:B<=w.heap.size)(hl:fs.length<=4294967296):Calls Tryz.prog 212 #[.pointer (some ⟨rb,0,none⟩)] w fun e w'=>Jg B rb lb xb v xs (f::fs) (if f.obj then 6 else 5) k nd fin w e w':=by
 obtain⟨by_,dp,ex,ov,nv,maps,h⟩:=h;obtain⟨m,hm⟩:∃m,fs.length=m:=⟨_,rfl⟩;have ho:=h.opens;rw[List.length_cons,hm] at ho;obtain⟨A,q,rfl,-,-,hA⟩:=ah ho;obtain⟨g,rfl⟩:=hA (by omega);have cg:=World.ownsRow.cellAt ho m (by omega);rw[List.reverse_cons,List.map_append,List.getElem?_append_right (by simp;omega),List.length_map,List.length_reverse,hm,Nat.sub_self] at cg;have c12:=aa h.row (j:=12) (u:=.slice (some ⟨g,0,none⟩) (m+1) q) rfl;have c14:=aa h.row (j:=14) (u:=.int .i64 want) rfl;have f14:=am h.row 14;have s1:IntKind.i64.wrap (m:Int)= (m:Int):=IntWalk.i64_in _ (by omega);have a4:(m:Int)< (m:Int)+1:=by omega
 have a5:(((m:Int)+1)==0)=false:=by simp only[beq_eq_false_iff_ne];omega
 have HA:=Qa h;have HB:=Qa hB;clear h hB ho hA hm
 by_cases hob:f.obj=true
 ·rw[if_pos hob];replace cg:w.cell? ⟨g,m,none⟩=some (.int .i64 6):=by rw[cg];simp[gY,hob]
  go_enter Tryz.func212,Tryz.ntmps212;go_wp2_with fail;go_quiet (fail);obtain⟨wd,a2⟩:∃wd,w.drewN nq=wd:=⟨_,rfl⟩;have a1:Below w.heap.size w wd:=by rw[<-a2];exact az (Zd _ _) nq
  have a0:=HA.out.below a1;have d14:=aa a0.row (j:=14) (u:=.int .i64 want) rfl;have g14:=am a0.row 14;have Hs:=Qa (a0.setWant (Zb HB.out a1.size) 6 (z:=6) rfl);have a3:=Qa a1;rw[a2];clear a2 a0 a1 c12 c14 f14 cg;go_wp2_with fail;go_end0;exact⟨rfl,(a3.out.mono HB.out).trans Hs.out.1,(Kp.of_below _ a3.out).trans Hs.out.2.1,Hs.out.2.2.s⟩
 ·rw[if_neg hob];replace cg:w.cell? ⟨g,m,none⟩=some (.int .i64 5):=by rw[cg];simp[gY,hob]
  go_enter Tryz.func212,Tryz.ntmps212;go_wp2_with fail;go_quiet (fail);obtain⟨wd,a2⟩:∃wd,w.drewN nq=wd:=⟨_,rfl⟩;have a1:Below w.heap.size w wd:=by rw[<-a2];exact az (Zd _ _) nq
  have a0:=HA.out.below a1;have d14:=aa a0.row (j:=14) (u:=.int .i64 want) rfl;have g14:=am a0.row 14;have Hs:=Qa (a0.setWant (Zb HB.out a1.size) 5 (z:=5) rfl);have a3:=Qa a1;rw[a2];clear a2 a0 a1 c12 c14 f14 cg;go_wp2_with fail;go_end0;exact⟨rfl,(a3.out.mono HB.out).trans Hs.out.1,(Kp.of_below _ a3.out).trans Hs.out.2.1,Hs.out.2.2.s⟩
theorem Gz (x:Value)(W:World):(Instr.typeAssert (.iface 362 x) 294 362 true).run Tryz.prog W =.ok (.tuple #[x,.bool true]) W:=by kernel_rfl
theorem xF (x:Value)(W:World):(Instr.typeAssert (.iface 304 x) 294 304 true).run Tryz.prog W =.ok (.tuple #[x,.bool true]) W:=by kernel_rfl
theorem GR (x:Value)(W:World):(Instr.typeAssert (.iface 299 x) 294 299 true).run Tryz.prog W =.ok (.tuple #[x,.bool true]) W:=by kernel_rfl
theorem EZ (x:Value)(W:World):(Instr.typeAssert (.iface 301 x) 294 301 true).run Tryz.prog W =.ok (.tuple #[x,.bool true]) W:=by kernel_rfl
theorem xV (x:Value)(W:World):(Instr.typeAssert (.iface 304 x) 294 362 true).run Tryz.prog W =.ok (.tuple #[.agg #[.int .i64 0,.bool false,.string ⟨#[]⟩,.int .i64 0],.bool false]) W:=by kernel_rfl
theorem me (x:Value)(W:World):(Instr.typeAssert (.iface 355 x) 294 362 true).run Tryz.prog W =.ok (.tuple #[.agg #[.int .i64 0,.bool false,.string ⟨#[]⟩,.int .i64 0],.bool false]) W:=by kernel_rfl
theorem gG (x:Value)(W:World):(Instr.typeAssert (.iface 355 x) 294 304 true).run Tryz.prog W =.ok (.tuple #[.agg #[.int .i64 0,.string ⟨#[]⟩],.bool false]) W:=by kernel_rfl
theorem wC (x:Value)(W:World):(Instr.typeAssert (.iface 301 x) 294 299 true).run Tryz.prog W =.ok (.tuple #[.agg #[.int .i64 0],.bool false]) W:=by kernel_rfl
theorem oP (x:Value)(W:World):(Instr.typeAssert (.iface 304 x) 294 299 true).run Tryz.prog W =.ok (.tuple #[.agg #[.int .i64 0],.bool false]) W:=by kernel_rfl
theorem mF (x:Value)(W:World):(Instr.typeAssert (.iface 304 x) 294 301 true).run Tryz.prog W =.ok (.tuple #[.agg #[.int .i64 0,.int .u8 0],.bool false]) W:=by kernel_rfl
theorem xB (x:Value)(W:World):(Instr.typeAssert (.iface 362 x) 294 299 true).run Tryz.prog W =.ok (.tuple #[.agg #[.int .i64 0],.bool false]) W:=by kernel_rfl
theorem wt (x:Value)(W:World):(Instr.typeAssert (.iface 362 x) 294 301 true).run Tryz.prog W =.ok (.tuple #[.agg #[.int .i64 0,.int .u8 0],.bool false]) W:=by kernel_rfl
theorem wS (x:Value)(W:World):(Instr.typeAssert (.iface 362 x) 294 304 true).run Tryz.prog W =.ok (.tuple #[.agg #[.int .i64 0,.string ⟨#[]⟩],.bool false]) W:=by kernel_rfl
theorem l8 (x:Value)(W:World):(Instr.typeAssert (.iface 355 x) 294 299 true).run Tryz.prog W =.ok (.tuple #[.agg #[.int .i64 0],.bool false]) W:=by kernel_rfl
theorem kY (x:Value)(W:World):(Instr.typeAssert (.iface 355 x) 294 301 true).run Tryz.prog W =.ok (.tuple #[.agg #[.int .i64 0,.int .u8 0],.bool false]) W:=by kernel_rfl
theorem iY (x:Value)(W:World):(Instr.typeAssert (.iface 355 x) 294 364 true).run Tryz.prog W =.ok (.tuple #[.iface 355 x,.bool true]) W:=run_typeAssert_hasB Tryz.underlying364 (by kernel_rfl) x _ W
inductive uq:JV->Prop
 |null:uq jY
 |bool (b:Bool):uq (fT b)
 |num (d:Dc): -1000000000<=d.exp/\d.exp<=1000000000->uq (ef d)
theorem lR (k:Int){s:ByteArray}{x:Bool}(hs:(s.toList == [110,117,108,108])=x)(w:World):Calls Tryz.prog 335 #[.agg #[.int .i64 k,.string s]] w fun e w'=>e =.returned (.int .i64 (if x then 1 else 2))/\Below w.heap.size w w':=by
 have a0:=ac w (.cells #[.int .i64 k,.string s] 355)
 cases x
 all_goals
  go_enter Tryz.func335,Tryz.ntmps335;go_wp2_with fail;go_ret;exact⟨rfl,a0⟩
theorem qz (k:Int){s:ByteArray}(w:World):Calls Tryz.prog 336 #[.agg #[.int .i64 k,.string s]] w fun e w'=>e =.returned (.int .i64 k)/\Below w.heap.size w w':=by
 have a0:=ac w (.cells #[.int .i64 k,.string s] 355);go_enter Tryz.func336,Tryz.ntmps336;go_wp2_with fail;go_ret;exact⟨rfl,a0⟩
theorem xL (k:Int)(d:Dc)(w:World):Calls Tryz.prog 213 #[.iface 362 (.agg #[.int .i64 k,.bool d.neg,.string d.digits,.int .i64 d.exp])] w fun e w'=>e =.returned (.iface 127 (.agg #[.bool d.neg,.string d.digits,.int .i64 d.exp]))/\Below w.heap.size w w':=by
 have a0:=ac w (.cells #[.int .i64 k,.bool d.neg,.string d.digits,.int .i64 d.exp] 362);have q1:=Gz;go_enter Tryz.func213,Tryz.ntmps213;go_wp2_with fail;go_ret;exact⟨rfl,a0⟩
theorem yN (k:Int)(s:ByteArray)(w:World):Calls Tryz.prog 213 #[.iface 304 (.agg #[.int .i64 k,.string s])] w fun e w'=>e =.returned (.iface 40 (.string s))/\Below w.heap.size w w':=by
 have a0:=ac w (.cells #[.int .i64 k,.string s] 304);have q1:=xF;have q2:=xV;go_enter Tryz.func213,Tryz.ntmps213;go_wp2_with fail;go_ret;exact⟨rfl,a0⟩
theorem uN (k:Int)(w:World):Calls Tryz.prog 213 #[.iface 355 (.agg #[.int .i64 k,.string ⟨#[110,117,108,108]⟩])] w fun e w'=>e =.returned (.iface 58 (.agg #[]))/\Below w.heap.size w w':=by
 have q1:=me;have q2:=gG;have q3:=iY;have Hk:=Qa (fun w=>lR k (s:=⟨#[110,117,108,108]⟩) (x:=true) (by decide +kernel) w);go_enter Tryz.func213,Tryz.ntmps213;go_wp2_with fail;(with_reducible refine(Hk.out _).mono ?_);rintro e w1 ⟨rfl,hb⟩;have Hb:=Qa hb;clear hb;go_wp2_with fail;go_ret;exact⟨rfl,Hb.out⟩
theorem Df (d:Nat)(k:Int)(s t:ByteArray)(W:World):(Op.equalIn (d+3) 355 (.agg #[.int .i64 k,.string s]) (.agg #[.int .i64 k,.string t])).run Tryz.prog W =.ok (s.toList==t.toList) W:=by
 rw[run_equalIn_agg W (d+2) 355 _ _ (by kernel_rfl) (by kernel_rfl)];have hf:((Tryz.prog.fieldsOf 355).toList.map fun f=>(decide (f.name = "_"),f.type,f.offset)) = [(false,3,0),(false,9,1)]:=by kernel_rfl
 obtain⟨f1,f2,h1,h2,h3,h4,h5,h6,h7⟩:∃f1 f2,(Tryz.prog.fieldsOf 355).toList = [f1,f2]/\¬f1.name = "_" /\¬f2.name = "_" /\f1.type=3/\f2.type=9/\f1.offset=0/\f2.offset=1:=by
  generalize (Tryz.prog.fieldsOf 355).toList=fs at hf
  cases fs with
  |nil=>simp at hf
  |cons f1 r=>cases r with
   |nil=>simp at hf
   |cons f2 r2=>cases r2 with
    |cons f3 r3=>simp at hf
    |nil=>
     simp only[List.map_cons,List.map_nil,List.cons.injEq,Prod.mk.injEq,decide_eq_false_iff_not,and_true] at hf;exact⟨f1,f2,rfl,hf.1.1,hf.2.1,hf.1.2.1,hf.2.2.1,hf.1.2.2,hf.2.2.2⟩
 have p1:∀ (a b:Value) (w:World),(part 3 #[a,b] 0).run Tryz.prog w =.ok a w:=fun a b w=>by kernel_rfl
 have p2:∀ (a b:Value) (w:World),(part 9 #[a,b] 1).run Tryz.prog w =.ok b w:=fun a b w=>by kernel_rfl
 rw[h1];have hs:=run_equalIn_string W (d+1) 9 s t Tryz.underlying9;generalize (s.toList==t.toList)=x at hs ⊢
 cases x <;> simp[Op.eqFields,h2,h3,h4,h5,h6,h7,p1,p2,run_equalIn_int W (d+1) 3 .i64 .i64 k k Tryz.underlying3,hs]
theorem ze (k:Int)(s t:ByteArray)(W:World):(binOp .eql 364 (.iface 355 (.agg #[.int .i64 k,.string s])) (.iface 355 (.agg #[.int .i64 k,.string t]))).run Tryz.prog W =.ok (.bool (s.toList==t.toList)) W:=by
 have hc:(Tryz.prog.info? 355).map (·.comparable)=some true:=by kernel_rfl
 cases hi:Tryz.prog.info? 355 with
 |none=>rw[hi] at hc;cases hc
 |some i=>
  have hcc:i.comparable=true:=by rw[hi] at hc;simpa using hc
  have h:(Op.equalIn (9996+4) 364 (.iface 355 (.agg #[.int .i64 k,.string s])) (.iface 355 (.agg #[.int .i64 k,.string t]))).run Tryz.prog W =.ok (s.toList==t.toList) W:=by
   rw[Op.equalIn];simp only[Sem.run_bind,run_underlying Tryz.underlying364,Result.andThen_ok];simp[typeInfo,hi,hcc,Df 9996 k s t W]
  simp only[binOp];simp[Op.equal,Op.maxDepth,h]
theorem vA (k:Int)(b:Bool)(w:World):Calls Tryz.prog 213 #[.iface 355 (.agg #[.int .i64 k,.string ⟨(ky (fT b)).toArray⟩])] w fun e w'=>e =.returned (.iface 59 (.bool b))/\Below w.heap.size w w':=by
 have q1:=me;have q2:=gG;have q3:=iY;have hw:ky (fT b)=if b then [116,114,117,101] else [102,97,108,115,101]:=by cases b <;> rfl
 rw[hw];clear hw
 cases b
 ·have Hk:=Qa (fun w=>lR k (s:=⟨#[102,97,108,115,101]⟩) (x:=false) (by decide +kernel) w);have Hp:=Qa (fun w=>qz k (s:=⟨#[102,97,108,115,101]⟩) w);go_enter Tryz.func213,Tryz.ntmps213;go_wp2_with fail;(with_reducible refine(Hk.out _).mono ?_);rintro e w1 ⟨rfl,hb⟩;have Hb:=Qa hb;clear hb;go_wp2_with fail;(with_reducible refine(Hp.out _).mono ?_);rintro e w2 ⟨rfl,hb⟩;have a0:=Qa (bE Hb.out hb);clear hb;have q4:∀W,(binOp .eql 364 (.iface 355 (.agg #[.int .i64 k,.string ⟨#[102,97,108,115,101]⟩])) (.iface 355 (.agg #[.int .i64 k,.string ⟨#[116,114,117,101]⟩]))).run Tryz.prog W =.ok (.bool false) W:=fun W=>by
   rw[ze];exact congrArg (fun x=>Result.ok (Value.bool x) W) (by decide +kernel)
  go_wp2_with fail;go_ret;exact⟨rfl,a0.out⟩
 ·have Hk:=Qa (fun w=>lR k (s:=⟨#[116,114,117,101]⟩) (x:=false) (by decide +kernel) w);have Hp:=Qa (fun w=>qz k (s:=⟨#[116,114,117,101]⟩) w);go_enter Tryz.func213,Tryz.ntmps213;go_wp2_with fail;(with_reducible refine(Hk.out _).mono ?_);rintro e w1 ⟨rfl,hb⟩;have Hb:=Qa hb;clear hb;go_wp2_with fail;(with_reducible refine(Hp.out _).mono ?_);rintro e w2 ⟨rfl,hb⟩;have a0:=Qa (bE Hb.out hb);clear hb;have q4:∀W,(binOp .eql 364 (.iface 355 (.agg #[.int .i64 k,.string ⟨#[116,114,117,101]⟩])) (.iface 355 (.agg #[.int .i64 k,.string ⟨#[116,114,117,101]⟩]))).run Tryz.prog W =.ok (.bool true) W:=fun W=>by
   rw[ze];exact congrArg (fun x=>Result.ok (Value.bool x) W) (by decide +kernel)
  go_wp2_with fail;go_ret;exact⟨rfl,a0.out⟩
def Fu:List Fr->Nat
 | []=>7
 |f::_=>if f.obj then 6 else 5
theorem jH (frs:List Fr)(j:JV):(cW frs j).want=Fu (cW frs j).frs:=by
 cases frs with
 |nil=>rfl
 |cons f fs=>
  by_cases ho:f.obj=true
  ·rw[gX ho];simp[Fu,ho]
  ·rw[fG (by simpa using ho)];simp[Fu,ho]
theorem jA {k:Nat}(h:kc B w rb lb xb v xs frs want k nd fin)(hB:B<=w.heap.size)(hl:frs.length<=4294967296):Calls Tryz.prog 212 #[.pointer (some ⟨rb,0,none⟩)] w (Jg B rb lb xb v xs frs (Fu frs) k nd fin w):=by
 cases frs with
 |nil=>exact Bj h hB
 |cons f fs=>exact yw h hB (by rw[List.length_cons] at hl;omega)
theorem kg.mono {b:Nat}(h:kg B w b f)(hn:∀s,s∈jf f↔s∈jf f')(hl:f.mems.length+f.name.toList.length<=f'.mems.length+f'.name.toList.length):kg B w b f':=by
 obtain⟨h1,l,n,h2,h3,h4⟩:=h;exact⟨h1,l,n,h2,by omega,fun s=>(h4 s).trans (hn s)⟩
theorem kc.put {k:Nat}(h:kc B w rb lb xb v xs frs want k nd fin)(hw:∀f fs,frs=f::fs->cj f=false)(j:JV):kc B w rb lb xb v xs (cW frs j).frs want k nd fin:=by
 cases frs with
 |nil=>exact h
 |cons f fs=>
  obtain⟨by_,dp,ex,ov,nv,maps,h1,h2,h3,h4,h5,h6,h7,h8,h9,a0⟩:=h;have hf:=hw f fs rfl
  by_cases ho:f.obj=true
  ·rw[gX ho];have hs:∃s,f.name=some s:=by
    simp only[cj,ho,Bool.true_and] at hf
    cases hn:f.name with
    |none=>rw[hn] at hf;cases hf
    |some s=>exact⟨s,rfl⟩
   obtain⟨s,hs⟩:=hs;refine⟨by_,dp,ex,ov,nv,maps,h1,h2,h3,h4,h5,?_,h7,?_,h9,a0⟩
   ·simpa [gY] using h6
   ·simp only[List.filter_cons,ho,if_true] at h8 ⊢
    cases maps with
    |nil=>have:=h8.1;simp at this
    |cons b maps=>
     refine⟨by simpa using h8.1,fun i x y q1 q2=>?_⟩
     cases i with
     |zero=>
      simp at q1 q2;subst q1 q2;refine(h8.2 0 b f rfl rfl).mono (fun t=>?_) (by simp[hs]);simp only[jf,hs,Option.toList_some,Option.toList_none,Option.getD_some,List.map_append,List.map_cons,List.map_nil,List.mem_append,List.mem_singleton,List.nil_append];exact Or.comm
     |succ i=>exact h8.2 (i+1) x y (by simpa using q1) (by simpa using q2)
  ·rw[fG (by simpa using ho)];refine⟨by_,dp,ex,ov,nv,maps,h1,h2,h3,h4,h5,?_,h7,?_,h9,a0⟩
   ·simpa [gY] using h6
   ·have e:∀g:Fr,g.obj=f.obj->List.filter (·.obj) (g::fs)=List.filter (·.obj) (f::fs):=fun g hg=>by
     have hb:f.obj=false:=by simpa using ho
     rw[List.filter_cons,List.filter_cons,hg,hb];simp
    show bB (kg B w) maps (List.filter (·.obj) ({f with items:=f.items ++ [j]}::fs))
    rw[e {f with items:=f.items ++ [j]} rfl];exact h8
theorem lm (frs:List Fr)(j:JV):(cW frs j).frs.length=frs.length:=by
 cases frs with
 |nil=>rfl
 |cons f fs=>
  by_cases ho:f.obj=true
  ·rw[gX ho];rfl
  ·rw[fG (by simpa using ho)];rfl
def PS (B rb lb xb:Nat)(v:Value)(xs:List UInt8)(c:dH)(k nd:Nat)(fin:Bool)(w:World):Prop:=kc B w rb lb xb v xs c.frs c.want k nd fin/\∃bs,fC B w xb c.frs c.done bs
def TA (e:TypeId):Prop:=TB e\/mm e
structure cZ (B:Nat) (w w':World):Prop where
 b:Below B w w'
 k:aJ TA w w'
theorem aJ.imp (h:aJ T w w')(hT:∀e,T e->U e):aJ U w w':=⟨h.1,fun g cs e z hg he=>h.2 g cs e z hg (fun ht=>he (hT e ht))⟩
theorem cZ.trans {a b c:World}(h:cZ B a b)(k:cZ B b c):cZ B a c:=⟨h.b.trans k.b,h.k.trans k.k⟩
theorem cZ.new (hb:Below w.heap.size w w')(hB:B<=w.heap.size):cZ B w w':=⟨hb.mono hB,aJ.of_below TA hb⟩
theorem cZ.rd (hb:Below B w w')(hk:Kp mm w w'):cZ B w w':=⟨hb,hk.keeps.imp fun _ h=>.inr h⟩
theorem cZ.tb (hb:Below B w w')(hk:Kp TB w w'):cZ B w w':=⟨hb,hk.keeps.imp fun _ h=>.inl h⟩
def Ig (B rb lb xb:Nat)(v:Value)(xs:List UInt8)(c:dH)(k nd:Nat)(fin:Bool)(w:World)(e:Ending)(w':World):Prop:=e =.returned (.tuple #[])/\cZ B w w'/\PS B rb lb xb v xs c k nd fin w'
theorem ku {k:Nat}{t:Value}{tt:TypeId}{tx:Value}{bs:List Nat}(hw:want=0\/want=1)(hR:kc B w rb lb xb v xs frs want k nd false)(c1:fC B w xb frs none bs)(hT:kN frs)(hl:frs.length<=1000000000)(hn:nd<=1000000000)(hB:B<=w.heap.size)
  (b7:∀w,Calls Tryz.prog 213 #[t] w fun e w'=>e =.returned u/\Below w.heap.size w w') (b9:∀ (P:Nat->Prop) w,VW P w u j) (hu:u =.iface tt tx) (a1:∀W,(Instr.typeAssert (.iface tt tx) 158 127 true).run Tryz.prog W =.ok (.tuple #[.agg #[.bool false,.string ⟨#[]⟩,.int .i64 0],.bool false]) W):Calls Tryz.prog 181 #[.pointer (some ⟨rb,0,none⟩),t] w (Ig B rb lb xb v xs (cW frs j) k (nd+1) false w):=by
 have b2:=hR;obtain⟨by_,dp,ex,ov,nv,maps,hA⟩:=b2;have c14:=aa hA.row (j:=14) (u:=.int .i64 (want:Nat)) rfl;have c6:=Qa (gg hR hl hn hB);have c8:=Qa c1;have HT:=Qa hT;have Hl:=Qa hl;have HB:=Qa hB;have d0:=Qa b7;have c9:=Qa b9;subst hu;clear hR c1 hT hl hB b7 b9 hA;rcases hw with hw|hw
 all_goals
  rw[hw] at c14;simp only[Int.cast_ofNat_Int] at c14;clear hw;go_enter Tryz.func181,Tryz.ntmps181;go_wp2_with fail;(with_reducible refine c6.out.mono ?_);rintro e w1 ⟨rfl,b4,b3,b8⟩;have a2:=c8.out.kp b3 bY;have R1:=Qa (And.intro (cZ.rd b4 b3) (And.intro b8 a2));clear b4 b3 b8 a2 c14 c6;go_wp2_with fail;(with_reducible refine(d0.out _).mono ?_);rintro e w2 ⟨rfl,a7⟩;obtain⟨r1,r2,r3⟩:=R1.out;have c0:B<=w1.heap.size:=Zb HB.out r1.b.size;have R2:=Qa (And.intro (r1.trans (cZ.new a7 c0)) (And.intro (r2.below a7) (r3.below a7)));clear a7 r1 r2 r3 c0 R1;go_wp2_with fail;obtain⟨w3,b1⟩:∃w3,w2.alloc (.cells #[.bool false,.string ⟨#[]⟩,.int .i64 0] 127)=w3:=⟨_,rfl⟩;have R3:=Qa (show cZ B w w3/\kc B w3 rb lb xb v xs frs want k (nd+1) false/\fC B w3 xb frs none bs by
   have a4:=ac w2 (.cells #[.bool false,.string ⟨#[]⟩,.int .i64 0] 127);rw[b1] at a4;obtain⟨r1,r2,r3⟩:=R2.out;exact⟨r1.trans (cZ.new a4 (Zb HB.out r1.b.size)),r2.below a4,r3.below a4⟩)
  rw[b1];clear b1 R2 a1;obtain⟨x1,x2,x3⟩:=R3.out;have b0:B<=w3.heap.size:=Zb HB.out x1.b.size;obtain⟨wr,a5⟩:∃wr,w3.drew=wr:=⟨_,rfl⟩;have a3:Below w3.heap.size w3 wr:=by rw[<-a5];exact(Zd _ _).drew
  have a6:=x2.below a3;have b6:=x3.below a3;have c2:=Qa (ea a6 (by have:=Hl.out;omega));have c4:=Qa (qn (lv:=(frs.length:Int)+1) (by omega) b6 HT.out (c9.out (Pb B bs) wr) (Zb b0 a3.size));obtain⟨by2,dp2,ex2,ov2,nv2,maps2,c5⟩:=id a6;have C11:=Qa (aa c5.row (j:=11) (u:=.func (.func 109) #[.pointer (some ⟨xb,0,none⟩)] #[]) rfl);have a9:=Qa (And.intro (x1.trans (cZ.new a3 b0)) a6);clear a3 a6 b6 c5 x1 x2 x3 b0 R3;refine dj (fun w2=>w2.cell? ⟨rb,11,none⟩=some (.func (.func 109) #[.pointer (some ⟨xb,0,none⟩)] #[])) 9 ((by rw[a5];exact C11.out)) fun a0=>?_
  rw[a5] at a0 ⊢;clear a5;refine tR 0 a0 ?_;refine tR 1 a0 ?_;refine tR 2 a0 ?_;refine tR 3 a0 ?_;refine tR 4 a0 ?_;refine tR 6 a0 ?_
  try simp only[Act.put,jP,jQ,jR]
  refine rZ 5 fun K hK=>?_
  go_simp;(with_reducible refine c2.out.mono ?_);rintro e w' ⟨rfl,rfl⟩;go_wp2_with fail;refine hK.out _ _ (fun _=>a0) (fun a0=>?_);clear hK K;have a0:=a0 (by decide)
  try simp only[Act.put,jP,jQ,jR]
  refine tR 7 a0 ?_;refine tR 8 a0 ?_
  try simp only[Act.put,jP,jQ,jR]
  refine rZ 9 fun K hK=>?_
  go_simp;(with_reducible refine c4.out.mono ?_);rintro e w4 ⟨rfl,h1,h2,h3⟩;have R:=Qa (And.intro h1 (And.intro h2 h3));clear h1 h2 h3;go_wp2_with fail;refine hK.out _ _ (fun h=>absurd rfl h) (fun _=>?_);clear hK K
  try simp only[Act.put,jP,jQ,jR]
  refine bi (by kernel_rfl) (NoPanic.normal ?_) _;obtain⟨y1,y2,bs2,y3⟩:=R.out;have c3:=(a9.out.2.tb y2).put (fun f fs e=>(HT.out.2 f fs e).1) j;have b5:B<=w4.heap.size:=Zb (Zb HB.out a9.out.1.b.size) y1.size;have c7:=Qa (jA c3 b5 (by rw[lm];have:=Hl.out;omega));have R4:=Qa (And.intro (a9.out.1.trans (cZ.tb y1 y2)) y3);clear y1 y2 y3 c3 b5 R a9 c2 c4 C11;go_wp2_with fail;(with_reducible refine c7.out.mono ?_);rintro e w5 ⟨rfl,h1,h2,h3⟩;have R5:=Qa (And.intro h1 (And.intro h2 h3));clear h1 h2 h3;go_wp2_with fail;go_end0;refine⟨rfl,R4.out.1.trans (cZ.rd R5.out.1 R5.out.2.1),?_,bs2,R4.out.2.kp R5.out.2.1 bY⟩;rw[jH];exact R5.out.2.2
theorem BK {k:Nat}{t:Value}{bs:List Nat}(hw:want=0\/want=1)(hR:kc B w rb lb xb v xs frs want k nd false)(c4:fC B w xb frs none bs)(hT:kN frs)(hl:frs.length<=1000000000)(hn:nd<=1000000000)(hB:B<=w.heap.size)
  (b9:∀w,Calls Tryz.prog 213 #[t] w fun e w'=>e =.returned u/\Below w.heap.size w w') (c1:∀ (P:Nat->Prop) w,VW P w u j) (d:Dc) (hu:u =.iface 127 (.agg #[.bool d.neg,.string d.digits,.int .i64 d.exp])) (hd: -1000000000<=d.exp/\d.exp<=1000000000):Calls Tryz.prog 181 #[.pointer (some ⟨rb,0,none⟩),t] w (Ig B rb lb xb v xs (cW frs j) k (nd+1) false w):=by
 have b4:=hR;obtain⟨by_,dp,ex,ov,nv,maps,hA⟩:=b4;have c14:=aa hA.row (j:=14) (u:=.int .i64 (want:Nat)) rfl;have c9:=Qa (gg hR hl hn hB);have d1:=Qa c4;have HT:=Qa hT;have Hl:=Qa hl;have HB:=Qa hB;have d3:=Qa b9;have d2:=Qa c1;subst hu;have d4:∀W,(Instr.typeAssert (.iface 127 (.agg #[.bool d.neg,.string d.digits,.int .i64 d.exp])) 158 127 true).run Tryz.prog W =.ok (.tuple #[.agg #[.bool d.neg,.string d.digits,.int .i64 d.exp],.bool true]) W:=fun W=>by kernel_rfl
 have sneg:IntKind.i64.wrap (-d.exp) = -d.exp:=IntWalk.i64_in _ (by omega);have Hd:=Qa hd;clear hR c4 hT hl hB b9 c1 hA hd;rcases hw with hw|hw
 all_goals
  rw[hw] at c14;simp only[Int.cast_ofNat_Int] at c14;clear hw;go_enter Tryz.func181,Tryz.ntmps181;go_wp2_with fail;(with_reducible refine c9.out.mono ?_);rintro e w1 ⟨rfl,b6,b5,c0⟩;have a3:=d1.out.kp b5 bY;have R1:=Qa (And.intro (cZ.rd b6 b5) (And.intro c0 a3));clear b6 b5 c0 a3 c14 c9;go_wp2_with fail;(with_reducible refine(d3.out _).mono ?_);rintro e w2 ⟨rfl,a9⟩;obtain⟨r1,r2,r3⟩:=R1.out;have c3:B<=w1.heap.size:=Zb HB.out r1.b.size;have R2:=Qa (And.intro (r1.trans (cZ.new a9 c3)) (And.intro (r2.below a9) (r3.below a9)));clear a9 r1 r2 r3 c3 R1;have c2:=Qa (sR (R2.out.2.1.below (ac w2 (.cells #[.bool d.neg,.string d.digits,.int .i64 d.exp] 127))) (m:=5) (x:=max d.exp (-d.exp)) (by omega) (by have:=Hd.out;omega));go_wp2_with fail
  try rw[sneg]
  (with_reducible refine c2.out.mono ?_);rintro e w3 ⟨rfl,a1⟩;have a1:=bE (ac w2 (.cells #[.bool d.neg,.string d.digits,.int .i64 d.exp] 127)) a1;obtain⟨r1,r2,r3⟩:=R2.out;have b2:B<=w2.heap.size:=Zb HB.out r1.b.size;obtain⟨by9,dp9,ex9,ov9,nv9,maps9,b0⟩:=r2.below a1;have c10:=aa b0.row (j:=10) (u:=.int .i64 ex9) rfl;have f10:=am b0.row 10;have a2:=Qa (b0.setExpo (Zb b2 a1.size) (max ex9 (max d.exp (-d.exp))));have R2b:=Qa (And.intro (r1.trans (cZ.new a1 b2)) (r3.below a1));clear a1 r1 r2 r3 b2 b0 R2 c2;go_wp2_with fail;obtain⟨w3b,a4⟩:∃w3b,w3.setCell ⟨rb,10,none⟩ (.int .i64 (max ex9 (max d.exp (-d.exp))))=w3b:=⟨_,rfl⟩;rw[a4] at a2 ⊢;have R3:=Qa (show cZ B w w3b/\kc B w3b rb lb xb v xs frs want k (nd+1) false/\fC B w3b xb frs none bs from⟨R2b.out.1.trans (cZ.rd a2.out.1 a2.out.2.1),a2.out.2.2.s,R2b.out.2.kp a2.out.2.1 bY⟩);clear a4 c10 f10 a2 R2b;obtain⟨w3,rfl⟩:∃w3,w3=w3b:=⟨_,rfl⟩;obtain⟨x1,x2,x3⟩:=R3.out;have b3:B<=w3.heap.size:=Zb HB.out x1.b.size;obtain⟨wr,a6⟩:∃wr,w3.drew=wr:=⟨_,rfl⟩;have a5:Below w3.heap.size w3 wr:=by rw[<-a6];exact(Zd _ _).drew
  have a7:=x2.below a5;have b8:=x3.below a5;have c5:=Qa (ea a7 (by have:=Hl.out;omega));have c7:=Qa (qn (lv:=(frs.length:Int)+1) (by omega) b8 HT.out (d2.out (Pb B bs) wr) (Zb b3 a5.size));obtain⟨by2,dp2,ex2,ov2,nv2,maps2,c8⟩:=id a7;have C11:=Qa (aa c8.row (j:=11) (u:=.func (.func 109) #[.pointer (some ⟨xb,0,none⟩)] #[]) rfl);have b1:=Qa (And.intro (x1.trans (cZ.new a5 b3)) a7);clear a5 a7 b8 c8 x1 x2 x3 b3 R3;refine dj (fun w2=>w2.cell? ⟨rb,11,none⟩=some (.func (.func 109) #[.pointer (some ⟨xb,0,none⟩)] #[])) 9 ((by rw[a6];exact C11.out)) fun a0=>?_
  rw[a6] at a0 ⊢;clear a6;refine tR 0 a0 ?_;refine tR 1 a0 ?_;refine tR 2 a0 ?_;refine tR 3 a0 ?_;refine tR 4 a0 ?_;refine tR 6 a0 ?_
  try simp only[Act.put,jP,jQ,jR]
  refine rZ 5 fun K hK=>?_
  go_simp;(with_reducible refine c5.out.mono ?_);rintro e w' ⟨rfl,rfl⟩;go_wp2_with fail;refine hK.out _ _ (fun _=>a0) (fun a0=>?_);clear hK K;have a0:=a0 (by decide)
  try simp only[Act.put,jP,jQ,jR]
  refine tR 7 a0 ?_;refine tR 8 a0 ?_
  try simp only[Act.put,jP,jQ,jR]
  refine rZ 9 fun K hK=>?_
  go_simp;(with_reducible refine c7.out.mono ?_);rintro e w4 ⟨rfl,h1,h2,h3⟩;have R:=Qa (And.intro h1 (And.intro h2 h3));clear h1 h2 h3;go_wp2_with fail;refine hK.out _ _ (fun h=>absurd rfl h) (fun _=>?_);clear hK K
  try simp only[Act.put,jP,jQ,jR]
  refine bi (by kernel_rfl) (NoPanic.normal ?_) _;obtain⟨y1,y2,bs2,y3⟩:=R.out;have c6:=(b1.out.2.tb y2).put (fun f fs e=>(HT.out.2 f fs e).1) j;have b7:B<=w4.heap.size:=Zb (Zb HB.out b1.out.1.b.size) y1.size;have d0:=Qa (jA c6 b7 (by rw[lm];have:=Hl.out;omega));have R4:=Qa (And.intro (b1.out.1.trans (cZ.tb y1 y2)) y3);clear y1 y2 y3 c6 b7 R b1 c5 c7 C11;go_wp2_with fail;(with_reducible refine d0.out.mono ?_);rintro e w5 ⟨rfl,h1,h2,h3⟩;have R5:=Qa (And.intro h1 (And.intro h2 h3));clear h1 h2 h3;go_wp2_with fail;go_end0;refine⟨rfl,R4.out.1.trans (cZ.rd R5.out.1 R5.out.2.1),?_,bs2,R4.out.2.kp R5.out.2.1 bY⟩;rw[jH];exact R5.out.2.2
