import Derived.Test.YtafobflehfecpaaGreatDoorGZ15ax
set_option linter.unusedVariables false
set_option linter.unusedSimpArgs false
set_option maxHeartbeats 64000000
set_option maxRecDepth 100000
namespace Go.Proofs.YtafobflehfecpaaGreatDoor
open Go.RowKit
variable {f:Fr}{lv:Int}{frs fs:List Fr}{B c n xb:Nat}{A:Option Addr}{e:TypeId}{T:TypeId->Prop}{dv pv v:Value}{w w':World}
theorem xn.kp {done:Option JV}{us:List (List Value)}{bs:List Nat}(h:xn B w xb frs done pv dv us bs)(hk:Kp T w w')(hT:∀e,TB e->¬T e):xn B w' xb frs done pv dv us bs:=by
 obtain⟨h1,h2,h3,h4,h5,h6,h7⟩:=h;have hm:Mv [] w w':=Mv.of_kp hk (fun e he=>hT e (.inl he));have a0:∀g∈bs,g∈bs\/w.heap.size<=g:=fun g h=>.inl h
 exact⟨hk.heap h1 (hT _ (.inr (.inl rfl))),h2,au h3 hk.keeps (hT _ (.inr (.inr rfl))),h4.mono fun _ _ h=>h.move hm (by simp) a0 (by simp),h5,h6,h7.move hm (by simp) a0⟩
theorem xn.below {done:Option JV}{us:List (List Value)}{bs:List Nat}(h:xn B w xb frs done pv dv us bs)(hb:Below w.heap.size w w'):xn B w' xb frs done pv dv us bs:=h.kp (T:=fun _=>False) (Kp.of_below _ hb) (fun _ _ h=>h)
theorem dV.lt {done:Option JV}{bs:List Nat}(h:dV B w xb frs done bs):∀g∈bs,g<w.heap.size:=by
 obtain⟨pv,dv,us,h⟩:=h;intro g hg;rw[<-h.blocks] at hg;obtain⟨x,hx,a0⟩:=List.mem_flatMap.1 hg;obtain⟨i,hi,rfl⟩:=List.getElem_of_mem hx;have hl:=h.frames.1;obtain⟨iv,mv,s,xs,L,q1,q2,q3,q4,q5,-⟩:=h.frames.2 i us[i] (frs[i]'(by omega)) (Zd hi) (Zd _);rw[q1] at a0;rcases List.mem_append.1 a0 with a0|a0
 ·obtain⟨_,cur,hh⟩:=al q3 (g:=g) (by simpa using a0);exact ag hh
 ·obtain⟨_,cur,hh⟩:=al q5 (g:=g) (by simpa using a0);exact ag hh
theorem bF.fresh {bs:List Nat}{k:Nat}{xs:List Value}(h:bF (w.heap.size<= ·) w' e k A n c xs)(hB:B<=w.heap.size)(a0:∀g∈bs,g<w.heap.size):bF (Pb B bs) w' e k A n c xs:=
 h.stay fun g o hp hg _ _=>⟨⟨Zc hB hp,fun hb=>by have:=a0 g hb;omega⟩,hg⟩
theorem uI {bs:List Nat}(i0:lv= (fs.length+1:Nat))(h:dV B w xb (f::fs) none bs)(ho:f.obj=false)(i8:f.name=none)(g6:f.ok eC)(hi:f.items.length<=4294967296)(f5:f.mems.length<=4294967296)(e4:iM fs)(hB:B<=w.heap.size):Calls Tryz.prog 134 #[.pointer (some ⟨xb,0,none⟩),.agg #[.int .i64 lv,.int .i64 5]] w fun e w'=>kw B xb (bu fs (cN f)) w e w':=by
 have hl:=e4.1;have c8:=ac w (.cells #[.int .i64 lv,.int .i64 5] 238);have h9:=h.below c8;have d6:=Qa (Zf w (.cells #[.int .i64 lv,.int .i64 5] 238));obtain⟨w1,e5⟩:∃w1,w.alloc (.cells #[.int .i64 lv,.int .i64 5] 238)=w1:=⟨_,rfl⟩;rw[e5] at c8 h9 d6;obtain⟨pv,dv,us,h1⟩:=h9;obtain⟨f7,h2,h3,h4,h5,h6,h7⟩:=id h1
 cases us with
 |nil=>have:=h4.1;simp at this
 |cons u us=>
 have d9:us.length=fs.length:=by have:=h4.1;simpa using this
 have a5:∀x∈u::us,x.length=5:=fun x hx=>by
  obtain⟨i,hi,rfl⟩:=List.getElem_of_mem hx;exact(h4.2 i _ ((f::fs)[i]'(by have:=h4.1;omega)) (Zd hi) (Zd _)).len
 rw[List.length_cons,<-d9] at h3;obtain⟨pb,q,l2,hT⟩:=dj h3 a5;obtain⟨i5,a1,d4,b1,a9⟩:=hT;obtain⟨iv,mv,s0,xs,L,hu,k5,e3,a4,f6,c3,a2,l0,h8⟩:=h4.2 0 u f rfl rfl;obtain rfl:=h8 ho;obtain⟨Ai,qi,rfl,-⟩:=af e3;subst i5 hu;obtain⟨m,hm⟩:∃m,m=us.length:=⟨_,rfl⟩;rw[<-hm] at a1 b1 a9;have c0:=aa f7 (j:=0) (u:=.slice (some ⟨pb,0,none⟩) (m+1) q) (by rw[hm];rfl);have k0:=a1 0 _ rfl;have k1:=a1 1 _ rfl;have k2:=a1 2 _ rfl;have k3:=a1 3 _ rfl;have k4:=a1 4 _ rfl;rw[ho] at k0;rw[i8] at k4;simp only[Bool.false_eq_true,if_false,if_true] at k0;rw[Nat.add_zero] at k0;simp only[Option.isSome_none] at k4;have e0:=aa d6.out (j:=0) (u:=.int .i64 lv) rfl;have e1:=aa d6.out (j:=1) (u:=.int .i64 5) rfl;have s1:IntKind.i64.wrap (m:Int)= (m:Int):=IntWalk.i64_in _ (by omega);have f0:(((m+1:Nat):Int)==0)=false:=by simp only[beq_eq_false_iff_ne];omega
 have b0:lv= (m:Int)+1:=by omega
 have d2:(m:Int)< (m:Int)+1:=by omega
 have b5:(((m:Int)+1)==0)=false:=by simp only[beq_eq_false_iff_ne];omega
 have HA:=Qa h1;have Hm:=Qa hm;have l1:=Qa d9;have f9:=Qa (And.intro e3 (And.intro a4 (And.intro f6 (And.intro c3 a2))));have b8:=Qa c8;have HB:=Qa hB;have m0:=Qa g6;have k9:=Qa e4;have k8:=Qa hi;have l3:=Qa f5;have d5:(lv== (m:Int)+1)=true:=by rw[b0];simp
 have c2:(lv != (m:Int)+1)=false:=by rw[b0];simp
 have C0:=Qa c0;have K0:=Qa k0;have K1:=Qa k1;have K2:=Qa k2;have K3:=Qa k3;have K4:=Qa k4;have E0:=Qa e0;have E1:=Qa e1;have Hq:=Qa (And.intro a9 b1);clear h h1 f7 h2 h3 h4 h5 h6 h7 e3 a4 f6 c3 a2 l0 h8 a1 d4 a5 k5 d9 hm i0 b0 c8 hB b1 a9 g6 e4 hi f5 k0 k1 k2 k3 k4 e0 e1 hl;go_enter Tryz.func134,Tryz.ntmps134;go_wp2_with fail
 try rw[e5]
 clear c0;refine bm (fun w2=>w2.cell? ⟨xb,0,none⟩=some (.slice (some ⟨pb,0,none⟩) (m+1) q)/\w2.cell? ⟨pb,m*5,none⟩=some (.int .i64 5)/\w2.cell? ⟨pb,m*5+4,none⟩=some (.bool false)/\w2.cell? ⟨w.heap.size,0,none⟩=some (.int .i64 lv)/\w2.cell? ⟨w.heap.size,1,none⟩=some (.int .i64 5)) (⟨C0.out,K0.out,K4.out,E0.out,E1.out⟩) fun a0=>?_
 refine tH 0 a0 ?_;refine tH 1 a0 ?_;refine tH 2 a0 ?_;refine tH 3 a0 ?_;refine tH 4 a0 ?_;refine tH 5 a0 ?_
 try simp only[Act.put,jP,jQ,jR]
 refine tH 6 a0 ?_;refine tH 7 a0 ?_;refine tH 8 a0 ?_;refine tH 9 a0 ?_;refine tH 10 a0 ?_;refine tH 11 a0 ?_
 try simp only[Act.put,jP,jQ,jR]
 refine tH 12 a0 ?_;refine tH 13 a0 ?_;refine tH 14 a0 ?_;refine tH 15 a0 ?_;refine tH 16 a0 ?_;refine tH 17 a0 ?_
 try simp only[Act.put,jP,jQ,jR]
 refine tH 18 a0 ?_;refine tH 19 a0 ?_;refine tH 20 a0 ?_;refine tH 21 a0 ?_;refine tH 22 a0 ?_;refine tH 23 a0 ?_
 try simp only[Act.put,jP,jQ,jR]
 refine tH 24 a0 ?_;refine tH 25 a0 ?_;refine tH 26 a0 ?_;refine tH 27 a0 ?_;refine tH 28 a0 ?_;refine tH 29 a0 ?_
 try simp only[Act.put,jP,jQ,jR]
 refine tH 30 a0 ?_;refine tH 31 a0 ?_;refine tH 32 a0 ?_
 try simp only[Act.put,jP,jQ,jR]
 refine wpAnyH_done (by kernel_rfl) (NoPanic.normal ?_) _;obtain⟨wr,d1⟩:∃wr,w1.drew=wr:=⟨_,rfl⟩;have a3:Below w1.heap.size w1 wr:=by rw[<-d1];exact(Ze _ _).drew
 rw[d1];clear a0 d1 e5;have r0:=Zg a3 C0.out;have r1:=Zg a3 K0.out;have r2:=Zg a3 K1.out;have r3:=Zg a3 K2.out;have r4:=Zg a3 K3.out;have r5:=Zg a3 K4.out;have i9:(m:Int)<=q:=by have:=Hq.out.1;omega
 have e2:=ac wr (.cells #[.int .i64 5,.slice Ai xs.length qi,.slice none 0 0,.string s0,.bool false] 233);have d0:=Qa ((HA.out.below a3).below e2);have b9:=Qa (Zf wr (.cells #[.int .i64 5,.slice Ai xs.length qi,.slice none 0 0,.string s0,.bool false] 233));have c5:=Qa e2;have c9:=Qa a3;have fx:=aj d0.out.row 0;have cx:=aa d0.out.row (j:=0) (u:=.slice (some ⟨pb,0,none⟩) (m+1) q) (by rw[Hm.out];rfl);have bx0:=aa b9.out (j:=0) rfl;have i2:xb≠wr.heap.size:=fun e=>by have:=ag (HA.out.below a3).row;omega
 clear a3 e2;go_wp2_with fail;obtain⟨wA,e6⟩:∃wA,wr.alloc (.cells #[.int .i64 5,.slice Ai xs.length qi,.slice none 0 0,.string s0,.bool false] 233)=wA:=⟨_,rfl⟩;rw[e6];rw[e6] at d0 c5 b9;clear cx fx bx0 i2 e6 r0 r1 r2 r3 r4 r5 s1 f0 d2 b5 d5 c2 i9;obtain rfl:=Hm.out;have f8:B<=wA.heap.size:=by have:=c5.out.size;have:=c9.out.size;have:=b8.out.size;have:=HB.out;omega
 obtain⟨p1,p2,p3,p4⟩:=vZ d0.out f8;obtain⟨w5,f3⟩:∃w5,wA.setCell ⟨xb,0,none⟩ (.slice (some ⟨pb,0,none⟩) us.length q)=w5:=⟨_,rfl⟩;rw[f3] at p1 p2 p4 ⊢;have c7:Kp (fun e=>e=180) w1 w5:=((Kp.of_below _ c9.out).trans (Kp.of_below _ c5.out)).trans p2;have g0:Mv [] w1 w5:=Mv.of_kp c7 fun e he=>by rcases he with rfl|rfl|rfl|rfl <;> decide
 have f4:Below B w w5:=((b8.out.mono HB.out).trans ((c9.out.mono (Zc HB.out b8.out.size)).trans (c5.out.mono (by have:=c9.out.size;have:=b8.out.size;have:=HB.out;omega)))).trans p1;have P3:=Qa p3;have P4:=Qa p4;have k6:=Qa ((Kp.of_below TB b8.out).trans (c7.imp fun e he=>.inr (.inl he)));have j0:=Qa g0;have i3:=Qa f4;have c4:=Qa (show B<=w5.heap.size from Zc f8 p2.1);obtain⟨g1,g2,g3,g4,g5⟩:=f9.out;have f1:Sl w5 (.slice Ai xs.length qi) xs:=Sl.of_own (au g1 c7.keeps (by decide));have i4:xs.length=f.items.length:=g2.1;have b3:=Qa (j6 f1 (fun v hv=>by
  obtain⟨i,hi,rfl⟩:=List.getElem_of_mem hv;exact(g2.2 i _ (f.items[i]'(by omega)) (Zd hi) (Zd _)).iface) (by have:=k8.out;omega))
 clear f1 i4;clear p1 p2 p3 p4 c7 g0 f4 f3 g1 g2 g3 g4 g5;refine Za b3 ?_;rintro e w6 ⟨g,A6,c6,rfl,b2,h0,a1,b4⟩;have d3:=b2;have g8:=P4.out.below b2;have c1:Mv [] w1 w6:=j0.out.trans (Mv.of_below b2);have f2:VW (Pb B (us.flatMap bC)) w6 (.iface 106 (.pointer (some ⟨g,0,none⟩))) (cN f):=by
  have hlt:=P4.out.lt;have hQ:Pb B (us.flatMap bC) g:=⟨Zc c4.out h0,fun hb=>by have:=hlt g hb;omega⟩;obtain⟨g1,g2,g3,g4,g5⟩:=f9.out;rw[show cN f=cD f.items from if_neg (by rw[ho];decide)];exact vG a1 (b4.fresh c4.out hlt) hQ (g2.mono fun _ _ h=>h.move c1 (by simp) fun x hx=>.inl (P3.out x hx))
 have k7:=Qa (pc g8 k9.out f2 (Zc c4.out b2.size));have g7:=Qa b2;clear d3 b2 g8 c1 f2 b4 a1 h0 b3;go_wp2_with fail;refine Za k7 ?_;rintro e w7 ⟨rfl,h1,h2,h3⟩;have R:=Qa (And.intro h1 (And.intro h2 h3));clear h1 h2 h3;go_wp2_with fail;(try simp only[Exit.inBlock,Exit.then]);refine Zh (results_none rfl ..) rfl ?_;exact⟨rfl,(i3.out.trans (g7.out.mono c4.out)).trans R.out.1,(k6.out.trans (Kp.of_below TB g7.out)).trans R.out.2.1,R.out.2.2⟩
theorem xd {bs:List Nat}(i5:lv= (fs.length+1:Nat))(h:dV B w xb (f::fs) none bs)(ho:f.obj=true)(k6:f.name=none)(h8:f.ok eC)(hi:f.items.length<=4294967296)(f9:f.mems.length<=4294967296)(e5:iM fs)(hB:B<=w.heap.size):Calls Tryz.prog 134 #[.pointer (some ⟨xb,0,none⟩),.agg #[.int .i64 lv,.int .i64 6]] w fun e w'=>kw B xb (bu fs (cN f)) w e w':=by
 have hl:=e5.1;have c8:=ac w (.cells #[.int .i64 lv,.int .i64 6] 238);have i4:=h.below c8;have d6:=Qa (Zf w (.cells #[.int .i64 lv,.int .i64 6] 238));obtain⟨w1,e6⟩:∃w1,w.alloc (.cells #[.int .i64 lv,.int .i64 6] 238)=w1:=⟨_,rfl⟩;rw[e6] at c8 i4 d6;obtain⟨pv,dv,us,h1⟩:=i4;obtain⟨g0,h2,h3,h4,h5,h6,h7⟩:=id h1
 cases us with
 |nil=>have:=h4.1;simp at this
 |cons u us=>
 have d9:us.length=fs.length:=by have:=h4.1;simpa using this
 have a5:∀x∈u::us,x.length=5:=fun x hx=>by
  obtain⟨i,hi,rfl⟩:=List.getElem_of_mem hx;exact(h4.2 i _ ((f::fs)[i]'(by have:=h4.1;omega)) (Zd hi) (Zd _)).len
 rw[List.length_cons,<-d9] at h3;obtain⟨pb,q,m2,hT⟩:=dj h3 a5;obtain⟨j0,a0,d4,b2,b0⟩:=hT;obtain⟨iv,mv,s0,xs,L,hu,k9,f8,a4,e3,c3,a2,i3,m0⟩:=h4.2 0 u f rfl rfl;obtain rfl:=i3 ho;obtain⟨Ai,qi,rfl,-⟩:=af e3;subst j0 hu;obtain⟨m,hm⟩:∃m,m=us.length:=⟨_,rfl⟩;rw[<-hm] at a0 b2 b0;have c0:=aa g0 (j:=0) (u:=.slice (some ⟨pb,0,none⟩) (m+1) q) (by rw[hm];rfl);have k0:=a0 0 _ rfl;have k1:=a0 1 _ rfl;have k2:=a0 2 _ rfl;have k3:=a0 3 _ rfl;have k4:=a0 4 _ rfl;rw[ho] at k0;rw[k6] at k4;simp only[Bool.false_eq_true,if_false,if_true] at k0;rw[Nat.add_zero] at k0;simp only[Option.isSome_none] at k4;have e0:=aa d6.out (j:=0) (u:=.int .i64 lv) rfl;have e1:=aa d6.out (j:=1) (u:=.int .i64 6) rfl;have s1:IntKind.i64.wrap (m:Int)= (m:Int):=IntWalk.i64_in _ (by omega);have f1:(((m+1:Nat):Int)==0)=false:=by simp only[beq_eq_false_iff_ne];omega
 have b1:lv= (m:Int)+1:=by omega
 have d2:(m:Int)< (m:Int)+1:=by omega
 have b5:(((m:Int)+1)==0)=false:=by simp only[beq_eq_false_iff_ne];omega
 have HA:=Qa h1;have Hm:=Qa hm;have m1:=Qa d9;have g7:=Qa (And.intro f8 (And.intro a4 (And.intro e3 (And.intro c3 a2))));have b8:=Qa c8;have HB:=Qa hB;have g8:=Qa h8;have l3:=Qa e5;have m4:=Qa hi;have k5:=Qa f9;have d5:(lv== (m:Int)+1)=true:=by rw[b1];simp
 have c2:(lv != (m:Int)+1)=false:=by rw[b1];simp
 have C0:=Qa c0;have K0:=Qa k0;have K1:=Qa k1;have K2:=Qa k2;have K3:=Qa k3;have K4:=Qa k4;have E0:=Qa e0;have E1:=Qa e1;have Hq:=Qa (And.intro b0 b2);clear h h1 g0 h2 h3 h4 h5 h6 h7 f8 a4 e3 c3 a2 i3 m0 a0 d4 a5 k9 d9 hm i5 b1 c8 hB b2 b0 h8 e5 hi f9 k0 k1 k2 k3 k4 e0 e1 hl;go_enter Tryz.func134,Tryz.ntmps134;go_wp2_with fail
 try rw[e6]
 clear c0;refine bm (fun w2=>w2.cell? ⟨xb,0,none⟩=some (.slice (some ⟨pb,0,none⟩) (m+1) q)/\w2.cell? ⟨pb,m*5,none⟩=some (.int .i64 6)/\w2.cell? ⟨pb,m*5+4,none⟩=some (.bool false)/\w2.cell? ⟨w.heap.size,0,none⟩=some (.int .i64 lv)/\w2.cell? ⟨w.heap.size,1,none⟩=some (.int .i64 6)) (⟨C0.out,K0.out,K4.out,E0.out,E1.out⟩) fun a1=>?_
 refine tH 0 a1 ?_;refine tH 1 a1 ?_;refine tH 2 a1 ?_;refine tH 3 a1 ?_;refine tH 4 a1 ?_;refine tH 5 a1 ?_
 try simp only[Act.put,jP,jQ,jR]
 refine tH 6 a1 ?_;refine tH 7 a1 ?_;refine tH 8 a1 ?_;refine tH 9 a1 ?_;refine tH 10 a1 ?_;refine tH 11 a1 ?_
 try simp only[Act.put,jP,jQ,jR]
 refine tH 12 a1 ?_;refine tH 13 a1 ?_;refine tH 14 a1 ?_;refine tH 15 a1 ?_;refine tH 16 a1 ?_;refine tH 17 a1 ?_
 try simp only[Act.put,jP,jQ,jR]
 refine tH 18 a1 ?_;refine tH 19 a1 ?_;refine tH 20 a1 ?_;refine tH 21 a1 ?_;refine tH 22 a1 ?_;refine tH 23 a1 ?_
 try simp only[Act.put,jP,jQ,jR]
 refine tH 24 a1 ?_;refine tH 25 a1 ?_;refine tH 26 a1 ?_;refine tH 27 a1 ?_;refine tH 28 a1 ?_;refine tH 29 a1 ?_
 try simp only[Act.put,jP,jQ,jR]
 refine tH 30 a1 ?_;refine tH 31 a1 ?_;refine tH 32 a1 ?_
 try simp only[Act.put,jP,jQ,jR]
 refine wpAnyH_done (by kernel_rfl) (NoPanic.normal ?_) _;obtain⟨wr,d1⟩:∃wr,w1.drew=wr:=⟨_,rfl⟩;have a3:Below w1.heap.size w1 wr:=by rw[<-d1];exact(Ze _ _).drew
 rw[d1];clear a1 d1 e6;have r0:=Zg a3 C0.out;have r1:=Zg a3 K0.out;have r2:=Zg a3 K1.out;have r3:=Zg a3 K2.out;have r4:=Zg a3 K3.out;have r5:=Zg a3 K4.out;have k7:(m:Int)<=q:=by have:=Hq.out.1;omega
 have e2:=ac wr (.cells #[.int .i64 6,.slice none 0 0,.slice Ai L.length qi,.string s0,.bool false] 233);have d0:=Qa ((HA.out.below a3).below e2);have b9:=Qa (Zf wr (.cells #[.int .i64 6,.slice none 0 0,.slice Ai L.length qi,.string s0,.bool false] 233));have c5:=Qa e2;have c9:=Qa a3;have fx:=aj d0.out.row 0;have cx:=aa d0.out.row (j:=0) (u:=.slice (some ⟨pb,0,none⟩) (m+1) q) (by rw[Hm.out];rfl);have bx0:=aa b9.out (j:=0) rfl;have i8:xb≠wr.heap.size:=fun e=>by have:=ag (HA.out.below a3).row;omega
 clear a3 e2;go_wp2_with fail;obtain⟨wA,f0⟩:∃wA,wr.alloc (.cells #[.int .i64 6,.slice none 0 0,.slice Ai L.length qi,.string s0,.bool false] 233)=wA:=⟨_,rfl⟩;rw[f0];rw[f0] at d0 c5 b9;clear cx fx bx0 i8 f0 r0 r1 r2 r3 r4 r5 s1 f1 d2 b5 d5 c2 k7;obtain rfl:=Hm.out;have g6:B<=wA.heap.size:=by have:=c5.out.size;have:=c9.out.size;have:=b8.out.size;have:=HB.out;omega
 obtain⟨p1,p2,p3,p4⟩:=vZ d0.out g6;obtain⟨w5,f5⟩:∃w5,wA.setCell ⟨xb,0,none⟩ (.slice (some ⟨pb,0,none⟩) us.length q)=w5:=⟨_,rfl⟩;rw[f5] at p1 p2 p4 ⊢;have c7:Kp (fun e=>e=180) w1 w5:=((Kp.of_below _ c9.out).trans (Kp.of_below _ c5.out)).trans p2;have h0:Mv [] w1 w5:=Mv.of_kp c7 fun e he=>by rcases he with rfl|rfl|rfl|rfl <;> decide
 have f7:Below B w w5:=((b8.out.mono HB.out).trans ((c9.out.mono (Zc HB.out b8.out.size)).trans (c5.out.mono (by have:=c9.out.size;have:=b8.out.size;have:=HB.out;omega)))).trans p1;have P3:=Qa p3;have P4:=Qa p4;have l1:=Qa ((Kp.of_below TB b8.out).trans (c7.imp fun e he=>.inr (.inl he)));have k8:=Qa h0;have i9:=Qa f7;have c4:=Qa (show B<=w5.heap.size from Zc g6 p2.1);obtain⟨g1,g2,g3,g4,g5⟩:=g7.out;have f2:yB 2 w5 (.slice Ai L.length qi) L.length (fy L):=yB.of_own (au g3 c7.keeps (by decide));have f6:L.length=f.mems.length:=by have:=congrArg List.length g4;simpa using this
 have b4:=Qa (gW f2 (fun p hp=>by
  obtain⟨i,hi,rfl⟩:=List.getElem_of_mem hp;refine⟨?_,?_⟩
  ·have e:=congrArg (·[i]?) g4;simp only[List.getElem?_map,Zd hi,Zd (show i<f.mems.length by omega),Option.map_some] at e;rw[Zi e];exact g8.out.names _ (List.getElem_mem _)
  ·exact(g5.2 i _ ((f.mems.map Prod.snd)[i]'(by simp;omega)) (by rw[List.getElem?_map,Zd hi];rfl) (Zd _)).iface) (by rw[g4];exact g8.out.nodup) (by have:=k5.out;omega))
 have m3:=Qa f6;clear f2 f6;clear p1 p2 p3 p4 c7 h0 f7 f5 g1 g2 g3 g4 g5;refine Za b4 ?_;rintro e w6 ⟨g,A6,c6,S,rfl,b3,i2,a0,a9,e4,f3⟩;have d3:=b3;have i0:=P4.out.below b3;have c1:Mv [] w1 w6:=k8.out.trans (Mv.of_below b3);have f4:VW (Pb B (us.flatMap bC)) w6 (.iface 97 (.pointer (some ⟨g,0,none⟩))) (cN f):=by
  have hlt:=P4.out.lt;have hQ:Pb B (us.flatMap bC) g:=⟨Zc c4.out i2,fun hb=>by have:=hlt g hb;omega⟩;obtain⟨g1,g2,g3,g4,g5⟩:=g7.out;rw[show cN f=fU (cF f.mems) from if_pos ho];have l0:S.length=L.length:=e4.length_eq;rw[<-l0] at a0 a9;exact yQ a0 (a9.fresh c4.out hlt) hQ e4 f3 g4 (g5.mono fun _ _ h=>h.move c1 (by simp) fun x hx=>.inl (P3.out x hx))
 have l2:=Qa (pc i0 l3.out f4 (Zc c4.out b3.size));have h9:=Qa b3;clear d3 b3 i0 c1 f4 a9 a0 i2 b4 e4 f3;go_wp2_with fail;refine Za l2 ?_;rintro e w7 ⟨rfl,h1,h2,h3⟩;have R:=Qa (And.intro h1 (And.intro h2 h3));clear h1 h2 h3;go_wp2_with fail;go_end0;exact⟨rfl,(i9.out.trans (h9.out.mono c4.out)).trans R.out.1,(l1.out.trans (Kp.of_below TB h9.out)).trans R.out.2.1,R.out.2.2⟩
open Go.Maps
def cS (w:World)(b:Nat)(names:List ByteArray)(n:Nat):Prop:= ∃D:DataW Unit,w.ownsMap Tryz.prog 9 (plainElem Tryz.prog 4) b n D/\∀s:ByteArray,s.size<=maxLen->D.atKey (.string s.data.toList) (.lit (.bool false)) =.lit (.bool (names.any fun t=>decide (t=s)))
theorem Ap:Keyed Tryz.prog 9:=string_keyed Tryz.underlying9
theorem FI (w:World):(zeroValue 4).run Tryz.prog w =.ok (.bool false) w:=by kernel_rfl
theorem cS.made (w:World):cS (w.alloc (.map #[] 0)) w.heap.size [] 0:=
 ⟨.map [],World.ownsMap_made _ _ _ _,fun s _=>by simp[DataW.atKey]⟩
theorem wM {d:DataW Unit}{ps:List MemPlace}(h:plainElem (H:=Unit) Tryz.prog 4 v=some (d,ps)):∃x,v =.bool x/\d =.lit (.bool x):=by
 unfold plainElem at h;rw[Tryz.underlying4] at h
 cases v with
 |bool x=>simp at h;exact⟨x,rfl,h.1.symm⟩
 |_=>simp at h
theorem cS.look {b:Nat}{names:List ByteArray}(h:cS w b names n){s:ByteArray}(hs:s.size<=maxLen):(Instr.lookup 305 (.map (some b)) (.string s) false).run Tryz.prog w =.ok (.bool (names.any (fun t=>decide (t=s)))) w:=by
 obtain⟨D,h1,h2⟩:=h;obtain⟨v,ps,a0,hv⟩:=h1.lookup Ap Tryz.underlying305 (FI w) (show plainElem (H:=Unit) Tryz.prog 4 (.bool false)=some (.lit (.bool false), []) from plainElem_bool Tryz.underlying4 false) (WideMaps.keyOf_string_mk Tryz.underlying9 hs);obtain⟨x,rfl,hx⟩:=wM hv;rw[h2 s hs] at hx;injection hx with hx
 injection hx with hx
 rw[a0,hx]
theorem cS.grown {b:Nat}{names:List ByteArray}{row:Option Nat}(h:cS w b names n)(hg:w.grownBy w' row)(hb:some b≠row):cS w' b names n:=by
 obtain⟨D,h1,h2⟩:=h;exact⟨D,h1.kept hg hb,h2⟩
theorem cS.kp {b:Nat}{names:List ByteArray}(h:cS w b names n)(hk:Kp T w w'):cS w' b names n:=by
 obtain⟨D,⟨es,clock,hh,r⟩,h2⟩:=h;exact⟨D,⟨es,clock,hk.2 b _ hh (fun _ _ _ e=>by cases e),r⟩,h2⟩
theorem cS.lt {b:Nat}{names:List ByteArray}(h:cS w b names n):b<w.heap.size:=by
 obtain⟨D,h1,-⟩:=h;exact h1.lt
theorem rX {ops:Array Oper}{rest:List Oper}{o:Oper}{a:Act}{Q:Exit->Act->World->Prop}{b:Nat}{names:List ByteArray}{s:ByteArray}(h:cS w b names n)(hs:s.size<=maxLen)(hn:n<maxLen)(hg:o.guard=none)(m x v:Operand)(a2:o.op=Op.mapUpdate 305 m x v)
  (hm:a.eval m =.map (some b)) (hx:a.eval x =.string s) (hv:a.eval v =.bool true)
  (hK:∀w',cS w' b (s::names) (n+1)->w.mapTurned w' b->wpList Tryz.prog ops Q rest (a.put o.dst undef) w'):wpList Tryz.prog ops Q (o::rest) a w:=by
 obtain⟨D,h1,h2⟩:=h;have a3:=h1.isMap;refine wpList_plain hg fun K' a1=>?_
 obtain⟨w',a0,r1,r2⟩:=h1.store Ap Tryz.underlying305 hn (WideMaps.keyOf_string_mk Tryz.underlying9 hs) (show plainElem (H:=Unit) Tryz.prog 4 (.bool true)=some (.lit (.bool true), []) from plainElem_bool Tryz.underlying4 true);unfold Oper.wp;simp[execOp,a2,hm,hx,hv,a0,Result.andThen];refine a1 _ _ (hK w' ⟨_,r1,fun t ht=>?_⟩ r2)
 by_cases e:t=s
 ·subst e;rw[atKey_put_same a3 (by exact trivial:WideAt.IsKeyLit (.string t.data.toList)) _ _];simp
 ·have hne:Lit.string t.data.toList≠Lit.string s.data.toList:=fun h=>by
   injection h with h
   cases s;cases t;simp only[Array.toList_inj] at h;exact e (by rw[h])
  rw[atKey_put_other hne,h2 t ht];rw[List.any_cons];have e2:decide (s=t)=false:=decide_eq_false fun h=>e h.symm
  rw[e2,Bool.false_or]
def dc:Value:=.agg #[.int .i64 1073741824,.int .i64 1073741824,.int .i64 1073741824,.int .i64 1073741824,.int .i64 1073741824,.int .i64 4611686018427387903]
theorem j9 (w:World):Calls Tryz.prog 149 #[dc] w fun e w'=>e =.returned dc/\Below w.heap.size w w':=by
 unfold dc;have hb:=Qa (ak (ac w (.cells #[.int .i64 1073741824,.int .i64 1073741824,.int .i64 1073741824,.int .i64 1073741824,.int .i64 1073741824,.int .i64 4611686018427387903] 119)) (ac _ (.cells #[.int .i64 1073741824,.int .i64 1073741824,.int .i64 1073741824,.int .i64 1073741824,.int .i64 1073741824,.int .i64 4611686018427387903] 258)));go_enter Tryz.func149,Tryz.ntmps149;go_wp2_with fail;have Hb:=hb.out;generalize hwa:(w.alloc (.cells #[.int .i64 1073741824,.int .i64 1073741824,.int .i64 1073741824,.int .i64 1073741824,.int .i64 1073741824,.int .i64 4611686018427387903] 119))=wa at *;have a0:w.heap.size+1=wa.heap.size:=by rw[<-hwa];simp
 rw[a0];have hn:=Zf wa (.cells #[.int .i64 1073741824,.int .i64 1073741824,.int .i64 1073741824,.int .i64 1073741824,.int .i64 1073741824,.int .i64 4611686018427387903] 258);have n0:=aa hn (j:=0) rfl;have n1:=aa hn (j:=1) rfl;have n2:=aa hn (j:=2) rfl;have n3:=aa hn (j:=3) rfl;have n4:=aa hn (j:=4) rfl;have n5:=aa hn (j:=5) rfl;refine Zh (v:=.agg #[.int .i64 1073741824,.int .i64 1073741824,.int .i64 1073741824,.int .i64 1073741824,.int .i64 1073741824,.int .i64 4611686018427387903]) ?_ rfl ⟨rfl,Hb⟩;simp[results,Tryz.results149,go_sem,n0,n1,n2,n3,n4,n5]
theorem DK (a b c d e f:Value)(W:World):(Instr.index 258 (.agg #[a,b,c,d,e,f]) (.int .i64 0)).run Tryz.prog W =.ok a W:=by kernel_rfl
theorem DR (a b c d e f:Value)(W:World):(Instr.index 258 (.agg #[a,b,c,d,e,f]) (.int .i64 1)).run Tryz.prog W =.ok b W:=by kernel_rfl
theorem D1 (a b c d e f:Value)(W:World):(Instr.index 258 (.agg #[a,b,c,d,e,f]) (.int .i64 2)).run Tryz.prog W =.ok c W:=by kernel_rfl
theorem DZ (a b c d e f:Value)(W:World):(Instr.index 258 (.agg #[a,b,c,d,e,f]) (.int .i64 3)).run Tryz.prog W =.ok d W:=by kernel_rfl
theorem DX (a b c d e f:Value)(W:World):(Instr.index 258 (.agg #[a,b,c,d,e,f]) (.int .i64 4)).run Tryz.prog W =.ok e W:=by kernel_rfl
theorem D2 (a b c d e f:Value)(W:World):(Instr.index 258 (.agg #[a,b,c,d,e,f]) (.int .i64 5)).run Tryz.prog W =.ok f W:=by kernel_rfl
theorem uA {m:Int}(hm:m=1\/m=2\/m=3\/m=5)(w:World):Calls Tryz.prog 150 #[dc,.int .i64 m] w fun e w'=>e =.returned (.tuple #[.int .i64 1073741824,.bool true])/\Below w.heap.size w w':=by
 have a0:=ac w (.cells #[.int .i64 1073741824,.int .i64 1073741824,.int .i64 1073741824,.int .i64 1073741824,.int .i64 1073741824,.int .i64 4611686018427387903] 119);have H:=Qa (fun w=>j9 w);unfold dc at *;have x0:=DK;have x1:=DR;have x2:=D1;have x3:=DZ;have x4:=DX;have x5:=D2;have a1:=Qa a0;clear a0;rcases hm with rfl|rfl|rfl|rfl
 all_goals
  go_enter Tryz.func150,Tryz.ntmps150;go_wp2_with fail;refine(H.out _).mono ?_;rintro e w1 ⟨rfl,hb⟩;have Hb:=Qa hb;clear hb;go_wp2_with fail;go_ret2;exact⟨rfl,ak a1.out Hb.out⟩
theorem rV {m x:Int}(hm:m=1\/m=2\/m=3\/m=5)(hx:x<=1073741824)(w:World):Calls Tryz.prog 127 #[dc,.int .i64 m,.int .i64 x] w fun e w'=>e =.returned .nilIface/\Below w.heap.size w w':=by
 have a0:=ac w (.cells #[.int .i64 1073741824,.int .i64 1073741824,.int .i64 1073741824,.int .i64 1073741824,.int .i64 1073741824,.int .i64 4611686018427387903] 119);have H:=Qa (fun w=>uA hm w);unfold dc at *;have a1:=Qa a0;clear a0 hm;go_enter Tryz.func127,Tryz.ntmps127;go_wp2_with fail;refine(H.out _).mono ?_;rintro e w1 ⟨rfl,hb⟩;have Hb:=Qa hb;clear hb;go_wp2_with fail;go_ret;exact⟨rfl,ak a1.out Hb.out⟩
theorem ui (w:World):Calls Tryz.prog 126 #[dc] w fun e w'=>e =.returned .nilIface/\Below w.heap.size w w':=by
 have a0:=ac w (.cells #[.int .i64 1073741824,.int .i64 1073741824,.int .i64 1073741824,.int .i64 1073741824,.int .i64 1073741824,.int .i64 4611686018427387903] 119);have H:=Qa (fun w=>j9 w);unfold dc at *;have x0:=DK;have x1:=DR;have x2:=D1;have x3:=DZ;have x4:=DX;have x5:=D2;have a1:=Qa a0;clear a0;go_enter Tryz.func126,Tryz.ntmps126;go_wp2_with fail;refine(H.out _).mono ?_;rintro e w1 ⟨rfl,hb⟩;have Hb:=Qa hb;clear hb;go_wp2_with fail
 go_loopg [8] 6 (fun k s8 wr=> ∃i:Nat,k+i=6/\s8 =.int .i64 i/\wr=w1)
 case atStart=>exact⟨0,rfl,rfl,rfl⟩
 case round=>
  obtain⟨i,hk,rfl,rfl⟩:=hrel;have hi:i=0\/i=1\/i=2\/i=3\/i=4\/i=5\/i=6:=by omega
  rcases hi with rfl|rfl|rfl|rfl|rfl|rfl|rfl
  ·go_wp2_with fail;go_roundg 5
   case measure=>omega
   case rel=>exact⟨1,rfl,rfl,rfl⟩
  ·go_wp2_with fail;go_roundg 4
   case measure=>omega
   case rel=>exact⟨2,rfl,rfl,rfl⟩
  ·go_wp2_with fail;go_roundg 3
   case measure=>omega
   case rel=>exact⟨3,rfl,rfl,rfl⟩
  ·go_wp2_with fail;go_roundg 2
   case measure=>omega
   case rel=>exact⟨4,rfl,rfl,rfl⟩
  ·go_wp2_with fail;go_roundg 1
   case measure=>omega
   case rel=>exact⟨5,rfl,rfl,rfl⟩
  ·go_wp2_with fail;go_roundg 0
   case measure=>omega
   case rel=>exact⟨6,rfl,rfl,rfl⟩
  ·go_wp2_with fail;go_ret;exact⟨rfl,ak a1.out Hb.out⟩
def cv (lb xb:Nat)(by_ dp nd ex:Int)(ov nv:Value)(want:Int)(fin:Bool):Array Value:=
 #[.pointer (some ⟨lb, 0, none⟩), .int .i64 1073741824, .int .i64 1073741824, .int .i64 1073741824, .int .i64 1073741824, .int .i64 1073741824, .int .i64 4611686018427387903, .int .i64 by_, .int .i64 dp, .int .i64 nd, .int .i64 ex,
  .func (.func 99) #[.pointer (some ⟨xb,0,none⟩)] #[],ov,nv,.int .i64 want,.bool fin]
def eJ (f:Fr):Value:=.int .i64 (if f.obj then 6 else 5)
def vc (b:Nat):Value:=.map (some b)
def fJ (f:Fr):List ByteArray:=f.name.toList++f.mems.map Prod.fst
def gV (B:Nat)(w:World)(b:Nat)(f:Fr):Prop:=B<=b/\∃l n,cS w b l n/\n<=f.mems.length+f.name.toList.length/\∀s,s∈l↔s∈fJ f
structure fp (B:Nat) (w:World) (rb lb xb:Nat) (v:Value) (xs:List UInt8) (frs:List Fr) (want k:Nat) (nd:Nat) (fin:Bool) (by_ dp ex:Int) (ov nv:Value) (maps:List Nat):Prop where
 row:w.heap[rb]?=some (.cells (cv lb xb by_ dp nd ex ov nv want fin) 225 (0,0))
 low:B<=rb
 lex:mG w lb v xs k
 llow:B<=lb
 own:ao w B v xs
 opens:w.ownsRow B 3 1 ov frs.length (frs.reverse.map eJ)
 names:w.ownsRow B 305 1 nv maps.length (maps.reverse.map vc)
 seen:cd (gV B w) maps (frs.filter (·.obj))
 nodup:maps.Nodup
 le:k<=xs.length
def j1 (e:TypeId):Prop:=e=225\/e=266\/e=3\/e=305
def gH (B:Nat)(w:World)(rb lb xb:Nat)(v:Value)(xs:List UInt8)(frs:List Fr)(want k nd:Nat)(fin:Bool):Prop:= ∃by_ dp ex ov nv maps,fp B w rb lb xb v xs frs want k nd fin by_ dp ex ov nv maps
section
variable {B rb lb xb want k nd:Nat}{w w':World}{v:Value}{xs:List UInt8}{frs:List Fr}{fin:Bool}{by_ dp ex:Int}{ov nv:Value}{maps:List Nat}
theorem fp.s (h:fp B w rb lb xb v xs frs want k nd fin by_ dp ex ov nv maps):gH B w rb lb xb v xs frs want k nd fin:=⟨_,_,_,_,_,_,h⟩
theorem fp.kp (h:fp B w rb lb xb v xs frs want k nd fin by_ dp ex ov nv maps)(hk:Kp T w w')(hT:∀e,j1 e->¬T e)(h8:¬T 5):fp B w' rb lb xb v xs frs want k nd fin by_ dp ex ov nv maps:=by
 obtain⟨h1,h2,h3,h4,h5,h6,h7,a2,h9,a1⟩:=h;have a0:ao w' B v xs:=au h5 hk.keeps h8;refine⟨hk.heap h1 (hT _ (.inl rfl)),h2,⟨hk.heap h3.1 (hT _ (.inr (.inl rfl))),ao.bs a0⟩,h4,a0,au h6 hk.keeps (hT _ (.inr (.inr (.inl rfl)))),au h7 hk.keeps (hT _ (.inr (.inr (.inr rfl)))),a2.mono fun a b h=>?_,h9,a1⟩;obtain⟨q1,l,n,q2,q3,q4⟩:=h;exact⟨q1,l,n,q2.kp hk,q3,q4⟩
theorem fp.below (h:fp B w rb lb xb v xs frs want k nd fin by_ dp ex ov nv maps)(hb:Below w.heap.size w w'):fp B w' rb lb xb v xs frs want k nd fin by_ dp ex ov nv maps:=h.kp (T:=fun _=>False) (Kp.of_below _ hb) (fun _ _ h=>h) (fun h=>h)
theorem gH.kp (h:gH B w rb lb xb v xs frs want k nd fin)(hk:Kp T w w')(hT:∀e,j1 e->¬T e)(h8:¬T 5):gH B w' rb lb xb v xs frs want k nd fin:=by
 obtain⟨a,b,c,d,e,f,h⟩:=h;exact⟨a,b,c,d,e,f,h.kp hk hT h8⟩
theorem gH.below (h:gH B w rb lb xb v xs frs want k nd fin)(hb:Below w.heap.size w w'):gH B w' rb lb xb v xs frs want k nd fin:=by
 obtain⟨a,b,c,d,e,f,h⟩:=h;exact⟨a,b,c,d,e,f,h.below hb⟩
theorem B1:∀e,j1 e->¬TB e:=fun e h=>by rcases h with rfl|rfl|rfl|rfl <;> (simp only[TB,TV];decide)
theorem bq:∀e,TB e->¬j1 e:=fun e h h2=>B1 e h2 h
theorem gH.tb (h:gH B w rb lb xb v xs frs want k nd fin)(hk:Kp TB w w'):gH B w' rb lb xb v xs frs want k nd fin:=h.kp hk B1 (by simp only[TB,TV];decide)
theorem fp.setR (h:fp B w rb lb xb v xs frs want k nd fin by_ dp ex ov nv maps)(hB:B<=w.heap.size)(j:Nat)(u:Value):Below B w (w.setCell ⟨rb,j,none⟩ u)/\Kp j1 w (w.setCell ⟨rb,j,none⟩ u)/\(w.setCell ⟨rb,j,none⟩ u).heap[rb]?=some (.cells ((cv lb xb by_ dp nd ex ov nv want fin).setIfInBounds j u) 225 (0,0))/\∀cells',(w.setCell ⟨rb,j,none⟩ u).heap[rb]?=some (.cells cells' 225 (0,0))->
  mG (w.setCell ⟨rb,j,none⟩ u) lb v xs k/\ao (w.setCell ⟨rb,j,none⟩ u) B v xs/\(w.setCell ⟨rb,j,none⟩ u).ownsRow B 3 1 ov frs.length (frs.reverse.map eJ)/\(w.setCell ⟨rb,j,none⟩ u).ownsRow B 305 1 nv maps.length (maps.reverse.map vc)/\cd (gV B (w.setCell ⟨rb,j,none⟩ u)) maps (frs.filter (·.obj)):=by
 obtain⟨h1,h2,h3,h4,h5,h6,h7,a2,h9,a3⟩:=h;have a1:=aM.set (w:=w) rb j u;have hk:Kp (fun e=>e=225) w (w.setCell ⟨rb,j,none⟩ u):=Kp.of_chg a1 fun g e _=>by subst e;exact⟨_,_,_,h1,rfl⟩
 have a0:ao (w.setCell ⟨rb,j,none⟩ u) B v xs:=au h5 hk.keeps (by decide);refine⟨a1.below hB (fun i e=>by rw[e];exact h2),hk.imp fun e he=>.inl he,ar h1 j u,fun _ _=>⟨⟨hk.heap h3.1 (by decide),ao.bs a0⟩,a0,au h6 hk.keeps (by decide),au h7 hk.keeps (by decide),a2.mono fun a b h=>?_⟩⟩;obtain⟨q1,l,n,q2,q3,q4⟩:=h;exact⟨q1,l,n,q2.kp hk,q3,q4⟩
end
