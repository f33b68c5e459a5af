import Derived.Test.YtehpfidnpfcniaaGreatDoorGZ14ax
set_option linter.unusedVariables false
set_option linter.unusedSimpArgs false
set_option maxHeartbeats 64000000
set_option maxRecDepth 100000
namespace Go.Proofs.YtehpfidnpfcniaaGreatDoor
open Go.RowKit
variable {f:Fr}{lv:Int}{frs fs:List Fr}{B c n xb:Nat}{A:Option Addr}{e:TypeId}{T:TypeId->Prop}{dv pv v:Value}{w w':World}
theorem xj.kp {done:Option JV}{us:List (List Value)}{bs:List Nat}(h:xj B w xb frs done pv dv us bs)(hk:Kp T w w')(hT:∀e,TB e->¬T e):xj B w' xb frs done pv dv us bs:=by
 obtain⟨h1,h2,h3,h4,h5,h6,h7⟩:=h;have hm:Mv [] w w':=Mv.of_kp hk (fun e he=>hT e (.inl he));have a0:∀g∈bs,g∈bs\/w.heap.size<=g:=fun g h=>.inl h
 exact⟨hk.heap h1 (hT _ (.inr (.inl rfl))),h2,av h3 hk.keeps (hT _ (.inr (.inr rfl))),h4.mono fun _ _ h=>h.move hm (by simp) a0 (by simp),h5,h6,h7.move hm (by simp) a0⟩
theorem xj.below {done:Option JV}{us:List (List Value)}{bs:List Nat}(h:xj B w xb frs done pv dv us bs)(hb:Below w.heap.size w w'):xj B w' xb frs done pv dv us bs:=h.kp (T:=fun _=>False) (Kp.of_below _ hb) (fun _ _ h=>h)
theorem dT.lt {done:Option JV}{bs:List Nat}(h:dT B w xb frs done bs):∀g∈bs,g<w.heap.size:=by
 obtain⟨pv,dv,us,h⟩:=h;intro g hg;rw[<-h.blocks] at hg;obtain⟨x,hx,a0⟩:=List.mem_flatMap.1 hg;obtain⟨i,hi,rfl⟩:=List.getElem_of_mem hx;have hl:=h.frames.1;obtain⟨iv,mv,s,xs,L,q1,q2,q3,q4,q5,-⟩:=h.frames.2 i us[i] (frs[i]'(by omega)) (Zd hi) (Zd _);rw[q1] at a0;rcases List.mem_append.1 a0 with a0|a0
 ·obtain⟨_,cur,hh⟩:=al q3 (g:=g) (by simpa using a0);exact ah hh
 ·obtain⟨_,cur,hh⟩:=al q5 (g:=g) (by simpa using a0);exact ah hh
theorem bG.fresh {bs:List Nat}{k:Nat}{xs:List Value}(h:bG (w.heap.size<= ·) w' e k A n c xs)(hB:B<=w.heap.size)(a0:∀g∈bs,g<w.heap.size):bG (Pb B bs) w' e k A n c xs:=
 h.stay fun g o hp hg _ _=>⟨⟨Zc hB hp,fun hb=>by have:=a0 g hb;omega⟩,hg⟩
theorem uV {bs:List Nat}(i9:lv= (fs.length+1:Nat))(h:dT B w xb (f::fs) none bs)(ho:f.obj=false)(i2:f.name=none)(g6:f.ok ey)(hi:f.items.length<=4294967296)(f9:f.mems.length<=4294967296)(d2:iO fs)(hB:B<=w.heap.size):Calls Tryz.prog 153 #[.pointer (some ⟨xb,0,none⟩),.agg #[.int .i64 lv,.int .i64 5]] w fun e w'=>km B xb (bt fs (cM f)) w e w':=by
 have hl:=d2.1;have c8:=ac w (.cells #[.int .i64 lv,.int .i64 5] 259);have f8:=h.below c8;have f0:=H8 (Zf w (.cells #[.int .i64 lv,.int .i64 5] 259));obtain⟨w1,e4⟩:∃w1,w.alloc (.cells #[.int .i64 lv,.int .i64 5] 259)=w1:=⟨_,rfl⟩;rw[e4] at c8 f8 f0;obtain⟨pv,dv,us,h1⟩:=f8;obtain⟨g8,h2,h3,h4,h5,h6,h7⟩:=id h1
 cases us with
 |nil=>have:=h4.1;simp at this
 |cons u us=>
 have e6:us.length=fs.length:=by have:=h4.1;simpa using this
 have a5:∀x∈u::us,x.length=5:=fun x hx=>by
  obtain⟨i,hi,rfl⟩:=List.getElem_of_mem hx;exact(h4.2 i _ ((f::fs)[i]'(by have:=h4.1;omega)) (Zd hi) (Zd _)).len
 rw[List.length_cons,<-e6] at h3;obtain⟨pb,q,m0,hT⟩:=dm h3 a5;obtain⟨i0,a1,e3,a9,b1⟩:=hT;obtain⟨iv,mv,s0,xs,L,hu,k5,d9,a4,h9,b9,a2,l0,f7⟩:=h4.2 0 u f rfl rfl;obtain rfl:=f7 ho;obtain⟨Ai,qi,rfl,-⟩:=af d9;subst i0 hu;obtain⟨m,hm⟩:∃m,m=us.length:=⟨_,rfl⟩;rw[<-hm] at a1 a9 b1;have c0:=aa g8 (j:=0) (u:=.slice (some ⟨pb,0,none⟩) (m+1) q) (by rw[hm];rfl);have k0:=a1 0 _ rfl;have k1:=a1 1 _ rfl;have k2:=a1 2 _ rfl;have k3:=a1 3 _ rfl;have k4:=a1 4 _ rfl;rw[ho] at k0;rw[i2] at k4;simp only[Bool.false_eq_true,if_false,if_true] at k0;rw[Nat.add_zero] at k0;simp only[Option.isSome_none] at k4;have e0:=aa f0.out (j:=0) (u:=.int .i64 lv) rfl;have e1:=aa f0.out (j:=1) (u:=.int .i64 5) rfl;have s1:IntKind.i64.wrap (m:Int)= (m:Int):=IntWalk.i64_in _ (by omega);have d1:(((m+1:Nat):Int)==0)=false:=by simp only[beq_eq_false_iff_ne];omega
 have b0:lv= (m:Int)+1:=by omega
 have d3:(m:Int)< (m:Int)+1:=by omega
 have b3:(((m:Int)+1)==0)=false:=by simp only[beq_eq_false_iff_ne];omega
 have HA:=H8 h1;have Hm:=H8 hm;have l3:=H8 e6;have g7:=H8 (And.intro d9 (And.intro a4 (And.intro h9 (And.intro b9 a2))));have c2:=H8 c8;have HB:=H8 hB;have l1:=H8 g6;have i4:=H8 d2;have i5:=H8 hi;have l2:=H8 f9;have d5:(lv== (m:Int)+1)=true:=by rw[b0];simp
 have b5:(lv != (m:Int)+1)=false:=by rw[b0];simp
 have C0:=H8 c0;have K0:=H8 k0;have K1:=H8 k1;have K2:=H8 k2;have K3:=H8 k3;have K4:=H8 k4;have E0:=H8 e0;have E1:=H8 e1;have Hq:=H8 (And.intro b1 a9);clear h h1 g8 h2 h3 h4 h5 h6 h7 d9 a4 h9 b9 a2 l0 f7 a1 e3 a5 k5 e6 hm i9 b0 c8 hB a9 b1 g6 d2 hi f9 k0 k1 k2 k3 k4 e0 e1 hl;go_enter Tryz.func153,Tryz.ntmps153;go_wp2_with fail
 try rw[e4]
 clear c0;refine bp (fun w2=>w2.cell? ⟨xb,0,none⟩=some (.slice (some ⟨pb,0,none⟩) (m+1) q)/\w2.cell? ⟨pb,m*5,none⟩=some (.int .i64 5)/\w2.cell? ⟨pb,m*5+4,none⟩=some (.bool false)/\w2.cell? ⟨w.heap.size,0,none⟩=some (.int .i64 lv)/\w2.cell? ⟨w.heap.size,1,none⟩=some (.int .i64 5)) (⟨C0.out,K0.out,K4.out,E0.out,E1.out⟩) fun a0=>?_
 refine tH 0 a0 ?_;refine tH 1 a0 ?_;refine tH 2 a0 ?_;refine tH 3 a0 ?_;refine tH 4 a0 ?_;refine tH 5 a0 ?_
 try simp only[Act.put,jP,jQ,jR]
 refine tH 6 a0 ?_;refine tH 7 a0 ?_;refine tH 8 a0 ?_;refine tH 9 a0 ?_;refine tH 10 a0 ?_;refine tH 11 a0 ?_
 try simp only[Act.put,jP,jQ,jR]
 refine tH 12 a0 ?_;refine tH 13 a0 ?_;refine tH 14 a0 ?_;refine tH 15 a0 ?_;refine tH 16 a0 ?_;refine tH 17 a0 ?_
 try simp only[Act.put,jP,jQ,jR]
 refine tH 18 a0 ?_;refine tH 19 a0 ?_;refine tH 20 a0 ?_;refine tH 21 a0 ?_;refine tH 22 a0 ?_;refine tH 23 a0 ?_
 try simp only[Act.put,jP,jQ,jR]
 refine tH 24 a0 ?_;refine tH 25 a0 ?_;refine tH 26 a0 ?_;refine tH 27 a0 ?_;refine tH 28 a0 ?_;refine tH 29 a0 ?_
 try simp only[Act.put,jP,jQ,jR]
 refine tH 30 a0 ?_;refine tH 31 a0 ?_;refine tH 32 a0 ?_
 try simp only[Act.put,jP,jQ,jR]
 refine wpAnyH_done (by kernel_rfl) (NoPanic.normal ?_) _;obtain⟨wr,e2⟩:∃wr,w1.drew=wr:=⟨_,rfl⟩;have a3:Below w1.heap.size w1 wr:=by rw[<-e2];exact(Ze _ _).drew
 rw[e2];clear a0 e2 e4;have r0:=Zg a3 C0.out;have r1:=Zg a3 K0.out;have r2:=Zg a3 K1.out;have r3:=Zg a3 K2.out;have r4:=Zg a3 K3.out;have r5:=Zg a3 K4.out;have j0:(m:Int)<=q:=by have:=Hq.out.1;omega
 have d6:=ac wr (.cells #[.int .i64 5,.slice Ai xs.length qi,.slice none 0 0,.string s0,.bool false] 254);have c9:=H8 ((HA.out.below a3).below d6);have b4:=H8 (Zf wr (.cells #[.int .i64 5,.slice Ai xs.length qi,.slice none 0 0,.string s0,.bool false] 254));have c4:=H8 d6;have c7:=H8 a3;have fx:=aj c9.out.row 0;have cx:=aa c9.out.row (j:=0) (u:=.slice (some ⟨pb,0,none⟩) (m+1) q) (by rw[Hm.out];rfl);have bx0:=aa b4.out (j:=0) rfl;have k9:xb≠wr.heap.size:=fun e=>by have:=ah (HA.out.below a3).row;omega
 clear a3 d6;go_wp2_with fail;obtain⟨wA,e5⟩:∃wA,wr.alloc (.cells #[.int .i64 5,.slice Ai xs.length qi,.slice none 0 0,.string s0,.bool false] 254)=wA:=⟨_,rfl⟩;rw[e5];rw[e5] at c9 c4 b4;clear cx fx bx0 k9 e5 r0 r1 r2 r3 r4 r5 s1 d1 d3 b3 d5 b5 j0;obtain rfl:=Hm.out;have f4:B<=wA.heap.size:=by have:=c4.out.size;have:=c7.out.size;have:=c2.out.size;have:=HB.out;omega
 obtain⟨p1,p2,p3,p4⟩:=vy c9.out f4;obtain⟨w5,f6⟩:∃w5,wA.setCell ⟨xb,0,none⟩ (.slice (some ⟨pb,0,none⟩) us.length q)=w5:=⟨_,rfl⟩;rw[f6] at p1 p2 p4 ⊢;have d0:Kp (fun e=>e=212) w1 w5:=((Kp.of_below _ c7.out).trans (Kp.of_below _ c4.out)).trans p2;have f2:Mv [] w1 w5:=Mv.of_kp d0 fun e he=>by rcases he with rfl|rfl|rfl|rfl <;> decide
 have g0:Below B w w5:=((c2.out.mono HB.out).trans ((c7.out.mono (Zc HB.out c2.out.size)).trans (c4.out.mono (by have:=c7.out.size;have:=c2.out.size;have:=HB.out;omega)))).trans p1;have P3:=H8 p3;have P4:=H8 p4;have i8:=H8 ((Kp.of_below TB c2.out).trans (d0.imp fun e he=>.inr (.inl he)));have k7:=H8 f2;have k8:=H8 g0;have c5:=H8 (show B<=w5.heap.size from Zc f4 p2.1);obtain⟨g1,g2,g3,g4,g5⟩:=g7.out;have f3:Sl w5 (.slice Ai xs.length qi) xs:=Sl.of_own (av g1 d0.keeps (by decide));have i3:xs.length=f.items.length:=g2.1;have b8:=H8 (jZ f3 (fun v hv=>by
  obtain⟨i,hi,rfl⟩:=List.getElem_of_mem hv;exact(g2.2 i _ (f.items[i]'(by omega)) (Zd hi) (Zd _)).iface) (by have:=i5.out;omega))
 clear f3 i3;clear p1 p2 p3 p4 d0 f2 g0 f6 g1 g2 g3 g4 g5;refine Za b8 ?_;rintro e w6 ⟨g,A6,c6,rfl,b2,f5,a1,c3⟩;have d4:=b2;have h8:=P4.out.below b2;have c1:Mv [] w1 w6:=k7.out.trans (Mv.of_below b2);have h0:VW (Pb B (us.flatMap bD)) w6 (.iface 112 (.pointer (some ⟨g,0,none⟩))) (cM f):=by
  have hlt:=P4.out.lt;have hQ:Pb B (us.flatMap bD) g:=⟨Zc c5.out f5,fun hb=>by have:=hlt g hb;omega⟩;obtain⟨g1,g2,g3,g4,g5⟩:=g7.out;rw[show cM f=cD f.items from if_neg (by rw[ho];decide)];exact vj a1 (c3.fresh c5.out hlt) hQ (g2.mono fun _ _ h=>h.move c1 (by simp) fun x hx=>.inl (P3.out x hx))
 have k6:=H8 (oX h8 i4.out h0 (Zc c5.out b2.size));have f1:=H8 b2;clear d4 b2 h8 c1 h0 c3 a1 f5 b8;go_wp2_with fail;refine Za k6 ?_;rintro e w7 ⟨rfl,h1,h2,h3⟩;have R:=H8 (And.intro h1 (And.intro h2 h3));clear h1 h2 h3;go_wp2_with fail;(try simp only[Exit.inBlock,Exit.then]);refine Zh (results_none rfl ..) rfl ?_;exact⟨rfl,(k8.out.trans (f1.out.mono c5.out)).trans R.out.1,(i8.out.trans (Kp.of_below TB f1.out)).trans R.out.2.1,R.out.2.2⟩
theorem xO {bs:List Nat}(k5:lv= (fs.length+1:Nat))(h:dT B w xb (f::fs) none bs)(ho:f.obj=true)(i8:f.name=none)(g7:f.ok ey)(hi:f.items.length<=4294967296)(g0:f.mems.length<=4294967296)(d2:iO fs)(hB:B<=w.heap.size):Calls Tryz.prog 153 #[.pointer (some ⟨xb,0,none⟩),.agg #[.int .i64 lv,.int .i64 6]] w fun e w'=>km B xb (bt fs (cM f)) w e w':=by
 have hl:=d2.1;have c8:=ac w (.cells #[.int .i64 lv,.int .i64 6] 259);have f9:=h.below c8;have f0:=H8 (Zf w (.cells #[.int .i64 lv,.int .i64 6] 259));obtain⟨w1,e4⟩:∃w1,w.alloc (.cells #[.int .i64 lv,.int .i64 6] 259)=w1:=⟨_,rfl⟩;rw[e4] at c8 f9 f0;obtain⟨pv,dv,us,h1⟩:=f9;obtain⟨h9,h2,h3,h4,h5,h6,h7⟩:=id h1
 cases us with
 |nil=>have:=h4.1;simp at this
 |cons u us=>
 have e6:us.length=fs.length:=by have:=h4.1;simpa using this
 have a5:∀x∈u::us,x.length=5:=fun x hx=>by
  obtain⟨i,hi,rfl⟩:=List.getElem_of_mem hx;exact(h4.2 i _ ((f::fs)[i]'(by have:=h4.1;omega)) (Zd hi) (Zd _)).len
 rw[List.length_cons,<-e6] at h3;obtain⟨pb,q,m4,hT⟩:=dm h3 a5;obtain⟨i5,a0,e3,a9,b1⟩:=hT;obtain⟨iv,mv,s0,xs,L,hu,k8,h0,a4,f1,c1,a2,i3,k6⟩:=h4.2 0 u f rfl rfl;obtain rfl:=i3 ho;obtain⟨Ai,qi,rfl,-⟩:=af f1;subst i5 hu;obtain⟨m,hm⟩:∃m,m=us.length:=⟨_,rfl⟩;rw[<-hm] at a0 a9 b1;have c0:=aa h9 (j:=0) (u:=.slice (some ⟨pb,0,none⟩) (m+1) q) (by rw[hm];rfl);have k0:=a0 0 _ rfl;have k1:=a0 1 _ rfl;have k2:=a0 2 _ rfl;have k3:=a0 3 _ rfl;have k4:=a0 4 _ rfl;rw[ho] at k0;rw[i8] at k4;simp only[Bool.false_eq_true,if_false,if_true] at k0;rw[Nat.add_zero] at k0;simp only[Option.isSome_none] at k4;have e0:=aa f0.out (j:=0) (u:=.int .i64 lv) rfl;have e1:=aa f0.out (j:=1) (u:=.int .i64 6) rfl;have s1:IntKind.i64.wrap (m:Int)= (m:Int):=IntWalk.i64_in _ (by omega);have d1:(((m+1:Nat):Int)==0)=false:=by simp only[beq_eq_false_iff_ne];omega
 have b0:lv= (m:Int)+1:=by omega
 have d3:(m:Int)< (m:Int)+1:=by omega
 have b4:(((m:Int)+1)==0)=false:=by simp only[beq_eq_false_iff_ne];omega
 have HA:=H8 h1;have Hm:=H8 hm;have m3:=H8 e6;have h8:=H8 (And.intro h0 (And.intro a4 (And.intro f1 (And.intro c1 a2))));have c3:=H8 c8;have HB:=H8 hB;have g8:=H8 g7;have i9:=H8 d2;have m1:=H8 hi;have l0:=H8 g0;have d5:(lv== (m:Int)+1)=true:=by rw[b0];simp
 have b8:(lv != (m:Int)+1)=false:=by rw[b0];simp
 have C0:=H8 c0;have K0:=H8 k0;have K1:=H8 k1;have K2:=H8 k2;have K3:=H8 k3;have K4:=H8 k4;have E0:=H8 e0;have E1:=H8 e1;have Hq:=H8 (And.intro b1 a9);clear h h1 h9 h2 h3 h4 h5 h6 h7 h0 a4 f1 c1 a2 i3 k6 a0 e3 a5 k8 e6 hm k5 b0 c8 hB a9 b1 g7 d2 hi g0 k0 k1 k2 k3 k4 e0 e1 hl;go_enter Tryz.func153,Tryz.ntmps153;go_wp2_with fail
 try rw[e4]
 clear c0;refine bp (fun w2=>w2.cell? ⟨xb,0,none⟩=some (.slice (some ⟨pb,0,none⟩) (m+1) q)/\w2.cell? ⟨pb,m*5,none⟩=some (.int .i64 6)/\w2.cell? ⟨pb,m*5+4,none⟩=some (.bool false)/\w2.cell? ⟨w.heap.size,0,none⟩=some (.int .i64 lv)/\w2.cell? ⟨w.heap.size,1,none⟩=some (.int .i64 6)) (⟨C0.out,K0.out,K4.out,E0.out,E1.out⟩) fun a1=>?_
 refine tH 0 a1 ?_;refine tH 1 a1 ?_;refine tH 2 a1 ?_;refine tH 3 a1 ?_;refine tH 4 a1 ?_;refine tH 5 a1 ?_
 try simp only[Act.put,jP,jQ,jR]
 refine tH 6 a1 ?_;refine tH 7 a1 ?_;refine tH 8 a1 ?_;refine tH 9 a1 ?_;refine tH 10 a1 ?_;refine tH 11 a1 ?_
 try simp only[Act.put,jP,jQ,jR]
 refine tH 12 a1 ?_;refine tH 13 a1 ?_;refine tH 14 a1 ?_;refine tH 15 a1 ?_;refine tH 16 a1 ?_;refine tH 17 a1 ?_
 try simp only[Act.put,jP,jQ,jR]
 refine tH 18 a1 ?_;refine tH 19 a1 ?_;refine tH 20 a1 ?_;refine tH 21 a1 ?_;refine tH 22 a1 ?_;refine tH 23 a1 ?_
 try simp only[Act.put,jP,jQ,jR]
 refine tH 24 a1 ?_;refine tH 25 a1 ?_;refine tH 26 a1 ?_;refine tH 27 a1 ?_;refine tH 28 a1 ?_;refine tH 29 a1 ?_
 try simp only[Act.put,jP,jQ,jR]
 refine tH 30 a1 ?_;refine tH 31 a1 ?_;refine tH 32 a1 ?_
 try simp only[Act.put,jP,jQ,jR]
 refine wpAnyH_done (by kernel_rfl) (NoPanic.normal ?_) _;obtain⟨wr,e2⟩:∃wr,w1.drew=wr:=⟨_,rfl⟩;have a3:Below w1.heap.size w1 wr:=by rw[<-e2];exact(Ze _ _).drew
 rw[e2];clear a1 e2 e4;have r0:=Zg a3 C0.out;have r1:=Zg a3 K0.out;have r2:=Zg a3 K1.out;have r3:=Zg a3 K2.out;have r4:=Zg a3 K3.out;have r5:=Zg a3 K4.out;have k7:(m:Int)<=q:=by have:=Hq.out.1;omega
 have d6:=ac wr (.cells #[.int .i64 6,.slice none 0 0,.slice Ai L.length qi,.string s0,.bool false] 254);have c9:=H8 ((HA.out.below a3).below d6);have b5:=H8 (Zf wr (.cells #[.int .i64 6,.slice none 0 0,.slice Ai L.length qi,.string s0,.bool false] 254));have c4:=H8 d6;have c7:=H8 a3;have fx:=aj c9.out.row 0;have cx:=aa c9.out.row (j:=0) (u:=.slice (some ⟨pb,0,none⟩) (m+1) q) (by rw[Hm.out];rfl);have bx0:=aa b5.out (j:=0) rfl;have m0:xb≠wr.heap.size:=fun e=>by have:=ah (HA.out.below a3).row;omega
 clear a3 d6;go_wp2_with fail;obtain⟨wA,e5⟩:∃wA,wr.alloc (.cells #[.int .i64 6,.slice none 0 0,.slice Ai L.length qi,.string s0,.bool false] 254)=wA:=⟨_,rfl⟩;rw[e5];rw[e5] at c9 c4 b5;clear cx fx bx0 m0 e5 r0 r1 r2 r3 r4 r5 s1 d1 d3 b4 d5 b8 k7;obtain rfl:=Hm.out;have f6:B<=wA.heap.size:=by have:=c4.out.size;have:=c7.out.size;have:=c3.out.size;have:=HB.out;omega
 obtain⟨p1,p2,p3,p4⟩:=vy c9.out f6;obtain⟨w5,f8⟩:∃w5,wA.setCell ⟨xb,0,none⟩ (.slice (some ⟨pb,0,none⟩) us.length q)=w5:=⟨_,rfl⟩;rw[f8] at p1 p2 p4 ⊢;have d0:Kp (fun e=>e=212) w1 w5:=((Kp.of_below _ c7.out).trans (Kp.of_below _ c4.out)).trans p2;have f4:Mv [] w1 w5:=Mv.of_kp d0 fun e he=>by rcases he with rfl|rfl|rfl|rfl <;> decide
 have g6:Below B w w5:=((c3.out.mono HB.out).trans ((c7.out.mono (Zc HB.out c3.out.size)).trans (c4.out.mono (by have:=c7.out.size;have:=c3.out.size;have:=HB.out;omega)))).trans p1;have P3:=H8 p3;have P4:=H8 p4;have j0:=H8 ((Kp.of_below TB c3.out).trans (d0.imp fun e he=>.inr (.inl he)));have l2:=H8 f4;have l3:=H8 g6;have c5:=H8 (show B<=w5.heap.size from Zc f6 p2.1);obtain⟨g1,g2,g3,g4,g5⟩:=h8.out;have f5:xg 2 w5 (.slice Ai L.length qi) L.length (ft L):=xg.of_own (av g3 d0.keeps (by decide));have f3:L.length=f.mems.length:=by have:=congrArg List.length g4;simpa using this
 have b9:=H8 (gS f5 (fun p hp=>by
  obtain⟨i,hi,rfl⟩:=List.getElem_of_mem hp;refine⟨?_,?_⟩
  ·have e:=congrArg (·[i]?) g4;simp only[List.getElem?_map,Zd hi,Zd (show i<f.mems.length by omega),Option.map_some] at e;rw[Zi e];exact g8.out.names _ (List.getElem_mem _)
  ·exact(g5.2 i _ ((f.mems.map Prod.snd)[i]'(by simp;omega)) (by rw[List.getElem?_map,Zd hi];rfl) (Zd _)).iface) (by rw[g4];exact g8.out.nodup) (by have:=l0.out;omega))
 have m2:=H8 f3;clear f5 f3;clear p1 p2 p3 p4 d0 f4 g6 f8 g1 g2 g3 g4 g5;refine Za b9 ?_;rintro e w6 ⟨g,A6,c6,S,rfl,b3,f7,a0,b2,d9,i0⟩;have d4:=b3;have i4:=P4.out.below b3;have c2:Mv [] w1 w6:=l2.out.trans (Mv.of_below b3);have i2:VW (Pb B (us.flatMap bD)) w6 (.iface 103 (.pointer (some ⟨g,0,none⟩))) (cM f):=by
  have hlt:=P4.out.lt;have hQ:Pb B (us.flatMap bD) g:=⟨Zc c5.out f7,fun hb=>by have:=hlt g hb;omega⟩;obtain⟨g1,g2,g3,g4,g5⟩:=h8.out;rw[show cM f=fQ (cF f.mems) from if_pos ho];have k9:S.length=L.length:=d9.length_eq;rw[<-k9] at a0 b2;exact zf a0 (b2.fresh c5.out hlt) hQ d9 i0 g4 (g5.mono fun _ _ h=>h.move c2 (by simp) fun x hx=>.inl (P3.out x hx))
 have l1:=H8 (oX i4 i9.out i2 (Zc c5.out b3.size));have f2:=H8 b3;clear d4 b3 i4 c2 i2 b2 a0 f7 b9 d9 i0;go_wp2_with fail;refine Za l1 ?_;rintro e w7 ⟨rfl,h1,h2,h3⟩;have R:=H8 (And.intro h1 (And.intro h2 h3));clear h1 h2 h3;go_wp2_with fail;go_end0;exact⟨rfl,(l3.out.trans (f2.out.mono c5.out)).trans R.out.1,(j0.out.trans (Kp.of_below TB f2.out)).trans R.out.2.1,R.out.2.2⟩
open Go.Maps
def cQ (w:World)(b:Nat)(names:List ByteArray)(n:Nat):Prop:= ∃D:DataW Unit,w.ownsMap Tryz.prog 9 (plainElem Tryz.prog 4) b n D/\∀s:ByteArray,s.size<=maxLen->D.atKey (.string s.data.toList) (.lit (.bool false)) =.lit (.bool (names.any fun t=>decide (t=s)))
theorem zP:Keyed Tryz.prog 9:=string_keyed Tryz.underlying9
theorem Fc (w:World):(zeroValue 4).run Tryz.prog w =.ok (.bool false) w:=by kernel_rfl
theorem cQ.made (w:World):cQ (w.alloc (.map #[] 0)) w.heap.size [] 0:=
 ⟨.map [],World.ownsMap_made _ _ _ _,fun s _=>by simp[DataW.atKey]⟩
theorem xc {d:DataW Unit}{ps:List MemPlace}(h:plainElem (H:=Unit) Tryz.prog 4 v=some (d,ps)):∃x,v =.bool x/\d =.lit (.bool x):=by
 unfold plainElem at h;rw[Tryz.underlying4] at h
 cases v with
 |bool x=>simp at h;exact⟨x,rfl,h.1.symm⟩
 |_=>simp at h
theorem cQ.look {b:Nat}{names:List ByteArray}(h:cQ w b names n){s:ByteArray}(hs:s.size<=maxLen):(Instr.lookup 317 (.map (some b)) (.string s) false).run Tryz.prog w =.ok (.bool (names.any (fun t=>decide (t=s)))) w:=by
 obtain⟨D,h1,h2⟩:=h;obtain⟨v,ps,a0,hv⟩:=h1.lookup zP Tryz.underlying317 (Fc w) (show plainElem (H:=Unit) Tryz.prog 4 (.bool false)=some (.lit (.bool false), []) from plainElem_bool Tryz.underlying4 false) (WideMaps.keyOf_string_mk Tryz.underlying9 hs);obtain⟨x,rfl,hx⟩:=xc hv;rw[h2 s hs] at hx;injection hx with hx
 injection hx with hx
 rw[a0,hx]
theorem cQ.grown {b:Nat}{names:List ByteArray}{row:Option Nat}(h:cQ w b names n)(hg:w.grownBy w' row)(hb:some b≠row):cQ w' b names n:=by
 obtain⟨D,h1,h2⟩:=h;exact⟨D,h1.kept hg hb,h2⟩
theorem cQ.kp {b:Nat}{names:List ByteArray}(h:cQ w b names n)(hk:Kp T w w'):cQ w' b names n:=by
 obtain⟨D,⟨es,clock,hh,r⟩,h2⟩:=h;exact⟨D,⟨es,clock,hk.2 b _ hh (fun _ _ _ e=>by cases e),r⟩,h2⟩
theorem cQ.lt {b:Nat}{names:List ByteArray}(h:cQ w b names n):b<w.heap.size:=by
 obtain⟨D,h1,-⟩:=h;exact h1.lt
theorem pp {ops:Array Oper}{rest:List Oper}{o:Oper}{a:Act}{Q:Exit->Act->World->Prop}{b:Nat}{names:List ByteArray}{s:ByteArray}(h:cQ w b names n)(hs:s.size<=maxLen)(hn:n<maxLen)(hg:o.guard=none)(m x v:Operand)(a2:o.op=Op.mapUpdate 317 m x v)
  (hm:a.eval m =.map (some b)) (hx:a.eval x =.string s) (hv:a.eval v =.bool true)
  (hK:∀w',cQ w' b (s::names) (n+1)->w.mapTurned w' b->wpList Tryz.prog ops Q rest (a.put o.dst undef) w'):wpList Tryz.prog ops Q (o::rest) a w:=by
 obtain⟨D,h1,h2⟩:=h;have a1:=h1.isMap;refine wpList_plain hg fun K' a3=>?_
 obtain⟨w',a0,r1,r2⟩:=h1.store zP Tryz.underlying317 hn (WideMaps.keyOf_string_mk Tryz.underlying9 hs) (show plainElem (H:=Unit) Tryz.prog 4 (.bool true)=some (.lit (.bool true), []) from plainElem_bool Tryz.underlying4 true);unfold Oper.wp;simp[execOp,a2,hm,hx,hv,a0,Result.andThen];refine a3 _ _ (hK w' ⟨_,r1,fun t ht=>?_⟩ r2)
 by_cases e:t=s
 ·subst e;rw[atKey_put_same a1 (by exact trivial:WideAt.IsKeyLit (.string t.data.toList)) _ _];simp
 ·have hne:Lit.string t.data.toList≠Lit.string s.data.toList:=fun h=>by
   injection h with h
   cases s;cases t;simp only[Array.toList_inj] at h;exact e (by rw[h])
  rw[atKey_put_other hne,h2 t ht];rw[List.any_cons];have e2:decide (s=t)=false:=decide_eq_false fun h=>e h.symm
  rw[e2,Bool.false_or]
def dt:Value:=.agg #[.int .i64 1073741824,.int .i64 1073741824,.int .i64 1073741824,.int .i64 1073741824,.int .i64 1073741824,.int .i64 4611686018427387903]
theorem jV (w:World):Calls Tryz.prog 172 #[dt] w fun e w'=>e =.returned dt/\Below w.heap.size w w':=by
 unfold dt;have hb:=H8 (ak (ac w (.cells #[.int .i64 1073741824,.int .i64 1073741824,.int .i64 1073741824,.int .i64 1073741824,.int .i64 1073741824,.int .i64 4611686018427387903] 162)) (ac _ (.cells #[.int .i64 1073741824,.int .i64 1073741824,.int .i64 1073741824,.int .i64 1073741824,.int .i64 1073741824,.int .i64 4611686018427387903] 286)));go_enter Tryz.func172,Tryz.ntmps172;go_wp2_with fail;have Hb:=hb.out;generalize hwa:(w.alloc (.cells #[.int .i64 1073741824,.int .i64 1073741824,.int .i64 1073741824,.int .i64 1073741824,.int .i64 1073741824,.int .i64 4611686018427387903] 162))=wa at *;have a0:w.heap.size+1=wa.heap.size:=by rw[<-hwa];simp
 rw[a0];have hn:=Zf wa (.cells #[.int .i64 1073741824,.int .i64 1073741824,.int .i64 1073741824,.int .i64 1073741824,.int .i64 1073741824,.int .i64 4611686018427387903] 286);have n0:=aa hn (j:=0) rfl;have n1:=aa hn (j:=1) rfl;have n2:=aa hn (j:=2) rfl;have n3:=aa hn (j:=3) rfl;have n4:=aa hn (j:=4) rfl;have n5:=aa hn (j:=5) rfl;refine Zh (v:=.agg #[.int .i64 1073741824,.int .i64 1073741824,.int .i64 1073741824,.int .i64 1073741824,.int .i64 1073741824,.int .i64 4611686018427387903]) ?_ rfl ⟨rfl,Hb⟩;simp[results,Tryz.results172,go_sem,n0,n1,n2,n3,n4,n5]
theorem DF (a b c d e f:Value)(W:World):(Instr.index 286 (.agg #[a,b,c,d,e,f]) (.int .i64 0)).run Tryz.prog W =.ok a W:=by kernel_rfl
theorem Dz (a b c d e f:Value)(W:World):(Instr.index 286 (.agg #[a,b,c,d,e,f]) (.int .i64 1)).run Tryz.prog W =.ok b W:=by kernel_rfl
theorem DI (a b c d e f:Value)(W:World):(Instr.index 286 (.agg #[a,b,c,d,e,f]) (.int .i64 2)).run Tryz.prog W =.ok c W:=by kernel_rfl
theorem DA (a b c d e f:Value)(W:World):(Instr.index 286 (.agg #[a,b,c,d,e,f]) (.int .i64 3)).run Tryz.prog W =.ok d W:=by kernel_rfl
theorem Ds (a b c d e f:Value)(W:World):(Instr.index 286 (.agg #[a,b,c,d,e,f]) (.int .i64 4)).run Tryz.prog W =.ok e W:=by kernel_rfl
theorem DG (a b c d e f:Value)(W:World):(Instr.index 286 (.agg #[a,b,c,d,e,f]) (.int .i64 5)).run Tryz.prog W =.ok f W:=by kernel_rfl
theorem tQ {m:Int}(hm:m=1\/m=2\/m=3\/m=5)(w:World):Calls Tryz.prog 173 #[dt,.int .i64 m] w fun e w'=>e =.returned (.tuple #[.int .i64 1073741824,.bool true])/\Below w.heap.size w w':=by
 have a0:=ac w (.cells #[.int .i64 1073741824,.int .i64 1073741824,.int .i64 1073741824,.int .i64 1073741824,.int .i64 1073741824,.int .i64 4611686018427387903] 162);have H:=H8 (fun w=>jV w);unfold dt at *;have x0:=DF;have x1:=Dz;have x2:=DI;have x3:=DA;have x4:=Ds;have x5:=DG;have a1:=H8 a0;clear a0;rcases hm with rfl|rfl|rfl|rfl
 all_goals
  go_enter Tryz.func173,Tryz.ntmps173;go_wp2_with fail;refine(H.out _).mono ?_;rintro e w1 ⟨rfl,hb⟩;have Hb:=H8 hb;clear hb;go_wp2_with fail;go_ret2;exact⟨rfl,ak a1.out Hb.out⟩
theorem pZ {m x:Int}(hm:m=1\/m=2\/m=3\/m=5)(hx:x<=1073741824)(w:World):Calls Tryz.prog 146 #[dt,.int .i64 m,.int .i64 x] w fun e w'=>e =.returned .nilIface/\Below w.heap.size w w':=by
 have a0:=ac w (.cells #[.int .i64 1073741824,.int .i64 1073741824,.int .i64 1073741824,.int .i64 1073741824,.int .i64 1073741824,.int .i64 4611686018427387903] 162);have H:=H8 (fun w=>tQ hm w);unfold dt at *;have a1:=H8 a0;clear a0 hm;go_enter Tryz.func146,Tryz.ntmps146;go_wp2_with fail;refine(H.out _).mono ?_;rintro e w1 ⟨rfl,hb⟩;have Hb:=H8 hb;clear hb;go_wp2_with fail;go_ret;exact⟨rfl,ak a1.out Hb.out⟩
theorem uG (w:World):Calls Tryz.prog 145 #[dt] w fun e w'=>e =.returned .nilIface/\Below w.heap.size w w':=by
 have a0:=ac w (.cells #[.int .i64 1073741824,.int .i64 1073741824,.int .i64 1073741824,.int .i64 1073741824,.int .i64 1073741824,.int .i64 4611686018427387903] 162);have H:=H8 (fun w=>jV w);unfold dt at *;have x0:=DF;have x1:=Dz;have x2:=DI;have x3:=DA;have x4:=Ds;have x5:=DG;have a1:=H8 a0;clear a0;go_enter Tryz.func145,Tryz.ntmps145;go_wp2_with fail;refine(H.out _).mono ?_;rintro e w1 ⟨rfl,hb⟩;have Hb:=H8 hb;clear hb;go_wp2_with fail
 go_loopg [8] 6 (fun k s8 wr=> ∃i:Nat,k+i=6/\s8 =.int .i64 i/\wr=w1)
 case atStart=>exact⟨0,rfl,rfl,rfl⟩
 case round=>
  obtain⟨i,hk,rfl,rfl⟩:=hrel;have hi:i=0\/i=1\/i=2\/i=3\/i=4\/i=5\/i=6:=by omega
  rcases hi with rfl|rfl|rfl|rfl|rfl|rfl|rfl
  ·go_wp2_with fail;go_roundg 5
   case measure=>omega
   case rel=>exact⟨1,rfl,rfl,rfl⟩
  ·go_wp2_with fail;go_roundg 4
   case measure=>omega
   case rel=>exact⟨2,rfl,rfl,rfl⟩
  ·go_wp2_with fail;go_roundg 3
   case measure=>omega
   case rel=>exact⟨3,rfl,rfl,rfl⟩
  ·go_wp2_with fail;go_roundg 2
   case measure=>omega
   case rel=>exact⟨4,rfl,rfl,rfl⟩
  ·go_wp2_with fail;go_roundg 1
   case measure=>omega
   case rel=>exact⟨5,rfl,rfl,rfl⟩
  ·go_wp2_with fail;go_roundg 0
   case measure=>omega
   case rel=>exact⟨6,rfl,rfl,rfl⟩
  ·go_wp2_with fail;go_ret;exact⟨rfl,ak a1.out Hb.out⟩
def cA (lb xb:Nat)(by_ dp nd ex:Int)(ov nv:Value)(want:Int)(fin:Bool):Array Value:=
 #[.pointer (some ⟨lb, 0, none⟩), .int .i64 1073741824, .int .i64 1073741824, .int .i64 1073741824, .int .i64 1073741824, .int .i64 1073741824, .int .i64 4611686018427387903, .int .i64 by_, .int .i64 dp, .int .i64 nd, .int .i64 ex,
  .func (.func 123) #[.pointer (some ⟨xb,0,none⟩)] #[],ov,nv,.int .i64 want,.bool fin]
def eF (f:Fr):Value:=.int .i64 (if f.obj then 6 else 5)
def sU (b:Nat):Value:=.map (some b)
def fC (f:Fr):List ByteArray:=f.name.toList++f.mems.map Prod.fst
def gG (B:Nat)(w:World)(b:Nat)(f:Fr):Prop:=B<=b/\∃l n,cQ w b l n/\n<=f.mems.length+f.name.toList.length/\∀s,s∈l↔s∈fC f
structure fm (B:Nat) (w:World) (rb lb xb:Nat) (v:Value) (xs:List UInt8) (frs:List Fr) (want k:Nat) (nd:Nat) (fin:Bool) (by_ dp ex:Int) (ov nv:Value) (maps:List Nat):Prop where
 row:w.heap[rb]?=some (.cells (cA lb xb by_ dp nd ex ov nv want fin) 247 (0,0))
 low:B<=rb
 lex:mf w lb v xs k
 llow:B<=lb
 own:ao w B v xs
 opens:w.ownsRow B 3 1 ov frs.length (frs.reverse.map eF)
 names:w.ownsRow B 317 1 nv maps.length (maps.reverse.map sU)
 seen:bY (gG B w) maps (frs.filter (·.obj))
 nodup:maps.Nodup
 le:k<=xs.length
def ka (e:TypeId):Prop:=e=247\/e=294\/e=3\/e=317
def gT (B:Nat)(w:World)(rb lb xb:Nat)(v:Value)(xs:List UInt8)(frs:List Fr)(want k nd:Nat)(fin:Bool):Prop:= ∃by_ dp ex ov nv maps,fm B w rb lb xb v xs frs want k nd fin by_ dp ex ov nv maps
section
variable {B rb lb xb want k nd:Nat}{w w':World}{v:Value}{xs:List UInt8}{frs:List Fr}{fin:Bool}{by_ dp ex:Int}{ov nv:Value}{maps:List Nat}
theorem fm.s (h:fm B w rb lb xb v xs frs want k nd fin by_ dp ex ov nv maps):gT B w rb lb xb v xs frs want k nd fin:=⟨_,_,_,_,_,_,h⟩
theorem fm.kp (h:fm B w rb lb xb v xs frs want k nd fin by_ dp ex ov nv maps)(hk:Kp T w w')(hT:∀e,ka e->¬T e)(h8:¬T 5):fm B w' rb lb xb v xs frs want k nd fin by_ dp ex ov nv maps:=by
 obtain⟨h1,h2,h3,h4,h5,h6,h7,a2,h9,a1⟩:=h;have a0:ao w' B v xs:=av h5 hk.keeps h8;refine⟨hk.heap h1 (hT _ (.inl rfl)),h2,⟨hk.heap h3.1 (hT _ (.inr (.inl rfl))),ao.bs a0⟩,h4,a0,av h6 hk.keeps (hT _ (.inr (.inr (.inl rfl)))),av h7 hk.keeps (hT _ (.inr (.inr (.inr rfl)))),a2.mono fun a b h=>?_,h9,a1⟩;obtain⟨q1,l,n,q2,q3,q4⟩:=h;exact⟨q1,l,n,q2.kp hk,q3,q4⟩
theorem fm.below (h:fm B w rb lb xb v xs frs want k nd fin by_ dp ex ov nv maps)(hb:Below w.heap.size w w'):fm B w' rb lb xb v xs frs want k nd fin by_ dp ex ov nv maps:=h.kp (T:=fun _=>False) (Kp.of_below _ hb) (fun _ _ h=>h) (fun h=>h)
theorem gT.kp (h:gT B w rb lb xb v xs frs want k nd fin)(hk:Kp T w w')(hT:∀e,ka e->¬T e)(h8:¬T 5):gT B w' rb lb xb v xs frs want k nd fin:=by
 obtain⟨a,b,c,d,e,f,h⟩:=h;exact⟨a,b,c,d,e,f,h.kp hk hT h8⟩
theorem gT.below (h:gT B w rb lb xb v xs frs want k nd fin)(hb:Below w.heap.size w w'):gT B w' rb lb xb v xs frs want k nd fin:=by
 obtain⟨a,b,c,d,e,f,h⟩:=h;exact⟨a,b,c,d,e,f,h.below hb⟩
theorem Bp:∀e,ka e->¬TB e:=fun e h=>by rcases h with rfl|rfl|rfl|rfl <;> (simp only[TB,TV];decide)
theorem bq:∀e,TB e->¬ka e:=fun e h h2=>Bp e h2 h
theorem gT.tb (h:gT B w rb lb xb v xs frs want k nd fin)(hk:Kp TB w w'):gT B w' rb lb xb v xs frs want k nd fin:=h.kp hk Bp (by simp only[TB,TV];decide)
theorem fm.setR (h:fm B w rb lb xb v xs frs want k nd fin by_ dp ex ov nv maps)(hB:B<=w.heap.size)(j:Nat)(u:Value):Below B w (w.setCell ⟨rb,j,none⟩ u)/\Kp ka w (w.setCell ⟨rb,j,none⟩ u)/\(w.setCell ⟨rb,j,none⟩ u).heap[rb]?=some (.cells ((cA lb xb by_ dp nd ex ov nv want fin).setIfInBounds j u) 247 (0,0))/\∀cells',(w.setCell ⟨rb,j,none⟩ u).heap[rb]?=some (.cells cells' 247 (0,0))->
  mf (w.setCell ⟨rb,j,none⟩ u) lb v xs k/\ao (w.setCell ⟨rb,j,none⟩ u) B v xs/\(w.setCell ⟨rb,j,none⟩ u).ownsRow B 3 1 ov frs.length (frs.reverse.map eF)/\(w.setCell ⟨rb,j,none⟩ u).ownsRow B 317 1 nv maps.length (maps.reverse.map sU)/\bY (gG B (w.setCell ⟨rb,j,none⟩ u)) maps (frs.filter (·.obj)):=by
 obtain⟨h1,h2,h3,h4,h5,h6,h7,a2,h9,a3⟩:=h;have a1:=aM.set (w:=w) rb j u;have hk:Kp (fun e=>e=247) w (w.setCell ⟨rb,j,none⟩ u):=Kp.of_chg a1 fun g e _=>by subst e;exact⟨_,_,_,h1,rfl⟩
 have a0:ao (w.setCell ⟨rb,j,none⟩ u) B v xs:=av h5 hk.keeps (by decide);refine⟨a1.below hB (fun i e=>by rw[e];exact h2),hk.imp fun e he=>.inl he,au h1 j u,fun _ _=>⟨⟨hk.heap h3.1 (by decide),ao.bs a0⟩,a0,av h6 hk.keeps (by decide),av h7 hk.keeps (by decide),a2.mono fun a b h=>?_⟩⟩;obtain⟨q1,l,n,q2,q3,q4⟩:=h;exact⟨q1,l,n,q2.kp hk,q3,q4⟩
end
