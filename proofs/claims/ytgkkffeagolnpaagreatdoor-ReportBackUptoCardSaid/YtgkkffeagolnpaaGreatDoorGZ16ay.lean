import Derived.Test.YtgkkffeagolnpaaGreatDoorGZ16ax
set_option linter.unusedVariables false
set_option linter.unusedSimpArgs false
set_option maxHeartbeats 64000000
set_option maxRecDepth 100000
namespace Go.Proofs.YtgkkffeagolnpaaGreatDoor
open Go.RowKit
variable {f:Fr}{lv:Int}{frs fs:List Fr}{B c n xb:Nat}{A:Option Addr}{e:TypeId}{T:TypeId->Prop}{dv pv v:Value}{w w':World}
theorem xS.kp {done:Option JV}{us:List (List Value)}{bs:List Nat}(h:xS B w xb frs done pv dv us bs)(hk:Kp T w w')(hT:∀e,TB e->¬T e):xS B w' xb frs done pv dv us bs:=by
 obtain⟨h1,h2,h3,h4,h5,h6,h7⟩:=h;have hm:Mv [] w w':=Mv.of_kp hk (fun e he=>hT e (.inl he));have a0:∀g∈bs,g∈bs\/w.heap.size<=g:=fun g h=>.inl h
 exact⟨hk.heap h1 (hT _ (.inr (.inl rfl))),h2,aw h3 hk.keeps (hT _ (.inr (.inr rfl))),h4.mono fun _ _ h=>h.move hm (by simp) a0 (by simp),h5,h6,h7.move hm (by simp) a0⟩
theorem xS.below {done:Option JV}{us:List (List Value)}{bs:List Nat}(h:xS B w xb frs done pv dv us bs)(hb:Below w.heap.size w w'):xS B w' xb frs done pv dv us bs:=h.kp (T:=fun _=>False) (Kp.of_below _ hb) (fun _ _ h=>h)
theorem d8.lt {done:Option JV}{bs:List Nat}(h:d8 B w xb frs done bs):∀g∈bs,g<w.heap.size:=by
 obtain⟨pv,dv,us,h⟩:=h;intro g hg;rw[<-h.blocks] at hg;obtain⟨x,hx,a0⟩:=List.mem_flatMap.1 hg;obtain⟨i,hi,rfl⟩:=List.getElem_of_mem hx;have hl:=h.frames.1;obtain⟨iv,mv,s,xs,L,q1,q2,q3,q4,q5,-⟩:=h.frames.2 i us[i] (frs[i]'(by omega)) (Zd hi) (Zd _);rw[q1] at a0;rcases List.mem_append.1 a0 with a0|a0
 ·obtain⟨_,cur,hh⟩:=ao q3 (g:=g) (by simpa using a0);exact ak hh
 ·obtain⟨_,cur,hh⟩:=ao q5 (g:=g) (by simpa using a0);exact ak hh
theorem bO.fresh {bs:List Nat}{k:Nat}{xs:List Value}(h:bO (w.heap.size<= ·) w' e k A n c xs)(hB:B<=w.heap.size)(a0:∀g∈bs,g<w.heap.size):bO (Pb B bs) w' e k A n c xs:=
 h.stay fun g o hp hg _ _=>⟨⟨Zc hB hp,fun hb=>by have:=a0 g hb;omega⟩,hg⟩
theorem vC {bs:List Nat}(k5:lv= (fs.length+1:Nat))(h:d8 B w xb (f::fs) none bs)(ho:f.obj=false)(j0:f.name=none)(f8:f.ok dd)(hi:f.items.length<=4294967296)(f4:f.mems.length<=4294967296)(d4:jy fs)(hB:B<=w.heap.size):Calls Tryz.prog 143 #[.pointer (some ⟨xb,0,none⟩),.agg #[.int .i64 lv,.int .i64 5]] w fun e w'=>lF B xb (bD fs (cK f)) w e w':=by
 have hl:=d4.1;have c9:=aa w (.cells #[.int .i64 lv,.int .i64 5] 251);have f7:=h.below c9;have d3:=Qa (Zf w (.cells #[.int .i64 lv,.int .i64 5] 251));obtain⟨w1,d5⟩:∃w1,w.alloc (.cells #[.int .i64 lv,.int .i64 5] 251)=w1:=⟨_,rfl⟩;rw[d5] at c9 f7 d3;obtain⟨pv,dv,us,h1⟩:=f7;obtain⟨h0,h2,h3,h4,h5,h6,h7⟩:=id h1
 cases us with
 |nil=>have:=h4.1;simp at this
 |cons u us=>
 have f0:us.length=fs.length:=by have:=h4.1;simpa using this
 have a5:∀x∈u::us,x.length=5:=fun x hx=>by
  obtain⟨i,hi,rfl⟩:=List.getElem_of_mem hx;exact(h4.2 i _ ((f::fs)[i]'(by have:=h4.1;omega)) (Zd hi) (Zd _)).len
 rw[List.length_cons,<-f0] at h3;obtain⟨pb,q,l3,hT⟩:=dE h3 a5;obtain⟨i0,a1,e4,a9,b0⟩:=hT;obtain⟨iv,mv,s0,xs,L,hu,i8,e3,a4,g8,b3,a2,i3,f1⟩:=h4.2 0 u f rfl rfl;obtain rfl:=f1 ho;obtain⟨Ai,qi,rfl,-⟩:=ag e3;subst i0 hu;obtain⟨m,hm⟩:∃m,m=us.length:=⟨_,rfl⟩;rw[<-hm] at a1 a9 b0;have c0:=ac h0 (j:=0) (u:=.slice (some ⟨pb,0,none⟩) (m+1) q) (by rw[hm];rfl);have k0:=a1 0 _ rfl;have k1:=a1 1 _ rfl;have k2:=a1 2 _ rfl;have k3:=a1 3 _ rfl;have k4:=a1 4 _ rfl;rw[ho] at k0;rw[j0] at k4;simp only[Bool.false_eq_true,if_false,if_true] at k0;rw[Nat.add_zero] at k0;simp only[Option.isSome_none] at k4;have e0:=ac d3.out (j:=0) (u:=.int .i64 lv) rfl;have e1:=ac d3.out (j:=1) (u:=.int .i64 5) rfl;have s1:IntKind.i64.wrap (m:Int)= (m:Int):=IntWalk.i64_in _ (by omega);have e5:(((m+1:Nat):Int)==0)=false:=by simp only[beq_eq_false_iff_ne];omega
 have b1:lv= (m:Int)+1:=by omega
 have d9:(m:Int)< (m:Int)+1:=by omega
 have c2:(((m:Int)+1)==0)=false:=by simp only[beq_eq_false_iff_ne];omega
 have HA:=Qa h1;have Hm:=Qa hm;have m0:=Qa f0;have f2:=Qa (And.intro e3 (And.intro a4 (And.intro g8 (And.intro b3 a2))));have c3:=Qa c9;have HB:=Qa hB;have l2:=Qa f8;have i4:=Qa d4;have l0:=Qa hi;have l1:=Qa f4;have e2:(lv== (m:Int)+1)=true:=by rw[b1];simp
 have b4:(lv != (m:Int)+1)=false:=by rw[b1];simp
 have C0:=Qa c0;have K0:=Qa k0;have K1:=Qa k1;have K2:=Qa k2;have K3:=Qa k3;have K4:=Qa k4;have E0:=Qa e0;have E1:=Qa e1;have Hq:=Qa (And.intro b0 a9);clear h h1 h0 h2 h3 h4 h5 h6 h7 e3 a4 g8 b3 a2 i3 f1 a1 e4 a5 i8 f0 hm k5 b1 c9 hB a9 b0 f8 d4 hi f4 k0 k1 k2 k3 k4 e0 e1 hl;go_enter Tryz.func143,Tryz.ntmps143;go_wp2_with fail
 try rw[d5]
 clear c0;refine bF (fun w2=>w2.cell? ⟨xb,0,none⟩=some (.slice (some ⟨pb,0,none⟩) (m+1) q)/\w2.cell? ⟨pb,m*5,none⟩=some (.int .i64 5)/\w2.cell? ⟨pb,m*5+4,none⟩=some (.bool false)/\w2.cell? ⟨w.heap.size,0,none⟩=some (.int .i64 lv)/\w2.cell? ⟨w.heap.size,1,none⟩=some (.int .i64 5)) (⟨C0.out,K0.out,K4.out,E0.out,E1.out⟩) fun a0=>?_
 refine tH 0 a0 ?_;refine tH 1 a0 ?_;refine tH 2 a0 ?_;refine tH 3 a0 ?_;refine tH 4 a0 ?_;refine tH 5 a0 ?_
 try simp only[Act.put,jP,jQ,jR]
 refine tH 6 a0 ?_;refine tH 7 a0 ?_;refine tH 8 a0 ?_;refine tH 9 a0 ?_;refine tH 10 a0 ?_;refine tH 11 a0 ?_
 try simp only[Act.put,jP,jQ,jR]
 refine tH 12 a0 ?_;refine tH 13 a0 ?_;refine tH 14 a0 ?_;refine tH 15 a0 ?_;refine tH 16 a0 ?_;refine tH 17 a0 ?_
 try simp only[Act.put,jP,jQ,jR]
 refine tH 18 a0 ?_;refine tH 19 a0 ?_;refine tH 20 a0 ?_;refine tH 21 a0 ?_;refine tH 22 a0 ?_;refine tH 23 a0 ?_
 try simp only[Act.put,jP,jQ,jR]
 refine tH 24 a0 ?_;refine tH 25 a0 ?_;refine tH 26 a0 ?_;refine tH 27 a0 ?_;refine tH 28 a0 ?_;refine tH 29 a0 ?_
 try simp only[Act.put,jP,jQ,jR]
 refine tH 30 a0 ?_;refine tH 31 a0 ?_;refine tH 32 a0 ?_
 try simp only[Act.put,jP,jQ,jR]
 refine wpAnyH_done (by kernel_rfl) (NoPanic.normal ?_) _;obtain⟨wr,d6⟩:∃wr,w1.drew=wr:=⟨_,rfl⟩;have a3:Below w1.heap.size w1 wr:=by rw[<-d6];exact(Ze _ _).drew
 rw[d6];clear a0 d6 d5;have r0:=Zg a3 C0.out;have r1:=Zg a3 K0.out;have r2:=Zg a3 K1.out;have r3:=Zg a3 K2.out;have r4:=Zg a3 K3.out;have r5:=Zg a3 K4.out;have k9:(m:Int)<=q:=by have:=Hq.out.1;omega
 have d1:=aa wr (.cells #[.int .i64 5,.slice Ai xs.length qi,.slice none 0 0,.string s0,.bool false] 246);have c4:=Qa ((HA.out.below a3).below d1);have b9:=Qa (Zf wr (.cells #[.int .i64 5,.slice Ai xs.length qi,.slice none 0 0,.string s0,.bool false] 246));have c5:=Qa d1;have c7:=Qa a3;have fx:=al c4.out.row 0;have cx:=ac c4.out.row (j:=0) (u:=.slice (some ⟨pb,0,none⟩) (m+1) q) (by rw[Hm.out];rfl);have bx0:=ac b9.out (j:=0) rfl;have k8:xb≠wr.heap.size:=fun e=>by have:=ak (HA.out.below a3).row;omega
 clear a3 d1;go_wp2_with fail;obtain⟨wA,e6⟩:∃wA,wr.alloc (.cells #[.int .i64 5,.slice Ai xs.length qi,.slice none 0 0,.string s0,.bool false] 246)=wA:=⟨_,rfl⟩;rw[e6];rw[e6] at c4 c5 b9;clear cx fx bx0 k8 e6 r0 r1 r2 r3 r4 r5 s1 e5 d9 c2 e2 b4 k9;obtain rfl:=Hm.out;have g7:B<=wA.heap.size:=by have:=c5.out.size;have:=c7.out.size;have:=c3.out.size;have:=HB.out;omega
 obtain⟨p1,p2,p3,p4⟩:=wY c4.out g7;obtain⟨w5,g0⟩:∃w5,wA.setCell ⟨xb,0,none⟩ (.slice (some ⟨pb,0,none⟩) us.length q)=w5:=⟨_,rfl⟩;rw[g0] at p1 p2 p4 ⊢;have c8:Kp (fun e=>e=200) w1 w5:=((Kp.of_below _ c7.out).trans (Kp.of_below _ c5.out)).trans p2;have h8:Mv [] w1 w5:=Mv.of_kp c8 fun e he=>by rcases he with rfl|rfl|rfl|rfl <;> decide
 have h9:Below B w w5:=((c3.out.mono HB.out).trans ((c7.out.mono (Zc HB.out c3.out.size)).trans (c5.out.mono (by have:=c7.out.size;have:=c3.out.size;have:=HB.out;omega)))).trans p1;have P3:=Qa p3;have P4:=Qa p4;have k6:=Qa ((Kp.of_below TB c3.out).trans (c8.imp fun e he=>.inr (.inl he)));have i9:=Qa h8;have i5:=Qa h9;have d0:=Qa (show B<=w5.heap.size from Zc g7 p2.1);obtain⟨g1,g2,g3,g4,g5⟩:=f2.out;have f6:Sl w5 (.slice Ai xs.length qi) xs:=Sl.of_own (aw g1 c8.keeps (by decide));have k7:xs.length=f.items.length:=g2.1;have c1:=Qa (lj f6 (fun v hv=>by
  obtain⟨i,hi,rfl⟩:=List.getElem_of_mem hv;exact(g2.2 i _ (f.items[i]'(by omega)) (Zd hi) (Zd _)).iface) (by have:=l0.out;omega))
 clear f6 k7;clear p1 p2 p3 p4 c8 h8 h9 g0 g1 g2 g3 g4 g5;refine Za c1 ?_;rintro e w6 ⟨g,A6,c6,rfl,b2,g6,a1,b5⟩;have d2:=b2;have f5:=P4.out.below b2;have b8:Mv [] w1 w6:=i9.out.trans (Mv.of_below b2);have f3:VW (Pb B (us.flatMap bM)) w6 (.iface 104 (.pointer (some ⟨g,0,none⟩))) (cK f):=by
  have hlt:=P4.out.lt;have hQ:Pb B (us.flatMap bM) g:=⟨Zc d0.out g6,fun hb=>by have:=hlt g hb;omega⟩;obtain⟨g1,g2,g3,g4,g5⟩:=f2.out;rw[show cK f=cJ f.items from if_neg (by rw[ho];decide)];exact wP a1 (b5.fresh d0.out hlt) hQ (g2.mono fun _ _ h=>h.move b8 (by simp) fun x hx=>.inl (P3.out x hx))
 have i2:=Qa (qm f5 i4.out f3 (Zc d0.out b2.size));have f9:=Qa b2;clear d2 b2 f5 b8 f3 b5 a1 g6 c1;go_wp2_with fail;refine Za i2 ?_;rintro e w7 ⟨rfl,h1,h2,h3⟩;have R:=Qa (And.intro h1 (And.intro h2 h3));clear h1 h2 h3;go_wp2_with fail;(try simp only[Exit.inBlock,Exit.then]);refine Zh (results_none rfl ..) rfl ?_;exact⟨rfl,(i5.out.trans (f9.out.mono d0.out)).trans R.out.1,(k6.out.trans (Kp.of_below TB f9.out)).trans R.out.2.1,R.out.2.2⟩
theorem zm {bs:List Nat}(l0:lv= (fs.length+1:Nat))(h:d8 B w xb (f::fs) none bs)(ho:f.obj=true)(k9:f.name=none)(g0:f.ok dd)(hi:f.items.length<=4294967296)(f6:f.mems.length<=4294967296)(d4:jy fs)(hB:B<=w.heap.size):Calls Tryz.prog 143 #[.pointer (some ⟨xb,0,none⟩),.agg #[.int .i64 lv,.int .i64 6]] w fun e w'=>lF B xb (bD fs (cK f)) w e w':=by
 have hl:=d4.1;have c9:=aa w (.cells #[.int .i64 lv,.int .i64 6] 251);have f9:=h.below c9;have d3:=Qa (Zf w (.cells #[.int .i64 lv,.int .i64 6] 251));obtain⟨w1,d5⟩:∃w1,w.alloc (.cells #[.int .i64 lv,.int .i64 6] 251)=w1:=⟨_,rfl⟩;rw[d5] at c9 f9 d3;obtain⟨pv,dv,us,h1⟩:=f9;obtain⟨i0,h2,h3,h4,h5,h6,h7⟩:=id h1
 cases us with
 |nil=>have:=h4.1;simp at this
 |cons u us=>
 have f1:us.length=fs.length:=by have:=h4.1;simpa using this
 have a5:∀x∈u::us,x.length=5:=fun x hx=>by
  obtain⟨i,hi,rfl⟩:=List.getElem_of_mem hx;exact(h4.2 i _ ((f::fs)[i]'(by have:=h4.1;omega)) (Zd hi) (Zd _)).len
 rw[List.length_cons,<-f1] at h3;obtain⟨pb,q,m1,hT⟩:=dE h3 a5;obtain⟨i5,a0,e4,a9,b0⟩:=hT;obtain⟨iv,mv,s0,xs,L,hu,k6,h8,a4,e6,b4,a2,f5,i8⟩:=h4.2 0 u f rfl rfl;obtain rfl:=f5 ho;obtain⟨Ai,qi,rfl,-⟩:=ag e6;subst i5 hu;obtain⟨m,hm⟩:∃m,m=us.length:=⟨_,rfl⟩;rw[<-hm] at a0 a9 b0;have c0:=ac i0 (j:=0) (u:=.slice (some ⟨pb,0,none⟩) (m+1) q) (by rw[hm];rfl);have k0:=a0 0 _ rfl;have k1:=a0 1 _ rfl;have k2:=a0 2 _ rfl;have k3:=a0 3 _ rfl;have k4:=a0 4 _ rfl;rw[ho] at k0;rw[k9] at k4;simp only[Bool.false_eq_true,if_false,if_true] at k0;rw[Nat.add_zero] at k0;simp only[Option.isSome_none] at k4;have e0:=ac d3.out (j:=0) (u:=.int .i64 lv) rfl;have e1:=ac d3.out (j:=1) (u:=.int .i64 6) rfl;have s1:IntKind.i64.wrap (m:Int)= (m:Int):=IntWalk.i64_in _ (by omega);have e5:(((m+1:Nat):Int)==0)=false:=by simp only[beq_eq_false_iff_ne];omega
 have b1:lv= (m:Int)+1:=by omega
 have d9:(m:Int)< (m:Int)+1:=by omega
 have c2:(((m:Int)+1)==0)=false:=by simp only[beq_eq_false_iff_ne];omega
 have HA:=Qa h1;have Hm:=Qa hm;have m2:=Qa f1;have f3:=Qa (And.intro h8 (And.intro a4 (And.intro e6 (And.intro b4 a2))));have c3:=Qa c9;have HB:=Qa hB;have g8:=Qa g0;have j0:=Qa d4;have m3:=Qa hi;have k7:=Qa f6;have e3:(lv== (m:Int)+1)=true:=by rw[b1];simp
 have b5:(lv != (m:Int)+1)=false:=by rw[b1];simp
 have C0:=Qa c0;have K0:=Qa k0;have K1:=Qa k1;have K2:=Qa k2;have K3:=Qa k3;have K4:=Qa k4;have E0:=Qa e0;have E1:=Qa e1;have Hq:=Qa (And.intro b0 a9);clear h h1 i0 h2 h3 h4 h5 h6 h7 h8 a4 e6 b4 a2 f5 i8 a0 e4 a5 k6 f1 hm l0 b1 c9 hB a9 b0 g0 d4 hi f6 k0 k1 k2 k3 k4 e0 e1 hl;go_enter Tryz.func143,Tryz.ntmps143;go_wp2_with fail
 try rw[d5]
 clear c0;refine bF (fun w2=>w2.cell? ⟨xb,0,none⟩=some (.slice (some ⟨pb,0,none⟩) (m+1) q)/\w2.cell? ⟨pb,m*5,none⟩=some (.int .i64 6)/\w2.cell? ⟨pb,m*5+4,none⟩=some (.bool false)/\w2.cell? ⟨w.heap.size,0,none⟩=some (.int .i64 lv)/\w2.cell? ⟨w.heap.size,1,none⟩=some (.int .i64 6)) (⟨C0.out,K0.out,K4.out,E0.out,E1.out⟩) fun a1=>?_
 refine tH 0 a1 ?_;refine tH 1 a1 ?_;refine tH 2 a1 ?_;refine tH 3 a1 ?_;refine tH 4 a1 ?_;refine tH 5 a1 ?_
 try simp only[Act.put,jP,jQ,jR]
 refine tH 6 a1 ?_;refine tH 7 a1 ?_;refine tH 8 a1 ?_;refine tH 9 a1 ?_;refine tH 10 a1 ?_;refine tH 11 a1 ?_
 try simp only[Act.put,jP,jQ,jR]
 refine tH 12 a1 ?_;refine tH 13 a1 ?_;refine tH 14 a1 ?_;refine tH 15 a1 ?_;refine tH 16 a1 ?_;refine tH 17 a1 ?_
 try simp only[Act.put,jP,jQ,jR]
 refine tH 18 a1 ?_;refine tH 19 a1 ?_;refine tH 20 a1 ?_;refine tH 21 a1 ?_;refine tH 22 a1 ?_;refine tH 23 a1 ?_
 try simp only[Act.put,jP,jQ,jR]
 refine tH 24 a1 ?_;refine tH 25 a1 ?_;refine tH 26 a1 ?_;refine tH 27 a1 ?_;refine tH 28 a1 ?_;refine tH 29 a1 ?_
 try simp only[Act.put,jP,jQ,jR]
 refine tH 30 a1 ?_;refine tH 31 a1 ?_;refine tH 32 a1 ?_
 try simp only[Act.put,jP,jQ,jR]
 refine wpAnyH_done (by kernel_rfl) (NoPanic.normal ?_) _;obtain⟨wr,d6⟩:∃wr,w1.drew=wr:=⟨_,rfl⟩;have a3:Below w1.heap.size w1 wr:=by rw[<-d6];exact(Ze _ _).drew
 rw[d6];clear a1 d6 d5;have r0:=Zg a3 C0.out;have r1:=Zg a3 K0.out;have r2:=Zg a3 K1.out;have r3:=Zg a3 K2.out;have r4:=Zg a3 K3.out;have r5:=Zg a3 K4.out;have m0:(m:Int)<=q:=by have:=Hq.out.1;omega
 have d1:=aa wr (.cells #[.int .i64 6,.slice none 0 0,.slice Ai L.length qi,.string s0,.bool false] 246);have c4:=Qa ((HA.out.below a3).below d1);have b9:=Qa (Zf wr (.cells #[.int .i64 6,.slice none 0 0,.slice Ai L.length qi,.string s0,.bool false] 246));have c5:=Qa d1;have c7:=Qa a3;have fx:=al c4.out.row 0;have cx:=ac c4.out.row (j:=0) (u:=.slice (some ⟨pb,0,none⟩) (m+1) q) (by rw[Hm.out];rfl);have bx0:=ac b9.out (j:=0) rfl;have l3:xb≠wr.heap.size:=fun e=>by have:=ak (HA.out.below a3).row;omega
 clear a3 d1;go_wp2_with fail;obtain⟨wA,f0⟩:∃wA,wr.alloc (.cells #[.int .i64 6,.slice none 0 0,.slice Ai L.length qi,.string s0,.bool false] 246)=wA:=⟨_,rfl⟩;rw[f0];rw[f0] at c4 c5 b9;clear cx fx bx0 l3 f0 r0 r1 r2 r3 r4 r5 s1 e5 d9 c2 e3 b5 m0;obtain rfl:=Hm.out;have h9:B<=wA.heap.size:=by have:=c5.out.size;have:=c7.out.size;have:=c3.out.size;have:=HB.out;omega
 obtain⟨p1,p2,p3,p4⟩:=wY c4.out h9;obtain⟨w5,g7⟩:∃w5,wA.setCell ⟨xb,0,none⟩ (.slice (some ⟨pb,0,none⟩) us.length q)=w5:=⟨_,rfl⟩;rw[g7] at p1 p2 p4 ⊢;have c8:Kp (fun e=>e=200) w1 w5:=((Kp.of_below _ c7.out).trans (Kp.of_below _ c5.out)).trans p2;have i3:Mv [] w1 w5:=Mv.of_kp c8 fun e he=>by rcases he with rfl|rfl|rfl|rfl <;> decide
 have i4:Below B w w5:=((c3.out.mono HB.out).trans ((c7.out.mono (Zc HB.out c3.out.size)).trans (c5.out.mono (by have:=c7.out.size;have:=c3.out.size;have:=HB.out;omega)))).trans p1;have P3:=Qa p3;have P4:=Qa p4;have l1:=Qa ((Kp.of_below TB c3.out).trans (c8.imp fun e he=>.inr (.inl he)));have k8:=Qa i3;have k5:=Qa i4;have d0:=Qa (show B<=w5.heap.size from Zc h9 p2.1);obtain⟨g1,g2,g3,g4,g5⟩:=f3.out;have f8:yz 2 w5 (.slice Ai L.length qi) L.length (gn L):=yz.of_own (aw g3 c8.keeps (by decide));have i2:L.length=f.mems.length:=by have:=congrArg List.length g4;simpa using this
 have c1:=Qa (iM f8 (fun p hp=>by
  obtain⟨i,hi,rfl⟩:=List.getElem_of_mem hp;refine⟨?_,?_⟩
  ·have e:=congrArg (·[i]?) g4;simp only[List.getElem?_map,Zd hi,Zd (show i<f.mems.length by omega),Option.map_some] at e;rw[Zi e];exact g8.out.names _ (List.getElem_mem _)
  ·exact(g5.2 i _ ((f.mems.map Prod.snd)[i]'(by simp;omega)) (by rw[List.getElem?_map,Zd hi];rfl) (Zd _)).iface) (by rw[g4];exact g8.out.nodup) (by have:=k7.out;omega))
 have m4:=Qa i2;clear f8 i2;clear p1 p2 p3 p4 c8 i3 i4 g7 g1 g2 g3 g4 g5;refine Za c1 ?_;rintro e w6 ⟨g,A6,c6,S,rfl,b3,h0,a0,b2,e2,f2⟩;have d2:=b3;have f7:=P4.out.below b3;have b8:Mv [] w1 w6:=k8.out.trans (Mv.of_below b3);have f4:VW (Pb B (us.flatMap bM)) w6 (.iface 95 (.pointer (some ⟨g,0,none⟩))) (cK f):=by
  have hlt:=P4.out.lt;have hQ:Pb B (us.flatMap bM) g:=⟨Zc d0.out h0,fun hb=>by have:=hlt g hb;omega⟩;obtain⟨g1,g2,g3,g4,g5⟩:=f3.out;rw[show cK f=fV (cW f.mems) from if_pos ho];have l2:S.length=L.length:=e2.length_eq;rw[<-l2] at a0 b2;exact Cb a0 (b2.fresh d0.out hlt) hQ e2 f2 g4 (g5.mono fun _ _ h=>h.move b8 (by simp) fun x hx=>.inl (P3.out x hx))
 have i9:=Qa (qm f7 j0.out f4 (Zc d0.out b3.size));have g6:=Qa b3;clear d2 b3 f7 b8 f4 b2 a0 h0 c1 e2 f2;go_wp2_with fail;refine Za i9 ?_;rintro e w7 ⟨rfl,h1,h2,h3⟩;have R:=Qa (And.intro h1 (And.intro h2 h3));clear h1 h2 h3;go_wp2_with fail;go_end0;exact⟨rfl,(k5.out.trans (g6.out.mono d0.out)).trans R.out.1,(l1.out.trans (Kp.of_below TB g6.out)).trans R.out.2.1,R.out.2.2⟩
open Go.Maps
def df (w:World)(b:Nat)(names:List ByteArray)(n:Nat):Prop:= ∃D:DataW Unit,w.ownsMap Tryz.prog 9 (plainElem Tryz.prog 4) b n D/\∀s:ByteArray,s.size<=maxLen->D.atKey (.string s.data.toList) (.lit (.bool false)) =.lit (.bool (names.any fun t=>decide (t=s)))
theorem Dn:Keyed Tryz.prog 9:=string_keyed Tryz.underlying9
theorem IP (w:World):(zeroValue 4).run Tryz.prog w =.ok (.bool false) w:=by kernel_rfl
theorem df.made (w:World):df (w.alloc (.map #[] 0)) w.heap.size [] 0:=
 ⟨.map [],World.ownsMap_made _ _ _ _,fun s _=>by simp[DataW.atKey]⟩
theorem yZ {d:DataW Unit}{ps:List MemPlace}(h:plainElem (H:=Unit) Tryz.prog 4 v=some (d,ps)):∃x,v =.bool x/\d =.lit (.bool x):=by
 unfold plainElem at h;rw[Tryz.underlying4] at h
 cases v with
 |bool x=>simp at h;exact⟨x,rfl,h.1.symm⟩
 |_=>simp at h
theorem df.look {b:Nat}{names:List ByteArray}(h:df w b names n){s:ByteArray}(hs:s.size<=maxLen):(Instr.lookup 308 (.map (some b)) (.string s) false).run Tryz.prog w =.ok (.bool (names.any (fun t=>decide (t=s)))) w:=by
 obtain⟨D,h1,h2⟩:=h;obtain⟨v,ps,a0,hv⟩:=h1.lookup Dn Tryz.underlying308 (IP w) (show plainElem (H:=Unit) Tryz.prog 4 (.bool false)=some (.lit (.bool false), []) from plainElem_bool Tryz.underlying4 false) (WideMaps.keyOf_string_mk Tryz.underlying9 hs);obtain⟨x,rfl,hx⟩:=yZ hv;rw[h2 s hs] at hx;injection hx with hx
 injection hx with hx
 rw[a0,hx]
theorem df.grown {b:Nat}{names:List ByteArray}{row:Option Nat}(h:df w b names n)(hg:w.grownBy w' row)(hb:some b≠row):df w' b names n:=by
 obtain⟨D,h1,h2⟩:=h;exact⟨D,h1.kept hg hb,h2⟩
theorem df.kp {b:Nat}{names:List ByteArray}(h:df w b names n)(hk:Kp T w w'):df w' b names n:=by
 obtain⟨D,⟨es,clock,hh,r⟩,h2⟩:=h;exact⟨D,⟨es,clock,hk.2 b _ hh (fun _ _ _ e=>by cases e),r⟩,h2⟩
theorem df.lt {b:Nat}{names:List ByteArray}(h:df w b names n):b<w.heap.size:=by
 obtain⟨D,h1,-⟩:=h;exact h1.lt
theorem rC {ops:Array Oper}{rest:List Oper}{o:Oper}{a:Act}{Q:Exit->Act->World->Prop}{b:Nat}{names:List ByteArray}{s:ByteArray}(h:df w b names n)(hs:s.size<=maxLen)(hn:n<maxLen)(hg:o.guard=none)(m x v:Operand)(a3:o.op=Op.mapUpdate 308 m x v)
  (hm:a.eval m =.map (some b)) (hx:a.eval x =.string s) (hv:a.eval v =.bool true)
  (hK:∀w',df w' b (s::names) (n+1)->w.mapTurned w' b->wpList Tryz.prog ops Q rest (a.put o.dst undef) w'):wpList Tryz.prog ops Q (o::rest) a w:=by
 obtain⟨D,h1,h2⟩:=h;have a1:=h1.isMap;refine wpList_plain hg fun K' a2=>?_
 obtain⟨w',a0,r1,r2⟩:=h1.store Dn Tryz.underlying308 hn (WideMaps.keyOf_string_mk Tryz.underlying9 hs) (show plainElem (H:=Unit) Tryz.prog 4 (.bool true)=some (.lit (.bool true), []) from plainElem_bool Tryz.underlying4 true);unfold Oper.wp;simp[execOp,a3,hm,hx,hv,a0,Result.andThen];refine a2 _ _ (hK w' ⟨_,r1,fun t ht=>?_⟩ r2)
 by_cases e:t=s
 ·subst e;rw[atKey_put_same a1 (by exact trivial:WideAt.IsKeyLit (.string t.data.toList)) _ _];simp
 ·have hne:Lit.string t.data.toList≠Lit.string s.data.toList:=fun h=>by
   injection h with h
   cases s;cases t;simp only[Array.toList_inj] at h;exact e (by rw[h])
  rw[atKey_put_other hne,h2 t ht];rw[List.any_cons];have e2:decide (s=t)=false:=decide_eq_false fun h=>e h.symm
  rw[e2,Bool.false_or]
def cX:Value:=.agg #[.int .i64 1073741824,.int .i64 1073741824,.int .i64 1073741824,.int .i64 1073741824,.int .i64 1073741824,.int .i64 4611686018427387903]
theorem kJ (w:World):Calls Tryz.prog 163 #[cX] w fun e w'=>e =.returned cX/\Below w.heap.size w w':=by
 unfold cX;have hb:=Qa (aj (aa w (.cells #[.int .i64 1073741824,.int .i64 1073741824,.int .i64 1073741824,.int .i64 1073741824,.int .i64 1073741824,.int .i64 4611686018427387903] 155)) (aa _ (.cells #[.int .i64 1073741824,.int .i64 1073741824,.int .i64 1073741824,.int .i64 1073741824,.int .i64 1073741824,.int .i64 4611686018427387903] 278)));go_enter Tryz.func163,Tryz.ntmps163;go_wp2_with fail;have Hb:=hb.out;generalize hwa:(w.alloc (.cells #[.int .i64 1073741824,.int .i64 1073741824,.int .i64 1073741824,.int .i64 1073741824,.int .i64 1073741824,.int .i64 4611686018427387903] 155))=wa at *;have a0:w.heap.size+1=wa.heap.size:=by rw[<-hwa];simp
 rw[a0];have hn:=Zf wa (.cells #[.int .i64 1073741824,.int .i64 1073741824,.int .i64 1073741824,.int .i64 1073741824,.int .i64 1073741824,.int .i64 4611686018427387903] 278);have n0:=ac hn (j:=0) rfl;have n1:=ac hn (j:=1) rfl;have n2:=ac hn (j:=2) rfl;have n3:=ac hn (j:=3) rfl;have n4:=ac hn (j:=4) rfl;have n5:=ac hn (j:=5) rfl;refine Zh (v:=.agg #[.int .i64 1073741824,.int .i64 1073741824,.int .i64 1073741824,.int .i64 1073741824,.int .i64 1073741824,.int .i64 4611686018427387903]) ?_ rfl ⟨rfl,Hb⟩;simp[results,Tryz.results163,go_sem,n0,n1,n2,n3,n4,n5]
theorem FQ (a b c d e f:Value)(W:World):(Instr.index 278 (.agg #[a,b,c,d,e,f]) (.int .i64 0)).run Tryz.prog W =.ok a W:=by kernel_rfl
theorem FT (a b c d e f:Value)(W:World):(Instr.index 278 (.agg #[a,b,c,d,e,f]) (.int .i64 1)).run Tryz.prog W =.ok b W:=by kernel_rfl
theorem FR (a b c d e f:Value)(W:World):(Instr.index 278 (.agg #[a,b,c,d,e,f]) (.int .i64 2)).run Tryz.prog W =.ok c W:=by kernel_rfl
theorem FZ (a b c d e f:Value)(W:World):(Instr.index 278 (.agg #[a,b,c,d,e,f]) (.int .i64 3)).run Tryz.prog W =.ok d W:=by kernel_rfl
theorem Gc (a b c d e f:Value)(W:World):(Instr.index 278 (.agg #[a,b,c,d,e,f]) (.int .i64 4)).run Tryz.prog W =.ok e W:=by kernel_rfl
theorem F9 (a b c d e f:Value)(W:World):(Instr.index 278 (.agg #[a,b,c,d,e,f]) (.int .i64 5)).run Tryz.prog W =.ok f W:=by kernel_rfl
theorem uB {m:Int}(hm:m=1\/m=2\/m=3\/m=5)(w:World):Calls Tryz.prog 164 #[cX,.int .i64 m] w fun e w'=>e =.returned (.tuple #[.int .i64 1073741824,.bool true])/\Below w.heap.size w w':=by
 have a0:=aa w (.cells #[.int .i64 1073741824,.int .i64 1073741824,.int .i64 1073741824,.int .i64 1073741824,.int .i64 1073741824,.int .i64 4611686018427387903] 155);have H:=Qa (fun w=>kJ w);unfold cX at *;have x0:=FQ;have x1:=FT;have x2:=FR;have x3:=FZ;have x4:=Gc;have x5:=F9;have a1:=Qa a0;clear a0;rcases hm with rfl|rfl|rfl|rfl
 all_goals
  go_enter Tryz.func164,Tryz.ntmps164;go_wp2_with fail;refine(H.out _).mono ?_;rintro e w1 ⟨rfl,hb⟩;have Hb:=Qa hb;clear hb;go_wp2_with fail;go_ret2;exact⟨rfl,aj a1.out Hb.out⟩
theorem mW {m x:Int}(hm:m=1\/m=2\/m=3\/m=5)(hx:x<=1073741824)(w:World):Calls Tryz.prog 136 #[cX,.int .i64 m,.int .i64 x] w fun e w'=>e =.returned .nilIface/\Below w.heap.size w w':=by
 have a0:=aa w (.cells #[.int .i64 1073741824,.int .i64 1073741824,.int .i64 1073741824,.int .i64 1073741824,.int .i64 1073741824,.int .i64 4611686018427387903] 155);have H:=Qa (fun w=>uB hm w);unfold cX at *;have a1:=Qa a0;clear a0 hm;go_enter Tryz.func136,Tryz.ntmps136;go_wp2_with fail;refine(H.out _).mono ?_;rintro e w1 ⟨rfl,hb⟩;have Hb:=Qa hb;clear hb;go_wp2_with fail;go_ret;exact⟨rfl,aj a1.out Hb.out⟩
theorem ni (w:World):Calls Tryz.prog 135 #[cX] w fun e w'=>e =.returned .nilIface/\Below w.heap.size w w':=by
 have a0:=aa w (.cells #[.int .i64 1073741824,.int .i64 1073741824,.int .i64 1073741824,.int .i64 1073741824,.int .i64 1073741824,.int .i64 4611686018427387903] 155);have H:=Qa (fun w=>kJ w);unfold cX at *;have x0:=FQ;have x1:=FT;have x2:=FR;have x3:=FZ;have x4:=Gc;have x5:=F9;have a1:=Qa a0;clear a0;go_enter Tryz.func135,Tryz.ntmps135;go_wp2_with fail;refine(H.out _).mono ?_;rintro e w1 ⟨rfl,hb⟩;have Hb:=Qa hb;clear hb;go_wp2_with fail
 go_loopg [8] 6 (fun k s8 wr=> ∃i:Nat,k+i=6/\s8 =.int .i64 i/\wr=w1)
 case atStart=>exact⟨0,rfl,rfl,rfl⟩
 case round=>
  obtain⟨i,hk,rfl,rfl⟩:=hrel;have hi:i=0\/i=1\/i=2\/i=3\/i=4\/i=5\/i=6:=by omega
  rcases hi with rfl|rfl|rfl|rfl|rfl|rfl|rfl
  ·go_wp2_with fail;go_roundg 5
   case measure=>omega
   case rel=>exact⟨1,rfl,rfl,rfl⟩
  ·go_wp2_with fail;go_roundg 4
   case measure=>omega
   case rel=>exact⟨2,rfl,rfl,rfl⟩
  ·go_wp2_with fail;go_roundg 3
   case measure=>omega
   case rel=>exact⟨3,rfl,rfl,rfl⟩
  ·go_wp2_with fail;go_roundg 2
   case measure=>omega
   case rel=>exact⟨4,rfl,rfl,rfl⟩
  ·go_wp2_with fail;go_roundg 1
   case measure=>omega
   case rel=>exact⟨5,rfl,rfl,rfl⟩
  ·go_wp2_with fail;go_roundg 0
   case measure=>omega
   case rel=>exact⟨6,rfl,rfl,rfl⟩
  ·go_wp2_with fail;go_ret;exact⟨rfl,aj a1.out Hb.out⟩
def bI (lb xb:Nat)(by_ dp nd ex:Int)(ov nv:Value)(want:Int)(fin:Bool):Array Value:=
 #[.pointer (some ⟨lb, 0, none⟩), .int .i64 1073741824, .int .i64 1073741824, .int .i64 1073741824, .int .i64 1073741824, .int .i64 1073741824, .int .i64 4611686018427387903, .int .i64 by_, .int .i64 dp, .int .i64 nd, .int .i64 ex,
  .func (.func 114) #[.pointer (some ⟨xb,0,none⟩)] #[],ov,nv,.int .i64 want,.bool fin]
def fD (f:Fr):Value:=.int .i64 (if f.obj then 6 else 5)
def t7 (b:Nat):Value:=.map (some b)
def fJ (f:Fr):List ByteArray:=f.name.toList++f.mems.map Prod.fst
def iL (B:Nat)(w:World)(b:Nat)(f:Fr):Prop:=B<=b/\∃l n,df w b l n/\n<=f.mems.length+f.name.toList.length/\∀s,s∈l↔s∈fJ f
structure fW (B:Nat) (w:World) (rb lb xb:Nat) (v:Value) (xs:List UInt8) (frs:List Fr) (want k:Nat) (nd:Nat) (fin:Bool) (by_ dp ex:Int) (ov nv:Value) (maps:List Nat):Prop where
 row:w.heap[rb]?=some (.cells (bI lb xb by_ dp nd ex ov nv want fin) 238 (0,0))
 low:B<=rb
 lex:kE w lb v xs k
 llow:B<=lb
 own:aq w B v xs
 opens:w.ownsRow B 3 1 ov frs.length (frs.reverse.map fD)
 names:w.ownsRow B 308 1 nv maps.length (maps.reverse.map t7)
 seen:ch (iL B w) maps (frs.filter (·.obj))
 nodup:maps.Nodup
 le:k<=xs.length
def js (e:TypeId):Prop:=e=238\/e=285\/e=3\/e=308
def gK (B:Nat)(w:World)(rb lb xb:Nat)(v:Value)(xs:List UInt8)(frs:List Fr)(want k nd:Nat)(fin:Bool):Prop:= ∃by_ dp ex ov nv maps,fW B w rb lb xb v xs frs want k nd fin by_ dp ex ov nv maps
section
variable {B rb lb xb want k nd:Nat}{w w':World}{v:Value}{xs:List UInt8}{frs:List Fr}{fin:Bool}{by_ dp ex:Int}{ov nv:Value}{maps:List Nat}
theorem fW.s (h:fW B w rb lb xb v xs frs want k nd fin by_ dp ex ov nv maps):gK B w rb lb xb v xs frs want k nd fin:=⟨_,_,_,_,_,_,h⟩
theorem fW.kp (h:fW B w rb lb xb v xs frs want k nd fin by_ dp ex ov nv maps)(hk:Kp T w w')(hT:∀e,js e->¬T e)(h8:¬T 5):fW B w' rb lb xb v xs frs want k nd fin by_ dp ex ov nv maps:=by
 obtain⟨h1,h2,h3,h4,h5,h6,h7,a2,h9,a1⟩:=h;have a0:aq w' B v xs:=aw h5 hk.keeps h8;refine⟨hk.heap h1 (hT _ (.inl rfl)),h2,⟨hk.heap h3.1 (hT _ (.inr (.inl rfl))),aq.bs a0⟩,h4,a0,aw h6 hk.keeps (hT _ (.inr (.inr (.inl rfl)))),aw h7 hk.keeps (hT _ (.inr (.inr (.inr rfl)))),a2.mono fun a b h=>?_,h9,a1⟩;obtain⟨q1,l,n,q2,q3,q4⟩:=h;exact⟨q1,l,n,q2.kp hk,q3,q4⟩
theorem fW.below (h:fW B w rb lb xb v xs frs want k nd fin by_ dp ex ov nv maps)(hb:Below w.heap.size w w'):fW B w' rb lb xb v xs frs want k nd fin by_ dp ex ov nv maps:=h.kp (T:=fun _=>False) (Kp.of_below _ hb) (fun _ _ h=>h) (fun h=>h)
theorem gK.kp (h:gK B w rb lb xb v xs frs want k nd fin)(hk:Kp T w w')(hT:∀e,js e->¬T e)(h8:¬T 5):gK B w' rb lb xb v xs frs want k nd fin:=by
 obtain⟨a,b,c,d,e,f,h⟩:=h;exact⟨a,b,c,d,e,f,h.kp hk hT h8⟩
theorem gK.below (h:gK B w rb lb xb v xs frs want k nd fin)(hb:Below w.heap.size w w'):gK B w' rb lb xb v xs frs want k nd fin:=by
 obtain⟨a,b,c,d,e,f,h⟩:=h;exact⟨a,b,c,d,e,f,h.below hb⟩
theorem CE:∀e,js e->¬TB e:=fun e h=>by rcases h with rfl|rfl|rfl|rfl <;> (simp only[TB,TV];decide)
theorem bE:∀e,TB e->¬js e:=fun e h h2=>CE e h2 h
theorem gK.tb (h:gK B w rb lb xb v xs frs want k nd fin)(hk:Kp TB w w'):gK B w' rb lb xb v xs frs want k nd fin:=h.kp hk CE (by simp only[TB,TV];decide)
theorem fW.setR (h:fW B w rb lb xb v xs frs want k nd fin by_ dp ex ov nv maps)(hB:B<=w.heap.size)(j:Nat)(u:Value):Below B w (w.setCell ⟨rb,j,none⟩ u)/\Kp js w (w.setCell ⟨rb,j,none⟩ u)/\(w.setCell ⟨rb,j,none⟩ u).heap[rb]?=some (.cells ((bI lb xb by_ dp nd ex ov nv want fin).setIfInBounds j u) 238 (0,0))/\∀cells',(w.setCell ⟨rb,j,none⟩ u).heap[rb]?=some (.cells cells' 238 (0,0))->
  kE (w.setCell ⟨rb,j,none⟩ u) lb v xs k/\aq (w.setCell ⟨rb,j,none⟩ u) B v xs/\(w.setCell ⟨rb,j,none⟩ u).ownsRow B 3 1 ov frs.length (frs.reverse.map fD)/\(w.setCell ⟨rb,j,none⟩ u).ownsRow B 308 1 nv maps.length (maps.reverse.map t7)/\ch (iL B (w.setCell ⟨rb,j,none⟩ u)) maps (frs.filter (·.obj)):=by
 obtain⟨h1,h2,h3,h4,h5,h6,h7,a2,h9,a3⟩:=h;have a1:=aP.set (w:=w) rb j u;have hk:Kp (fun e=>e=238) w (w.setCell ⟨rb,j,none⟩ u):=Kp.of_chg a1 fun g e _=>by subst e;exact⟨_,_,_,h1,rfl⟩
 have a0:aq (w.setCell ⟨rb,j,none⟩ u) B v xs:=aw h5 hk.keeps (by decide);refine⟨a1.below hB (fun i e=>by rw[e];exact h2),hk.imp fun e he=>.inl he,ar h1 j u,fun _ _=>⟨⟨hk.heap h3.1 (by decide),aq.bs a0⟩,a0,aw h6 hk.keeps (by decide),aw h7 hk.keeps (by decide),a2.mono fun a b h=>?_⟩⟩;obtain⟨q1,l,n,q2,q3,q4⟩:=h;exact⟨q1,l,n,q2.kp hk,q3,q4⟩
end
