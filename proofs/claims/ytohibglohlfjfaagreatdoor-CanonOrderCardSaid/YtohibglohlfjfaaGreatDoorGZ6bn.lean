import Derived.Test.YtohibglohlfjfaaGreatDoorGZ6bm
set_option linter.unusedVariables false
set_option linter.unusedSimpArgs false
set_option maxHeartbeats 64000000
set_option maxRecDepth 100000
namespace Go.Proofs.YtohibglohlfjfaaGreatDoor
open Go.RowKit
variable {f:Fr}{lv:Int}{frs fs:List Fr}{B c n xb:Nat}{A:Option Addr}{e:TypeId}{T:TypeId->Prop}{dv pv v:Value}{w w':World}
theorem AG.kp {done:Option JV}{us:List (List Value)}{bs:List Nat}(h:AG B w xb frs done pv dv us bs)(hk:Kp T w w')(hT:∀e,TB e->¬T e):AG B w' xb frs done pv dv us bs:=by
 obtain⟨h1,h2,h3,h4,h5,h6,h7⟩:=h;have hm:Mv [] w w':=Mv.of_kp hk (fun e he=>hT e (.inl he));have a0:∀g∈bs,g∈bs\/w.heap.size<=g:=fun g h=>.inl h
 exact⟨hk.heap h1 (hT _ (.inr (.inl rfl))),h2,al h3 hk.keeps (hT _ (.inr (.inr rfl))),h4.mono fun _ _ h=>h.move hm (by simp) a0 (by simp),h5,h6,h7.move hm (by simp) a0⟩
theorem AG.below {done:Option JV}{us:List (List Value)}{bs:List Nat}(h:AG B w xb frs done pv dv us bs)(hb:Below w.heap.size w w'):AG B w' xb frs done pv dv us bs:=h.kp (T:=fun _=>False) (Kp.of_below _ hb) (fun _ _ h=>h)
theorem fi.lt {done:Option JV}{bs:List Nat}(h:fi B w xb frs done bs):∀g∈bs,g<w.heap.size:=by
 obtain⟨pv,dv,us,h⟩:=h;intro g hg;rw[<-h.blocks] at hg;obtain⟨x,hx,a0⟩:=List.mem_flatMap.1 hg;obtain⟨i,hi,rfl⟩:=List.getElem_of_mem hx;have hl:=h.frames.1;obtain⟨iv,mv,s,xs,L,q1,q2,q3,q4,q5,-⟩:=h.frames.2 i us[i] (frs[i]'(by omega)) (Zd hi) (Zd _);rw[q1] at a0;rcases List.mem_append.1 a0 with a0|a0
 ·obtain⟨_,cur,hh⟩:=aj q3 (g:=g) (by simpa using a0);exact ae hh
 ·obtain⟨_,cur,hh⟩:=aj q5 (g:=g) (by simpa using a0);exact ae hh
theorem cA.fresh {bs:List Nat}{k:Nat}{xs:List Value}(h:cA (w.heap.size<= ·) w' e k A n c xs)(hB:B<=w.heap.size)(a0:∀g∈bs,g<w.heap.size):cA (Pb B bs) w' e k A n c xs:=
 h.stay fun g o hp hg _ _=>⟨⟨Zc hB hp,fun hb=>by have:=a0 g hb;omega⟩,hg⟩
theorem wh {bs:List Nat}(i5:lv= (fs.length+1:Nat))(h:fi B w xb (f::fs) none bs)(ho:f.obj=false)(i2:f.name=none)(f0:f.ok jB)(hi:f.items.length<=4294967296)(e8:f.mems.length<=4294967296)(d2:kv fs)(hB:B<=w.heap.size):Calls Tryz.prog 105 #[.pointer (some ⟨xb,0,none⟩),.agg #[.int .i64 lv,.int .i64 5]] w fun e w'=>mo B xb (cV fs (dO f)) w e w':=by
 have hl:=d2.1;have c3:=ac w (.cells #[.int .i64 lv,.int .i64 5] 218);have e6:=h.below c3;have d6:=Qa (Zf w (.cells #[.int .i64 lv,.int .i64 5] 218));obtain⟨w1,d5⟩:∃w1,w.alloc (.cells #[.int .i64 lv,.int .i64 5] 218)=w1:=⟨_,rfl⟩;rw[d5] at c3 e6 d6;obtain⟨pv,dv,us,h1⟩:=e6;obtain⟨e4,h2,h3,h4,h5,h6,h7⟩:=id h1
 cases us with
 |nil=>have:=h4.1;simp at this
 |cons u us=>
 have d9:us.length=fs.length:=by have:=h4.1;simpa using this
 have a4:∀x∈u::us,x.length=5:=fun x hx=>by
  obtain⟨i,hi,rfl⟩:=List.getElem_of_mem hx;exact(h4.2 i _ ((f::fs)[i]'(by have:=h4.1;omega)) (Zd hi) (Zd _)).len
 rw[List.length_cons,<-d9] at h3;obtain⟨pb,q,j3,hT⟩:=ek h3 a4;obtain⟨h8,a1,e3,a9,a6⟩:=hT;obtain⟨iv,mv,s0,xs,L,hu,j0,d3,a5,f8,b3,a2,i8,g6⟩:=h4.2 0 u f rfl rfl;obtain rfl:=g6 ho;obtain⟨Ai,qi,rfl,-⟩:=ag d3;subst h8 hu;obtain⟨m,hm⟩:∃m,m=us.length:=⟨_,rfl⟩;rw[<-hm] at a1 a9 a6;have c0:=aa e4 (j:=0) (u:=.slice (some ⟨pb,0,none⟩) (m+1) q) (by rw[hm];rfl);have k0:=a1 0 _ rfl;have k1:=a1 1 _ rfl;have k2:=a1 2 _ rfl;have k3:=a1 3 _ rfl;have k4:=a1 4 _ rfl;rw[ho] at k0;rw[i2] at k4;simp only[Bool.false_eq_true,if_false,if_true] at k0;rw[Nat.add_zero] at k0;simp only[Option.isSome_none] at k4;have e0:=aa d6.out (j:=0) (u:=.int .i64 lv) rfl;have e1:=aa d6.out (j:=1) (u:=.int .i64 5) rfl;have s1:IntKind.i64.wrap (m:Int)= (m:Int):=IntWalk.i64_in _ (by omega);have d4:(((m+1:Nat):Int)==0)=false:=by simp only[beq_eq_false_iff_ne];omega
 have a7:lv= (m:Int)+1:=by omega
 have e2:(m:Int)< (m:Int)+1:=by omega
 have b8:(((m:Int)+1)==0)=false:=by simp only[beq_eq_false_iff_ne];omega
 have HA:=Qa h1;have Hm:=Qa hm;have j2:=Qa d9;have f5:=Qa (And.intro d3 (And.intro a5 (And.intro f8 (And.intro b3 a2))));have b4:=Qa c3;have HB:=Qa hB;have j5:=Qa f0;have i3:=Qa d2;have i0:=Qa hi;have k5:=Qa e8;have c7:(lv== (m:Int)+1)=true:=by rw[a7];simp
 have b1:(lv != (m:Int)+1)=false:=by rw[a7];simp
 have C0:=Qa c0;have K0:=Qa k0;have K1:=Qa k1;have K2:=Qa k2;have K3:=Qa k3;have K4:=Qa k4;have E0:=Qa e0;have E1:=Qa e1;have Hq:=Qa (And.intro a6 a9);clear h h1 e4 h2 h3 h4 h5 h6 h7 d3 a5 f8 b3 a2 i8 g6 a1 e3 a4 j0 d9 hm i5 a7 c3 hB a9 a6 f0 d2 hi e8 k0 k1 k2 k3 k4 e0 e1 hl;go_enter Tryz.func105,Tryz.ntmps105;go_wp2_with fail
 try rw[d5]
 clear c0;refine aA (fun w2=>w2.cell? ⟨xb,0,none⟩=some (.slice (some ⟨pb,0,none⟩) (m+1) q)/\w2.cell? ⟨pb,m*5,none⟩=some (.int .i64 5)/\w2.cell? ⟨pb,m*5+4,none⟩=some (.bool false)/\w2.cell? ⟨w.heap.size,0,none⟩=some (.int .i64 lv)/\w2.cell? ⟨w.heap.size,1,none⟩=some (.int .i64 5)) (⟨C0.out,K0.out,K4.out,E0.out,E1.out⟩) fun a0=>?_
 refine tH 0 a0 ?_;refine tH 1 a0 ?_;refine tH 2 a0 ?_;refine tH 3 a0 ?_;refine tH 4 a0 ?_;refine tH 5 a0 ?_
 try simp only[Act.put,jP,jQ,jR]
 refine tH 6 a0 ?_;refine tH 7 a0 ?_;refine tH 8 a0 ?_;refine tH 9 a0 ?_;refine tH 10 a0 ?_;refine tH 11 a0 ?_
 try simp only[Act.put,jP,jQ,jR]
 refine tH 12 a0 ?_;refine tH 13 a0 ?_;refine tH 14 a0 ?_;refine tH 15 a0 ?_;refine tH 16 a0 ?_;refine tH 17 a0 ?_
 try simp only[Act.put,jP,jQ,jR]
 refine tH 18 a0 ?_;refine tH 19 a0 ?_;refine tH 20 a0 ?_;refine tH 21 a0 ?_;refine tH 22 a0 ?_;refine tH 23 a0 ?_
 try simp only[Act.put,jP,jQ,jR]
 refine tH 24 a0 ?_;refine tH 25 a0 ?_;refine tH 26 a0 ?_;refine tH 27 a0 ?_;refine tH 28 a0 ?_;refine tH 29 a0 ?_
 try simp only[Act.put,jP,jQ,jR]
 refine tH 30 a0 ?_;refine tH 31 a0 ?_;refine tH 32 a0 ?_
 try simp only[Act.put,jP,jQ,jR]
 refine wpAnyH_done (by kernel_rfl) (NoPanic.normal ?_) _;obtain⟨wr,d1⟩:∃wr,w1.drew=wr:=⟨_,rfl⟩;have a3:Below w1.heap.size w1 wr:=by rw[<-d1];exact(Ze _ _).drew
 rw[d1];clear a0 d1 d5;have r0:=Zg a3 C0.out;have r1:=Zg a3 K0.out;have r2:=Zg a3 K1.out;have r3:=Zg a3 K2.out;have r4:=Zg a3 K3.out;have r5:=Zg a3 K4.out;have j1:(m:Int)<=q:=by have:=Hq.out.1;omega
 have c9:=ac wr (.cells #[.int .i64 5,.slice Ai xs.length qi,.slice none 0 0,.string s0,.bool false] 213);have c2:=Qa ((HA.out.below a3).below c9);have b7:=Qa (Zf wr (.cells #[.int .i64 5,.slice Ai xs.length qi,.slice none 0 0,.string s0,.bool false] 213));have c5:=Qa c9;have c1:=Qa a3;have fx:=ak c2.out.row 0;have cx:=aa c2.out.row (j:=0) (u:=.slice (some ⟨pb,0,none⟩) (m+1) q) (by rw[Hm.out];rfl);have bx0:=aa b7.out (j:=0) rfl;have i9:xb≠wr.heap.size:=fun e=>by have:=ae (HA.out.below a3).row;omega
 clear a3 c9;go_wp2_with fail;obtain⟨wA,c8⟩:∃wA,wr.alloc (.cells #[.int .i64 5,.slice Ai xs.length qi,.slice none 0 0,.string s0,.bool false] 213)=wA:=⟨_,rfl⟩;rw[c8];rw[c8] at c2 c5 b7;clear cx fx bx0 i9 c8 r0 r1 r2 r3 r4 r5 s1 d4 e2 b8 c7 b1 j1;obtain rfl:=Hm.out;have f6:B<=wA.heap.size:=by have:=c5.out.size;have:=c1.out.size;have:=b4.out.size;have:=HB.out;omega
 obtain⟨p1,p2,p3,p4⟩:=zg c2.out f6;obtain⟨w5,e5⟩:∃w5,wA.setCell ⟨xb,0,none⟩ (.slice (some ⟨pb,0,none⟩) us.length q)=w5:=⟨_,rfl⟩;rw[e5] at p1 p2 p4 ⊢;have c4:Kp (fun e=>e=167) w1 w5:=((Kp.of_below _ c1.out).trans (Kp.of_below _ c5.out)).trans p2;have g0:Mv [] w1 w5:=Mv.of_kp c4 fun e he=>by rcases he with rfl|rfl|rfl|rfl <;> decide
 have f9:Below B w w5:=((b4.out.mono HB.out).trans ((c1.out.mono (Zc HB.out b4.out.size)).trans (c5.out.mono (by have:=c1.out.size;have:=b4.out.size;have:=HB.out;omega)))).trans p1;have P3:=Qa p3;have P4:=Qa p4;have h9:=Qa ((Kp.of_below TB b4.out).trans (c4.imp fun e he=>.inr (.inl he)));have h0:=Qa g0;have i4:=Qa f9;have b9:=Qa (show B<=w5.heap.size from Zc f6 p2.1);obtain⟨g1,g2,g3,g4,g5⟩:=f5.out;have f4:Sl w5 (.slice Ai xs.length qi) xs:=Sl.of_own (al g1 c4.keeps (by decide));have g9:xs.length=f.items.length:=g2.1;have b5:=Qa (mi f4 (fun v hv=>by
  obtain⟨i,hi,rfl⟩:=List.getElem_of_mem hv;exact(g2.2 i _ (f.items[i]'(by omega)) (Zd hi) (Zd _)).iface) (by have:=i0.out;omega))
 clear f4 g9;clear p1 p2 p3 p4 c4 g0 f9 e5 g1 g2 g3 g4 g5;refine Za b5 ?_;rintro e w6 ⟨g,A6,c6,rfl,b0,f1,a1,b6⟩;have d0:=b0;have g7:=P4.out.below b0;have b2:Mv [] w1 w6:=h0.out.trans (Mv.of_below b0);have f3:VW (Pb B (us.flatMap bW)) w6 (.iface 48 (.pointer (some ⟨g,0,none⟩))) (dO f):=by
  have hlt:=P4.out.lt;have hQ:Pb B (us.flatMap bW) g:=⟨Zc b9.out f1,fun hb=>by have:=hlt g hb;omega⟩;obtain⟨g1,g2,g3,g4,g5⟩:=f5.out;rw[show dO f=dJ f.items from if_neg (by rw[ho];decide)];exact yN a1 (b6.fresh b9.out hlt) hQ (g2.mono fun _ _ h=>h.move b2 (by simp) fun x hx=>.inl (P3.out x hx))
 have g8:=Qa (qV g7 i3.out f3 (Zc b9.out b0.size));have f2:=Qa b0;clear d0 b0 g7 b2 f3 b6 a1 f1 b5;go_wp2_with fail;refine Za g8 ?_;rintro e w7 ⟨rfl,h1,h2,h3⟩;have R:=Qa (And.intro h1 (And.intro h2 h3));clear h1 h2 h3;go_wp2_with fail;(try simp only[Exit.inBlock,Exit.then]);refine Zh (results_none rfl ..) rfl ?_;exact⟨rfl,(i4.out.trans (f2.out.mono b9.out)).trans R.out.1,(h9.out.trans (Kp.of_below TB f2.out)).trans R.out.2.1,R.out.2.2⟩
theorem zR {bs:List Nat}(i9:lv= (fs.length+1:Nat))(h:fi B w xb (f::fs) none bs)(ho:f.obj=true)(i4:f.name=none)(f2:f.ok jB)(hi:f.items.length<=4294967296)(f1:f.mems.length<=4294967296)(d2:kv fs)(hB:B<=w.heap.size):Calls Tryz.prog 105 #[.pointer (some ⟨xb,0,none⟩),.agg #[.int .i64 lv,.int .i64 6]] w fun e w'=>mo B xb (cV fs (dO f)) w e w':=by
 have hl:=d2.1;have c3:=ac w (.cells #[.int .i64 lv,.int .i64 6] 218);have f0:=h.below c3;have d6:=Qa (Zf w (.cells #[.int .i64 lv,.int .i64 6] 218));obtain⟨w1,d4⟩:∃w1,w.alloc (.cells #[.int .i64 lv,.int .i64 6] 218)=w1:=⟨_,rfl⟩;rw[d4] at c3 f0 d6;obtain⟨pv,dv,us,h1⟩:=f0;obtain⟨e6,h2,h3,h4,h5,h6,h7⟩:=id h1
 cases us with
 |nil=>have:=h4.1;simp at this
 |cons u us=>
 have d9:us.length=fs.length:=by have:=h4.1;simpa using this
 have a4:∀x∈u::us,x.length=5:=fun x hx=>by
  obtain⟨i,hi,rfl⟩:=List.getElem_of_mem hx;exact(h4.2 i _ ((f::fs)[i]'(by have:=h4.1;omega)) (Zd hi) (Zd _)).len
 rw[List.length_cons,<-d9] at h3;obtain⟨pb,q,k9,hT⟩:=ek h3 a4;obtain⟨i2,a0,e4,b0,a7⟩:=hT;obtain⟨iv,mv,s0,xs,L,hu,j3,f8,a5,d5,b4,a2,g6,j1⟩:=h4.2 0 u f rfl rfl;obtain rfl:=g6 ho;obtain⟨Ai,qi,rfl,-⟩:=ag d5;subst i2 hu;obtain⟨m,hm⟩:∃m,m=us.length:=⟨_,rfl⟩;rw[<-hm] at a0 b0 a7;have c0:=aa e6 (j:=0) (u:=.slice (some ⟨pb,0,none⟩) (m+1) q) (by rw[hm];rfl);have k0:=a0 0 _ rfl;have k1:=a0 1 _ rfl;have k2:=a0 2 _ rfl;have k3:=a0 3 _ rfl;have k4:=a0 4 _ rfl;rw[ho] at k0;rw[i4] at k4;simp only[Bool.false_eq_true,if_false,if_true] at k0;rw[Nat.add_zero] at k0;simp only[Option.isSome_none] at k4;have e0:=aa d6.out (j:=0) (u:=.int .i64 lv) rfl;have e1:=aa d6.out (j:=1) (u:=.int .i64 6) rfl;have s1:IntKind.i64.wrap (m:Int)= (m:Int):=IntWalk.i64_in _ (by omega);have d3:(((m+1:Nat):Int)==0)=false:=by simp only[beq_eq_false_iff_ne];omega
 have a9:lv= (m:Int)+1:=by omega
 have e3:(m:Int)< (m:Int)+1:=by omega
 have b8:(((m:Int)+1)==0)=false:=by simp only[beq_eq_false_iff_ne];omega
 have HA:=Qa h1;have Hm:=Qa hm;have k6:=Qa d9;have g0:=Qa (And.intro f8 (And.intro a5 (And.intro d5 (And.intro b4 a2))));have b5:=Qa c3;have HB:=Qa hB;have g7:=Qa f2;have i5:=Qa d2;have l0:=Qa hi;have k5:=Qa f1;have c7:(lv== (m:Int)+1)=true:=by rw[a9];simp
 have b2:(lv != (m:Int)+1)=false:=by rw[a9];simp
 have C0:=Qa c0;have K0:=Qa k0;have K1:=Qa k1;have K2:=Qa k2;have K3:=Qa k3;have K4:=Qa k4;have E0:=Qa e0;have E1:=Qa e1;have Hq:=Qa (And.intro a7 b0);clear h h1 e6 h2 h3 h4 h5 h6 h7 f8 a5 d5 b4 a2 g6 j1 a0 e4 a4 j3 d9 hm i9 a9 c3 hB b0 a7 f2 d2 hi f1 k0 k1 k2 k3 k4 e0 e1 hl;go_enter Tryz.func105,Tryz.ntmps105;go_wp2_with fail
 try rw[d4]
 clear c0;refine aA (fun w2=>w2.cell? ⟨xb,0,none⟩=some (.slice (some ⟨pb,0,none⟩) (m+1) q)/\w2.cell? ⟨pb,m*5,none⟩=some (.int .i64 6)/\w2.cell? ⟨pb,m*5+4,none⟩=some (.bool false)/\w2.cell? ⟨w.heap.size,0,none⟩=some (.int .i64 lv)/\w2.cell? ⟨w.heap.size,1,none⟩=some (.int .i64 6)) (⟨C0.out,K0.out,K4.out,E0.out,E1.out⟩) fun a1=>?_
 refine tH 0 a1 ?_;refine tH 1 a1 ?_;refine tH 2 a1 ?_;refine tH 3 a1 ?_;refine tH 4 a1 ?_;refine tH 5 a1 ?_
 try simp only[Act.put,jP,jQ,jR]
 refine tH 6 a1 ?_;refine tH 7 a1 ?_;refine tH 8 a1 ?_;refine tH 9 a1 ?_;refine tH 10 a1 ?_;refine tH 11 a1 ?_
 try simp only[Act.put,jP,jQ,jR]
 refine tH 12 a1 ?_;refine tH 13 a1 ?_;refine tH 14 a1 ?_;refine tH 15 a1 ?_;refine tH 16 a1 ?_;refine tH 17 a1 ?_
 try simp only[Act.put,jP,jQ,jR]
 refine tH 18 a1 ?_;refine tH 19 a1 ?_;refine tH 20 a1 ?_;refine tH 21 a1 ?_;refine tH 22 a1 ?_;refine tH 23 a1 ?_
 try simp only[Act.put,jP,jQ,jR]
 refine tH 24 a1 ?_;refine tH 25 a1 ?_;refine tH 26 a1 ?_;refine tH 27 a1 ?_;refine tH 28 a1 ?_;refine tH 29 a1 ?_
 try simp only[Act.put,jP,jQ,jR]
 refine tH 30 a1 ?_;refine tH 31 a1 ?_;refine tH 32 a1 ?_
 try simp only[Act.put,jP,jQ,jR]
 refine wpAnyH_done (by kernel_rfl) (NoPanic.normal ?_) _;obtain⟨wr,d1⟩:∃wr,w1.drew=wr:=⟨_,rfl⟩;have a3:Below w1.heap.size w1 wr:=by rw[<-d1];exact(Ze _ _).drew
 rw[d1];clear a1 d1 d4;have r0:=Zg a3 C0.out;have r1:=Zg a3 K0.out;have r2:=Zg a3 K1.out;have r3:=Zg a3 K2.out;have r4:=Zg a3 K3.out;have r5:=Zg a3 K4.out;have j5:(m:Int)<=q:=by have:=Hq.out.1;omega
 have c9:=ac wr (.cells #[.int .i64 6,.slice none 0 0,.slice Ai L.length qi,.string s0,.bool false] 213);have c2:=Qa ((HA.out.below a3).below c9);have b7:=Qa (Zf wr (.cells #[.int .i64 6,.slice none 0 0,.slice Ai L.length qi,.string s0,.bool false] 213));have c5:=Qa c9;have c1:=Qa a3;have fx:=ak c2.out.row 0;have cx:=aa c2.out.row (j:=0) (u:=.slice (some ⟨pb,0,none⟩) (m+1) q) (by rw[Hm.out];rfl);have bx0:=aa b7.out (j:=0) rfl;have j0:xb≠wr.heap.size:=fun e=>by have:=ae (HA.out.below a3).row;omega
 clear a3 c9;go_wp2_with fail;obtain⟨wA,c8⟩:∃wA,wr.alloc (.cells #[.int .i64 6,.slice none 0 0,.slice Ai L.length qi,.string s0,.bool false] 213)=wA:=⟨_,rfl⟩;rw[c8];rw[c8] at c2 c5 b7;clear cx fx bx0 j0 c8 r0 r1 r2 r3 r4 r5 s1 d3 e3 b8 c7 b2 j5;obtain rfl:=Hm.out;have g8:B<=wA.heap.size:=by have:=c5.out.size;have:=c1.out.size;have:=b5.out.size;have:=HB.out;omega
 obtain⟨p1,p2,p3,p4⟩:=zg c2.out g8;obtain⟨w5,e8⟩:∃w5,wA.setCell ⟨xb,0,none⟩ (.slice (some ⟨pb,0,none⟩) us.length q)=w5:=⟨_,rfl⟩;rw[e8] at p1 p2 p4 ⊢;have c4:Kp (fun e=>e=167) w1 w5:=((Kp.of_below _ c1.out).trans (Kp.of_below _ c5.out)).trans p2;have h0:Mv [] w1 w5:=Mv.of_kp c4 fun e he=>by rcases he with rfl|rfl|rfl|rfl <;> decide
 have g9:Below B w w5:=((b5.out.mono HB.out).trans ((c1.out.mono (Zc HB.out b5.out.size)).trans (c5.out.mono (by have:=c1.out.size;have:=b5.out.size;have:=HB.out;omega)))).trans p1;have P3:=Qa p3;have P4:=Qa p4;have i3:=Qa ((Kp.of_below TB b5.out).trans (c4.imp fun e he=>.inr (.inl he)));have i0:=Qa h0;have i8:=Qa g9;have b9:=Qa (show B<=w5.heap.size from Zc g8 p2.1);obtain⟨g1,g2,g3,g4,g5⟩:=g0.out;have f9:yX 2 w5 (.slice Ai L.length qi) L.length (fI L):=yX.of_own (al g3 c4.keeps (by decide));have e5:L.length=f.mems.length:=by have:=congrArg List.length g4;simpa using this
 have b6:=Qa (gd f9 (fun p hp=>by
  obtain⟨i,hi,rfl⟩:=List.getElem_of_mem hp;refine⟨?_,?_⟩
  ·have e:=congrArg (·[i]?) g4;simp only[List.getElem?_map,Zd hi,Zd (show i<f.mems.length by omega),Option.map_some] at e;rw[Zi e];exact g7.out.names _ (List.getElem_mem _)
  ·exact(g5.2 i _ ((f.mems.map Prod.snd)[i]'(by simp;omega)) (by rw[List.getElem?_map,Zd hi];rfl) (Zd _)).iface) (by rw[g4];exact g7.out.nodup) (by have:=k5.out;omega))
 have l1:=Qa e5;clear f9 e5;clear p1 p2 p3 p4 c4 h0 g9 e8 g1 g2 g3 g4 g5;refine Za b6 ?_;rintro e w6 ⟨g,A6,c6,S,rfl,b1,f4,a0,a6,e2,f3⟩;have d0:=b1;have h8:=P4.out.below b1;have b3:Mv [] w1 w6:=i0.out.trans (Mv.of_below b1);have f6:VW (Pb B (us.flatMap bW)) w6 (.iface 116 (.pointer (some ⟨g,0,none⟩))) (dO f):=by
  have hlt:=P4.out.lt;have hQ:Pb B (us.flatMap bW) g:=⟨Zc b9.out f4,fun hb=>by have:=hlt g hb;omega⟩;obtain⟨g1,g2,g3,g4,g5⟩:=g0.out;rw[show dO f=mn (fU f.mems) from if_pos ho];have j2:S.length=L.length:=e2.length_eq;rw[<-j2] at a0 a6;exact wR a0 (a6.fresh b9.out hlt) hQ e2 f3 g4 (g5.mono fun _ _ h=>h.move b3 (by simp) fun x hx=>.inl (P3.out x hx))
 have h9:=Qa (qV h8 i5.out f6 (Zc b9.out b1.size));have f5:=Qa b1;clear d0 b1 h8 b3 f6 a6 a0 f4 b6 e2 f3;go_wp2_with fail;refine Za h9 ?_;rintro e w7 ⟨rfl,h1,h2,h3⟩;have R:=Qa (And.intro h1 (And.intro h2 h3));clear h1 h2 h3;go_wp2_with fail;go_end0;exact⟨rfl,(i8.out.trans (f5.out.mono b9.out)).trans R.out.1,(i3.out.trans (Kp.of_below TB f5.out)).trans R.out.2.1,R.out.2.2⟩
open Go.Maps
def dS (w:World)(b:Nat)(names:List ByteArray)(n:Nat):Prop:= ∃D:DataW Unit,w.ownsMap Tryz.prog 9 (plainElem Tryz.prog 4) b n D/\∀s:ByteArray,s.size<=maxLen->D.atKey (.string s.data.toList) (.lit (.bool false)) =.lit (.bool (names.any fun t=>decide (t=s)))
theorem CU:Keyed Tryz.prog 9:=string_keyed Tryz.underlying9
theorem IW (w:World):(zeroValue 4).run Tryz.prog w =.ok (.bool false) w:=by kernel_rfl
theorem dS.made (w:World):dS (w.alloc (.map #[] 0)) w.heap.size [] 0:=
 ⟨.map [],World.ownsMap_made _ _ _ _,fun s _=>by simp[DataW.atKey]⟩
theorem AK {d:DataW Unit}{ps:List MemPlace}(h:plainElem (H:=Unit) Tryz.prog 4 v=some (d,ps)):∃x,v =.bool x/\d =.lit (.bool x):=by
 unfold plainElem at h;rw[Tryz.underlying4] at h
 cases v with
 |bool x=>simp at h;exact⟨x,rfl,h.1.symm⟩
 |_=>simp at h
theorem dS.look {b:Nat}{names:List ByteArray}(h:dS w b names n){s:ByteArray}(hs:s.size<=maxLen):(Instr.lookup 311 (.map (some b)) (.string s) false).run Tryz.prog w =.ok (.bool (names.any (fun t=>decide (t=s)))) w:=by
 obtain⟨D,h1,h2⟩:=h;obtain⟨v,ps,a0,hv⟩:=h1.lookup CU Tryz.underlying311 (IW w) (show plainElem (H:=Unit) Tryz.prog 4 (.bool false)=some (.lit (.bool false), []) from plainElem_bool Tryz.underlying4 false) (WideMaps.keyOf_string_mk Tryz.underlying9 hs);obtain⟨x,rfl,hx⟩:=AK hv;rw[h2 s hs] at hx;injection hx with hx
 injection hx with hx
 rw[a0,hx]
theorem dS.grown {b:Nat}{names:List ByteArray}{row:Option Nat}(h:dS w b names n)(hg:w.grownBy w' row)(hb:some b≠row):dS w' b names n:=by
 obtain⟨D,h1,h2⟩:=h;exact⟨D,h1.kept hg hb,h2⟩
theorem dS.kp {b:Nat}{names:List ByteArray}(h:dS w b names n)(hk:Kp T w w'):dS w' b names n:=by
 obtain⟨D,⟨es,clock,hh,r⟩,h2⟩:=h;exact⟨D,⟨es,clock,hk.2 b _ hh (fun _ _ _ e=>by cases e),r⟩,h2⟩
theorem dS.lt {b:Nat}{names:List ByteArray}(h:dS w b names n):b<w.heap.size:=by
 obtain⟨D,h1,-⟩:=h;exact h1.lt
theorem vy {ops:Array Oper}{rest:List Oper}{o:Oper}{a:Act}{Q:Exit->Act->World->Prop}{b:Nat}{names:List ByteArray}{s:ByteArray}(h:dS w b names n)(hs:s.size<=maxLen)(hn:n<maxLen)(hg:o.guard=none)(m x v:Operand)(a1:o.op=Op.mapUpdate 311 m x v)
  (hm:a.eval m =.map (some b)) (hx:a.eval x =.string s) (hv:a.eval v =.bool true)
  (hK:∀w',dS w' b (s::names) (n+1)->w.mapTurned w' b->wpList Tryz.prog ops Q rest (a.put o.dst undef) w'):wpList Tryz.prog ops Q (o::rest) a w:=by
 obtain⟨D,h1,h2⟩:=h;have a2:=h1.isMap;refine wpList_plain hg fun K' a3=>?_
 obtain⟨w',a0,r1,r2⟩:=h1.store CU Tryz.underlying311 hn (WideMaps.keyOf_string_mk Tryz.underlying9 hs) (show plainElem (H:=Unit) Tryz.prog 4 (.bool true)=some (.lit (.bool true), []) from plainElem_bool Tryz.underlying4 true);unfold Oper.wp;simp[execOp,a1,hm,hx,hv,a0,Result.andThen];refine a3 _ _ (hK w' ⟨_,r1,fun t ht=>?_⟩ r2)
 by_cases e:t=s
 ·subst e;rw[atKey_put_same a2 (by exact trivial:WideAt.IsKeyLit (.string t.data.toList)) _ _];simp
 ·have hne:Lit.string t.data.toList≠Lit.string s.data.toList:=fun h=>by
   injection h with h
   cases s;cases t;simp only[Array.toList_inj] at h;exact e (by rw[h])
  rw[atKey_put_other hne,h2 t ht];rw[List.any_cons];have e2:decide (s=t)=false:=decide_eq_false fun h=>e h.symm
  rw[e2,Bool.false_or]
def eO:Value:=.agg #[.int .i64 1073741824,.int .i64 1073741824,.int .i64 1073741824,.int .i64 1073741824,.int .i64 1073741824,.int .i64 4611686018427387903]
theorem lR (w:World):Calls Tryz.prog 138 #[eO] w fun e w'=>e =.returned eO/\Below w.heap.size w w':=by
 unfold eO;have hb:=Qa (bu (ac w (.cells #[.int .i64 1073741824,.int .i64 1073741824,.int .i64 1073741824,.int .i64 1073741824,.int .i64 1073741824,.int .i64 4611686018427387903] 107)) (ac _ (.cells #[.int .i64 1073741824,.int .i64 1073741824,.int .i64 1073741824,.int .i64 1073741824,.int .i64 1073741824,.int .i64 4611686018427387903] 258)));go_enter Tryz.func138,Tryz.ntmps138;go_wp2_with fail;have Hb:=hb.out;generalize hwa:(w.alloc (.cells #[.int .i64 1073741824,.int .i64 1073741824,.int .i64 1073741824,.int .i64 1073741824,.int .i64 1073741824,.int .i64 4611686018427387903] 107))=wa at *;have hsz:w.heap.size+1=wa.heap.size:=by rw[<-hwa];simp
 rw[hsz];have hn:=Zf wa (.cells #[.int .i64 1073741824,.int .i64 1073741824,.int .i64 1073741824,.int .i64 1073741824,.int .i64 1073741824,.int .i64 4611686018427387903] 258);have n0:=aa hn (j:=0) rfl;have n1:=aa hn (j:=1) rfl;have n2:=aa hn (j:=2) rfl;have n3:=aa hn (j:=3) rfl;have n4:=aa hn (j:=4) rfl;have n5:=aa hn (j:=5) rfl;refine Zh (v:=.agg #[.int .i64 1073741824,.int .i64 1073741824,.int .i64 1073741824,.int .i64 1073741824,.int .i64 1073741824,.int .i64 4611686018427387903]) ?_ rfl ⟨rfl,Hb⟩;simp[results,Tryz.results138,go_sem,n0,n1,n2,n3,n4,n5]
theorem Gf (a b c d e f:Value)(W:World):(Instr.index 258 (.agg #[a,b,c,d,e,f]) (.int .i64 0)).run Tryz.prog W =.ok a W:=by kernel_rfl
theorem F0 (a b c d e f:Value)(W:World):(Instr.index 258 (.agg #[a,b,c,d,e,f]) (.int .i64 1)).run Tryz.prog W =.ok b W:=by kernel_rfl
theorem FY (a b c d e f:Value)(W:World):(Instr.index 258 (.agg #[a,b,c,d,e,f]) (.int .i64 2)).run Tryz.prog W =.ok c W:=by kernel_rfl
theorem FZ (a b c d e f:Value)(W:World):(Instr.index 258 (.agg #[a,b,c,d,e,f]) (.int .i64 3)).run Tryz.prog W =.ok d W:=by kernel_rfl
theorem Gc (a b c d e f:Value)(W:World):(Instr.index 258 (.agg #[a,b,c,d,e,f]) (.int .i64 4)).run Tryz.prog W =.ok e W:=by kernel_rfl
theorem F2 (a b c d e f:Value)(W:World):(Instr.index 258 (.agg #[a,b,c,d,e,f]) (.int .i64 5)).run Tryz.prog W =.ok f W:=by kernel_rfl
theorem xH {m:Int}(hm:m=1\/m=2\/m=3\/m=5)(w:World):Calls Tryz.prog 139 #[eO,.int .i64 m] w fun e w'=>e =.returned (.tuple #[.int .i64 1073741824,.bool true])/\Below w.heap.size w w':=by
 have a0:=ac w (.cells #[.int .i64 1073741824,.int .i64 1073741824,.int .i64 1073741824,.int .i64 1073741824,.int .i64 1073741824,.int .i64 4611686018427387903] 107);have H:=Qa (fun w=>lR w);unfold eO at *;have x0:=Gf;have x1:=F0;have x2:=FY;have x3:=FZ;have x4:=Gc;have x5:=F2;have a1:=Qa a0;clear a0;rcases hm with rfl|rfl|rfl|rfl
 all_goals
  go_enter Tryz.func139,Tryz.ntmps139;go_wp2_with fail;refine(H.out _).mono ?_;rintro e w1 ⟨rfl,hb⟩;have Hb:=Qa hb;clear hb;go_wp2_with fail;go_ret2;exact⟨rfl,bu a1.out Hb.out⟩
theorem uP {m x:Int}(hm:m=1\/m=2\/m=3\/m=5)(hx:x<=1073741824)(w:World):Calls Tryz.prog 98 #[eO,.int .i64 m,.int .i64 x] w fun e w'=>e =.returned .nilIface/\Below w.heap.size w w':=by
 have a0:=ac w (.cells #[.int .i64 1073741824,.int .i64 1073741824,.int .i64 1073741824,.int .i64 1073741824,.int .i64 1073741824,.int .i64 4611686018427387903] 107);have H:=Qa (fun w=>xH hm w);unfold eO at *;have a1:=Qa a0;clear a0 hm;go_enter Tryz.func98,Tryz.ntmps98;go_wp2_with fail;refine(H.out _).mono ?_;rintro e w1 ⟨rfl,hb⟩;have Hb:=Qa hb;clear hb;go_wp2_with fail;go_ret;exact⟨rfl,bu a1.out Hb.out⟩
theorem wG (w:World):Calls Tryz.prog 97 #[eO] w fun e w'=>e =.returned .nilIface/\Below w.heap.size w w':=by
 have a0:=ac w (.cells #[.int .i64 1073741824,.int .i64 1073741824,.int .i64 1073741824,.int .i64 1073741824,.int .i64 1073741824,.int .i64 4611686018427387903] 107);have H:=Qa (fun w=>lR w);unfold eO at *;have x0:=Gf;have x1:=F0;have x2:=FY;have x3:=FZ;have x4:=Gc;have x5:=F2;have a1:=Qa a0;clear a0;go_enter Tryz.func97,Tryz.ntmps97;go_wp2_with fail;refine(H.out _).mono ?_;rintro e w1 ⟨rfl,hb⟩;have Hb:=Qa hb;clear hb;go_wp2_with fail
 go_loopg [8] 6 (fun k s8 wr=> ∃i:Nat,k+i=6/\s8 =.int .i64 i/\wr=w1)
 case atStart=>exact⟨0,rfl,rfl,rfl⟩
 case round=>
  obtain⟨i,hk,rfl,rfl⟩:=hrel;have hi:i=0\/i=1\/i=2\/i=3\/i=4\/i=5\/i=6:=by omega
  rcases hi with rfl|rfl|rfl|rfl|rfl|rfl|rfl
  ·go_wp2_with fail;go_roundg 5
   case measure=>omega
   case rel=>exact⟨1,rfl,rfl,rfl⟩
  ·go_wp2_with fail;go_roundg 4
   case measure=>omega
   case rel=>exact⟨2,rfl,rfl,rfl⟩
  ·go_wp2_with fail;go_roundg 3
   case measure=>omega
   case rel=>exact⟨3,rfl,rfl,rfl⟩
  ·go_wp2_with fail;go_roundg 2
   case measure=>omega
   case rel=>exact⟨4,rfl,rfl,rfl⟩
  ·go_wp2_with fail;go_roundg 1
   case measure=>omega
   case rel=>exact⟨5,rfl,rfl,rfl⟩
  ·go_wp2_with fail;go_roundg 0
   case measure=>omega
   case rel=>exact⟨6,rfl,rfl,rfl⟩
  ·go_wp2_with fail;go_ret;exact⟨rfl,bu a1.out Hb.out⟩
def dB (lb xb:Nat)(by_ dp nd ex:Int)(ov nv:Value)(want:Int)(fin:Bool):Array Value:=
 #[.pointer (some ⟨lb, 0, none⟩), .int .i64 1073741824, .int .i64 1073741824, .int .i64 1073741824, .int .i64 1073741824, .int .i64 1073741824, .int .i64 4611686018427387903, .int .i64 by_, .int .i64 dp, .int .i64 nd, .int .i64 ex,
  .func (.func 75) #[.pointer (some ⟨xb,0,none⟩)] #[],ov,nv,.int .i64 want,.bool fin]
def gK (f:Fr):Value:=.int .i64 (if f.obj then 6 else 5)
def vQ (b:Nat):Value:=.map (some b)
def i7 (f:Fr):List ByteArray:=f.name.toList++f.mems.map Prod.fst
def jN (B:Nat)(w:World)(b:Nat)(f:Fr):Prop:=B<=b/\∃l n,dS w b l n/\n<=f.mems.length+f.name.toList.length/\∀s,s∈l↔s∈i7 f
structure iu (B:Nat) (w:World) (rb lb xb:Nat) (v:Value) (xs:List UInt8) (frs:List Fr) (want k:Nat) (nd:Nat) (fin:Bool) (by_ dp ex:Int) (ov nv:Value) (maps:List Nat):Prop where
 row:w.heap[rb]?=some (.cells (dB lb xb by_ dp nd ex ov nv want fin) 205 (0,0))
 low:B<=rb
 lex:ph w lb v xs k
 llow:B<=lb
 own:aq w B v xs
 opens:w.ownsRow B 3 1 ov frs.length (frs.reverse.map gK)
 names:w.ownsRow B 311 1 nv maps.length (maps.reverse.map vQ)
 seen:bo (jN B w) maps (frs.filter (·.obj))
 nodup:maps.Nodup
 le:k<=xs.length
def lL (e:TypeId):Prop:=e=205\/e=265\/e=3\/e=311
def jO (B:Nat)(w:World)(rb lb xb:Nat)(v:Value)(xs:List UInt8)(frs:List Fr)(want k nd:Nat)(fin:Bool):Prop:= ∃by_ dp ex ov nv maps,iu B w rb lb xb v xs frs want k nd fin by_ dp ex ov nv maps
section
variable {B rb lb xb want k nd:Nat}{w w':World}{v:Value}{xs:List UInt8}{frs:List Fr}{fin:Bool}{by_ dp ex:Int}{ov nv:Value}{maps:List Nat}
theorem iu.s (h:iu B w rb lb xb v xs frs want k nd fin by_ dp ex ov nv maps):jO B w rb lb xb v xs frs want k nd fin:=⟨_,_,_,_,_,_,h⟩
theorem iu.kp (h:iu B w rb lb xb v xs frs want k nd fin by_ dp ex ov nv maps)(hk:Kp T w w')(hT:∀e,lL e->¬T e)(h8:¬T 5):iu B w' rb lb xb v xs frs want k nd fin by_ dp ex ov nv maps:=by
 obtain⟨h1,h2,h3,h4,h5,h6,h7,a2,h9,a1⟩:=h;have a0:aq w' B v xs:=al h5 hk.keeps h8;refine⟨hk.heap h1 (hT _ (.inl rfl)),h2,⟨hk.heap h3.1 (hT _ (.inr (.inl rfl))),aq.bs a0⟩,h4,a0,al h6 hk.keeps (hT _ (.inr (.inr (.inl rfl)))),al h7 hk.keeps (hT _ (.inr (.inr (.inr rfl)))),a2.mono fun a b h=>?_,h9,a1⟩;obtain⟨q1,l,n,q2,q3,q4⟩:=h;exact⟨q1,l,n,q2.kp hk,q3,q4⟩
theorem iu.below (h:iu B w rb lb xb v xs frs want k nd fin by_ dp ex ov nv maps)(hb:Below w.heap.size w w'):iu B w' rb lb xb v xs frs want k nd fin by_ dp ex ov nv maps:=h.kp (T:=fun _=>False) (Kp.of_below _ hb) (fun _ _ h=>h) (fun h=>h)
theorem jO.kp (h:jO B w rb lb xb v xs frs want k nd fin)(hk:Kp T w w')(hT:∀e,lL e->¬T e)(h8:¬T 5):jO B w' rb lb xb v xs frs want k nd fin:=by
 obtain⟨a,b,c,d,e,f,h⟩:=h;exact⟨a,b,c,d,e,f,h.kp hk hT h8⟩
theorem jO.below (h:jO B w rb lb xb v xs frs want k nd fin)(hb:Below w.heap.size w w'):jO B w' rb lb xb v xs frs want k nd fin:=by
 obtain⟨a,b,c,d,e,f,h⟩:=h;exact⟨a,b,c,d,e,f,h.below hb⟩
theorem Dt:∀e,lL e->¬TB e:=fun e h=>by rcases h with rfl|rfl|rfl|rfl <;> (simp only[TB,TV];decide)
theorem bT:∀e,TB e->¬lL e:=fun e h h2=>Dt e h2 h
theorem jO.tb (h:jO B w rb lb xb v xs frs want k nd fin)(hk:Kp TB w w'):jO B w' rb lb xb v xs frs want k nd fin:=h.kp hk Dt (by simp only[TB,TV];decide)
theorem iu.setR (h:iu B w rb lb xb v xs frs want k nd fin by_ dp ex ov nv maps)(hB:B<=w.heap.size)(j:Nat)(u:Value):Below B w (w.setCell ⟨rb,j,none⟩ u)/\Kp lL w (w.setCell ⟨rb,j,none⟩ u)/\(w.setCell ⟨rb,j,none⟩ u).heap[rb]?=some (.cells ((dB lb xb by_ dp nd ex ov nv want fin).setIfInBounds j u) 205 (0,0))/\∀cells',(w.setCell ⟨rb,j,none⟩ u).heap[rb]?=some (.cells cells' 205 (0,0))->
  ph (w.setCell ⟨rb,j,none⟩ u) lb v xs k/\aq (w.setCell ⟨rb,j,none⟩ u) B v xs/\(w.setCell ⟨rb,j,none⟩ u).ownsRow B 3 1 ov frs.length (frs.reverse.map gK)/\(w.setCell ⟨rb,j,none⟩ u).ownsRow B 311 1 nv maps.length (maps.reverse.map vQ)/\bo (jN B (w.setCell ⟨rb,j,none⟩ u)) maps (frs.filter (·.obj)):=by
 obtain⟨h1,h2,h3,h4,h5,h6,h7,a2,h9,a3⟩:=h;have a1:=aZ.set (w:=w) rb j u;have hk:Kp (fun e=>e=205) w (w.setCell ⟨rb,j,none⟩ u):=Kp.of_chg a1 fun g e _=>by subst e;exact⟨_,_,_,h1,rfl⟩
 have a0:aq (w.setCell ⟨rb,j,none⟩ u) B v xs:=al h5 hk.keeps (by decide);refine⟨a1.below hB (fun i e=>by rw[e];exact h2),hk.imp fun e he=>.inl he,au h1 j u,fun _ _=>⟨⟨hk.heap h3.1 (by decide),aq.bs a0⟩,a0,al h6 hk.keeps (by decide),al h7 hk.keeps (by decide),a2.mono fun a b h=>?_⟩⟩;obtain⟨q1,l,n,q2,q3,q4⟩:=h;exact⟨q1,l,n,q2.kp hk,q3,q4⟩
end
