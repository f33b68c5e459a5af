import Derived.Test.YtimbegpgemkpkaaGreatDoorGZ7ai
set_option linter.unusedVariables false
set_option linter.unusedSimpArgs false
set_option maxHeartbeats 64000000
set_option maxRecDepth 100000
namespace Go.Proofs.YtimbegpgemkpkaaGreatDoor
open Go.Proofs.Tryz
open Go.RowKit
variable {aE aU:Addr}{fin:Bool}{f f':Fr}{by_ dp ex lv:Int}{j:JV}{frs fs nfr:List Fr}{maps:List Nat}{xs ys:Na}{B c i k0 lb n nd nd' q rb want xb:Nat}{F:Nat->Prop}{A:OA}{e:TypeId}{T U:TypeId->Prop}{dv nv ov pv u v x:Value}{w w' w0:Wd}
theorem BJ.kp {done:Option JV}{us:List (Nb)}{bs:List Nat}(h:BJ B w xb frs done pv dv us bs)(hk:Kp T w w')(hT:∀e,TB e->¬T e):BJ B w' xb frs done pv dv us bs:=by
 obtain⟨h1,h2,h3,h4,h5,h6,h7⟩:=h;have hm:Mv [] w w':=Mv.of_kp hk (fun e he=>hT e (.inl he));have a0:∀g∈bs,g∈bs\/w.heap.size<=g:=fun g h=>.inl h
 exact⟨hk.heap h1 (hT _ (.inr (.inl rfl))),h2,ap h3 hk.keeps (hT _ (.inr (.inr rfl))),h4.mono fun _ _ h=>h.move hm (by simp) a0 (by simp),h5,h6,h7.move hm (by simp) a0⟩
theorem BJ.below {done:Option JV}{us:List (Nb)}{bs:List Nat}(h:BJ B w xb frs done pv dv us bs)(hb:ge w w'):BJ B w' xb frs done pv dv us bs:=h.kp (T:=fun _=>False) (Kp.of_below _ hb) (fun _ _ h=>h)
theorem fY.lt {done:Option JV}{bs:List Nat}(h:fY B w xb frs done bs):∀g∈bs,g<w.heap.size:=by
 obtain⟨pv,dv,us,h⟩:=h;intro g hg;rw[<-h.blocks] at hg;obtain⟨x,hx,a0⟩:=List.mem_flatMap.1 hg;obtain⟨i,hi,rfl⟩:=List.getElem_of_mem hx;have hl:=h.frames.1;obtain⟨iv,mv,s,xs,L,q1,q2,q3,q4,q5,-⟩:=h.frames.2 i us[i] (frs[i]'(by omega)) (Zd hi) (Zd _);rw[q1] at a0;rcases List.mem_append.1 a0 with a0|a0
 .obtain⟨_,cur,hh⟩:=am q3 (g:=g) (by simpa using a0);exact ah hh
 .obtain⟨_,cur,hh⟩:=am q5 (g:=g) (by simpa using a0);exact ah hh
theorem cM.fresh {bs:List Nat}{k:Nat}{xs:Nb}(h:cM (w.heap.size<= ·) w' e k A n c xs)(hB:B<=w.heap.size)(a0:∀g∈bs,g<w.heap.size):cM (Pb B bs) w' e k A n c xs:=
 h.stay fun g o hp hg _ _=>⟨⟨Zc hB hp,fun hb=>by have:=a0 g hb;omega⟩,hg⟩
theorem zZ {bs:List Nat}(i2:lv= (fs.length+1:Nat))(h:fY B w xb (f::fs) none bs)(ho:f.obj=false)(i0:f.name=none)(f0:f.ok kN)(hi:f.items.length<=4294967296)(e8:f.mems.length<=4294967296)(d1:mf fs)(hB:B<=w.heap.size):Calls prog 137 #[.pointer (some (nl xb)),.agg #[(lv:Int),(5:Int)]] w fun e w'=>nY B xb (dq fs (et f)) w e w':=by
 have hl:=d1.1;have c4:=aa w (.cells #[(lv:Int),(5:Int)] 241);have f7:=h.below c4;have d2:=Qa (Zf w (.cells #[(lv:Int),(5:Int)] 241));obtain⟨w1,d3⟩:=y7 (w.alloc (.cells #[(lv:Int),(5:Int)] 241));rw[d3] at c4 f7 d2;obtain⟨pv,dv,us,h1⟩:=f7;obtain⟨f4,h2,h3,h4,h5,h6,h7⟩:=id h1
 cases us with
 |nil=>have:=h4.1;simp at this
 |cons u us=>
 have c8:us.length=fs.length:=by have:=h4.1;simpa using this
 have a4:∀x∈u::us,x.length=5:=fun x hx=>by
  obtain⟨i,hi,rfl⟩:=List.getElem_of_mem hx;exact(h4.2 i _ ((f::fs)[i]'(by have:=h4.1;omega)) (Zd hi) (Zd _)).len
 rw[List.length_cons,<-c8] at h3;obtain⟨pb,q,j0,hT⟩:=fj h3 a4;obtain⟨g0,a0,d4,a9,a7⟩:=hT;obtain⟨iv,mv,s0,xs,L,hu,i4,c7,a5,e6,b3,a2,g6,f1⟩:=h4.2 0 u f rfl rfl;obtain rfl:=f1 ho;obtain⟨Ai,qi,rfl,-⟩:=ai c7;subst g0 hu;obtain⟨m,hm⟩:∃m,m=us.length:=⟨_,rfl⟩;rw[<-hm] at a0 a9 a7;have c0:=ac f4 (j:=0) (u:=.slice (some (nl pb)) (m+1) q) (by rw[hm];rfl);have k0:=a0 0 _ rfl;have k1:=a0 1 _ rfl;have k2:=a0 2 _ rfl;have k3:=a0 3 _ rfl;have k4:=a0 4 _ rfl;rw[ho] at k0;rw[i0] at k4;simp only[Bool.false_eq_true,if_false,if_true] at k0;rw[Nat.add_zero] at k0;simp only[Option.isSome_none] at k4;have e0:=ac d2.out (j:=0) (u:=(lv:Int)) rfl;have e1:=ac d2.out (j:=1) (u:=(5:Int)) rfl;have s1:IntKind.i64.wrap (m:Int)= (m:Int):=IntWalk.i64_in _ (by omega);have d6:(((m+1:Nat):Int)==0)=false:=by simp only[beq_eq_false_iff_ne];omega
 have a6:lv= (m:Int)+1:=by omega
 have c9:(m:Int)< (m:Int)+1:=by omega
 have b8:(((m:Int)+1)==0)=false:=by simp only[beq_eq_false_iff_ne];omega
 have HA:=Qa h1;have Hm:=Qa hm;have i9:=Qa c8;have f8:=x8 c7 a5 e6 b3 a2;have b5:=Qa c4;have HB:=Qa hB;have j1:=Qa f0;have h9:=Qa d1;have i8:=Qa hi;have j2:=Qa e8;have d0:(lv== (m:Int)+1)=true:=by rw[a6];simp
 have b1:(lv != (m:Int)+1)=false:=by rw[a6];simp
 have C0:=Qa c0;have K0:=Qa k0;have K1:=Qa k1;have K2:=Qa k2;have K3:=Qa k3;have K4:=Qa k4;have E0:=Qa e0;have E1:=Qa e1;have Hq:=NA a7 a9;clear h h1 f4 h2 h3 h4 h5 h6 h7 c7 a5 e6 b3 a2 g6 f1 a0 d4 a4 i4 c8 hm i2 a6 c4 hB a9 a7 f0 d1 hi e8 k0 k1 k2 k3 k4 e0 e1 hl;go_in;go_wp2_with fail
 try rw[d3]
 clear c0;refine aI (fun w2=>w2.cell? (nl xb)=some (.slice (some (nl pb)) (m+1) q)/\w2.cell? ⟨pb,m*5,none⟩=some (.int .i64 5)/\w2.cell? ⟨pb,m*5+4,none⟩=some (.bool false)/\w2.cell? (nl w.heap.size)=some (.int .i64 lv)/\w2.cell? (no w.heap.size 1)=some (.int .i64 5)) (⟨C0,K0,K4,E0,E1⟩) fun a1=>?_
 refine bw 0 1 2 a1 ?_;refine bw 3 4 5 a1 ?_;refine bw 6 7 8 a1 ?_;refine bw 9 10 11 a1 ?_;refine bw 12 13 14 a1 ?_;refine bw 15 16 17 a1 ?_;refine bw 18 19 20 a1 ?_;refine bw 21 22 23 a1 ?_;refine bw 24 25 26 a1 ?_;refine bw 27 28 29 a1 ?_;refine bw 30 31 32 a1 ?_;refine y5 ?_;obtain⟨wr,d7⟩:=y7 w1.drew;have a3:ge w1 wr:=by rw[<-d7];exact(Ze _ _).drew
 rw[d7];clear a1 d7 d3;have r0:=Zg a3 C0.out;have r1:=Zg a3 K0.out;have r2:=Zg a3 K1.out;have r3:=Zg a3 K2.out;have r4:=Zg a3 K3.out;have r5:=Zg a3 K4.out;have i3:(m:Int)<=q:=by have:=Hq.1;omega
 have d5:=aa wr (.cells #[(5:Int),.slice Ai xs.length qi,(),s0,false] 236);have c5:=Qa ((HA.below a3).below d5);have b6:=Qa (Zf wr (.cells #[(5:Int),.slice Ai xs.length qi,(),s0,false] 236));have c1:=Qa d5;have c2:=Qa a3;have fx:=ao c5.row 0;have cx:=ac c5.row (j:=0) (u:=.slice (some (nl pb)) (m+1) q) (by rw[Hm.out];rfl);have bx0:=ac b6.out (j:=0) rfl;have h8:xb≠wr.heap.size:=fun e=>by have:=ah (HA.below a3).row;omega
 clear a3 d5;go_wp2_with fail;obtain⟨wA,d9⟩:=y7 (wr.alloc (.cells #[(5:Int),.slice Ai xs.length qi,(),s0,false] 236));rw[d9];rw[d9] at c5 c1 b6;clear cx fx bx0 h8 d9 r0 r1 r2 r3 r4 r5 s1 d6 c9 b8 d0 b1 i3;obtain rfl:=Hm.out;have f5:B<=wA.heap.size:=by have:=c1.size;have:=c2.size;have:=b5.size;have:=HB.out;omega
 obtain⟨p1,p2,p3,p4⟩:=Bi c5.out f5;obtain⟨w5,e7⟩:=y7 (wA.setCell (nl xb) (.slice (some (nl pb)) us.length q));rw[e7] at p1 p2 p4 ⊢;have c3:Kp (fun e=>e=187) w1 w5:=((Kp.of_below _ c2).trans (Kp.of_below _ c1)).trans p2;have e5:Mv [] w1 w5:=Mv.of_kp c3 fun e he=>by rcases he with rfl|rfl|rfl|rfl <;> decide
 have f3:Below B w w5:=((b5.mono HB).trans ((c2.mono (Zc HB b5.size)).trans (c1.mono (by have:=c2.size;have:=b5.size;have:=HB.out;omega)))).trans p1;have P3:=Qa p3;have P4:=Qa p4;have i5:=Qa ((Kp.of_below TB b5).trans (c3.imp fun e he=>.inr (.inl he)));have g8:=Qa e5;have h0:=Qa f3;have b9:=Qa (show B<=w5.heap.size from Zc f5 p2.1);obtain⟨g1,g2,g3,g4,g5⟩:=f8.out;have f6:Sl w5 (.slice Ai xs.length qi) xs:=Sl.of_own (ap g1 c3.keeps (by decide));have g7:xs.length=f.items.length:=g2.1;have b2:=Qa (nJ f6 (fun v hv=>by
  obtain⟨i,hi,rfl⟩:=List.getElem_of_mem hv;exact(g2.2 i _ (f.items[i]'(by omega)) (Zd hi) (Zd _)).iface) (by have:=i8.out;omega))
 clear f6 g7;clear p1 p2 p3 p4 c3 e5 f3 e7 g1 g2 g3 g4 g5;refine Za b2 ?_;rintro e w6 ⟨g,A6,c6,rfl,b0,e3,a0,b7⟩;have e2:=b0;have f9:=P4.below b0;have b4:Mv [] w1 w6:=g8.trans (Mv.of_below b0);have e4:VW (Pb B (us.flatMap cF)) w6 (.iface 52 (.pointer (some (nl g)))) (et f):=by
  have hlt:=P4.lt;have hQ:Pb B (us.flatMap cF) g:=⟨Zc b9 e3,fun hb=>by have:=hlt g hb;omega⟩;obtain⟨g1,g2,g3,g4,g5⟩:=f8.out;rw[show et f=ei f.items from if_neg (by rw[ho];decide)];exact Bo a0 (b7.fresh b9 hlt) hQ (g2.mono fun _ _ h=>h.move b4 (by simp) fun x hx=>.inl (P3 x hx))
 have g9:=Qa (ti f9 h9.out e4 (Zc b9 b0.size));have f2:=Qa b0;clear e2 b0 f9 b4 e4 b7 a0 e3 b2;go_wp2_with fail;refine Za g9 ?_;rintro e w7 ⟨rfl,h1,h2,h3⟩;have R:=NB h1 h2 h3;clear h1 h2 h3;go_wp2_with fail;(try simp only[Exit.inBlock,Exit.then]);refine Zh (results_none rfl ..) rfl ?_;exact⟨rfl,(h0.trans (f2.mono b9)).trans R.1,(i5.trans (Kp.of_below TB f2)).trans R.2.1,R.2.2⟩
theorem Cz {bs:List Nat}(i8:lv= (fs.length+1:Nat))(h:fY B w xb (f::fs) none bs)(ho:f.obj=true)(i5:f.name=none)(f4:f.ok kN)(hi:f.items.length<=4294967296)(f3:f.mems.length<=4294967296)(d1:mf fs)(hB:B<=w.heap.size):Calls prog 137 #[.pointer (some (nl xb)),.agg #[(lv:Int),(6:Int)]] w fun e w'=>nY B xb (dq fs (et f)) w e w':=by
 have hl:=d1.1;have c4:=aa w (.cells #[(lv:Int),(6:Int)] 241);have g6:=h.below c4;have d2:=Qa (Zf w (.cells #[(lv:Int),(6:Int)] 241));obtain⟨w1,d3⟩:=y7 (w.alloc (.cells #[(lv:Int),(6:Int)] 241));rw[d3] at c4 g6 d2;obtain⟨pv,dv,us,h1⟩:=g6;obtain⟨f7,h2,h3,h4,h5,h6,h7⟩:=id h1
 cases us with
 |nil=>have:=h4.1;simp at this
 |cons u us=>
 have c7:us.length=fs.length:=by have:=h4.1;simpa using this
 have a4:∀x∈u::us,x.length=5:=fun x hx=>by
  obtain⟨i,hi,rfl⟩:=List.getElem_of_mem hx;exact(h4.2 i _ ((f::fs)[i]'(by have:=h4.1;omega)) (Zd hi) (Zd _)).len
 rw[List.length_cons,<-c7] at h3;obtain⟨pb,q,j5,hT⟩:=fj h3 a4;obtain⟨g9,a0,d4,a9,a7⟩:=hT;obtain⟨iv,mv,s0,xs,L,hu,j1,e6,a5,c9,b4,a2,e8,h0⟩:=h4.2 0 u f rfl rfl;obtain rfl:=e8 ho;obtain⟨Ai,qi,rfl,-⟩:=ai c9;subst g9 hu;obtain⟨m,hm⟩:∃m,m=us.length:=⟨_,rfl⟩;rw[<-hm] at a0 a9 a7;have c0:=ac f7 (j:=0) (u:=.slice (some (nl pb)) (m+1) q) (by rw[hm];rfl);have k0:=a0 0 _ rfl;have k1:=a0 1 _ rfl;have k2:=a0 2 _ rfl;have k3:=a0 3 _ rfl;have k4:=a0 4 _ rfl;rw[ho] at k0;rw[i5] at k4;simp only[Bool.false_eq_true,if_false,if_true] at k0;rw[Nat.add_zero] at k0;simp only[Option.isSome_none] at k4;have e0:=ac d2.out (j:=0) (u:=(lv:Int)) rfl;have e1:=ac d2.out (j:=1) (u:=(6:Int)) rfl;have s1:IntKind.i64.wrap (m:Int)= (m:Int):=IntWalk.i64_in _ (by omega);have d6:(((m+1:Nat):Int)==0)=false:=by simp only[beq_eq_false_iff_ne];omega
 have a6:lv= (m:Int)+1:=by omega
 have c8:(m:Int)< (m:Int)+1:=by omega
 have b8:(((m:Int)+1)==0)=false:=by simp only[beq_eq_false_iff_ne];omega
 have HA:=Qa h1;have Hm:=Qa hm;have j3:=Qa c7;have g7:=x8 e6 a5 c9 b4 a2;have b6:=Qa c4;have HB:=Qa hB;have g0:=Qa f4;have i4:=Qa d1;have k6:=Qa hi;have i9:=Qa f3;have d0:(lv== (m:Int)+1)=true:=by rw[a6];simp
 have b2:(lv != (m:Int)+1)=false:=by rw[a6];simp
 have C0:=Qa c0;have K0:=Qa k0;have K1:=Qa k1;have K2:=Qa k2;have K3:=Qa k3;have K4:=Qa k4;have E0:=Qa e0;have E1:=Qa e1;have Hq:=NA a7 a9;clear h h1 f7 h2 h3 h4 h5 h6 h7 e6 a5 c9 b4 a2 e8 h0 a0 d4 a4 j1 c7 hm i8 a6 c4 hB a9 a7 f4 d1 hi f3 k0 k1 k2 k3 k4 e0 e1 hl;go_in;go_wp2_with fail
 try rw[d3]
 clear c0;refine aI (fun w2=>w2.cell? (nl xb)=some (.slice (some (nl pb)) (m+1) q)/\w2.cell? ⟨pb,m*5,none⟩=some (.int .i64 6)/\w2.cell? ⟨pb,m*5+4,none⟩=some (.bool false)/\w2.cell? (nl w.heap.size)=some (.int .i64 lv)/\w2.cell? (no w.heap.size 1)=some (.int .i64 6)) (⟨C0,K0,K4,E0,E1⟩) fun a1=>?_
 refine bw 0 1 2 a1 ?_;refine bw 3 4 5 a1 ?_;refine bw 6 7 8 a1 ?_;refine bw 9 10 11 a1 ?_;refine bw 12 13 14 a1 ?_;refine bw 15 16 17 a1 ?_;refine bw 18 19 20 a1 ?_;refine bw 21 22 23 a1 ?_;refine bw 24 25 26 a1 ?_;refine bw 27 28 29 a1 ?_;refine bw 30 31 32 a1 ?_;refine y5 ?_;obtain⟨wr,d7⟩:=y7 w1.drew;have a3:ge w1 wr:=by rw[<-d7];exact(Ze _ _).drew
 rw[d7];clear a1 d7 d3;have r0:=Zg a3 C0.out;have r1:=Zg a3 K0.out;have r2:=Zg a3 K1.out;have r3:=Zg a3 K2.out;have r4:=Zg a3 K3.out;have r5:=Zg a3 K4.out;have j0:(m:Int)<=q:=by have:=Hq.1;omega
 have d5:=aa wr (.cells #[(6:Int),(),.slice Ai L.length qi,s0,false] 236);have c5:=Qa ((HA.below a3).below d5);have b7:=Qa (Zf wr (.cells #[(6:Int),(),.slice Ai L.length qi,s0,false] 236));have c1:=Qa d5;have c2:=Qa a3;have fx:=ao c5.row 0;have cx:=ac c5.row (j:=0) (u:=.slice (some (nl pb)) (m+1) q) (by rw[Hm.out];rfl);have bx0:=ac b7.out (j:=0) rfl;have i2:xb≠wr.heap.size:=fun e=>by have:=ah (HA.below a3).row;omega
 clear a3 d5;go_wp2_with fail;obtain⟨wA,e2⟩:=y7 (wr.alloc (.cells #[(6:Int),(),.slice Ai L.length qi,s0,false] 236));rw[e2];rw[e2] at c5 c1 b7;clear cx fx bx0 i2 e2 r0 r1 r2 r3 r4 r5 s1 d6 c8 b8 d0 b2 j0;obtain rfl:=Hm.out;have f8:B<=wA.heap.size:=by have:=c1.size;have:=c2.size;have:=b6.size;have:=HB.out;omega
 obtain⟨p1,p2,p3,p4⟩:=Bi c5.out f8;obtain⟨w5,f2⟩:=y7 (wA.setCell (nl xb) (.slice (some (nl pb)) us.length q));rw[f2] at p1 p2 p4 ⊢;have c3:Kp (fun e=>e=187) w1 w5:=((Kp.of_below _ c2).trans (Kp.of_below _ c1)).trans p2;have e7:Mv [] w1 w5:=Mv.of_kp c3 fun e he=>by rcases he with rfl|rfl|rfl|rfl <;> decide
 have f6:Below B w w5:=((b6.mono HB).trans ((c2.mono (Zc HB b6.size)).trans (c1.mono (by have:=c2.size;have:=b6.size;have:=HB.out;omega)))).trans p1;have P3:=Qa p3;have P4:=Qa p4;have j2:=Qa ((Kp.of_below TB b6).trans (c3.imp fun e he=>.inr (.inl he)));have h8:=Qa e7;have i0:=Qa f6;have b9:=Qa (show B<=w5.heap.size from Zc f8 p2.1);obtain⟨g1,g2,g3,g4,g5⟩:=g7.out;have f9:Bl 2 w5 (.slice Ai L.length qi) L.length (gU L):=Bl.of_own (ap g3 c3.keeps (by decide));have f0:L.length=f.mems.length:=by have:=congrArg List.length g4;simpa using this
 have b3:=Qa (ip f9 (fun p hp=>by
  obtain⟨i,hi,rfl⟩:=List.getElem_of_mem hp;refine⟨?_,?_⟩
  .have e:=congrArg (·[i]?) g4;simp only[List.getElem?_map,Zd hi,Zd (show i<f.mems.length by omega),Option.map_some] at e;rw[Zi e];exact g0.names _ (List.getElem_mem _)
  .exact(g5.2 i _ ((f.mems.map Prod.snd)[i]'(by simp;omega)) (by rw[List.getElem?_map,Zd hi];rfl) (Zd _)).iface) (by rw[g4];exact g0.nodup) (by have:=i9.out;omega))
 have k5:=Qa f0;clear f9 f0;clear p1 p2 p3 p4 c3 e7 f6 f2 g1 g2 g3 g4 g5;refine Za b3 ?_;rintro e w6 ⟨g,A6,c6,S,rfl,b1,e4,a0,b0,d9,f1⟩;have e3:=b1;have g8:=P4.below b1;have b5:Mv [] w1 w6:=h8.trans (Mv.of_below b1);have e5:VW (Pb B (us.flatMap cF)) w6 (.iface 126 (.pointer (some (nl g)))) (et f):=by
  have hlt:=P4.lt;have hQ:Pb B (us.flatMap cF) g:=⟨Zc b9 e4,fun hb=>by have:=hlt g hb;omega⟩;obtain⟨g1,g2,g3,g4,g5⟩:=g7.out;rw[show et f=od (gX f.mems) from if_pos ho];have i3:S.length=L.length:=d9.length_eq;rw[<-i3] at a0 b0;exact zV a0 (b0.fresh b9 hlt) hQ d9 f1 g4 (g5.mono fun _ _ h=>h.move b5 (by simp) fun x hx=>.inl (P3 x hx))
 have h9:=Qa (ti g8 i4.out e5 (Zc b9 b1.size));have f5:=Qa b1;clear e3 b1 g8 b5 e5 b0 a0 e4 b3 d9 f1;go_wp2_with fail;refine Za h9 ?_;rintro e w7 ⟨rfl,h1,h2,h3⟩;have R:=NB h1 h2 h3;clear h1 h2 h3;go_wp2;go_end0;exact⟨rfl,(i0.trans (f5.mono b9)).trans R.1,(j2.trans (Kp.of_below TB f5)).trans R.2.1,R.2.2⟩
open Go.Maps
def eu (w:Wd)(b:Nat)(names:List Nc)(n:Nat):Prop:= ∃D:DataW Unit,w.ownsMap prog 9 (plainElem prog 4) b n D/\∀s:Nc,s.size<=maxLen->D.atKey (.string s.data.toList) (.lit (.bool false)) =.lit (.bool (names.any fun t=>decide (t=s)))
theorem FO:Keyed prog 9:=string_keyed underlying9
theorem KL (w:Wd):(zeroValue 4).run prog w =.ok false w:=by kernel_rfl
theorem eu.made (w:Wd):eu (w.alloc (.map #[] 0)) w.heap.size [] 0:=
 ⟨.map [],World.ownsMap_made _ _ _ _,fun s _=>by simp[DataW.atKey]⟩
theorem BK {d:DataW Unit}{ps:List MemPlace}(h:plainElem (H:=Unit) prog 4 v=some (d,ps)):∃x,v =.bool x/\d =.lit (.bool x):=by
 unfold plainElem at h;rw[underlying4] at h
 cases v with
 |bool x=>simp at h;exact⟨x,rfl,h.1.symm⟩
 |_=>simp at h
theorem eu.look {b:Nat}{names:List Nc}(h:eu w b names n){s:Nc}(hs:s.size<=maxLen):(Instr.lookup 331 (.map (some b)) s false).run prog w =.ok (.bool (names.any (fun t=>decide (t=s)))) w:=by
 obtain⟨D,h1,h2⟩:=h;obtain⟨v,ps,a0,hv⟩:=h1.lookup FO underlying331 (KL w) (show plainElem (H:=Unit) prog 4 false=some (.lit (.bool false), []) from plainElem_bool underlying4 false) (WideMaps.keyOf_string_mk underlying9 hs);obtain⟨x,rfl,hx⟩:=BK hv;rw[h2 s hs] at hx;injection hx with hx
 injection hx with hx
 rw[a0,hx]
theorem eu.grown {b:Nat}{names:List Nc}{row:Option Nat}(h:eu w b names n)(hg:w.grownBy w' row)(hb:some b≠row):eu w' b names n:=by
 obtain⟨D,h1,h2⟩:=h;exact⟨D,h1.kept hg hb,h2⟩
theorem eu.kp {b:Nat}{names:List Nc}(h:eu w b names n)(hk:Kp T w w'):eu w' b names n:=by
 obtain⟨D,⟨es,clock,hh,r⟩,h2⟩:=h;exact⟨D,⟨es,clock,hk.2 b _ hh (fun _ _ _ e=>by cases e),r⟩,h2⟩
theorem eu.lt {b:Nat}{names:List Nc}(h:eu w b names n):b<w.heap.size:=by
 obtain⟨D,h1,-⟩:=h;exact h1.lt
theorem vY {ops:Array Oper}{rest:List Oper}{o:Oper}{a:Act}{Q:Exit->Act->Wd->Prop}{b:Nat}{names:List Nc}{s:Nc}(h:eu w b names n)(hs:s.size<=maxLen)(hn:n<maxLen)(hg:o.guard=none)(m x v:Operand)(a3:o.op=Op.mapUpdate 331 m x v)
  (hm:a.eval m =.map (some b)) (hx:a.eval x =.string s) (hv:a.eval v =.bool true)
  (hK:∀w',eu w' b (s::names) (n+1)->w.mapTurned w' b->wpList prog ops Q rest (a.put o.dst undef) w'):wpList prog ops Q (o::rest) a w:=by
 obtain⟨D,h1,h2⟩:=h;have a2:=h1.isMap;refine wpList_plain hg fun K' a1=>?_
 obtain⟨w',a0,r1,r2⟩:=h1.store FO underlying331 hn (WideMaps.keyOf_string_mk underlying9 hs) (show plainElem (H:=Unit) prog 4 true=some (.lit (.bool true), []) from plainElem_bool underlying4 true);unfold Oper.wp;simp[execOp,a3,hm,hx,hv,a0,Result.andThen];refine a1 _ _ (hK w' ⟨_,r1,fun t ht=>?_⟩ r2)
 by_cases e:t=s
 ·subst e;rw[atKey_put_same a2 (by exact trivial:WideAt.IsKeyLit (.string t.data.toList)) _ _];simp
 .have hne:Lit.string t.data.toList≠Lit.string s.data.toList:=fun h=>by
   injection h with h
   cases s;cases t;simp only[Array.toList_inj] at h;exact e (by rw[h])
  rw[atKey_put_other hne,h2 t ht];rw[List.any_cons];have e2:decide (s=t)=false:=decide_eq_false fun h=>e h.symm
  rw[e2,Bool.false_or]
def fu:Value:=.agg #[(1073741824:Int),(1073741824:Int),(1073741824:Int),(1073741824:Int),(1073741824:Int),(4611686018427387903:Int)]
theorem nA (w:Wd):Calls prog 171 #[fu] w (y4 fu w):=by
 unfold fu;have hb:=Qa (bI (aa w (.cells #[(1073741824:Int),(1073741824:Int),(1073741824:Int),(1073741824:Int),(1073741824:Int),(4611686018427387903:Int)] 117)) (aa _ (.cells #[(1073741824:Int),(1073741824:Int),(1073741824:Int),(1073741824:Int),(1073741824:Int),(4611686018427387903:Int)] 281)));go_in;go_wp2_with fail;have Hb:=hb.out;generalize hwa:(w.alloc (.cells #[(1073741824:Int),(1073741824:Int),(1073741824:Int),(1073741824:Int),(1073741824:Int),(4611686018427387903:Int)] 117))=wa at *;have hsz:w.heap.size+1=wa.heap.size:=by rw[<-hwa];simp
 rw[hsz];have hn:=Zf wa (.cells #[(1073741824:Int),(1073741824:Int),(1073741824:Int),(1073741824:Int),(1073741824:Int),(4611686018427387903:Int)] 281);have n0:=ac hn (j:=0) rfl;have n1:=ac hn (j:=1) rfl;have n2:=ac hn (j:=2) rfl;have n3:=ac hn (j:=3) rfl;have n4:=ac hn (j:=4) rfl;have n5:=ac hn (j:=5) rfl;refine Zh (v:=.agg #[(1073741824:Int),(1073741824:Int),(1073741824:Int),(1073741824:Int),(1073741824:Int),(4611686018427387903:Int)]) ?_ rfl ⟨rfl,Hb⟩;simp[results,results171,go_sem,n0,n1,n2,n3,n4,n5]
theorem I4 (a b c d e f:Value)(W:Wd):(Instr.index 281 (.agg #[a,b,c,d,e,f]) (0:Int)).run prog W =.ok a W:=by kernel_rfl
theorem Ji (a b c d e f:Value)(W:Wd):(Instr.index 281 (.agg #[a,b,c,d,e,f]) (1:Int)).run prog W =.ok b W:=by kernel_rfl
theorem IX (a b c d e f:Value)(W:Wd):(Instr.index 281 (.agg #[a,b,c,d,e,f]) (2:Int)).run prog W =.ok c W:=by kernel_rfl
theorem Jf (a b c d e f:Value)(W:Wd):(Instr.index 281 (.agg #[a,b,c,d,e,f]) (3:Int)).run prog W =.ok d W:=by kernel_rfl
theorem I0 (a b c d e f:Value)(W:Wd):(Instr.index 281 (.agg #[a,b,c,d,e,f]) (4:Int)).run prog W =.ok e W:=by kernel_rfl
theorem Ja (a b c d e f:Value)(W:Wd):(Instr.index 281 (.agg #[a,b,c,d,e,f]) (5:Int)).run prog W =.ok f W:=by kernel_rfl
theorem yL {m:Int}(hm:m=1\/m=2\/m=3\/m=5)(w:Wd):Calls prog 172 #[fu,(m:Int)] w (y4 (.tuple #[(1073741824:Int),true]) w):=by
 have a0:=aa w (.cells #[(1073741824:Int),(1073741824:Int),(1073741824:Int),(1073741824:Int),(1073741824:Int),(4611686018427387903:Int)] 117);have H:=Qa (fun w=>nA w);unfold fu at *;have x0:=I4;have x1:=Ji;have x2:=IX;have x3:=Jf;have x4:=I0;have x5:=Ja;have a1:=Qa a0;clear a0;rcases hm with rfl|rfl|rfl|rfl
 all_goals
  go_in;go_wp2_with fail;refine(H _).mono ?_;rintro e w1 ⟨rfl,hb⟩;have Hb:=Qa hb;clear hb;go_wp2_with fail;go_ret2;exact⟨rfl,bI a1 Hb⟩
theorem vM {m x:Int}(hm:m=1\/m=2\/m=3\/m=5)(hx:x<=1073741824)(w:Wd):Calls prog 130 #[fu,(m:Int),(x:Int)] w (y4 .nilIface w):=by
 have a0:=aa w (.cells #[(1073741824:Int),(1073741824:Int),(1073741824:Int),(1073741824:Int),(1073741824:Int),(4611686018427387903:Int)] 117);have H:=Qa (fun w=>yL hm w);unfold fu at *;have a1:=Qa a0;clear a0 hm;go_in;go_wp2_with fail;refine(H _).mono ?_;rintro e w1 ⟨rfl,hb⟩;have Hb:=Qa hb;clear hb;go_wp2;go_ret;exact⟨rfl,bI a1 Hb⟩
theorem zL (w:Wd):Calls prog 129 #[fu] w (y4 .nilIface w):=by
 have a0:=aa w (.cells #[(1073741824:Int),(1073741824:Int),(1073741824:Int),(1073741824:Int),(1073741824:Int),(4611686018427387903:Int)] 117);have H:=Qa (fun w=>nA w);unfold fu at *;have x0:=I4;have x1:=Ji;have x2:=IX;have x3:=Jf;have x4:=I0;have x5:=Ja;have a1:=Qa a0;clear a0;go_in;go_wp2_with fail;refine(H _).mono ?_;rintro e w1 ⟨rfl,hb⟩;have Hb:=Qa hb;clear hb;go_wp2_with fail
 go_loopg [8] 6 (fun k s8 wr=> ∃i:Nat,k+i=6/\s8 =(i:Int)/\wr=w1)
 case atStart=>exact⟨0,rfl,rfl,rfl⟩
 case round=>
  obtain⟨i,hk,rfl,rfl⟩:=hrel;have hi:i=0\/i=1\/i=2\/i=3\/i=4\/i=5\/i=6:=by omega
  rcases hi with rfl|rfl|rfl|rfl|rfl|rfl|rfl
  .go_wp2_with fail;go_roundg 5
   case measure=>omega
   case rel=>exact⟨1,rfl,rfl,rfl⟩
  .go_wp2_with fail;go_roundg 4
   case measure=>omega
   case rel=>exact⟨2,rfl,rfl,rfl⟩
  .go_wp2_with fail;go_roundg 3
   case measure=>omega
   case rel=>exact⟨3,rfl,rfl,rfl⟩
  .go_wp2_with fail;go_roundg 2
   case measure=>omega
   case rel=>exact⟨4,rfl,rfl,rfl⟩
  .go_wp2_with fail;go_roundg 1
   case measure=>omega
   case rel=>exact⟨5,rfl,rfl,rfl⟩
  .go_wp2_with fail;go_roundg 0
   case measure=>omega
   case rel=>exact⟨6,rfl,rfl,rfl⟩
  .go_wp2;go_ret;exact⟨rfl,bI a1 Hb⟩
def dW (lb xb:Nat)(by_ dp nd ex:Int)(ov nv:Value)(want:Int)(fin:Bool):Array Value:=
 #[.pointer (some ⟨lb, 0, none⟩), .int .i64 1073741824, .int .i64 1073741824, .int .i64 1073741824, .int .i64 1073741824, .int .i64 1073741824, .int .i64 4611686018427387903, .int .i64 by_, .int .i64 dp, .int .i64 nd, .int .i64 ex,
  .func (.func 103) #[.pointer (some (nl xb))] #[],ov,nv,.int .i64 want,.bool fin]
def iN (f:Fr):Value:=(if f.obj then 6 else 5:Int)
def zF (b:Nat):Value:=.map (some b)
def j6 (f:Fr):List Nc:=f.name.toList++f.mems.map Prod.fst
def kG (B:Nat)(w:Wd)(b:Nat)(f:Fr):Prop:=B<=b/\∃l n,eu w b l n/\n<=f.mems.length+f.name.toList.length/\∀s,s∈l↔s∈j6 f
structure ju (B:Nat) (w:Wd) (rb lb xb:Nat) (v:Value) (xs:Na) (frs:List Fr) (want k:Nat) (nd:Nat) (fin:Bool) (by_ dp ex:Int) (ov nv:Value) (maps:List Nat):Prop where
 row:w.heap[rb]?=some (.cells (dW lb xb by_ dp nd ex ov nv want fin) 228 (0,0))
 low:B<=rb
 lex:qO w lb v xs k
 llow:B<=lb
 own:aw w B v xs
 opens:w.ownsRow B 3 1 ov frs.length (frs.reverse.map iN)
 names:w.ownsRow B 331 1 nv maps.length (maps.reverse.map zF)
 seen:bC (kG B w) maps (frs.filter (·.obj))
 nodup:maps.Nodup
 le:k<=xs.length
def nN (e:TypeId):Prop:=e=228\/e=288\/e=3\/e=331
def kI (B:Nat)(w:Wd)(rb lb xb:Nat)(v:Value)(xs:Na)(frs:List Fr)(want k nd:Nat)(fin:Bool):Prop:= ∃by_ dp ex ov nv maps,ju B w rb lb xb v xs frs want k nd fin by_ dp ex ov nv maps
section
variable {B rb lb xb want k nd:Nat}{w w':Wd}{v:Value}{xs:Na}{frs:List Fr}{fin:Bool}{by_ dp ex:Int}{ov nv:Value}{maps:List Nat}
theorem ju.s (h:ju B w rb lb xb v xs frs want k nd fin by_ dp ex ov nv maps):kI B w rb lb xb v xs frs want k nd fin:=⟨_,_,_,_,_,_,h⟩
theorem ju.kp (h:ju B w rb lb xb v xs frs want k nd fin by_ dp ex ov nv maps)(hk:Kp T w w')(hT:∀e,nN e->¬T e)(h8:¬T 5):ju B w' rb lb xb v xs frs want k nd fin by_ dp ex ov nv maps:=by
 obtain⟨h1,h2,h3,h4,h5,h6,h7,a1,h9,a2⟩:=h;have a0:aw w' B v xs:=ap h5 hk.keeps h8;refine⟨hk.heap h1 (hT _ (.inl rfl)),h2,⟨hk.heap h3.1 (hT _ (.inr (.inl rfl))),aw.bs a0⟩,h4,a0,ap h6 hk.keeps (hT _ (.inr (.inr (.inl rfl)))),ap h7 hk.keeps (hT _ (.inr (.inr (.inr rfl)))),a1.mono fun a b h=>?_,h9,a2⟩;obtain⟨q1,l,n,q2,q3,q4⟩:=h;exact⟨q1,l,n,q2.kp hk,q3,q4⟩
theorem ju.below (h:ju B w rb lb xb v xs frs want k nd fin by_ dp ex ov nv maps)(hb:ge w w'):ju B w' rb lb xb v xs frs want k nd fin by_ dp ex ov nv maps:=h.kp (T:=fun _=>False) (Kp.of_below _ hb) (fun _ _ h=>h) (fun h=>h)
theorem kI.kp (h:kI B w rb lb xb v xs frs want k nd fin)(hk:Kp T w w')(hT:∀e,nN e->¬T e)(h8:¬T 5):kI B w' rb lb xb v xs frs want k nd fin:=by
 obtain⟨a,b,c,d,e,f,h⟩:=h;exact⟨a,b,c,d,e,f,h.kp hk hT h8⟩
theorem kI.below (h:kI B w rb lb xb v xs frs want k nd fin)(hb:ge w w'):kI B w' rb lb xb v xs frs want k nd fin:=by
 obtain⟨a,b,c,d,e,f,h⟩:=h;exact⟨a,b,c,d,e,f,h.below hb⟩
theorem D4:∀e,nN e->¬TB e:=fun e h=>by rcases h with rfl|rfl|rfl|rfl <;> (simp only[TB,TV];decide)
theorem cm:∀e,TB e->¬nN e:=fun e h h2=>D4 e h2 h
theorem kI.tb (h:kI B w rb lb xb v xs frs want k nd fin)(hk:Kp TB w w'):kI B w' rb lb xb v xs frs want k nd fin:=h.kp hk D4 (by simp only[TB,TV];decide)
theorem ju.setR (h:ju B w rb lb xb v xs frs want k nd fin by_ dp ex ov nv maps)(hB:B<=w.heap.size)(j:Nat)(u:Value):Below B w (w.setCell (no rb j) u)/\Kp nN w (w.setCell (no rb j) u)/\(w.setCell (no rb j) u).heap[rb]?=some (.cells ((dW lb xb by_ dp nd ex ov nv want fin).setIfInBounds j u) 228 (0,0))/\∀cells',(w.setCell (no rb j) u).heap[rb]?=some (.cells cells' 228 (0,0))->
  qO (w.setCell (no rb j) u) lb v xs k/\aw (w.setCell (no rb j) u) B v xs/\(w.setCell (no rb j) u).ownsRow B 3 1 ov frs.length (frs.reverse.map iN)/\(w.setCell (no rb j) u).ownsRow B 331 1 nv maps.length (maps.reverse.map zF)/\bC (kG B (w.setCell (no rb j) u)) maps (frs.filter (·.obj)):=by
 obtain⟨h1,h2,h3,h4,h5,h6,h7,a2,h9,a3⟩:=h;have a1:=aV.set (w:=w) rb j u;have hk:Kp (fun e=>e=228) w (w.setCell (no rb j) u):=Kp.of_chg a1 fun g e _=>by subst e;exact⟨_,_,_,h1,rfl⟩
 have a0:aw (w.setCell (no rb j) u) B v xs:=ap h5 hk.keeps (by decide);refine⟨a1.below hB (fun i e=>by rw[e];exact h2),hk.imp fun e he=>.inl he,az h1 j u,fun _ _=>⟨⟨hk.heap h3.1 (by decide),aw.bs a0⟩,a0,ap h6 hk.keeps (by decide),ap h7 hk.keeps (by decide),a2.mono fun a b h=>?_⟩⟩;obtain⟨q1,l,n,q2,q3,q4⟩:=h;exact⟨q1,l,n,q2.kp hk,q3,q4⟩
end
section
variable {B rb lb xb want k nd:Nat}{w w':Wd}{v:Value}{xs:Na}{frs:List Fr}{fin:Bool}{by_ dp ex:Int}{ov nv:Value}{maps:List Nat}
theorem ju.setWant (h:ju B w rb lb xb v xs frs want k nd fin by_ dp ex ov nv maps)(hB:B<=w.heap.size)(n:Nat){z:Int}(hz:z=n):Below B w (w.setCell (no rb 14) (z:Int))/\Kp nN w (w.setCell (no rb 14) (z:Int))/\ju B (w.setCell (no rb 14) (z:Int)) rb lb xb v xs frs n k nd fin by_ dp ex ov nv maps:=by
 subst hz;obtain⟨h1,h2,h3,h4⟩:=h.setR hB 14 (n:Int);obtain⟨q1,q2,q3,q4,q5⟩:=h4 _ h3;exact⟨h1,h2,h3,h.low,q1,h.llow,q2,q3,q4,q5,h.nodup,h.le⟩
theorem ju.setNodes (h:ju B w rb lb xb v xs frs want k nd fin by_ dp ex ov nv maps)(hB:B<=w.heap.size)(n:Nat){z:Int}(hz:z=n):Below B w (w.setCell (no rb 9) (z:Int))/\Kp nN w (w.setCell (no rb 9) (z:Int))/\ju B (w.setCell (no rb 9) (z:Int)) rb lb xb v xs frs want k n fin by_ dp ex ov nv maps:=by
 subst hz;obtain⟨h1,h2,h3,h4⟩:=h.setR hB 9 (n:Int);obtain⟨q1,q2,q3,q4,q5⟩:=h4 _ h3;exact⟨h1,h2,h3,h.low,q1,h.llow,q2,q3,q4,q5,h.nodup,h.le⟩
theorem ju.setDepth (h:ju B w rb lb xb v xs frs want k nd fin by_ dp ex ov nv maps)(hB:B<=w.heap.size)(z:Int):Below B w (w.setCell (no rb 8) (z:Int))/\Kp nN w (w.setCell (no rb 8) (z:Int))/\ju B (w.setCell (no rb 8) (z:Int)) rb lb xb v xs frs want k nd fin by_ z ex ov nv maps:=by
 obtain⟨h1,h2,h3,h4⟩:=h.setR hB 8 (z:Int);obtain⟨q1,q2,q3,q4,q5⟩:=h4 _ h3;exact⟨h1,h2,h3,h.low,q1,h.llow,q2,q3,q4,q5,h.nodup,h.le⟩
theorem ju.setExpo (h:ju B w rb lb xb v xs frs want k nd fin by_ dp ex ov nv maps)(hB:B<=w.heap.size)(z:Int):Below B w (w.setCell (no rb 10) (z:Int))/\Kp nN w (w.setCell (no rb 10) (z:Int))/\ju B (w.setCell (no rb 10) (z:Int)) rb lb xb v xs frs want k nd fin by_ dp z ov nv maps:=by
 obtain⟨h1,h2,h3,h4⟩:=h.setR hB 10 (z:Int);obtain⟨q1,q2,q3,q4,q5⟩:=h4 _ h3;exact⟨h1,h2,h3,h.low,q1,h.llow,q2,q3,q4,q5,h.nodup,h.le⟩
theorem ju.setDone (h:ju B w rb lb xb v xs frs want k nd fin by_ dp ex ov nv maps)(hB:B<=w.heap.size)(b:Bool):Below B w (w.setCell (no rb 15) (.bool b))/\Kp nN w (w.setCell (no rb 15) (.bool b))/\ju B (w.setCell (no rb 15) (.bool b)) rb lb xb v xs frs want k nd b by_ dp ex ov nv maps:=by
 obtain⟨h1,h2,h3,h4⟩:=h.setR hB 15 (.bool b);obtain⟨q1,q2,q3,q4,q5⟩:=h4 _ h3;exact⟨h1,h2,h3,h.low,q1,h.llow,q2,q3,q4,q5,h.nodup,h.le⟩
end
theorem ew {k:Nat}(h:kI B w rb lb xb v xs frs want k nd fin)(hl:frs.length<=4294967296):Calls prog 203 #[.pointer (some (nl rb))] w fun e w'=>e = ((frs.length:Int)+1:Int)/\w=w':=by
 obtain⟨by_,dp,ex,ov,nv,maps,h⟩:=h;obtain⟨A,q,rfl,-⟩:=ai h.opens;have c12:=ac h.row (j:=12) (u:=.slice A frs.length q) rfl;have s1:=y9 ((frs.length:Int)+1);clear h;go_in;go_wp2;go_ret;exact⟨rfl,rfl⟩
theorem ua {k:Nat}(h:kI B w rb lb xb v xs frs want k nd fin){m x:Int}(hm:m=1\/m=2\/m=3\/m=5)(hx:x<=1073741824):Calls prog 206 #[.pointer (some (nl rb)),(m:Int),(x:Int)] w (y4 (.tuple #[]) w):=by
 obtain⟨by_,dp,ex,ov,nv,maps,h⟩:=h;have c1:=ac h.row (j:=1) (u:=(1073741824:Int)) rfl;have c2:=ac h.row (j:=2) (u:=(1073741824:Int)) rfl;have c3:=ac h.row (j:=3) (u:=(1073741824:Int)) rfl;have c4:=ac h.row (j:=4) (u:=(1073741824:Int)) rfl;have c5:=ac h.row (j:=5) (u:=(1073741824:Int)) rfl;have c6:=ac h.row (j:=6) (u:=(4611686018427387903:Int)) rfl;have H:=Qa (fun w=>vM hm hx w);unfold fu at H;clear h hm hx;go_in;go_wp2_with fail;refine(H _).mono ?_;rintro e w1 ⟨rfl,hb⟩;have Hb:=Qa hb;clear hb c1 c2 c3 c4 c5 c6;go_wp2;go_end0;exact⟨rfl,Hb⟩
def LP (B rb lb xb:Nat)(v:Value)(xs:Na)(frs:List Fr)(want k nd:Nat)(fin:Bool)(w:Wd)(e:Ending)(w':Wd):Prop:=e =.returned (.tuple #[])/\Below B w w'/\Kp nN w w'/\kI B w' rb lb xb v xs frs want k nd fin
theorem ig {k:Nat}(h:kI B w rb lb xb v xs frs want k nd fin)(hl:frs.length<=1000000000)(hn:nd<=1000000000)(hB:B<=w.heap.size):Calls prog 202 #[.pointer (some (nl rb))] w (LP B rb lb xb v xs frs want k (nd+1) fin w):=by
 have b6:=Qa (fun (w:Wd) (h:kI B w rb lb xb v xs frs want k (nd+1) fin)=>ew h (by omega));have b4:=Qa (ew h (by omega));have b1:=Qa (ua h (m:=2) (x:=(frs.length:Int)+1) (by omega) (by omega));have H:=Qa h;have HB:=Qa hB;have Hl:=Qa hl;have s1:=y9 ((nd:Int)+1);clear h hB hl;go_in;go_wp2_with fail;refine Za b4 ?_;rintro e w' ⟨rfl,rfl⟩;go_wp2_with fail;refine Za b1 ?_;rintro e w1 ⟨rfl,a9⟩;have H1:=H.below a9;have b2:=Qa (ua H1 (m:=3) (x:=(nd:Int)+1) (by omega) (by omega));obtain⟨by_,dp,ex,ov,nv,maps,hA⟩:=id H1;have c9:=ac hA.row (j:=9) (u:=(nd:Int)) rfl;have H1:=Qa H1;have HA:=Qa hA;have b3:=Qa a9;clear hA a9 b1 b4;go_wp2_with fail;refine Za b2 ?_;rintro e w2 ⟨rfl,a5⟩;have a4:=HA.below a5;have a3:B<=w2.heap.size:=by have:=HB.out;have:=b3.size;have:=a5.size;omega
 have a1:=Qa (a4.setNodes a3 (nd+1) (z:=(nd:Int)+1) (by omega));have d9:=ac a4.row (j:=9) (u:=(nd:Int)) rfl;have f9:=ao a4.row 9;have b0:=Qa (bI b3.out a5);clear a4 a5 b2 c9 a3;go_wp2_with fail;generalize w2.setCell (no rb 9) ((nd:Int)+1:Int)=w3 at *;clear d9 f9;obtain⟨wr,a2⟩:=y7 w3.drew;have a6:ge w3 wr:=by rw[<-a2];exact(Ze _ _).drew
 have HR:=Qa (a1.2.2.below a6);have c8:=ac HR.row (j:=8) (u:=(dp:Int)) rfl;have f8:=ao HR.row 8;have C8:=Qa c8;have a7:=Qa a6;clear a6;refine cJ (fun w2=>w2.cell? (no rb 8)=some (.int .i64 dp)) 12 ((by rw[a2];exact C8.out)) fun a0=>?_
 rw[a2] at a0 ⊢;clear a2;refine iz 0 1 2 a0 ?_;refine iz 3 4 5 a0 ?_;refine tZ 6 a0 ?_;refine rZ 7 fun K hK=>?_
 go_simp;refine(b6 _ HR.s).mono ?_;rintro e w' ⟨rfl,rfl⟩;go_wp2_with fail;refine hK _ _ (fun _=>a0) (fun a0=>?_);clear hK K;have a0:=a0 (by decide)
 try simp only[Act.put,jP,jQ,jR]
 refine tZ 8 a0 ?_;refine rZ 9 fun K hK=>?_
 go_simp;refine hK _ _ (fun _=>a0) (fun a0=>?_);clear hK K;have a0:=a0 (by decide)
 try simp only[Act.put,jP,jQ,jR]
 refine rZ 10 fun K hK=>?_
 go_simp;refine hK _ _ (fun _=>a0) (fun a0=>?_);clear hK K;have a0:=a0 (by decide)
 try simp only[Act.put,jP,jQ,jR]
 refine tZ 11 a0 ?_;refine rZ 12 fun K hK=>?_
 go_simp;refine hK _ _ (fun h=>absurd rfl h) (fun _=>?_);clear hK K
 try simp only[Act.put,jP,jQ,jR]
 refine aR (by kernel_rfl) (NoPanic.normal ?_) _;go_end0;obtain⟨r1,r2,r3⟩:=a1.out;have a3:B<=w2.heap.size:=by have:=HB.out;have:=b0.size;omega
 have b5:B<=wr.heap.size:=by have:=r2.1;have:=a7.size;omega
 obtain⟨q1,q2,q3⟩:=HR.setDepth b5 (max dp ((frs.length:Int)+1));exact⟨rfl,((b0.mono HB).trans r1).trans ((a7.mono (Zc a3 r2.1)).trans q1),((Kp.of_below _ b0).trans r2).trans ((Kp.of_below _ a7).trans q2),q3.s⟩
theorem Cm {k:Nat}(h:kI B w rb lb xb v xs [] want k nd fin)(hB:B<=w.heap.size):Calls prog 204 #[.pointer (some (nl rb))] w fun e w'=>LP B rb lb xb v xs [] 7 k nd fin w e w':=by
 obtain⟨by_,dp,ex,ov,nv,maps,h⟩:=h;obtain⟨A,q,rfl,-⟩:=ai h.opens;have c12:=ac h.row (j:=12) (u:=.slice A 0 q) rfl;have c14:=ac h.row (j:=14) (u:=(want:Int)) rfl;have f14:=ao h.row 14;have Hs:=Qa (h.setWant hB 7 (z:=7) rfl);clear h hB;go_in;go_wp2;go_end0;exact⟨rfl,Hs.1,Hs.2.1,Hs.2.2.s⟩
theorem yn {k:Nat}(h:kI B w rb lb xb v xs (f::fs) want k nd fin)(hB:B<=w.heap.size)(hl:fs.length<=4294967296):Calls prog 204 #[.pointer (some (nl rb))] w fun e w'=>LP B rb lb xb v xs (f::fs) (if f.obj then 6 else 5) k nd fin w e w':=by
 obtain⟨by_,dp,ex,ov,nv,maps,h⟩:=h;obtain⟨m,hm⟩:=y7 fs.length;have ho:=h.opens;rw[List.length_cons,hm] at ho;obtain⟨A,q,rfl,-,-,hA⟩:=ai ho;obtain⟨g,rfl⟩:=hA (by omega);have cg:=World.ownsRow.cellAt ho m (by omega);rw[List.reverse_cons,List.map_append,List.getElem?_append_right (by simp;omega),List.length_map,List.length_reverse,hm,Nat.sub_self] at cg;have c12:=ac h.row (j:=12) (u:=.slice (some (nl g)) (m+1) q) rfl;have c14:=ac h.row (j:=14) (u:=(want:Int)) rfl;have f14:=ao h.row 14;have s1:IntKind.i64.wrap (m:Int)= (m:Int):=IntWalk.i64_in _ (by omega);have a5:(m:Int)< (m:Int)+1:=by omega
 have a4:(((m:Int)+1)==0)=false:=by simp only[beq_eq_false_iff_ne];omega
 have HA:=Qa h;have HB:=Qa hB;clear h hB ho hA hm
 by_cases hob:f.obj=true
 .rw[if_pos hob];replace cg:w.cell? (no g m)=some (.int .i64 6):=by rw[cg];simp[iN,hob]
  go_in;go_wp2_with fail;go_quiet (fail);obtain⟨wd,a2⟩:=y7 (w.drewN nq);have a1:ge w wd:=by rw[<-a2];exact av (Ze _ _) nq
  have a0:=HA.below a1;have d14:=ac a0.row (j:=14) (u:=(want:Int)) rfl;have g14:=ao a0.row 14;have Hs:=Qa (a0.setWant (Zc HB a1.size) 6 (z:=6) rfl);have a3:=Qa a1;rw[a2];clear a2 a0 a1 c12 c14 f14 cg;go_wp2;go_end0;exact⟨rfl,(a3.mono HB).trans Hs.1,(Kp.of_below _ a3).trans Hs.2.1,Hs.2.2.s⟩
 .rw[if_neg hob];replace cg:w.cell? (no g m)=some (.int .i64 5):=by rw[cg];simp[iN,hob]
  go_in;go_wp2_with fail;go_quiet (fail);obtain⟨wd,a2⟩:=y7 (w.drewN nq);have a1:ge w wd:=by rw[<-a2];exact av (Ze _ _) nq
  have a0:=HA.below a1;have d14:=ac a0.row (j:=14) (u:=(want:Int)) rfl;have g14:=ao a0.row 14;have Hs:=Qa (a0.setWant (Zc HB a1.size) 5 (z:=5) rfl);have a3:=Qa a1;rw[a2];clear a2 a0 a1 c12 c14 f14 cg;go_wp2;go_end0;exact⟨rfl,(a3.mono HB).trans Hs.1,(Kp.of_below _ a3).trans Hs.2.1,Hs.2.2.s⟩
theorem JT(x W):y6 360 x 290 360 x true W:=by show _=_;kernel_rfl
theorem yf(x W):y6 300 x 290 300 x true W:=by show _=_;kernel_rfl
theorem Kx(x W):y6 295 x 290 295 x true W:=by show _=_;kernel_rfl
theorem G9(x W):y6 297 x 290 297 x true W:=by show _=_;kernel_rfl
theorem yu(x W):y6 300 x 290 360 (.agg #[(0:Int),false,.string ⟨#[]⟩,(0:Int)]) false W:=by show _=_;kernel_rfl
theorem nK(x W):y6 353 x 290 360 (.agg #[(0:Int),false,.string ⟨#[]⟩,(0:Int)]) false W:=by show _=_;kernel_rfl
theorem ij(x W):y6 353 x 290 300 (.agg #[(0:Int),.string ⟨#[]⟩]) false W:=by show _=_;kernel_rfl
theorem xD(x W):y6 297 x 290 295 (.agg #[(0:Int)]) false W:=by show _=_;kernel_rfl
theorem oV(x W):y6 300 x 290 295 (.agg #[(0:Int)]) false W:=by show _=_;kernel_rfl
theorem nG(x W):y6 300 x 290 297 (.agg #[(0:Int),.int .u8 0]) false W:=by show _=_;kernel_rfl
theorem zH(x W):y6 360 x 290 295 (.agg #[(0:Int)]) false W:=by show _=_;kernel_rfl
theorem wV(x W):y6 360 x 290 297 (.agg #[(0:Int),.int .u8 0]) false W:=by show _=_;kernel_rfl
theorem AF(x W):y6 360 x 290 300 (.agg #[(0:Int),.string ⟨#[]⟩]) false W:=by show _=_;kernel_rfl
theorem nw(x W):y6 353 x 290 295 (.agg #[(0:Int)]) false W:=by show _=_;kernel_rfl
theorem lN(x W):y6 353 x 290 297 (.agg #[(0:Int),.int .u8 0]) false W:=by show _=_;kernel_rfl
theorem jF(x W):y6 353 x 290 362 (.iface 353 x) true W:=run_typeAssert_hasB underlying362 (by kernel_rfl) x _ W
inductive xr:JV->Prop
 |null:xr kC
 |bool (b:Bool):xr (gB b)
 |num (d:Dc): -1000000000<=d.exp/\d.exp<=1000000000->xr (eC d)
theorem mw (k:Int){s:Nc}{x:Bool}(hs:(s.toList == [110,117,108,108])=x)(w:Wd):Calls prog 333 #[.agg #[(k:Int),s]] w (y4 (if x then 1 else 2:Int) w):=by
 have a0:=aa w (.cells #[(k:Int),s] 353)
 cases x
 all_goals
  go_in;go_wp2;go_ret;exact⟨rfl,a0⟩
theorem rW (k:Int){s:Nc}(w:Wd):Calls prog 334 #[.agg #[(k:Int),s]] w (y4 (k:Int) w):=by
 have a0:=aa w (.cells #[(k:Int),s] 353);go_in;go_wp2;go_ret;exact⟨rfl,a0⟩
theorem Aw (k:Int)(d:Dc)(w:Wd):Calls prog 205 #[.iface 360 (.agg #[(k:Int),.bool d.neg,d.digits,(d.exp:Int)])] w fun e w'=>e =.returned (.iface 123 (.agg #[.bool d.neg,d.digits,(d.exp:Int)]))/\ge w w':=by
 have a0:=aa w (.cells #[(k:Int),.bool d.neg,d.digits,(d.exp:Int)] 360);have q1:=JT;go_in;go_wp2;go_ret;exact⟨rfl,a0⟩
theorem AB (k:Int)(s:Nc)(w:Wd):Calls prog 205 #[.iface 300 (.agg #[(k:Int),s])] w (y4 (.iface 37 s) w):=by
 have a0:=aa w (.cells #[(k:Int),s] 300);have q1:=yf;have q2:=yu;go_in;go_wp2;go_ret;exact⟨rfl,a0⟩
theorem vG (k:Int)(w:Wd):Calls prog 205 #[.iface 353 (.agg #[(k:Int),.string ⟨#[110,117,108,108]⟩])] w (y4 (.iface 54 (.agg #[])) w):=by
 have q1:=nK;have q2:=ij;have q3:=jF;have Hk:=Qa (fun w=>mw k (s:=⟨#[110,117,108,108]⟩) (x:=true) (by decide +kernel) w);go_in;go_wp2_with fail;refine(Hk _).mono ?_;rintro e w1 ⟨rfl,hb⟩;have Hb:=Qa hb;clear hb;go_wp2;go_ret;exact⟨rfl,Hb⟩
theorem Eg (d:Nat)(k:Int)(s t:Nc)(W:Wd):(Op.equalIn (d+3) 353 (.agg #[(k:Int),s]) (.agg #[(k:Int),t])).run prog W =.ok (s.toList==t.toList) W:=by
 rw[run_equalIn_agg W (d+2) 353 _ _ (by kernel_rfl) (by kernel_rfl)];have hf:((prog.fieldsOf 353).toList.map fun f=>(decide (f.name = "_"),f.type,f.offset)) = [(false,3,0),(false,9,1)]:=by kernel_rfl
 obtain⟨f1,f2,h1,h2,h3,h4,h5,h6,h7⟩:∃f1 f2,(prog.fieldsOf 353).toList = [f1,f2]/\¬f1.name = "_" /\¬f2.name = "_" /\f1.type=3/\f2.type=9/\f1.offset=0/\f2.offset=1:=by
  generalize (prog.fieldsOf 353).toList=fs at hf
  cases fs with
  |nil=>simp at hf
  |cons f1 r=>cases r with
   |nil=>simp at hf
   |cons f2 r2=>cases r2 with
    |cons f3 r3=>simp at hf
    |nil=>
     simp only[List.map_cons,List.map_nil,List.cons.injEq,Prod.mk.injEq,decide_eq_false_iff_not,and_true] at hf;exact⟨f1,f2,rfl,hf.1.1,hf.2.1,hf.1.2.1,hf.2.2.1,hf.1.2.2,hf.2.2.2⟩
 have p1:∀ (a b:Value) (w:Wd),(part 3 #[a,b] 0).run prog w =.ok a w:=fun a b w=>by kernel_rfl
 have p2:∀ (a b:Value) (w:Wd),(part 9 #[a,b] 1).run prog w =.ok b w:=fun a b w=>by kernel_rfl
 rw[h1];have hs:=run_equalIn_string W (d+1) 9 s t underlying9;generalize (s.toList==t.toList)=x at hs ⊢
 cases x <;> simp[Op.eqFields,h2,h3,h4,h5,h6,h7,p1,p2,run_equalIn_int W (d+1) 3 .i64 .i64 k k underlying3,hs]
theorem Bu (k:Int)(s t:Nc)(W:Wd):(binOp .eql 362 (.iface 353 (.agg #[(k:Int),s])) (.iface 353 (.agg #[(k:Int),t]))).run prog W =.ok (.bool (s.toList==t.toList)) W:=by
 have hc:(prog.info? 353).map (·.comparable)=some true:=by kernel_rfl
 cases hi:prog.info? 353 with
 |none=>rw[hi] at hc;cases hc
 |some i=>
  have hcc:i.comparable=true:=by rw[hi] at hc;simpa using hc
  have h:(Op.equalIn (9996+4) 362 (.iface 353 (.agg #[(k:Int),s])) (.iface 353 (.agg #[(k:Int),t]))).run prog W =.ok (s.toList==t.toList) W:=by
   rw[Op.equalIn];simp only[Sem.run_bind,run_underlying underlying362,Result.andThen_ok];simp[typeInfo,hi,hcc,Eg 9996 k s t W]
  simp only[binOp];simp[Op.equal,Op.maxDepth,h]
theorem xU (k:Int)(b:Bool)(w:Wd):Calls prog 205 #[.iface 353 (.agg #[(k:Int),.string ⟨(lk (gB b)).toArray⟩])] w (y4 (.iface 55 (.bool b)) w):=by
 have q1:=nK;have q2:=ij;have q3:=jF;have hw:lk (gB b)=if b then [116,114,117,101] else [102,97,108,115,101]:=by cases b <;> rfl
 rw[hw];clear hw
 cases b
 .have Hk:=Qa (fun w=>mw k (s:=⟨#[102,97,108,115,101]⟩) (x:=false) (by decide +kernel) w);have Hp:=Qa (fun w=>rW k (s:=⟨#[102,97,108,115,101]⟩) w);go_in;go_wp2_with fail;refine(Hk _).mono ?_;rintro e w1 ⟨rfl,hb⟩;have Hb:=Qa hb;clear hb;go_wp2_with fail;refine(Hp _).mono ?_;rintro e w2 ⟨rfl,hb⟩;have a0:=Qa (bI Hb.out hb);clear hb;have q4:∀W,(binOp .eql 362 (.iface 353 (.agg #[(k:Int),.string ⟨#[102,97,108,115,101]⟩])) (.iface 353 (.agg #[(k:Int),.string ⟨#[116,114,117,101]⟩]))).run prog W =.ok false W:=fun W=>by
   rw[Bu];exact congrArg (fun x=>Result.ok (Value.bool x) W) (by decide +kernel)
  go_wp2;go_ret;exact⟨rfl,a0⟩
 .have Hk:=Qa (fun w=>mw k (s:=⟨#[116,114,117,101]⟩) (x:=false) (by decide +kernel) w);have Hp:=Qa (fun w=>rW k (s:=⟨#[116,114,117,101]⟩) w);go_in;go_wp2_with fail;refine(Hk _).mono ?_;rintro e w1 ⟨rfl,hb⟩;have Hb:=Qa hb;clear hb;go_wp2_with fail;refine(Hp _).mono ?_;rintro e w2 ⟨rfl,hb⟩;have a0:=Qa (bI Hb.out hb);clear hb;have q4:∀W,(binOp .eql 362 (.iface 353 (.agg #[(k:Int),.string ⟨#[116,114,117,101]⟩])) (.iface 353 (.agg #[(k:Int),.string ⟨#[116,114,117,101]⟩]))).run prog W =.ok true W:=fun W=>by
   rw[Bu];exact congrArg (fun x=>Result.ok (Value.bool x) W) (by decide +kernel)
  go_wp2;go_ret;exact⟨rfl,a0⟩
def Ie:List Fr->Nat
 | []=>7
 |f::_=>if f.obj then 6 else 5
theorem j8 (frs:List Fr)(j:JV):(dq frs j).want=Ie (dq frs j).frs:=by
 cases frs with
 |nil=>rfl
 |cons f fs=>
  by_cases ho:f.obj=true
  .rw[iD ho];simp[Ie,ho]
  .rw[gg (by simpa using ho)];simp[Ie,ho]
theorem kk {k:Nat}(h:kI B w rb lb xb v xs frs want k nd fin)(hB:B<=w.heap.size)(hl:frs.length<=4294967296):Calls prog 204 #[.pointer (some (nl rb))] w (LP B rb lb xb v xs frs (Ie frs) k nd fin w):=by
 cases frs with
 |nil=>exact Cm h hB
 |cons f fs=>exact yn h hB (by rw[List.length_cons] at hl;omega)
theorem kG.mono {b:Nat}(h:kG B w b f)(hn:∀s,s∈j6 f↔s∈j6 f')(hl:f.mems.length+f.name.toList.length<=f'.mems.length+f'.name.toList.length):kG B w b f':=by
 obtain⟨h1,l,n,h2,h3,h4⟩:=h;exact⟨h1,l,n,h2,by omega,fun s=>(h4 s).trans (hn s)⟩
theorem kI.put {k:Nat}(h:kI B w rb lb xb v xs frs want k nd fin)(hw:∀f fs,frs=f::fs->cI f=false)(j:JV):kI B w rb lb xb v xs (dq frs j).frs want k nd fin:=by
 cases frs with
 |nil=>exact h
 |cons f fs=>
  obtain⟨by_,dp,ex,ov,nv,maps,h1,h2,h3,h4,h5,h6,h7,h8,h9,a0⟩:=h;have hf:=hw f fs rfl
  by_cases ho:f.obj=true
  .rw[iD ho];have hs:∃s,f.name=some s:=by
    simp only[cI,ho,Bool.true_and] at hf
    cases hn:f.name with
    |none=>rw[hn] at hf;cases hf
    |some s=>exact⟨s,rfl⟩
   obtain⟨s,hs⟩:=hs;refine⟨by_,dp,ex,ov,nv,maps,h1,h2,h3,h4,h5,?_,h7,?_,h9,a0⟩
   .simpa [iN] using h6
   .simp only[List.filter_cons,ho,if_true] at h8 ⊢
    cases maps with
    |nil=>have:=h8.1;simp at this
    |cons b maps=>
     refine⟨by simpa using h8.1,fun i x y q1 q2=>?_⟩
     cases i with
     |zero=>
      simp at q1 q2;subst q1 q2;refine(h8.2 0 b f rfl rfl).mono (fun t=>?_) (by simp[hs]);simp only[j6,hs,Option.toList_some,Option.toList_none,Option.getD_some,List.map_append,List.map_cons,List.map_nil,List.mem_append,List.mem_singleton,List.nil_append];exact Or.comm
     |succ i=>exact h8.2 (i+1) x y (by simpa using q1) (by simpa using q2)
  .rw[gg (by simpa using ho)];refine⟨by_,dp,ex,ov,nv,maps,h1,h2,h3,h4,h5,?_,h7,?_,h9,a0⟩
   .simpa [iN] using h6
   .have e:∀g:Fr,g.obj=f.obj->List.filter (·.obj) (g::fs)=List.filter (·.obj) (f::fs):=fun g hg=>by
     have hb:f.obj=false:=by simpa using ho
     rw[List.filter_cons,List.filter_cons,hg,hb];simp
    show bC (kG B w) maps (List.filter (·.obj) ({f with items:=f.items ++ [j]}::fs))
    rw[e {f with items:=f.items ++ [j]} rfl];exact h8
theorem mc (frs:List Fr)(j:JV):(dq frs j).frs.length=frs.length:=by
 cases frs with
 |nil=>rfl
 |cons f fs=>
  by_cases ho:f.obj=true
  .rw[iD ho];rfl
  .rw[gg (by simpa using ho)];rfl
def PS (B rb lb xb:Nat)(v:Value)(xs:Na)(c:dT)(k nd:Nat)(fin:Bool)(w:Wd):Prop:=kI B w rb lb xb v xs c.frs c.want k nd fin/\∃bs,fY B w xb c.frs c.done bs
def TA (e:TypeId):Prop:=TB e\/nN e
structure dl (B:Nat) (w w':Wd):Prop where
 b:Below B w w'
 k:aK TA w w'
theorem aK.imp (h:aK T w w')(hT:∀e,T e->U e):aK U w w':=⟨h.1,fun g cs e z hg he=>h.2 g cs e z hg (fun ht=>he (hT e ht))⟩
theorem dl.trans {a b c:Wd}(h:dl B a b)(k:dl B b c):dl B a c:=⟨h.b.trans k.b,h.k.trans k.k⟩
theorem dl.new (hb:ge w w')(hB:B<=w.heap.size):dl B w w':=⟨hb.mono hB,aK.of_below TA hb⟩
theorem dl.rd (hb:Below B w w')(hk:Kp nN w w'):dl B w w':=⟨hb,hk.keeps.imp fun _ h=>.inr h⟩
theorem dl.tb (hb:Below B w w')(hk:Kp TB w w'):dl B w w':=⟨hb,hk.keeps.imp fun _ h=>.inl h⟩
def KF (B rb lb xb:Nat)(v:Value)(xs:Na)(c:dT)(k nd:Nat)(fin:Bool)(w:Wd)(e:Ending)(w':Wd):Prop:=e =.returned (.tuple #[])/\dl B w w'/\PS B rb lb xb v xs c k nd fin w'
theorem lw {k:Nat}{t:Value}{tt:TypeId}{tx:Value}{bs:List Nat}(hw:want=0\/want=1)(hR:kI B w rb lb xb v xs frs want k nd false)(c6:fY B w xb frs none bs)(hT:mf frs)(hl:frs.length<=1000000000)(hn:nd<=1000000000)(hB:B<=w.heap.size)
  (c0:∀w,Calls prog 205 #[t] w (y4 u w)) (b6:∀ (P:Nat->Prop) w,VW P w u j) (hu:u =.iface tt tx) (a1:∀W,(Instr.typeAssert (.iface tt tx) 154 123 true).run prog W =.ok (.tuple #[.agg #[false,.string ⟨#[]⟩,(0:Int)],false]) W):Calls prog 178 #[.pointer (some (nl rb)),t] w (KF B rb lb xb v xs (dq frs j) k (nd+1) false w):=by
 have b0:=hR;obtain⟨by_,dp,ex,ov,nv,maps,hA⟩:=b0;have c14:=ac hA.row (j:=14) (u:=((want:Nat):Int)) rfl;have b7:=Qa (ig hR hl hn hB);have d0:=Qa c6;have HT:=Qa hT;have Hl:=Qa hl;have HB:=Qa hB;have c7:=Qa c0;have c9:=Qa b6;subst hu;clear hR c6 hT hl hB c0 b6 hA;rcases hw with hw|hw
 all_goals
  rw[hw] at c14;simp only[Int.cast_ofNat_Int] at c14;clear hw;go_in;go_wp2_with fail;refine Za b7 ?_;rintro e w1 ⟨rfl,c1,b1,c4⟩;have a3:=d0.kp b1 cm;have R1:=NB (dl.rd c1 b1) c4 a3;clear c1 b1 c4 a3 c14 b7;go_wp2_with fail;refine(c7 _).mono ?_;rintro e w2 ⟨rfl,a9⟩;obtain⟨r1,r2,r3⟩:=R1.out;have c5:B<=w1.heap.size:=Zc HB.out r1.b.size;have R2:=NB (r1.trans (dl.new a9 c5)) (r2.below a9) (r3.below a9);clear a9 r1 r2 r3 c5 R1;go_wp2_with fail;obtain⟨w3,b2⟩:=y7 (w2.alloc (.cells #[false,.string ⟨#[]⟩,(0:Int)] 123));have R3:=Qa (show dl B w w3/\kI B w3 rb lb xb v xs frs want k (nd+1) false/\fY B w3 xb frs none bs by
   have a5:=aa w2 (.cells #[false,.string ⟨#[]⟩,(0:Int)] 123);rw[b2] at a5;obtain⟨r1,r2,r3⟩:=R2.out;exact⟨r1.trans (dl.new a5 (Zc HB r1.b.size)),r2.below a5,r3.below a5⟩)
  rw[b2];clear b2 R2 a1;obtain⟨x1,x2,x3⟩:=R3.out;have b3:B<=w3.heap.size:=Zc HB.out x1.b.size;obtain⟨wr,a4⟩:=y7 w3.drew;have a2:ge w3 wr:=by rw[<-a4];exact(Ze _ _).drew
  have a6:=x2.below a2;have b4:=x3.below a2;have b9:=Qa (ew a6 (by have:=Hl.out;omega));have b5:=Qa (sf (lv:=(frs.length:Int)+1) (by omega) b4 HT.out (c9 (Pb B bs) wr) (Zc b3 a2.size));obtain⟨by2,dp2,ex2,ov2,nv2,maps2,c3⟩:=id a6;have C11:=Qa (ac c3.row (j:=11) (u:=.func (.func 103) #[.pointer (some (nl xb))] #[]) rfl);have a7:=NA (x1.trans (dl.new a2 b3)) a6;clear a2 a6 b4 c3 x1 x2 x3 b3 R3;refine cJ (fun w2=>w2.cell? (no rb 11)=some (.func (.func 103) #[.pointer (some (nl xb))] #[])) 9 ((by rw[a4];exact C11.out)) fun a0=>?_
  rw[a4] at a0 ⊢;clear a4;refine nD 0 1 2 a0 ?_;refine nD 3 4 6 a0 ?_;refine rZ 5 fun K hK=>?_
  go_simp;refine Za b9 ?_;rintro e w' ⟨rfl,rfl⟩;go_wp2_with fail;refine hK _ _ (fun _=>a0) (fun a0=>?_);clear hK K;have a0:=a0 (by decide)
  try simp only[Act.put,jP,jQ,jR]
  refine tR 7 a0 ?_;refine tR 8 a0 ?_;refine rZ 9 fun K hK=>?_
  go_simp;refine Za b5 ?_;rintro e w4 ⟨rfl,h1,h2,h3⟩;have R:=NB h1 h2 h3;clear h1 h2 h3;go_wp2_with fail;refine hK _ _ (fun h=>absurd rfl h) (fun _=>?_);clear hK K
  try simp only[Act.put,jP,jQ,jR]
  refine aR (by kernel_rfl) (NoPanic.normal ?_) _;obtain⟨y1,y2,bs2,y3⟩:=R.out;have c2:=(a7.2.tb y2).put (fun f fs e=>(HT.2 f fs e).1) j;have b8:B<=w4.heap.size:=Zc (Zc HB a7.1.b.size) y1.size;have c8:=Qa (kk c2 b8 (by rw[mc];have:=Hl.out;omega));have R4:=NA (a7.1.trans (dl.tb y1 y2)) y3;clear y1 y2 y3 c2 b8 R a7 b9 b5 C11;go_wp2_with fail;refine Za c8 ?_;rintro e w5 ⟨rfl,h1,h2,h3⟩;have R5:=NB h1 h2 h3;clear h1 h2 h3;go_wp2;go_end0;refine⟨rfl,R4.1.trans (dl.rd R5.1 R5.2.1),?_,bs2,R4.2.kp R5.2.1 cm⟩;rw[j8];exact R5.2.2
theorem D9 {k:Nat}{t:Value}{bs:List Nat}(hw:want=0\/want=1)(hR:kI B w rb lb xb v xs frs want k nd false)(c9:fY B w xb frs none bs)(hT:mf frs)(hl:frs.length<=1000000000)(hn:nd<=1000000000)(hB:B<=w.heap.size)
  (c2:∀w,Calls prog 205 #[t] w (y4 u w)) (b8:∀ (P:Nat->Prop) w,VW P w u j) (d:Dc) (hu:u =.iface 123 (.agg #[.bool d.neg,d.digits,(d.exp:Int)])) (hd: -1000000000<=d.exp/\d.exp<=1000000000):Calls prog 178 #[.pointer (some (nl rb)),t] w (KF B rb lb xb v xs (dq frs j) k (nd+1) false w):=by
 have b2:=hR;obtain⟨by_,dp,ex,ov,nv,maps,hA⟩:=b2;have c14:=ac hA.row (j:=14) (u:=((want:Nat):Int)) rfl;have b9:=Qa (ig hR hl hn hB);have d4:=Qa c9;have HT:=Qa hT;have Hl:=Qa hl;have HB:=Qa hB;have d0:=Qa c2;have d2:=Qa b8;subst hu;have d3:∀W,(Instr.typeAssert (.iface 123 (.agg #[.bool d.neg,d.digits,(d.exp:Int)])) 154 123 true).run prog W =.ok (.tuple #[.agg #[.bool d.neg,d.digits,(d.exp:Int)],true]) W:=fun W=>by kernel_rfl
 have sneg:=y9 (-d.exp);have Hd:=Qa hd;clear hR c9 hT hl hB c2 b8 hA hd;rcases hw with hw|hw
 all_goals
  rw[hw] at c14;simp only[Int.cast_ofNat_Int] at c14;clear hw;go_in;go_wp2_with fail;refine Za b9 ?_;rintro e w1 ⟨rfl,c3,b4,c6⟩;have a5:=d4.kp b4 cm;have R1:=NB (dl.rd c3 b4) c6 a5;clear c3 b4 c6 a5 c14 b9;go_wp2_with fail;refine(d0 _).mono ?_;rintro e w2 ⟨rfl,b1⟩;obtain⟨r1,r2,r3⟩:=R1.out;have c7:B<=w1.heap.size:=Zc HB.out r1.b.size;have R2:=NB (r1.trans (dl.new b1 c7)) (r2.below b1) (r3.below b1);clear b1 r1 r2 r3 c7 R1;have c8:=Qa (ua (R2.2.1.below (aa w2 (.cells #[.bool d.neg,d.digits,(d.exp:Int)] 123))) (m:=5) (x:=max d.exp (-d.exp)) (by omega) (by have:=Hd.out;omega));go_wp2_with fail
  try rw[sneg]
  refine Za c8 ?_;rintro e w3 ⟨rfl,a1⟩;have a1:=bI (aa w2 (.cells #[.bool d.neg,d.digits,(d.exp:Int)] 123)) a1;obtain⟨r1,r2,r3⟩:=R2.out;have b3:B<=w2.heap.size:=Zc HB.out r1.b.size;obtain⟨by9,dp9,ex9,ov9,nv9,maps9,a7⟩:=r2.below a1;have c10:=ac a7.row (j:=10) (u:=(ex9:Int)) rfl;have f10:=ao a7.row 10;have a2:=Qa (a7.setExpo (Zc b3 a1.size) (max ex9 (max d.exp (-d.exp))));have R2b:=NA (r1.trans (dl.new a1 b3)) (r3.below a1);clear a1 r1 r2 r3 b3 a7 R2 c8;go_wp2_with fail;obtain⟨w3b,a3⟩:=y7 (w3.setCell (no rb 10) (max ex9 (max d.exp (-d.exp)):Int));rw[a3] at a2 ⊢;have R3:=Qa (show dl B w w3b/\kI B w3b rb lb xb v xs frs want k (nd+1) false/\fY B w3b xb frs none bs from⟨R2b.1.trans (dl.rd a2.1 a2.2.1),a2.2.2.s,R2b.2.kp a2.2.1 cm⟩);clear a3 c10 f10 a2 R2b;obtain⟨w3,rfl⟩:∃w3,w3=w3b:=⟨_,rfl⟩;obtain⟨x1,x2,x3⟩:=R3.out;have b5:B<=w3.heap.size:=Zc HB.out x1.b.size;obtain⟨wr,a6⟩:=y7 w3.drew;have a4:ge w3 wr:=by rw[<-a6];exact(Ze _ _).drew
  have a9:=x2.below a4;have b6:=x3.below a4;have c1:=Qa (ew a9 (by have:=Hl.out;omega));have b7:=Qa (sf (lv:=(frs.length:Int)+1) (by omega) b6 HT.out (d2 (Pb B bs) wr) (Zc b5 a4.size));obtain⟨by2,dp2,ex2,ov2,nv2,maps2,c5⟩:=id a9;have C11:=Qa (ac c5.row (j:=11) (u:=.func (.func 103) #[.pointer (some (nl xb))] #[]) rfl);have b0:=NA (x1.trans (dl.new a4 b5)) a9;clear a4 a9 b6 c5 x1 x2 x3 b5 R3;refine cJ (fun w2=>w2.cell? (no rb 11)=some (.func (.func 103) #[.pointer (some (nl xb))] #[])) 9 ((by rw[a6];exact C11.out)) fun a0=>?_
  rw[a6] at a0 ⊢;clear a6;refine nD 0 1 2 a0 ?_;refine nD 3 4 6 a0 ?_;refine rZ 5 fun K hK=>?_
  go_simp;refine Za c1 ?_;rintro e w' ⟨rfl,rfl⟩;go_wp2_with fail;refine hK _ _ (fun _=>a0) (fun a0=>?_);clear hK K;have a0:=a0 (by decide)
  try simp only[Act.put,jP,jQ,jR]
  refine tR 7 a0 ?_;refine tR 8 a0 ?_;refine rZ 9 fun K hK=>?_
  go_simp;refine Za b7 ?_;rintro e w4 ⟨rfl,h1,h2,h3⟩;have R:=NB h1 h2 h3;clear h1 h2 h3;go_wp2_with fail;refine hK _ _ (fun h=>absurd rfl h) (fun _=>?_);clear hK K
  try simp only[Act.put,jP,jQ,jR]
  refine aR (by kernel_rfl) (NoPanic.normal ?_) _;obtain⟨y1,y2,bs2,y3⟩:=R.out;have c4:=(b0.2.tb y2).put (fun f fs e=>(HT.2 f fs e).1) j;have c0:B<=w4.heap.size:=Zc (Zc HB b0.1.b.size) y1.size;have d1:=Qa (kk c4 c0 (by rw[mc];have:=Hl.out;omega));have R4:=NA (b0.1.trans (dl.tb y1 y2)) y3;clear y1 y2 y3 c4 c0 R b0 c1 b7 C11;go_wp2_with fail;refine Za d1 ?_;rintro e w5 ⟨rfl,h1,h2,h3⟩;have R5:=NB h1 h2 h3;clear h1 h2 h3;go_wp2;go_end0;refine⟨rfl,R4.1.trans (dl.rd R5.1 R5.2.1),?_,bs2,R4.2.kp R5.2.1 cm⟩;rw[j8];exact R5.2.2
theorem Mv.of_keeps {top:List Nat}(h:aK T w w')(hT:∀e,TV e->¬T e):Mv top w w':=⟨h.1,fun g cs e z hg he _=>h.2 g cs e z hg (hT e he)⟩
theorem fY.keeps {done:Option JV}{bs:List Nat}(h:fY B w xb frs done bs)(hk:aK T w w')(hT:∀e,TB e->¬T e):fY B w' xb frs done bs:=by
 obtain⟨pv,dv,us,h1,h2,h3,h4,h5,h6,h7⟩:=h;have hm:Mv [] w w':=Mv.of_keeps hk (fun e he=>hT e (.inl he));have a0:∀g∈bs,g∈bs\/w.heap.size<=g:=fun g h=>.inl h
 exact⟨pv,dv,us,hk.2 _ _ _ _ h1 (hT _ (.inr (.inl rfl))),h2,ap h3 hk (hT _ (.inr (.inr rfl))),h4.mono fun _ _ h=>h.move hm (by simp) a0 (by simp),h5,h6,h7.move hm (by simp) a0⟩
theorem sm {b:Nat}{es:Array MapEntry}(hg:w.grownBy w' (some b))(hb:w.heap[b]?=some (.map es c)):aK (fun _=>False) w w':=
 aK.of_grown hg fun g e cs t z hh=>by
  obtain rfl:=Zi e;rw[hb] at hh
  cases hh
theorem eu.map {b:Nat}{names:List Nc}(h:eu w b names n):∃es c,w.heap[b]?=some (.map es c):=by
 obtain⟨D,⟨es,c,hh,-⟩,-⟩:=h;exact⟨es,c,hh⟩
theorem ju.named {k:Nat}{b:Nat}{s:Nc}{l:List Nc}(h:ju B w rb lb xb v xs (f::fs) want k nd fin by_ dp ex ov nv (b::maps))(ho:f.obj=true)(hn:f.name=none)(hl:∀t,t∈l↔t∈j6 f)(hnl:n<=f.mems.length)
  (hs:eu w' b (s::l) (n+1)) (hg:w.grownBy w' (some b)):ju B w' rb lb xb v xs ({f with name:=some s}::fs) want k nd fin by_ dp ex ov nv (b::maps):=by
 obtain⟨h1,h2,h3,h4,h5,h6,h7,h8,h9,a3⟩:=h;simp only[List.filter_cons,ho,if_true] at h8;obtain⟨a2,l0,n0,a1,-⟩:=h8.2 0 b f rfl rfl;obtain⟨es,c,hh⟩:=a1.map;have hk:=sm hg hh;have a0:aw w' B v xs:=ap h5 hk (fun h=>h);refine⟨hk.2 _ _ _ _ h1 (fun h=>h),h2,⟨hk.2 _ _ _ _ h3.1 (fun h=>h),aw.bs a0⟩,h4,a0,?_,ap h7 hk (fun h=>h),?_,h9,a3⟩
 .have:=ap h6 hk (fun h=>h);simpa [iN] using this
 .simp only[List.filter_cons,ho,if_true];refine⟨by simpa using h8.1,fun i x y q1 q2=>?_⟩
  cases i with
  |zero=>
   simp at q1 q2;subst q1 q2;refine⟨a2,s::l,n+1,hs,by simp;omega,fun t=>?_⟩;have:=hl t;simp only[j6,hn,Option.toList_none,List.nil_append,Option.toList_some,List.cons_append,List.mem_cons] at this ⊢;rw[this]
  |succ i=>
   obtain⟨z1,z2,z3,z4,z5⟩:=h8.2 (i+1) x y (by simpa using q1) (by simpa using q2);refine⟨z1,z2,z3,z4.grown hg fun e=>?_,z5⟩;obtain rfl:=Zi e;exact(List.nodup_cons.1 h9).1 (Zl (by simpa using q1))
theorem FW {k:Nat}{s:Nc}{p:Int}{bs:List Nat}(hR:kI B w rb lb xb v xs (f::fs) want k nd false)(d3:fY B w xb (f::fs) none bs)(ho:f.obj=true)(b5:f.name=none)(d9:s∉f.mems.map Prod.fst)(hs:s.size<=4294967296)(hl:fs.length<=1000000000)(hm:f.mems.length<=1000000000)(hB:B<=w.heap.size):Calls prog 177 #[.pointer (some (nl rb)),.agg #[(p:Int),s]] w (KF B rb lb xb v xs ⟨{f with name:=some s}::fs,4,none⟩ k nd false w):=by
 have a7:=aa w (.cells #[(p:Int),s] 300);obtain⟨w1,c1⟩:=y7 (w.alloc (.cells #[(p:Int),s] 300));have c0:=Qa (Zf w (.cells #[(p:Int),s] 300));rw[c1] at a7 c0;obtain⟨by_,dp,ex,ov,nv,maps,hA⟩:=hR.below a7;have a0:=hA.seen;simp only[List.filter_cons,ho,if_true] at a0
 cases maps with
 |nil=>have:=a0.1;simp at this
 |cons b maps=>
 obtain⟨e6,l,n,d7,hn,b8⟩:=a0.2 0 b f rfl rfl;have hnl:n<=f.mems.length:=by simpa [b5] using hn
 have e0:l.any (fun t=>decide (t=s))=false:=by
  rw[List.any_eq_false];intro t ht;have h1:=(b8 t).1 ht;simp only[j6,b5,Option.toList_none,List.nil_append] at h1;simp only[decide_eq_true_eq];rintro rfl;exact d9 h1
 have b6:=hA.names;obtain⟨A,q,rfl,-,-,e3⟩:=ai b6;obtain⟨g,rfl⟩:=e3 (by simp);obtain⟨m,b7⟩:=y7 maps.length;rw[List.length_cons,b7] at b6;have cg:=World.ownsRow.cellAt b6 m (by omega);rw[List.reverse_cons,List.map_append,List.getElem?_append_right (by simp;omega),List.length_map,List.length_reverse,b7,Nat.sub_self] at cg;replace cg:w1.cell? (no g m)=some (.map (some b)):=cg;have f7:m<=fs.length:=by
  have h1:=a0.1;have h2:=List.length_filter_le (fun g:Fr=>g.obj) fs;simp at h1;omega
 have c13:=ac hA.row (j:=13) (u:=.slice (some (nl g)) (m+1) q) (by rw[<-b7];rfl);have e1:=ac c0.out (j:=1) (u:=.string s) rfl;have s1:IntKind.i64.wrap (m:Int)= (m:Int):=IntWalk.i64_in _ (by omega);have f2:(m:Int)< (m:Int)+1:=by omega
 have HA:=Qa hA;have g0:=Qa (d3.below a7);have HB:=Qa hB;have f9:=Qa a7;have f0:=Qa d7;have e8:=Qa b8;have f5:=Qa e0;have d5:=Qa (show s.size<=maxLen by unfold maxLen;omega);have f6:=Qa (show n<maxLen by unfold maxLen;omega);have f3:=Qa hnl;have Hl:=Qa hl;have g2:=Qa hm;clear hR hA a0 d7 hn b8 hnl e0 b6 e3 b7 f7 hB a7 hs d3 e6 d9 hm hl;go_in;go_wp2_with fail
 try rw[c1]
 go_quiet (fail);obtain⟨wd,c4⟩:=y7 (w1.drewN nq);have a2:ge w1 wd:=by rw[<-c4];exact av (Ze _ _) nq
 have d0:=Qa (HA.below a2);have c6:=Qa (g0.below a2);have c7:=Qa (al c0.out a2);have e2:=Zg a2 e1;have a1:=Qa (f0.kp (Kp.of_below (fun _=>False) a2));have a6:=a1.look d5.out;rw[f5.out] at a6;have c8:=Qa (bI f9.out a2);rw[c4];clear c13 cg e1 a2 c4 c1;go_wp2_with (at_mapUpdate;refine vY a1.out d5.out f6.out rfl (.tmp 28) (.tmp 30) _ rfl (by simp[Act.eval]) (by simp[Act.eval]) (by simp[Act.eval]) ?_;intro w5 p1 p2;have b4:=d0.named ho b5 e8.out f3.out p1 p2.grown;obtain⟨es5,cl5,d6⟩:=a1.map;have b2:=sm p2.grown d6;have c14:=ac b4.row (j:=14) (u:=(want:Int)) rfl;have f14:=ao b4.row 14;have f1:=Qa b4;have c9:=Qa (c6.keeps b2 (fun _ _ h=>h));have c5:=Qa (b2.2 _ _ _ _ c7.out (fun h=>h));have e5:=Qa p2.grown;have g1:=Qa b2;clear p1 p2 b4 d6 b2);have d2:B<=b:=by
  have a0:=d0.seen;simp only[List.filter_cons,ho,if_true] at a0;exact(a0.2 0 b f rfl rfl).1
 have c3:Below B w w5:=(c8.mono HB).trans ((aV.grown e5).below (Zc HB c8.size) fun i e=>by
  obtain rfl:=Zi e;exact d2)
 have b0:B<=w5.heap.size:=Zc HB.out c3.size;have a5:=Qa (f1.setWant b0 4 (z:=4) rfl);have e7:w5.heap.size= (w5.setCell (no rb 14) (4:Int)).heap.size:=by simp
 obtain⟨w6,d1⟩:=y7 (w5.setCell (no rb 14) (4:Int));rw[d1] at a5 ⊢;have b9:=Qa (show dl B w w6 from(⟨c3,(aK.of_below TA c8).trans (g1.imp fun _ h=>h.elim)⟩:dl B w w5).trans (dl.rd a5.1 a5.2.1));have c2:=Qa (c9.kp a5.2.1 cm);have a9:w6.heap[w.heap.size]?=some (.cells #[(p:Int),s] 300 (0,0)):=a5.2.1.heap c5.out (by simp only[nN];decide);have e4:=a5.2.2;obtain⟨wr,b3⟩:=y7 w6.drew;have a3:ge w6 wr:=by rw[<-b3];exact(Ze _ _).drew
 have b1:=e4.below a3;obtain⟨A12,q12,f4,-⟩:=ai b1.opens;subst f4;obtain⟨m9,d4⟩:=y7 fs.length;have C11:=Qa (ac b1.row (j:=11) (u:=.func (.func 103) #[.pointer (some (nl xb))] #[]) rfl);have C12:=Qa (ac b1.row (j:=12) (u:=.slice A12 (m9+1) q12) (by rw[<-d4];rfl));have E1:=Qa (ac (al a9 a3) (j:=1) (u:=.string s) rfl);have f8:=Qa (Cd (lv:=(m9:Int)+1) (s:=s) (by omega) (c2.below a3) ho b5 (by have:=Hl.out;omega) (Zc (Zc HB b9.b.size) a3.size));have Hr:=NA (b9.trans (dl.new a3 (Zc HB b9.b.size))) b1;clear c14 f14 a3 b1 a9 e4 d1 e7 b0 c3 d2 d4;refine cJ (fun w2=>w2.cell? (no rb 11)=some (.func (.func 103) #[.pointer (some (nl xb))] #[])/\w2.cell? (no rb 12)=some (.slice A12 (m9+1) q12)/\w2.cell? (no w.heap.size 1)=some (.string s)) 13 ((by rw[b3];exact⟨C11,C12,E1⟩)) fun a4=>?_
 rw[b3] at a4 ⊢;clear b3;refine nD 0 1 2 a4 ?_;refine nD 3 4 5 a4 ?_;refine nD 6 7 8 a4 ?_;refine nD 9 10 11 a4 ?_;refine tR 12 a4 ?_;refine rZ 13 fun K hK=>?_
 go_simp;refine Za f8 ?_;rintro e w4 ⟨rfl,h1,h2,h3⟩;have R:=NB h1 h2 h3;clear h1 h2 h3;go_wp2_with fail;refine hK _ _ (fun h=>absurd rfl h) (fun _=>?_);clear hK K
 try simp only[Act.put,jP,jQ,jR]
 refine aR (by kernel_rfl) (NoPanic.normal ?_) _;go_end0;obtain⟨y1,y2,y3⟩:=R.out;exact⟨rfl,Hr.1.trans (dl.tb y1 y2),Hr.2.s.tb y2,y3⟩
structure kB (B:Nat) (w:Wd) (rb lb xb:Nat) (v:Value) (xs:Na) (ofr nfr:List Fr) (want k:Nat) (nd:Nat) (fin:Bool) (by_ dp ex:Int) (ov nv:Value) (maps:List Nat):Prop where
 row:w.heap[rb]?=some (.cells (dW lb xb by_ dp nd ex ov nv want fin) 228 (0,0))
 low:B<=rb
 lex:qO w lb v xs k
 llow:B<=lb
 own:aw w B v xs
 opens:w.ownsRow B 3 1 ov ofr.length (ofr.reverse.map iN)
 names:w.ownsRow B 331 1 nv maps.length (maps.reverse.map zF)
 seen:bC (kG B w) maps (nfr.filter (·.obj))
 nodup:maps.Nodup
 le:k<=xs.length
section
variable {B rb lb xb want k nd:Nat}{w w' w5:Wd}{v:Value}{xs:Na}{frs ofr nfr:List Fr}{fin:Bool}{by_ dp ex:Int}{ov nv:Value}{maps:List Nat}
theorem ju.b (h:ju B w rb lb xb v xs frs want k nd fin by_ dp ex ov nv maps):kB B w rb lb xb v xs frs frs want k nd fin by_ dp ex ov nv maps:=⟨h.row,h.low,h.lex,h.llow,h.own,h.opens,h.names,h.seen,h.nodup,h.le⟩
theorem kB.a (h:kB B w rb lb xb v xs frs frs want k nd fin by_ dp ex ov nv maps):ju B w rb lb xb v xs frs want k nd fin by_ dp ex ov nv maps:=⟨h.row,h.low,h.lex,h.llow,h.own,h.opens,h.names,h.seen,h.nodup,h.le⟩
theorem kB.below (h:kB B w rb lb xb v xs ofr nfr want k nd fin by_ dp ex ov nv maps)(hb:ge w w'):kB B w' rb lb xb v xs ofr nfr want k nd fin by_ dp ex ov nv maps:=by
 obtain⟨h1,h2,h3,h4,h5,h6,h7,h8,h9,a1⟩:=h;have a0:aw w' B v xs:=aq h5 hb (Zb _);refine⟨al h1 hb,h2,h3.below hb,h4,a0,aq h6 hb (Zb _),aq h7 hb (Zb _),h8.mono fun a b h=>?_,h9,a1⟩;obtain⟨q1,l,n,q2,q3,q4⟩:=h;exact⟨q1,l,n,q2.kp (Kp.of_below (fun _=>False) hb),q3,q4⟩
theorem kB.stay (h:kB B w rb lb xb v xs ofr nfr want k nd fin by_ dp ex ov nv maps)(a0:aV F w w')(hF:∀g,F g->g<w.heap.size->∃cs e z,w.heap[g]?=some (.cells cs e z)/\nN e):Kp nN w w':=Kp.of_chg a0 hF
theorem kB.seens (h:bC (kG B w) maps (nfr.filter (·.obj)))(hk:Kp T w w'):bC (kG B w') maps (nfr.filter (·.obj)):=h.mono fun a b h=>by
 obtain⟨q1,l,n,q2,q3,q4⟩:=h;exact⟨q1,l,n,q2.kp hk,q3,q4⟩
theorem kB.setOpen (h:kB B w rb lb xb v xs ofr nfr want k nd fin by_ dp ex ov nv maps)(hB:B<=w.heap.size)(a2:aV F w w5)(hF:∀g,F g->ov.ownBlock=some g){ov':Value}{ofr':List Fr}(hp:w5.ownsRow B 3 1 ov' ofr'.length (ofr'.reverse.map iN)) :
  Below B w (w5.setCell (no rb 12) ov')/\Kp nN w (w5.setCell (no rb 12) ov')/\kB B (w5.setCell (no rb 12) ov') rb lb xb v xs ofr' nfr want k nd fin by_ dp ex ov' nv maps:=by
 obtain⟨h1,h2,h3,h4,h5,h6,h7,h8,h9,a5⟩:=h;have a0:aV (fun g=>F g\/g=rb) w (w5.setCell (no rb 12) ov'):=(a2.mono fun _ h=>.inl h).trans (aV.set rb 12 ov') fun i hi=>.inl (.inr hi)
 have a4:∀g,(F g\/g=rb)->g<w.heap.size->∃cs e z,w.heap[g]?=some (.cells cs e z)/\(e=3\/e=228):=fun g hg _=>by
  rcases hg with hg|rfl
  .obtain⟨_,cur,hh⟩:=am h6 (hF g hg);exact⟨_,_,_,hh,.inl rfl⟩
  .exact⟨_,_,_,h1,.inr rfl⟩
 have hk:Kp (fun e=>e=3\/e=228) w (w5.setCell (no rb 12) ov'):=Kp.of_chg a0 a4;have a1:aw (w5.setCell (no rb 12) ov') B v xs:=ap h5 hk.keeps (by decide);have hrb:rb<w.heap.size:=ah h1;have a3:w5.heap[rb]?=some (.cells (dW lb xb by_ dp nd ex ov nv want fin) 228 (0,0)):=(a2.block rb hrb fun hf=>aW h6 h1 (by decide) (hF rb hf)).trans h1;have hne:=aW hp a3 (by decide);refine⟨a0.below hB (fun i hi=>hi.elim (fun h=>(am h6 (hF i h)).1) fun e=>by rw[e];exact h2),hk.imp fun e he=>he.elim (fun h=>.inr (.inr (.inl h))) fun h=>.inl h,az a3 12 ov',h2,⟨hk.heap h3.1 (by decide),aw.bs a1⟩,h4,a1,bM hp fun b hb=>(aV.set rb 12 ov').block b (ah (am hp hb).2.choose_spec) fun e=>hne (by rw[hb,e]),ap h7 hk.keeps (by decide),kB.seens h8 hk,h9,a5⟩
theorem kB.setNames (h:kB B w rb lb xb v xs ofr nfr want k nd fin by_ dp ex ov nv maps)(hB:B<=w.heap.size)(a3:aV F w w5)(hF:∀g,F g->nv.ownBlock=some g){nv':Value}{maps':List Nat}{nfr':List Fr}(hp:w5.ownsRow B 331 1 nv' maps'.length (maps'.reverse.map zF))(a4:maps'.Nodup)
  (a6:∀w9,Kp (fun e=>e=331\/e=228) w w9->Kp (fun e=>e=228) w5 w9->bC (kG B w9) maps' (nfr'.filter (·.obj))) :
  Below B w (w5.setCell (no rb 13) nv')/\Kp nN w (w5.setCell (no rb 13) nv')/\kB B (w5.setCell (no rb 13) nv') rb lb xb v xs ofr nfr' want k nd fin by_ dp ex ov nv' maps':=by
 obtain⟨h1,h2,h3,h4,h5,h6,h7,h8,h9,a7⟩:=h;have a1:aV (fun g=>F g\/g=rb) w (w5.setCell (no rb 13) nv'):=(a3.mono fun _ h=>.inl h).trans (aV.set rb 13 nv') fun i hi=>.inl (.inr hi)
 have a5:∀g,(F g\/g=rb)->g<w.heap.size->∃cs e z,w.heap[g]?=some (.cells cs e z)/\(e=331\/e=228):=fun g hg _=>by
  rcases hg with hg|rfl
  .obtain⟨_,cur,hh⟩:=am h7 (hF g hg);exact⟨_,_,_,hh,.inl rfl⟩
  .exact⟨_,_,_,h1,.inr rfl⟩
 have hk:Kp (fun e=>e=331\/e=228) w (w5.setCell (no rb 13) nv'):=Kp.of_chg a1 a5;have a0:aw (w5.setCell (no rb 13) nv') B v xs:=ap h5 hk.keeps (by decide);have hrb:rb<w.heap.size:=ah h1;have a2:w5.heap[rb]?=some (.cells (dW lb xb by_ dp nd ex ov nv want fin) 228 (0,0)):=(a3.block rb hrb fun hf=>aW h7 h1 (by decide) (hF rb hf)).trans h1;have hne:=aW hp a2 (by decide);have a9:Kp (fun e=>e=228) w5 (w5.setCell (no rb 13) nv'):=Kp.of_chg (aV.set rb 13 nv') fun g e _=>by subst e;exact⟨_,_,_,a2,rfl⟩
 refine⟨a1.below hB (fun i hi=>hi.elim (fun h=>(am h7 (hF i h)).1) fun e=>by rw[e];exact h2),hk.imp fun e he=>he.elim (fun h=>.inr (.inr (.inr h))) fun h=>.inl h,az a2 13 nv',h2,⟨hk.heap h3.1 (by decide),aw.bs a0⟩,h4,a0,ap h6 hk.keeps (by decide),bM hp fun b hb=>(aV.set rb 13 nv').block b (ah (am hp hb).2.choose_spec) fun e=>hne (by rw[hb,e]),a6 _ hk a9,a4,a7⟩
theorem kB.setWant (h:kB B w rb lb xb v xs ofr nfr want k nd fin by_ dp ex ov nv maps)(hB:B<=w.heap.size)(n:Nat){z:Int}(hz:z=n):Below B w (w.setCell (no rb 14) (z:Int))/\Kp nN w (w.setCell (no rb 14) (z:Int))/\kB B (w.setCell (no rb 14) (z:Int)) rb lb xb v xs ofr nfr n k nd fin by_ dp ex ov nv maps:=by
 subst hz;obtain⟨h1,h2,h3,h4,h5,h6,h7,h8,h9,a2⟩:=h;have a1:=aV.set (w:=w) rb 14 (n:Int);have hk:Kp (fun e=>e=228) w (w.setCell (no rb 14) (n:Int)):=Kp.of_chg a1 fun g e _=>by subst e;exact⟨_,_,_,h1,rfl⟩
 have a0:aw (w.setCell (no rb 14) (n:Int)) B v xs:=ap h5 hk.keeps (by decide);exact⟨a1.below hB (fun i e=>by rw[e];exact h2),hk.imp fun e he=>.inl he,az h1 14 _,h2,⟨hk.heap h3.1 (by decide),aw.bs a0⟩,h4,a0,ap h6 hk.keeps (by decide),ap h7 hk.keeps (by decide),kB.seens h8 hk,h9,a2⟩
end
def Cr:Nat->Na
 |0=> [91,123]
 |1=> [91,123,93]
 |3=> [125]
 |4=> [58]
 |5=> [44,93]
 |6=> [44,125]
 |_=> []
theorem J4 (want:Nat)(c:UInt8):BH want c= (Cr want).contains c:=by
 rcases want with _|_|_|_|_|_|_|n <;> rfl
def lT (w:Wd):Prop:= ∀i,i<8->w.cell? (no 8 i)=some (.string ⟨(Cr i).toArray⟩)
theorem lT.below (h:lT w)(hb:ge w w'):lT w':=fun i hi=>Zg hb (h i hi)
theorem pd {bs:List Nat}(a5:lv= (fs.length+1:Nat))(h:fY B w xb (f::fs) none bs)(ho:f.obj=false)(a1:f.name=none)(a4:f.ok kN)(hi:f.items.length<=4294967296)(a2:f.mems.length<=4294967296)(a3:mf fs)(hB:B<=w.heap.size):Calls prog 103 #[.pointer (some (nl xb)),.iface 241 (.agg #[(lv:Int),(5:Int)])] w fun e w'=>nY B xb (dq fs (et f)) w e w':=by
 have a0:=aa w (.cells #[(lv:Int),(5:Int)] 241);have Hc:=Qa (zZ a5 (h.below a0) ho a1 a4 hi a2 a3 (Zc hB a0.size));have a6:=Qa a0;have HB:=Qa hB;have q1:=wt;have q2:=kz;have q3:=kH;have q4:=ky;clear h a0 hB a5 ho a1 a4 hi a2 a3;go_in;go_wp2_with fail;refine Za Hc ?_;rintro e w' ⟨rfl,h1,h2,h3⟩;have R:=NB h1 h2 h3;clear h1 h2 h3;go_wp2;go_end0;exact⟨rfl,(a6.mono HB).trans R.1,(Kp.of_below TB a6).trans R.2.1,R.2.2⟩
theorem qU {bs:List Nat}(a5:lv= (fs.length+1:Nat))(h:fY B w xb (f::fs) none bs)(ho:f.obj=true)(a1:f.name=none)(a4:f.ok kN)(hi:f.items.length<=4294967296)(a2:f.mems.length<=4294967296)(a3:mf fs)(hB:B<=w.heap.size):Calls prog 103 #[.pointer (some (nl xb)),.iface 241 (.agg #[(lv:Int),(6:Int)])] w fun e w'=>nY B xb (dq fs (et f)) w e w':=by
 have a0:=aa w (.cells #[(lv:Int),(6:Int)] 241);have Hc:=Qa (Cz a5 (h.below a0) ho a1 a4 hi a2 a3 (Zc hB a0.size));have a6:=Qa a0;have HB:=Qa hB;have q1:=wt;have q2:=kz;have q3:=kH;have q4:=ky;clear h a0 hB a5 ho a1 a4 hi a2 a3;go_in;go_wp2_with fail;refine Za Hc ?_;rintro e w' ⟨rfl,h1,h2,h3⟩;have R:=NB h1 h2 h3;clear h1 h2 h3;go_wp2;go_end0;exact⟨rfl,(a6.mono HB).trans R.1,(Kp.of_below TB a6).trans R.2.1,R.2.2⟩
theorem qF {L:Na}{y c:UInt8}(h:L[i]?=some y):(L.take (i+1)).contains c= ((L.take i).contains c||c==y):=by
 rw[List.take_add_one,h];rw[Bool.eq_iff_iff];simp[List.contains_eq_mem]
theorem DT:dH 31 3 (0:Int) 1 8:=⟨underlying31,by kernel_rfl,rfl,by decide⟩
theorem JK:dH 226 331 (.map none) 1 8:=⟨underlying226,by kernel_rfl,rfl,by decide⟩
theorem kB.pushName {k:Nat}{ofr:List Fr}(h:kB B w rb lb xb v xs ofr nfr want k nd fin by_ dp ex ov nv maps)(hB:B<=w.heap.size){z:Nat}(hz:w.heap.size=z){W8:Wd}(hW:((w.alloc (.map #[] 0)).alloc (.cells #[.map (some z)] 331))=W8) :
  W8.ownsRow B 331 1 nv maps.length (maps.reverse.map zF)/\ge w W8/\(∀j u, [Value.map (some z)][j]?=some u->W8.cell? ⟨z+1,j,none⟩=some u)/\∀w9 nv',W8.grownBy w9 nv.ownBlock->w9.ownsRow B 331 1 nv' (maps.length+1) (maps.reverse.map zF ++ [.map (some z)])->
   w9.heap[rb]?=some (.cells (dW lb xb by_ dp nd ex ov nv want fin) 228 (0,0))/\Below B W8 (w9.setCell (no rb 13) nv')/\Kp nN W8 (w9.setCell (no rb 13) nv')/\kB B (w9.setCell (no rb 13) nv') rb lb xb v xs ofr (⟨true, [], [],none⟩::nfr) want k nd fin by_ dp ex ov nv' (z::maps):=by
 subst hz;have a3:=aa w (.map #[] 0);have a1:=aa (w.alloc (.map #[] 0)) (.cells #[.map (some w.heap.size)] 331);rw[hW] at a1;have hb:=bI a3 a1;have h8:=h.below hb;have a0:eu W8 w.heap.size [] 0:=(eu.made w).kp (Kp.of_below (fun _=>False) a1);have hlt:∀b∈maps,b<w.heap.size:=fun b hb=>by
  obtain⟨i,hi,rfl⟩:=List.getElem_of_mem hb;have hl:=h.seen.1;obtain⟨-,l,n,hs,-⟩:=h.seen.2 i maps[i] ((nfr.filter (·.obj))[i]'(by omega)) (Zd hi) (Zd _);exact hs.lt
 have hcn:=au (w.alloc (.map #[] 0)) [.map (some w.heap.size)] 331;rw[World.size_alloc] at hcn;refine⟨h8.names,hb,by rw[<-hW];exact hcn,fun w9 nv' hg hp=>?_⟩;have a2:=aJ h8.row hg (aW h8.names h8.row (by decide));have hs:=h8.setNames (Zc hB hb.size) (aV.grown hg) (fun g h=>h) (nv':=nv') (maps':=w.heap.size::maps) (nfr':=⟨true, [], [],none⟩::nfr) (by rw[List.length_cons,List.reverse_cons,List.map_append];exact hp) (List.nodup_cons.2 ⟨fun hm=>Nat.lt_irrefl _ (hlt _ hm),h8.nodup⟩) (fun w10 hk _=>by
  simp only[List.filter_cons,if_true];refine bC.cons ⟨hB, [],0,a0.kp hk,Zk _,fun s=>by simp[j6]⟩ (kB.seens h8.seen hk))
 exact⟨a2,hs⟩
theorem uu {xs:Nb}(h:w.ownsRow B e 1 (.slice A (n+1) q) (n+1) (xs ++ [x]))(hx:xs.length=n):w.ownsRow B e 1 (.slice A n q) n xs:=lr h (by rw[hx,Nat.mul_one])
theorem kB.topOpen {k:Nat}(h:kB B w rb lb xb v xs (f::fs) nfr want k nd fin by_ dp ex ov nv maps):∃g q,ov =.slice (some (nl g)) (fs.length+1) q/\w.cell? (no g fs.length)=some (.int .i64 (if f.obj then 6 else 5))/\fs.length+1<=q:=by
 have ho:=h.opens;rw[List.length_cons] at ho;obtain⟨A,q,rfl,hq,-,hA⟩:=ai ho;obtain⟨g,rfl⟩:=hA (by omega);have cg:=World.ownsRow.cellAt ho fs.length (by omega);rw[List.reverse_cons,List.map_append,List.getElem?_append_right (by simp),List.length_map,List.length_reverse,Nat.sub_self] at cg;exact⟨g,q,rfl,cg,hq⟩
theorem ju.topKind {k:Nat}(h:ju B w rb lb xb v xs (f::fs) want k nd fin by_ dp ex ov nv maps):∃g q,ov =.slice (some (nl g)) (fs.length+1) q/\w.cell? (no g fs.length)=some (.int .i64 (if f.obj then 6 else 5))/\fs.length+1<=q:=by
 have ho:=h.opens;rw[List.length_cons] at ho;obtain⟨A,q,rfl,hq,-,hA⟩:=ai ho;obtain⟨g,rfl⟩:=hA (by omega);have cg:=World.ownsRow.cellAt ho fs.length (by omega);rw[List.reverse_cons,List.map_append,List.getElem?_append_right (by simp),List.length_map,List.length_reverse,Nat.sub_self] at cg;exact⟨g,q,rfl,cg,hq⟩
inductive kw (nd:Nat):Int->UInt8->List Fr->dT->Nat->Prop
 |colon (frs:List Fr):kw nd 58 58 frs ⟨frs,0,none⟩ nd
 |comma5 (f:Fr) (fs:List Fr) (ho:f.obj=false) (hl:fs.length<=4294967296):kw nd 44 44 (f::fs) ⟨f::fs,0,none⟩ nd
 |comma6 (f:Fr) (fs:List Fr) (ho:f.obj=true) (hl:fs.length<=4294967296):kw nd 44 44 (f::fs) ⟨f::fs,2,none⟩ nd
 |open5 (frs:List Fr) (hl:frs.length<=1000000000) (hn:nd<=1000000000) (hlk:∀f fs,frs=f::fs->cI f=false):kw nd 91 91 frs ⟨⟨false, [], [],none⟩::frs,1,none⟩ (nd+1)
 |open6 (frs:List Fr) (hl:frs.length<=1000000000) (hn:nd<=1000000000) (hlk:∀f fs,frs=f::fs->cI f=false):kw nd 123 123 frs ⟨⟨true, [], [],none⟩::frs,3,none⟩ (nd+1)
 |close5 (f:Fr) (fs:List Fr) (ho:f.obj=false) (hnn:f.name=none) (hfo:f.ok kN) (hi:f.items.length<=4294967296) (hmi:f.mems.length<=4294967296) (hTB:mf fs) (hl:fs.length<=1000000000):kw nd 93 93 (f::fs) (dq fs (et f)) nd
 |close6 (f:Fr) (fs:List Fr) (ho:f.obj=true) (hnn:f.name=none) (hfo:f.ok kN) (hi:f.items.length<=4294967296) (hmi:f.mems.length<=4294967296) (hTB:mf fs) (hl:fs.length<=1000000000):kw nd 125 125 (f::fs) (dq fs (et f)) nd
theorem kw.eq {z:Int}{c:UInt8}{C:dT}(h:kw nd z c frs C nd'):z=c.toNat:=by cases h <;> rfl
theorem gJ {k:Nat}{p z:Int}{c:UInt8}{C:dT}{bs:List Nat}(hM:lT w)(hw:want<8)(c7:BH want c=true)(hR:kI B w rb lb xb v xs frs want k nd false)(l5:fY B w xb frs none bs)(hB:B<=w.heap.size)(hc:kw nd z c frs C nd'):Calls prog 176 #[.pointer (some (nl rb)),.agg #[(p:Int),.int .u8 z]] w (KF B rb lb xb v xs C k nd' false w):=by
 have f4:=aa w (.cells #[(p:Int),.int .u8 z] 297);obtain⟨w1,m9⟩:=y7 (w.alloc (.cells #[(p:Int),.int .u8 z] 297));have i5:=Qa (Zf w (.cells #[(p:Int),.int .u8 z] 297));rw[m9] at f4 i5;have HR:=Qa (hR.below f4);have m4:=Qa (l5.below f4);have HM:=Qa (hM.below f4);have HB:=Qa hB;have n3:=Qa f4;have Hz:=Qa hc.eq;have m3:=Qa hc;obtain⟨by_,dp,ex,ov,nv,maps,hA⟩:=HR.out;have HA:=Qa hA;have c14:=ac hA.row (j:=14) (u:=(want:Int)) rfl;have m0:=HM want hw;rw[J4] at c7;obtain⟨L,hL⟩:=y7 (Cr want);have o0:L.length<=3:=by rw[<-hL];have:∀i,i<8->(Cr i).length<=3:=(by decide);exact this want hw
 rw[hL] at m0 c7;have m1:=Qa c7;have l4:=Qa (show((⟨L.toArray⟩:Nc)).size=L.length by simp[ByteArray.size]);have m5:(want:Int)<8:=by omega
 clear hM hR l5 hB f4 hA hL c7 hw hc;go_in;go_wp2_with fail;have HX:=Qa (True.intro)
 go_loopg [4,14] L.length (fun m s4 s14 wr=> ∃i:Nat,m+i=L.length/\s14 =(i:Int)/\s4 =.bool ((L.take i).contains c)/\ge w1 wr)
 case atStart=>exact⟨0,rfl,rfl,rfl,Ze _ _⟩
 case round=>
  obtain⟨i,c3,rfl,rfl,hb⟩:=hrel;have Hb:=Qa hb;have Hmi:=Qa c3;have d14:=Zg hb c14;have n0:=Zg hb m0;have n5:=l4.out
  by_cases hlt:i<L.length
  .obtain⟨y,hy⟩:∃y,L[i]?=some y:=⟨_,Zd hlt⟩;have l1:(i:Int)<L.length:=by omega
   have e1:=Zg hb (ac i5 (j:=1) (u:=.int .u8 z) rfl);have o1:∀w',(Instr.index 9 (.string ⟨L.toArray⟩) (i:Int)).run prog w' =.ok (.int .u8 y.toNat) w':=fun w'=>kn (s:=⟨L.toArray⟩) (by simpa using hy) w'
   have Htk:=Qa (qF (c:=c) hy);have hyc:((y.toNat:Int)==z)= (c==y):=by
    rw[Hz.out,Bool.eq_iff_iff];simp only[beq_iff_eq];exact⟨fun h=>UInt8.toNat_inj.1 (by omega),fun h=>by rw[h]⟩
   have f1:0+0=0:=rfl;clear hb c3 hlt hy c14 m0
   cases hok:(L.take i).contains c
   all_goals
    go_wp2_with fail;go_quiet (fail);go_wp2_with fail;go_roundg (L.length - (i+1))
    case measure=>have:=Hmi.out;omega
    case rel=>exact⟨i+1,by have:=Hmi.out;omega,by go_num,by rw[Htk.out,hok];simp[hyc],av Hb.out _⟩
  .obtain rfl:i=L.length:=by omega
   have l1:¬ (L.length:Int)<L.length:=by omega
   have hok:(L.take L.length).contains c=true:=by rw[List.take_length];exact m1.out
   rw[hok];have e1:=Zg hb (ac i5 (j:=1) (u:=.int .u8 z) rfl);have a5:=Qa (HA.below hb);have a7:=Qa (m4.below hb);have d3:=Qa (dl.new (bI n3 hb) HB.out);have b1:B<=wr.heap.size:=Zc HB.out d3.b.size;have n7:=m3.out;clear hb c3 hlt c14 m0 d14 n0 n5 hok m5 o0 m3 Hz HX m1 l4 HM HR HA m4 i5;rcases n7 with ⟨frs⟩|⟨f,fs,ho,hl⟩|⟨f,fs,ho,hl⟩|⟨frs,hl,hn,g9⟩|⟨frs,hl,hn,g9⟩|⟨f,fs,ho,f1,f7,hi,c3,g7,hl⟩|⟨f,fs,ho,f1,f7,hi,c3,g7,hl⟩
   .have d14:=ac a5.row (j:=14) (u:=(want:Int)) rfl;have f14:=ao a5.row 14;have Hs:=Qa (a5.setWant b1 0 (z:=0) rfl);go_wp2;go_end0;exact⟨rfl,d3.trans (dl.rd Hs.1 Hs.2.1),Hs.2.2.s,_,a7.kp Hs.2.1 cm⟩
   .have d14:=ac a5.row (j:=14) (u:=(want:Int)) rfl;have f14:=ao a5.row 14;have Hs:=Qa (a5.setWant b1 0 (z:=0) rfl);obtain⟨w6,g5⟩:=y7 (wr.setCell (no rb 14) (0:Int));rw[g5] at Hs;obtain⟨g,q,a9,cg,hq⟩:=Hs.2.2.topKind;rw[ho] at cg;simp only[Bool.false_eq_true,if_false,if_true] at cg;subst a9;obtain⟨m,hm⟩:=y7 fs.length;rw[hm] at cg hq hl;have c12:=ac Hs.2.2.row (j:=12) (u:=.slice (some (nl g)) (m+1) q) (by rw[<-hm];rfl);have s1:IntKind.i64.wrap (m:Int)= (m:Int):=IntWalk.i64_in _ (by omega);have e2:(m:Int)< (m:Int)+1:=by omega
    have k9:=Qa g5;clear hm hq hl;go_wp2_with fail
    try rw[k9.out]
    go_quiet (fail);go_wp2;go_end0;have a1:=av (Ze w6.heap.size w6) nq;exact⟨rfl,(d3.trans (dl.rd Hs.1 Hs.2.1)).trans (dl.new a1 (Zc b1 Hs.2.1.1)),(Hs.2.2.below a1).s,_,(a7.kp Hs.2.1 cm).below a1⟩
   .have d14:=ac a5.row (j:=14) (u:=(want:Int)) rfl;have f14:=ao a5.row 14;have Hs:=Qa (a5.setWant b1 0 (z:=0) rfl);obtain⟨w6,g5⟩:=y7 (wr.setCell (no rb 14) (0:Int));rw[g5] at Hs;obtain⟨g,q,a9,cg,hq⟩:=Hs.2.2.topKind;rw[ho] at cg;simp only[Bool.false_eq_true,if_false,if_true] at cg;subst a9;obtain⟨m,hm⟩:=y7 fs.length;rw[hm] at cg hq hl;have c12:=ac Hs.2.2.row (j:=12) (u:=.slice (some (nl g)) (m+1) q) (by rw[<-hm];rfl);have s1:IntKind.i64.wrap (m:Int)= (m:Int):=IntWalk.i64_in _ (by omega);have e2:(m:Int)< (m:Int)+1:=by omega
    have k9:=Qa g5;clear hm hq hl;go_wp2_with fail
    try rw[k9.out]
    go_quiet (fail);have a1:=av (Ze w6.heap.size w6) nq;have f9:=Hs.2.2.below a1;obtain⟨w7,m2⟩:=y7 (w6.drewN nq);rw[m2] at a1 f9 ⊢;have g14:=ac f9.row (j:=14) (u:=(0:Int)) rfl;have f14':=ao f9.row 14;have n1:=Zc (Zc b1 Hs.2.1.1) a1.size;have i9:=Qa (f9.setWant n1 2 (z:=2) rfl);have a4:=Qa a1;clear f9 a1 m2 c12 cg d14 f14;go_wp2;go_end0;exact⟨rfl,((d3.trans (dl.rd Hs.1 Hs.2.1)).trans (dl.new a4 (Zc b1 Hs.2.1.1))).trans (dl.rd i9.1 i9.2.1),i9.2.2.s,_,((a7.kp Hs.2.1 cm).below a4.out).kp i9.2.1 cm⟩
   .have Hl:=Qa hl;have Hn:=Qa hn;have k4:=Qa g9;clear hl hn g9;have i0:=Qa (ig a5.s Hl.out Hn.out b1);go_wp2_with fail;refine Za i0 ?_;rintro e w2 ⟨rfl,g1,c5,h5⟩;have b4:=a7.kp c5 cm;have b5:=Zc b1 c5.1;have c0:=Qa (d3.trans (dl.rd g1 c5));clear i0 c5 g1;obtain⟨wq,hwq⟩:=y7 w2.drew;have a1:ge w2 wq:=by rw[<-hwq];exact(Ze _ _).drew
    have a6:=h5.below a1;have b6:=b4.below a1;have c4:=Qa (ew a6 (by have:=Hl.out;omega));have Htk:=Qa (z8 (lv:=(frs.length:Int)+1) (by omega) b6 k4.out (by have:=Hl.out;omega) (Zc b5 a1.size));obtain⟨by2,dp2,ex2,ov2,nv2,maps2,h4⟩:=id a6;have C11:=Qa (ac h4.row (j:=11) (u:=.func (.func 103) #[.pointer (some (nl xb))] #[]) rfl);have a4:=NA (c0.trans (dl.new a1 b5)) a6;clear a1 a6 b6 h4 b4 h5 b5;go_wp2_with fail;refine cJ (fun w9=>w9.cell? (no rb 11)=some (.func (.func 103) #[.pointer (some (nl xb))] #[])) 8 ((by rw[hwq];exact C11.out)) fun a0=>?_
    rw[hwq] at a0 ⊢;clear hwq;refine nD 0 1 2 a0 ?_;refine tR 3 a0 ?_;refine tR 4 a0 ?_;refine rZ 5 fun K hK=>?_
    go_simp;refine Za c4 ?_;rintro e w' ⟨rfl,rfl⟩;go_wp2_with fail;refine hK _ _ (fun _=>a0) (fun a0=>?_);clear hK K;have a0:=a0 (by decide)
    try simp only[Act.put,jP,jQ,jR]
    refine tR 6 a0 ?_;refine tR 7 a0 ?_;refine rZ 8 fun K hK=>?_
    go_simp;refine Za Htk ?_;rintro e w4 ⟨rfl,h1,h2,h3⟩;have R:=NB h1 h2 h3;clear h1 h2 h3;go_wp2_with fail;refine hK _ _ (fun h=>absurd rfl h) (fun _=>?_);clear hK K
    try simp only[Act.put,jP,jQ,jR]
    refine aR (by kernel_rfl) (NoPanic.normal ?_) _;obtain⟨y1,y2,bs2,y3⟩:=R.out;obtain⟨by4,dp4,ex4,ov4,nv4,maps4,a2⟩:=a4.2.tb y2;have c6:=Qa (a4.1.trans (dl.tb y1 y2));have d5:B<=w4.heap.size:=Zc HB.out c6.b.size;obtain⟨A12,q12,a9,-⟩:=ai a2.opens;subst a9;obtain⟨m,hm⟩:=y7 frs.length;have c12:=ac a2.row (j:=12) (u:=.slice A12 m q12) (by rw[<-hm];rfl);have a3:=aa w4 (.cells #[(5:Int)] 3);have j2:=Qa (au w4 [(5:Int)] 3);have e4:=a2.below a3;have g2:=Qa (show(w4.alloc (.cells #[(5:Int)] 3)).ownsRow B 3 1 (.slice A12 m q12) m (frs.reverse.map iN) by have:=e4.opens;rwa[hm] at this);have e6:=Qa e4;have k7:=Qa y3;have l3:=Qa (show dl B w (w4.alloc (.cells #[(5:Int)] 3)) from c6.trans (dl.new a3 d5));have j5:m<=1000000000:=by rw[<-hm];exact Hl.out
    have Hm:=Qa hm;have c1:=Qa (show B<=(w4.alloc (.cells #[(5:Int)] 3)).heap.size from Zc d5 a3.size);have e7:=Qa a3;clear y1 y2 y3 a2 d5 a3 e4 R a4 hm;go_wp2_with ((at_builtin;refine ir DT g2.out j2.out c1.out ?_;intro v' w5 p1 p2 p3;obtain⟨A5,q5,rfl,-,-,-⟩:=ai p1;have e5:=aJ e6.row p2 (aW g2 e6.row (by decide));have c12':=ac e5 (j:=12) (u:=.slice A12 m q12) (by rw[<-Hm.out];rfl);have f12':=ao e5 12;have hs:=e6.b.setOpen c1.out (aV.grown p2) (fun g h=>by rw[Hm.out];exact h) (ofr':=⟨false, [], [],none⟩::frs) (ov':=.slice A5 (m+1) q5) (by rw[List.length_cons,Hm.out,List.reverse_cons,List.map_append];exact p1);have c14':=ac hs.2.2.row (j:=14) (u:=(want:Int)) rfl;have f14':=ao hs.2.2.row 14;have Hs:=Qa hs;have n4:=Qa p2;clear p1 p2 p3 e5 hs));go_end0;obtain⟨s1,s2,s3⟩:=Hs.out;obtain⟨z1,z2,z3⟩:=s3.setWant (Zc c1 s2.1) 1 (z:=1) rfl;refine⟨rfl,(l3.trans (dl.rd s1 s2)).trans (dl.rd z1 z2),⟨by4,dp4,ex4,_,nv4,maps4,z3.row,z3.low,z3.lex,z3.llow,z3.own,z3.opens,z3.names,?_,z3.nodup,z3.le⟩,bs2,((k7.below e7).kp s2 cm).kp z2 cm⟩;have:=z3.seen;simpa [List.filter_cons] using this
   .have Hl:=Qa hl;have Hn:=Qa hn;have k4:=Qa g9;clear hl hn g9;have i0:=Qa (ig a5.s Hl.out Hn.out b1);go_wp2_with fail;refine Za i0 ?_;rintro e w2 ⟨rfl,g1,c5,h5⟩;have b4:=a7.kp c5 cm;have b5:=Zc b1 c5.1;have c0:=Qa (d3.trans (dl.rd g1 c5));clear i0 c5 g1;obtain⟨wq,hwq⟩:=y7 w2.drew;have a1:ge w2 wq:=by rw[<-hwq];exact(Ze _ _).drew
    have a6:=h5.below a1;have b6:=b4.below a1;have c4:=Qa (ew a6 (by have:=Hl.out;omega));have Htk:=Qa (yb (lv:=(frs.length:Int)+1) (by omega) b6 k4.out (by have:=Hl.out;omega) (Zc b5 a1.size));obtain⟨by2,dp2,ex2,ov2,nv2,maps2,h4⟩:=id a6;have C11:=Qa (ac h4.row (j:=11) (u:=.func (.func 103) #[.pointer (some (nl xb))] #[]) rfl);have a4:=NA (c0.trans (dl.new a1 b5)) a6;clear a1 a6 b6 h4 b4 h5 b5;go_wp2_with fail;refine cJ (fun w9=>w9.cell? (no rb 11)=some (.func (.func 103) #[.pointer (some (nl xb))] #[])) 8 ((by rw[hwq];exact C11.out)) fun a0=>?_
    rw[hwq] at a0 ⊢;clear hwq;refine nD 0 1 2 a0 ?_;refine tR 3 a0 ?_;refine tR 4 a0 ?_;refine rZ 5 fun K hK=>?_
    go_simp;refine Za c4 ?_;rintro e w' ⟨rfl,rfl⟩;go_wp2_with fail;refine hK _ _ (fun _=>a0) (fun a0=>?_);clear hK K;have a0:=a0 (by decide)
    try simp only[Act.put,jP,jQ,jR]
    refine tR 6 a0 ?_;refine tR 7 a0 ?_;refine rZ 8 fun K hK=>?_
    go_simp;refine Za Htk ?_;rintro e w4 ⟨rfl,h1,h2,h3⟩;have R:=NB h1 h2 h3;clear h1 h2 h3;go_wp2_with fail;refine hK _ _ (fun h=>absurd rfl h) (fun _=>?_);clear hK K
    try simp only[Act.put,jP,jQ,jR]
    refine aR (by kernel_rfl) (NoPanic.normal ?_) _;obtain⟨y1,y2,bs2,y3⟩:=R.out;obtain⟨by4,dp4,ex4,ov4,nv4,maps4,a2⟩:=a4.2.tb y2;have c6:=Qa (a4.1.trans (dl.tb y1 y2));have d5:B<=w4.heap.size:=Zc HB.out c6.b.size;obtain⟨A12,q12,a9,-⟩:=ai a2.opens;subst a9;obtain⟨m,hm⟩:=y7 frs.length;have c12:=ac a2.row (j:=12) (u:=.slice A12 m q12) (by rw[<-hm];rfl);have a3:=aa w4 (.cells #[(6:Int)] 3);have j2:=Qa (au w4 [(6:Int)] 3);have e4:=a2.below a3;have g2:=Qa (show(w4.alloc (.cells #[(6:Int)] 3)).ownsRow B 3 1 (.slice A12 m q12) m (frs.reverse.map iN) by have:=e4.opens;rwa[hm] at this);have e6:=Qa e4;have k7:=Qa y3;have l3:=Qa (show dl B w (w4.alloc (.cells #[(6:Int)] 3)) from c6.trans (dl.new a3 d5));have j5:m<=1000000000:=by rw[<-hm];exact Hl.out
    have Hm:=Qa hm;have c1:=Qa (show B<=(w4.alloc (.cells #[(6:Int)] 3)).heap.size from Zc d5 a3.size);have e7:=Qa a3;have g4:maps4.length<=1000000000:=by
     have h1:=a2.seen.1;have h2:=List.length_filter_le (fun g:Fr=>g.obj) frs;have:=Hl.out;omega
    have f8:=Qa g4;clear g4;obtain⟨A13,q13,j1,-⟩:=ai a2.names;subst j1;have o2:= @run_makeMap prog;clear y1 y2 y3 a2 d5 a3 e4 R a4 hm;go_wp2_with (first|(at_builtin;refine ir DT g2.out j2.out c1.out ?_;intro v' w5 p1 p2 p3;obtain⟨A5,q5,rfl,-,-,-⟩:=ai p1;have e5:=aJ e6.row p2 (aW g2 e6.row (by decide));have c12':=ac e5 (j:=12) (u:=.slice A12 m q12) (by rw[<-Hm.out];rfl);have f12':=ao e5 12;have hs:=e6.b.setOpen c1.out (aV.grown p2) (fun g h=>by rw[Hm.out];exact h) (ofr':=⟨true, [], [],none⟩::frs) (ov':=.slice A5 (m+1) q5) (by rw[List.length_cons,Hm.out,List.reverse_cons,List.map_append];exact p1);have c14':=ac hs.2.2.row (j:=14) (u:=(want:Int)) rfl;have f14':=ao hs.2.2.row 14;have Hs:=Qa hs;have n4:=Qa p2;have c13':=ac hs.2.2.row (j:=13) (u:=.slice A13 maps4.length q13) rfl;have f6:=Qa (hs.2.2.pushName (Zc c1 hs.2.1.1) (z:=w5.heap.size) (by simp) rfl);clear p1 p2 p3 e5 hs)|(at_builtin;refine ir JK f6.1 f6.2.2.1 (by have:=Hs.2.1.1;have:=c1.out;have:=f6.2.1.size;unfold no at *;omega) ?_ (hlen:=(by unfold maxLen;have:=f8.out;omega)) (hby:=(by have:=f8.out;omega));intro v9 w9 p1 p2 p3;obtain⟨A9,q9,rfl,-,-,-⟩:=ai p1;have f3:=f6.2.2.2 w9 _ p2 p1;have c13q:=ac f3.1 (j:=13) (u:=.slice A13 maps4.length q13) rfl;have f13q:=ao f3.1 13;have c14q:=ac f3.2.2.2.row (j:=14) (u:=(want:Int)) rfl;have f14q:=ao f3.2.2.2.row 14;have n8:=Qa f3;clear p1 p2 p3 f3));go_end0;obtain⟨s1,s2,s3⟩:=Hs.out;obtain⟨t1,t2,t3,t4⟩:=f6.out;obtain⟨r0,r1,r2,r3⟩:=n8.out;have d0:=Zc c1.out s2.1;have n6:=Zc d0 t2.size;obtain⟨z1,z2,z3⟩:=r3.setWant (Zc n6 r2.1) 3 (z:=3) rfl;exact⟨rfl,(((l3.trans (dl.rd s1 s2)).trans (dl.new t2 d0)).trans (dl.rd r1 r2)).trans (dl.rd z1 z2),⟨by4,dp4,ex4,_,_,_,z3.a⟩,bs2,((((k7.below e7).kp s2 cm).below t2).kp r2 cm).kp z2 cm⟩
   .have Ho:=Qa ho;have k6:=Qa f1;have k0:=Qa f7;have Hi:=Qa hi;have d6:=Qa c3;have g0:=Qa g7;have Hl:=Qa hl;clear ho f1 f7 hi c3 g7 hl;have d14:=ac a5.row (j:=14) (u:=(want:Int)) rfl;obtain⟨g,q,a9,cg,hq⟩:=a5.topKind;rw[Ho.out] at cg;simp only[Bool.false_eq_true,if_false,if_true] at cg;subst a9;obtain⟨m,hm⟩:=y7 fs.length;rw[hm] at cg hq;have j5:m<=1000000000:=by rw[<-hm];exact Hl.out
    have c12:=ac a5.row (j:=12) (u:=.slice (some (nl g)) (m+1) q) (by rw[<-hm];rfl);have s1:IntKind.i64.wrap (m:Int)= (m:Int):=IntWalk.i64_in _ (by omega);have e2:(m:Int)< (m:Int)+1:=by omega
    have Hm:=Qa hm;have Hq:=Qa hq;clear hm d14 hq;go_wp2_with fail;go_quiet (fail);have a1:=av (Ze wr.heap.size wr) nq;obtain⟨w2,h7⟩:=y7 (wr.drewN nq);rw[h7] at a1 ⊢;have c9:=Qa (a5.below a1);have b9:=Qa (a7.below a1);have c0:=Qa (d3.trans (dl.new a1 b1));clear a1 h7 c12 cg e1;go_wp2_with fail;have j0:=Qa (show ∃by_ dp ex ov nv maps,kB B w2 rb lb xb v xs (f::fs) (f::fs) want k nd false by_ dp ex ov nv maps from⟨_,_,_,_,_,_,c9.b⟩);obtain⟨w3,i4⟩:∃w3,w3=w2:=⟨_,rfl⟩;have c2:=b9;have f2:=c0;rw[<-i4] at j0 c2 f2 ⊢;clear c9 b9 c0 i4;obtain⟨by3,dp3,ex3,ov3,nv3,maps3,d4⟩:=j0.out;obtain⟨g3,q3,a9,-,l2⟩:=d4.topOpen;subst a9;have e3:=Zc HB.out f2.b.size;obtain⟨w4,c8⟩:=y7 w3.drew;have b3:ge w3 w4:=by rw[<-c8];exact(Ze _ _).drew
    have a2:=d4.below b3;have C12:=Qa (ac a2.row (j:=12) (u:=.slice (some (nl g3)) (m+1) q3) (by rw[<-Hm.out];rfl));have f12:=ao a2.row 12;have k2:(m:Int)<=q3:=by have:=Hm.out;omega
    have b7:w4.ownsRow B 3 1 (.slice (some (nl g3)) m q3) fs.length (fs.reverse.map iN):=by
     have:=a2.opens;rw[List.length_cons,List.reverse_cons,List.map_append] at this;rw[<-Hm.out];exact uu this (by simp)
    have b2:=Qa (a2.setOpen (Zc e3 b3.size) (aV.refl (fun _=>False) w4) (fun _ h=>h.elim) (ofr':=fs) (ov':=.slice (some (nl g3)) m q3) b7);have d9:=Qa (c2.below b3);have c6:=Qa (f2.trans (dl.new b3 e3));have c12s:=C12.out;clear d4 a2 b7 b3 e3 l2;refine cJ (fun w9=>w9.cell? (no rb 12)=some (.slice (some (nl g3)) (m+1) q3)) 14 ((by rw[c8];exact C12.out)) fun a0=>?_
    rw[c8] at a0 ⊢;clear c8;refine nD 0 1 2 a0 ?_;refine nD 3 4 5 a0 ?_;refine nD 6 7 8 a0 ?_;refine nD 9 10 11 a0 ?_;refine tR 12 a0 ?_;refine tR 13 a0 ?_;refine rZ 14 fun K hK=>?_
    go_simp;refine hK _ _ (fun h=>absurd rfl h) (fun _=>?_);clear hK K
    try simp only[Act.put,jP,jQ,jR]
    refine aR (by kernel_rfl) (NoPanic.normal ?_) _;clear a0 c12s f12;obtain⟨w5,g6⟩:=y7 (w4.setCell (no rb 12) (.slice (some (nl g3)) m q3));rw[g6] at b2 ⊢;have h9:=kB.a (frs:=fs) (by have h:=b2.2.2;exact⟨h.row,h.low,h.lex,h.llow,h.own,h.opens,h.names,(by have:=h.seen;rw[List.filter_cons,Ho.out] at this;simpa using this),h.nodup,h.le⟩);have e8:=Qa (d9.kp b2.2.1 cm);have h8:=Qa (c6.trans (dl.rd b2.1 b2.2.1));clear g6;go_wp2_with fail;obtain⟨wq,hwq⟩:=y7 w5.drew;have a1:ge w5 wq:=by rw[<-hwq];exact(Ze _ _).drew
    have d7:=Zc HB.out h8.b.size;have a6:=h9.s.below a1;have c4:=Qa (ew a6 (by have:=Hl.out;omega));have Htk:=Qa (pd (lv:=(fs.length:Int)+1) (by omega) (e8.below a1) Ho.out k6.out k0.out Hi.out d6.out g0.out (Zc d7 a1.size));obtain⟨by2,dp2,ex2,ov2,nv2,maps2,b8⟩:=id a6;have C11:=Qa (ac b8.row (j:=11) (u:=.func (.func 103) #[.pointer (some (nl xb))] #[]) rfl);have a4:=NA (h8.trans (dl.new a1 d7)) a6;clear a1 a6 b8 h9 d7;refine cJ (fun w9=>w9.cell? (no rb 11)=some (.func (.func 103) #[.pointer (some (nl xb))] #[])) 9 ((by rw[hwq];exact C11.out)) fun a0=>?_
    rw[hwq] at a0 ⊢;clear hwq;refine nD 0 1 2 a0 ?_;refine nD 3 4 6 a0 ?_;refine rZ 5 fun K hK=>?_
    go_simp;refine Za c4 ?_;rintro e w' ⟨rfl,rfl⟩;go_wp2_with fail;refine hK _ _ (fun _=>a0) (fun a0=>?_);clear hK K;have a0:=a0 (by decide)
    try simp only[Act.put,jP,jQ,jR]
    refine tR 7 a0 ?_;refine tR 8 a0 ?_;refine rZ 9 fun K hK=>?_
    go_simp;refine Za Htk ?_;rintro e w6 ⟨rfl,h1,h2,h3⟩;have R:=NB h1 h2 h3;clear h1 h2 h3;go_wp2_with fail;refine hK _ _ (fun h=>absurd rfl h) (fun _=>?_);clear hK K
    try simp only[Act.put,jP,jQ,jR]
    refine aR (by kernel_rfl) (NoPanic.normal ?_) _;obtain⟨y1,y2,bs2,y3⟩:=R.out;have i2:=(a4.2.tb y2).put (fun f fs e=>(g0.2 f fs e).1) (et f);have d0:B<=w6.heap.size:=Zc (Zc HB a4.1.b.size) y1.size;have j3:=Qa (kk i2 d0 (by rw[mc];have:=Hl.out;omega));have R6:=NA (a4.1.trans (dl.tb y1 y2)) y3;clear y1 y2 y3 i2 d0 R a4 c4 Htk C11;go_wp2_with fail;refine Za j3 ?_;rintro e w7 ⟨rfl,h1,h2,h3⟩;have R7:=NB h1 h2 h3;clear h1 h2 h3;go_wp2;go_end0;refine⟨rfl,R6.1.trans (dl.rd R7.1 R7.2.1),?_,bs2,R6.2.kp R7.2.1 cm⟩;rw[j8];exact R7.2.2
   .have Ho:=Qa ho;have k6:=Qa f1;have k0:=Qa f7;have Hi:=Qa hi;have d6:=Qa c3;have g0:=Qa g7;have Hl:=Qa hl;clear ho f1 f7 hi c3 g7 hl;have d14:=ac a5.row (j:=14) (u:=(want:Int)) rfl;obtain⟨g,q,a9,cg,hq⟩:=a5.topKind;rw[Ho.out] at cg;simp only[Bool.false_eq_true,if_false,if_true] at cg;subst a9;obtain⟨m,hm⟩:=y7 fs.length;rw[hm] at cg hq;have j5:m<=1000000000:=by rw[<-hm];exact Hl.out
    have c12:=ac a5.row (j:=12) (u:=.slice (some (nl g)) (m+1) q) (by rw[<-hm];rfl);have s1:IntKind.i64.wrap (m:Int)= (m:Int):=IntWalk.i64_in _ (by omega);have e2:(m:Int)< (m:Int)+1:=by omega
    have Hm:=Qa hm;have Hq:=Qa hq;clear hm d14 hq;go_wp2_with fail;go_quiet (fail);have a1:=av (Ze wr.heap.size wr) nq;obtain⟨w2,h7⟩:=y7 (wr.drewN nq);rw[h7] at a1 ⊢;have c9:=Qa (a5.below a1);have b9:=Qa (a7.below a1);have c0:=Qa (d3.trans (dl.new a1 b1));clear a1 h7 c12 cg e1;go_wp2_with fail;obtain⟨b0,maps9,n2⟩:∃b m',maps=b::m':=by
     have f0:=c9.seen;simp only[List.filter_cons,Ho.out,if_true] at f0
     cases maps with
     |nil=>have:=f0.1;simp at this
     |cons b m'=>exact⟨b,m',rfl⟩
    subst n2;obtain⟨A13,q13,j1,h0,-,h6⟩:=ai c9.names;subst j1;obtain⟨g13,l0⟩:=h6 (by simp);subst l0;obtain⟨n9,k5⟩:=y7 maps9.length;have k3:n9<=m:=by
     have h1:=c9.seen.1;have h2:=List.length_filter_le (fun g:Fr=>g.obj) fs;simp only[List.filter_cons,Ho.out,if_true,List.length_cons] at h1;have:=Hm.out;omega
    have b5:=Zc HB.out c0.b.size;obtain⟨wb,i8⟩:=y7 w2.drew;have g8:ge w2 wb:=by rw[<-i8];exact(Ze _ _).drew
    have e0:=c9.below g8;have C13:=Qa (ac e0.row (j:=13) (u:=.slice (some (nl g13)) (n9+1) q13) (by rw[<-k5];rfl));have c13s:=C13.out;have f13:=ao e0.row 13;have s9:IntKind.i64.wrap (n9:Int)= (n9:Int):=IntWalk.i64_in _ (by omega);have k1:(n9:Int)<=q13:=by rw[List.length_cons] at h0;omega
    have d2:wb.ownsRow B 331 1 (.slice (some (nl g13)) n9 q13) maps9.length (maps9.reverse.map zF):=by
     have:=e0.names;rw[List.length_cons,List.reverse_cons,List.map_append] at this;rw[<-k5];exact uu this (by simp)
    have f5:=Qa (e0.b.setNames (Zc b5 g8.size) (aV.refl (fun _=>False) wb) (fun _ h=>h.elim) (maps':=maps9) (nfr':=fs) (nv':=.slice (some (nl g13)) n9 q13) d2 (List.nodup_cons.1 e0.nodup).2 (fun w10 hk _=>by
     have f0:=e0.seen;simp only[List.filter_cons,Ho.out,if_true] at f0;refine kB.seens (nfr:=fs) ⟨by simpa using f0.1,fun i x y q1 q2=>f0.2 (i+1) x y (by simpa using q1) (by simpa using q2)⟩ hk))
    have d1:=Qa (b9.below g8);have i3:=Qa (c0.trans (dl.new g8 b5));clear d2 e0 g8 b5 h0 h6 k3 k5;refine cJ (fun w9=>w9.cell? (no rb 13)=some (.slice (some (nl g13)) (n9+1) q13)) 14 ((by rw[i8];exact C13.out)) fun a0=>?_
    rw[i8] at a0 ⊢;clear i8;refine nD 0 1 2 a0 ?_;refine nD 3 4 5 a0 ?_;refine nD 6 7 8 a0 ?_;refine nD 9 10 11 a0 ?_;refine tR 12 a0 ?_;refine tR 13 a0 ?_;refine rZ 14 fun K hK=>?_
    go_simp;refine hK _ _ (fun h=>absurd rfl h) (fun _=>?_);clear hK K
    try simp only[Act.put,jP,jQ,jR]
    refine aR (by kernel_rfl) (NoPanic.normal ?_) _;clear a0 c13s f13 s9 k1;obtain⟨w3,i4⟩:=y7 (wb.setCell (no rb 13) (.slice (some (nl g13)) n9 q13));rw[i4] at f5 ⊢;have j0:=Qa (show ∃by_ dp ex ov nv maps,kB B w3 rb lb xb v xs (f::fs) fs want k nd false by_ dp ex ov nv maps from⟨_,_,_,_,_,_,f5.2.2⟩);have c2:=Qa (d1.kp f5.2.1 cm);have f2:=Qa (i3.trans (dl.rd f5.1 f5.2.1));clear i4 f5 d1 i3 c9 b9 c0;go_wp2_with fail;obtain⟨by3,dp3,ex3,ov3,nv3,maps3,d4⟩:=j0.out;obtain⟨g3,q3,a9,-,l2⟩:=d4.topOpen;subst a9;have e3:=Zc HB.out f2.b.size;obtain⟨w4,c8⟩:=y7 w3.drew;have b3:ge w3 w4:=by rw[<-c8];exact(Ze _ _).drew
    have a2:=d4.below b3;have C12:=Qa (ac a2.row (j:=12) (u:=.slice (some (nl g3)) (m+1) q3) (by rw[<-Hm.out];rfl));have f12:=ao a2.row 12;have k2:(m:Int)<=q3:=by have:=Hm.out;omega
    have b7:w4.ownsRow B 3 1 (.slice (some (nl g3)) m q3) fs.length (fs.reverse.map iN):=by
     have:=a2.opens;rw[List.length_cons,List.reverse_cons,List.map_append] at this;rw[<-Hm.out];exact uu this (by simp)
    have b2:=Qa (a2.setOpen (Zc e3 b3.size) (aV.refl (fun _=>False) w4) (fun _ h=>h.elim) (ofr':=fs) (ov':=.slice (some (nl g3)) m q3) b7);have d9:=Qa (c2.below b3);have c6:=Qa (f2.trans (dl.new b3 e3));have c12s:=C12.out;clear d4 a2 b7 b3 e3 l2;refine cJ (fun w9=>w9.cell? (no rb 12)=some (.slice (some (nl g3)) (m+1) q3)) 14 ((by rw[c8];exact C12.out)) fun a0=>?_
    rw[c8] at a0 ⊢;clear c8;refine nD 0 1 2 a0 ?_;refine nD 3 4 5 a0 ?_;refine nD 6 7 8 a0 ?_;refine nD 9 10 11 a0 ?_;refine tR 12 a0 ?_;refine tR 13 a0 ?_;refine rZ 14 fun K hK=>?_
    go_simp;refine hK _ _ (fun h=>absurd rfl h) (fun _=>?_);clear hK K
    try simp only[Act.put,jP,jQ,jR]
    refine aR (by kernel_rfl) (NoPanic.normal ?_) _;clear a0 c12s f12;obtain⟨w5,g6⟩:=y7 (w4.setCell (no rb 12) (.slice (some (nl g3)) m q3));rw[g6] at b2 ⊢;have h9:=kB.a (frs:=fs) (b2.2.2);have e8:=Qa (d9.kp b2.2.1 cm);have h8:=Qa (c6.trans (dl.rd b2.1 b2.2.1));clear g6;go_wp2_with fail;obtain⟨wq,hwq⟩:=y7 w5.drew;have a1:ge w5 wq:=by rw[<-hwq];exact(Ze _ _).drew
    have d7:=Zc HB.out h8.b.size;have a6:=h9.s.below a1;have c4:=Qa (ew a6 (by have:=Hl.out;omega));have Htk:=Qa (qU (lv:=(fs.length:Int)+1) (by omega) (e8.below a1) Ho.out k6.out k0.out Hi.out d6.out g0.out (Zc d7 a1.size));obtain⟨by2,dp2,ex2,ov2,nv2,maps2,b8⟩:=id a6;have C11:=Qa (ac b8.row (j:=11) (u:=.func (.func 103) #[.pointer (some (nl xb))] #[]) rfl);have a4:=NA (h8.trans (dl.new a1 d7)) a6;clear a1 a6 b8 h9 d7;refine cJ (fun w9=>w9.cell? (no rb 11)=some (.func (.func 103) #[.pointer (some (nl xb))] #[])) 9 ((by rw[hwq];exact C11.out)) fun a0=>?_
    rw[hwq] at a0 ⊢;clear hwq;refine nD 0 1 2 a0 ?_;refine nD 3 4 6 a0 ?_;refine rZ 5 fun K hK=>?_
    go_simp;refine Za c4 ?_;rintro e w' ⟨rfl,rfl⟩;go_wp2_with fail;refine hK _ _ (fun _=>a0) (fun a0=>?_);clear hK K;have a0:=a0 (by decide)
    try simp only[Act.put,jP,jQ,jR]
    refine tR 7 a0 ?_;refine tR 8 a0 ?_;refine rZ 9 fun K hK=>?_
    go_simp;refine Za Htk ?_;rintro e w6 ⟨rfl,h1,h2,h3⟩;have R:=NB h1 h2 h3;clear h1 h2 h3;go_wp2_with fail;refine hK _ _ (fun h=>absurd rfl h) (fun _=>?_);clear hK K
    try simp only[Act.put,jP,jQ,jR]
    refine aR (by kernel_rfl) (NoPanic.normal ?_) _;obtain⟨y1,y2,bs2,y3⟩:=R.out;have i2:=(a4.2.tb y2).put (fun f fs e=>(g0.2 f fs e).1) (et f);have d0:B<=w6.heap.size:=Zc (Zc HB a4.1.b.size) y1.size;have j3:=Qa (kk i2 d0 (by rw[mc];have:=Hl.out;omega));have R6:=NA (a4.1.trans (dl.tb y1 y2)) y3;clear y1 y2 y3 i2 d0 R a4 c4 Htk C11;go_wp2_with fail;refine Za j3 ?_;rintro e w7 ⟨rfl,h1,h2,h3⟩;have R7:=NB h1 h2 h3;clear h1 h2 h3;go_wp2;go_end0;refine⟨rfl,R6.1.trans (dl.rd R7.1 R7.2.1),?_,bs2,R6.2.kp R7.2.1 cm⟩;rw[j8];exact R7.2.2
theorem vS:∀ (f:Nat) (xs out:Na) (n:Nat) (p:Na×Nat),gG out->out.length<=4*n->gV f xs out n=some p->gG p.1/\p.1.length<=4*p.2
 |0,_,_,_,_,_,_,h=>by cases h
 |f+1,xs,out,n,p,hu,hl,h=>by
  unfold gV at h
  split at h
  .cases h
  .injection h with h
   subst h;exact⟨hu,by simp only;omega⟩
  .rename_i c k hp
   obtain⟨h1,h2,-⟩:=pn hp;have h3:=ia c;exact vS f _ _ _ p (hu.snoc h1) (by rw[List.length_append];simp only at h2 h3 ⊢;omega) h
theorem vJ {s:Nc}(hl:xs.length<=1000000000)(h:dM xs=some (.str s,n)):kN s:=by
 cases xs with
 |nil=>cases h
 |cons x xs=>
  simp only[dM] at h
  split at h
  .injection h with h;injection h with h _;cases h
  .rw[Option.map_eq_some_iff] at h;obtain⟨j,-,h⟩:=h;injection h with h _;cases h
  .rw[Option.map_eq_some_iff] at h;obtain⟨j,-,h⟩:=h;injection h with h _;cases h
  .rw[Option.map_eq_some_iff] at h;obtain⟨p,hp,h⟩:=h;injection h with h _
   injection h with h
   subst h;unfold oa at hp
   split at hp
   .rename_i ys e
    injection e with e1 e2
    subst e2;obtain⟨h1,h2⟩:=vS _ _ _ _ _ gG.nil (Zk _) hp;have h3:=t8 _ _ _ _ _ hp;rw[List.length_cons] at hl;refine⟨by obtain⟨cs,a,b⟩:=h1;exact⟨cs,a,by simpa using b⟩,?_⟩
    show(p.1.toArray).size<=_
    rw[List.size_toArray];omega
   .cases hp
  .cases h
theorem Cn (h:dM xs=some (.leaf j,n)):xr j:=by
 cases xs with
 |nil=>cases h
 |cons x xs=>
  simp only[dM] at h
  split at h
  .injection h with h;injection h with h _;cases h
  .rw[Option.map_eq_some_iff] at h;obtain⟨j',hj,h⟩:=h;injection h with h _
   injection h with h
   subst h;unfold uY at hj
   split at hj
   .obtain rfl:=Zi hj;exact .null
   .split at hj
    .obtain rfl:=Zi hj;exact .bool true
    .split at hj
     .obtain rfl:=Zi hj;exact .bool false
     .cases hj
  .rw[Option.map_eq_some_iff] at h;obtain⟨p,hp,h⟩:=h;injection h with h _
   injection h with h
   subst h;unfold pU at hp;simp only at hp
   split at hp
   .rw[Option.map_eq_some_iff] at hp;obtain⟨d,hd,rfl⟩:=hp;refine .num d ?_;unfold jv at hd;simp only at hd
    split at hd
    .obtain rfl:=Zi hd;simp
    .split at hd
     .rename_i hx;obtain rfl:=Zi hd;exact hx
     .cases hd
   .cases hp
  .rw[Option.map_eq_some_iff] at h;obtain⟨p,-,h⟩:=h;injection h with h _;cases h
  .cases h
theorem GL {t:uE}(hl:xs.length<=1000000000)(h:dM xs=some (t,n)):IV kN t:=by
 cases t with
 |mark c=>trivial
 |leaf j=>trivial
 |str s=>exact vJ hl h
theorem uZ {k:Nat}{t:uE}{bs:List Nat}(ht:(t =.leaf j/\xr j)\/∃s,t =.str s/\j=fB s)(hw:want=0\/want=1)(hR:kI B w rb lb xb v xs frs want k nd false)(a0:fY B w xb frs none bs)(hT:mf frs)(hl:frs.length<=1000000000)(hn:nd<=1000000000)(hB:B<=w.heap.size) :
  Calls prog 178 #[.pointer (some (nl rb)),nZ k0 t] w (KF B rb lb xb v xs (dq frs j) k (nd+1) false w):=by
 rcases ht with ⟨rfl,hj⟩|⟨s,rfl,rfl⟩
 .cases hj with
  |null=>
   have hs:=fun w=>vG k0 w
   have hm:∀W,(Instr.typeAssert (.iface 54 (.agg #[])) 154 123 true).run prog W =.ok (.tuple #[.agg #[false,.string ⟨#[]⟩,(0:Int)],false]) W:=fun W=>by kernel_rfl
   exact lw hw hR a0 hT hl hn hB hs (fun P w=>VW.null) rfl hm
  |bool b=>
   have hs:=fun w=>xU k0 b w
   have hm:∀W,(Instr.typeAssert (.iface 55 (.bool b)) 154 123 true).run prog W =.ok (.tuple #[.agg #[false,.string ⟨#[]⟩,(0:Int)],false]) W:=fun W=>by kernel_rfl
   exact lw hw hR a0 hT hl hn hB hs (fun P w=>VW.bool b) rfl hm
  |num d hd=>
   have hs:=fun w=>Aw k0 d w
   exact D9 hw hR a0 hT hl hn hB hs (fun P w=>VW.num d) d rfl hd
 .have hs:=fun w=>AB k0 s w
  have hm:∀W,(Instr.typeAssert (.iface 37 s) 154 123 true).run prog W =.ok (.tuple #[.agg #[false,.string ⟨#[]⟩,(0:Int)],false]) W:=fun W=>by kernel_rfl
  exact lw hw hR a0 hT hl hn hB hs (fun P w=>VW.text s) rfl hm
theorem Gj {d:Option JV}(h:AC want frs d):want<8:=by
 rcases want with _|_|_|_|_|_|_|_|n <;> first|omega|exact h.elim
theorem oh {N:Nc->Prop}(h:eD frs<=1000000000)(hw:∀f fs,frs=f::fs->cI f=false):mf frs:=by
 refine⟨by have:=lV frs;omega,fun f fs e=>⟨hw f fs e,?_⟩⟩;subst e;have:=oJ f fs;omega
def KI (B rb lb xb:Nat)(v:Value)(xs:Na)(c:dT)(k nd:Nat)(w:Wd)(e:Ending)(w':Wd):Prop:= ∃nd',nd'<=nd+1/\KF B rb lb xb v xs c k nd' false w e w'
theorem FR {k:Nat}{c c':dT}{x:UInt8}{p:Int}(hM:lT w)(h:PS B rb lb xb v xs c k nd false w)(a5:c.ok kN)(hs:eh c (.mark x)=some c')(hc:eD c.frs<=1000000000)(hn:nd<=1000000000)(hB:B<=w.heap.size) :
  Calls prog 176 #[.pointer (some (nl rb)),.agg #[(p:Int),.int .u8 x.toNat]] w (KI B rb lb xb v xs c' k nd w):=by
 obtain⟨frs,want,done⟩:=c;obtain⟨h1,h2,h3⟩:=a5;obtain⟨hR,bs,a0⟩:=h;simp only at h1 h2 h3 hR a0 hc;have hlen:=lV frs;have a1:=Gj h3;simp only[eh] at hs
 split at hs
 case isFalse=>cases hs
 rename_i hm
 rcases FB hm with ⟨hx,hw⟩|⟨hx,hw⟩|⟨hx,hw⟩|⟨hx,hw⟩|⟨hx,hw⟩
 .obtain⟨hd,hq⟩:=dJ h3 hw;subst hd;rcases hx with rfl|rfl
  .rw[if_pos rfl] at hs;obtain rfl:=Zi hs;exact(gJ hM a1 hm hR a0 hB (.open5 _ (by omega) hn hq)).mono fun e w' h=>⟨_,Zb _,h⟩
  .rw[if_neg (by decide),if_pos rfl] at hs;obtain rfl:=Zi hs;exact(gJ hM a1 hm hR a0 hB (.open6 _ (by omega) hn hq)).mono fun e w' h=>⟨_,Zb _,h⟩
 .subst hx;rw[if_neg (by decide),if_neg (by decide)] at hs
  cases frs with
  |nil=>cases hs
  |cons f fs=>
   simp only[true_or,if_true] at hs;obtain rfl:=Zi hs;have a4:=oJ f fs;have a6:eD fs<=eD (f::fs):=by simp[eD]
   have hob:f.obj=false:=by
    rcases hw with rfl|rfl
    .obtain⟨-,g,gs,e,h⟩:=h3;injection e with e _;rw[e];exact h
    .obtain⟨-,g,gs,e,h⟩:=h3;injection e with e _;rw[e];exact h
   have a3:done=none:=by rcases hw with rfl|rfl <;> exact h3.1
   subst a3;have a2:=h1 f (by simp);exact(gJ hM a1 hm hR a0 hB (.close5 _ _ hob (a2.list hob).2 a2 (by omega) (by omega) (oh (N:=kN) (by omega) (fun g gs e=>h2 g (by rw[List.tail_cons,e];simp))) (by omega))).mono fun e w' h=>⟨_,Nat.le_succ _,h⟩
 .subst hx;rw[if_neg (by decide),if_neg (by decide)] at hs
  cases frs with
  |nil=>cases hs
  |cons f fs=>
   simp only[or_true,if_true] at hs;obtain rfl:=Zi hs;have a4:=oJ f fs;have a6:eD fs<=eD (f::fs):=by simp[eD]
   have hob:f.obj=true/\f.name=none:=by
    rcases hw with rfl|rfl
    .obtain⟨-,g,gs,e,h⟩:=h3;injection e with e _;rw[e];exact h
    .obtain⟨-,g,gs,e,h⟩:=h3;injection e with e _;rw[e];exact h
   have a3:done=none:=by rcases hw with rfl|rfl <;> exact h3.1
   subst a3;have a2:=h1 f (by simp);exact(gJ hM a1 hm hR a0 hB (.close6 _ _ hob.1 hob.2 a2 (by omega) (by omega) (oh (N:=kN) (by omega) (fun g gs e=>h2 g (by rw[List.tail_cons,e];simp))) (by omega))).mono fun e w' h=>⟨_,Nat.le_succ _,h⟩
 .obtain⟨rfl,rfl⟩:=And.intro hx hw;rw[if_neg (by decide),if_neg (by decide)] at hs;obtain⟨rfl,f,fs,rfl,h5,h6⟩:=h3
  try simp only at hs
  rw[if_neg (by decide),if_neg (by decide)] at hs;obtain rfl:=Zi hs;exact(gJ hM a1 hm hR a0 hB (.colon _)).mono fun e w' h=>⟨_,Nat.le_succ _,h⟩
 .subst hx;rw[if_neg (by decide),if_neg (by decide)] at hs
  cases frs with
  |nil=>cases hs
  |cons f fs=>
   try simp only at hs
   rw[if_neg (by decide)] at hs;simp only[if_true] at hs;obtain rfl:=Zi hs;rw[List.length_cons] at hlen;rcases hw with rfl|rfl
   .obtain⟨rfl,g,gs,e,h5⟩:=h3;injection e with e1 e2
    subst e1 e2;have:=gJ (p:=p) hM a1 hm hR a0 hB (.comma5 _ _ h5 (by omega));simp only[h5,Bool.false_eq_true,if_false] at this ⊢;exact this.mono fun e w' h=>⟨_,Nat.le_succ _,h⟩
   .obtain⟨rfl,g,gs,e,h5,h6⟩:=h3;injection e with e1 e2
    subst e1 e2;have:=gJ (p:=p) hM a1 hm hR a0 hB (.comma6 _ _ h5 (by omega));simp only[h5,if_true] at this ⊢;exact this.mono fun e w' h=>⟨_,Nat.le_succ _,h⟩
theorem ju.lexed {k k':Nat}(h:ju B w rb lb xb v xs frs want k nd fin by_ dp ex ov nv maps)(hl:qO w' lb v xs k')(hc:aV (fun i=>i=lb) w w')(hk:k'<=xs.length):ju B w' rb lb xb v xs frs want k' nd fin by_ dp ex ov nv maps/\Kp nN w w':=by
 obtain⟨h1,h2,h3,h4,h5,h6,h7,h8,h9,a2⟩:=h;have a0:Kp (fun e=>e=288) w w':=Kp.of_chg hc fun g e _=>by subst e;exact⟨_,_,_,h3.1,rfl⟩
 have a1:aw w' B v xs:=ap h5 a0.keeps (by decide);exact⟨⟨a0.heap h1 (by decide),h2,hl,h4,a1,ap h6 a0.keeps (by decide),ap h7 a0.keeps (by decide),kB.seens h8 a0,h9,hk⟩,a0.imp fun e he=>.inr (.inl he)⟩
theorem ER {k:Nat}{bs:List Nat}{done:Option JV}(hE:sT w aU aE)(hR:kI B w rb lb xb v xs [] 7 k nd false)(b3:fY B w xb [] done bs)(hl:xs.length<=1000000000)(hB:B<=w.heap.size)(hd:(xs.drop k).dropWhile dm = []) :
  Calls prog 133 #[.pointer (some (nl rb))] w fun e w'=>e =.returned (.tuple #[])/\dl B w w'/\kI B w' rb lb xb v xs [] 7 xs.length nd true/\fY B w' xb [] done bs:=by
 obtain⟨by_,dp,ex,ov,nv,maps,hA⟩:=hR;have c0:=ac hA.row (j:=0) (u:=.pointer (some (nl lb))) rfl;have a9:=Qa (vc hE hA.lex hA.le hl hd);have HA:=Qa hA;have b4:=Qa b3;have HB:=Qa hB;have q1:=Kx;clear hE b3 hl hB hd hA;go_in;go_wp2_with fail;refine Za a9 ?_;rintro e w1 ⟨rfl,b1,a5⟩;obtain⟨b2,a7⟩:=HA.lexed b1 a5 (Zb _);have a1:=b4.kp a7 cm;have a4:Below B w w1:=a5.below HB.out fun i e=>by rw[e];exact HA.llow
 have a0:=aa w1 (.cells #[(xs.length:Int)] 295);obtain⟨w2,b0⟩:=y7 (w1.alloc (.cells #[(xs.length:Int)] 295));rw[b0] at a0;have a3:=b2.below a0;have c14:=ac a3.row (j:=14) (u:=(7:Int)) rfl;have c15:=ac a3.row (j:=15) (u:=.bool false) rfl;have f15:=ao a3.row 15;have a2:=Zc (Zc HB a4.size) a0.size;have Hs:=Qa (a3.setDone a2 true);have b5:=Qa ((dl.rd a4 a7).trans (dl.new a0 (Zc HB a4.size)));have a6:=Qa (a1.below a0);clear b1 a5 b2 a7 a1 a4 a0 a3 a2 c0 a9;go_wp2;go_end0
 try rw[b0]
 exact⟨rfl,b5.trans (dl.rd Hs.1 Hs.2.1),Hs.2.2.s,a6.kp Hs.2.1 cm⟩
structure jA (w0:Wd) (rb lb xb:Nat) (v:Value) (xs:Na) (c:dT) (k nd:Nat) (w:Wd) (aU aE:Addr):Prop where
 env:sT w0 aU aE
 may:lT w0
 ps:PS w0.heap.size rb lb xb v xs c k nd false w
 ok:c.ok kN
 cnt:eD c.frs<=1000000000
 nds:nd<=1000000000
 len:xs.length<=1000000000
 below:ge w0 w
structure KS (B:Nat) (rb lb xb:Nat) (v:Value) (xs:Na) (c:dT) (k nd:Nat) (w w1:Wd):Prop where
 ps:PS B rb lb xb v xs c k nd false w1
 below:Below B w w1
 kp:Kp nN w w1
theorem jA.next {k:Nat}{c:dT}(h:jA w0 rb lb xb v xs c k nd w aU aE){y:UInt8}(hd:(xs.drop k).dropWhile dm=y::ys){t:uE}(hx:dM (y::ys)=some (t,n)) :
  Calls prog 174 #[.pointer (some (nl lb))] w fun e w1=>e =.returned (.tuple #[nZ (xs.length - (ys.length+1)) t,.nilIface])/\KS w0.heap.size rb lb xb v xs c (xs.length - (ys.length+1)+n) nd w w1:=by
 obtain⟨⟨by_,dp,ex,ov,nv,maps,hA⟩,bs,a3⟩:=h.ps;refine(vH (h.env.below h.below) hA.lex hA.le h.len hd hx).mono ?_;rintro e w1 ⟨rfl,a2,a1⟩;have hn:=(pV hx).2;rw[List.length_cons] at hn;have a5:ys.length+1<=xs.length:=by
  have h1:=i1 (xs.drop k);rw[hd,List.length_cons,List.length_drop] at h1;omega
 obtain⟨a4,a0⟩:=hA.lexed a2 a1 (by omega);exact⟨rfl,⟨a4.s,bs,a3.kp a0 cm⟩,a1.below h.below.size fun i e=>by rw[e];exact hA.llow,a0⟩
theorem Cw {k:Nat}{c c':dT}(h:jA w0 rb lb xb v xs c k nd w aU aE){y:UInt8}(hd:(xs.drop k).dropWhile dm=y::ys){x:UInt8}(hx:dM (y::ys)=some (.mark x,n))(hs:eh c (.mark x)=some c') :
  Calls prog 133 #[.pointer (some (nl rb))] w fun e w'=>KI w0.heap.size rb lb xb v xs c' (xs.length - (ys.length+1)+n) nd w e w':=by
 obtain⟨by_,dp,ex,ov,nv,maps,hA⟩:=h.ps.1;have c0:=ac hA.row (j:=0) (u:=.pointer (some (nl lb))) rfl;have a3:=Qa (h.next hd hx);have H:=Qa h;have Hs:=Qa hs;have q1:=G9;have q2:=xD;clear h hd hx hs hA;go_in;go_wp2_with fail;refine Za a3 ?_;rintro e w1 ⟨rfl,hL⟩;have HL:=Qa hL;have a0:=aa w1 (.cells #[((xs.length - (ys.length+1):Nat):Int),.int .u8 x.toNat] 297);have a1:=Zc H.below.size hL.below.size;have a2:=Qa (FR (p:=(xs.length - (ys.length+1):Nat)) (H.may.below ((H.below.trans hL.below).trans (a0.mono a1))) (⟨hL.ps.1.below a0,by obtain⟨bs,hb⟩:=hL.ps.2;exact⟨bs,hb.below a0⟩⟩:PS w0.heap.size rb lb xb v xs c _ nd false _) H.ok Hs.out H.cnt H.nds (Zc a1 a0.size));have a4:=Qa ((dl.rd hL.below hL.kp).trans (dl.new a0 a1));clear hL a0 a1 c0 a3;obtain⟨z,hz⟩:=y7 (((xs.length - (ys.length+1):Nat):Int):Int);rw[show nZ (xs.length - (ys.length+1)) (.mark x) =.iface 297 (.agg #[((xs.length - (ys.length+1):Nat):Int),.int .u8 x.toNat]) from rfl];rw[hz] at a2 a4 ⊢;clear hz;go_wp2_with fail;refine Za a2 ?_;rintro e w2 ⟨nd',h1,rfl,h2,h3⟩;have R:=NB h1 h2 h3;clear h1 h2 h3;go_wp2;go_end0;exact⟨nd',R.1,rfl,a4.trans R.2.1,R.2.2⟩
theorem Ch {k:Nat}(hw:want=2\/want=3)(h:jA w0 rb lb xb v xs ⟨f::fs,want,none⟩ k nd w aU aE)(ho:f.obj=true)(hn:f.name=none){y:UInt8}(hd:(xs.drop k).dropWhile dm=y::ys){s:Nc}(hx:dM (y::ys)=some (.str s,n))(a2:s∉f.mems.map Prod.fst) :
  Calls prog 133 #[.pointer (some (nl rb))] w fun e w'=>KI w0.heap.size rb lb xb v xs ⟨{f with name:=some s}::fs,4,none⟩ (xs.length - (ys.length+1)+n) nd w e w':=by
 obtain⟨by_,dp,ex,ov,nv,maps,hA⟩:=h.ps.1;have c0:=ac hA.row (j:=0) (u:=.pointer (some (nl lb))) rfl;have a3:=Qa (h.next hd hx);have H:=Qa h;have hsz:kN s:=vJ (by have h1:=i1 (xs.drop k);rw[hd,List.length_drop] at h1;have:=h.len;omega) hx;have hcn:=h.cnt;have b3:=oJ f fs;have b2:=Qa hsz;have b1:=Qa a2;have q1:=yf;have q2:=oV;have q3:=nG;have a6:=Qa (show fs.length<=1000000000/\f.mems.length<=1000000000 by simp only at hcn;omega);clear h hd hx hA hsz a2 hcn b3;rcases hw with rfl|rfl
 all_goals
  go_in;go_wp2_with fail;refine Za a3 ?_;rintro e w1 ⟨rfl,hL⟩;have a0:=aa w1 (.cells #[((xs.length - (ys.length+1):Nat):Int),s] 300);have a1:=Zc H.below.size hL.below.size;have b0:=hL.ps.1.below a0;obtain⟨bs,a5⟩:=hL.ps.2;have a4:=Qa (FW (p:=(xs.length - (ys.length+1):Nat)) b0 (a5.below a0) ho hn b1.out b2.2 a6.1 a6.2 (Zc a1 a0.size));have a7:=Qa ((dl.rd hL.below hL.kp).trans (dl.new a0 a1));obtain⟨by9,dp9,ex9,ov9,nv9,maps9,a9⟩:=b0;have c14:=ac a9.row (j:=14) rfl;simp only[dW] at c14;clear hL a0 a1 c0 a3 a9 a5;obtain⟨z,hz⟩:=y7 (((xs.length - (ys.length+1):Nat):Int):Int);rw[show nZ (xs.length - (ys.length+1)) (.str s) =.iface 300 (.agg #[((xs.length - (ys.length+1):Nat):Int),s]) from rfl];rw[hz] at a4 a7 c14 ⊢;clear hz;go_wp2_with fail;refine Za a4 ?_;rintro e w2 ⟨rfl,h2,h3⟩;have R:=NA h2 h3;clear h2 h3;go_wp2_with fail;(try simp only[Exit.inBlock,Exit.then]);refine Zh (results_none rfl ..) rfl ?_;exact⟨nd,Nat.le_succ _,rfl,a7.trans R.1,R.2⟩
theorem BU {k:Nat}(hw:want=0\/want=1)(h:jA w0 rb lb xb v xs ⟨frs,want,none⟩ k nd w aU aE){y:UInt8}(hd:(xs.drop k).dropWhile dm=y::ys){s:Nc}(hx:dM (y::ys)=some (.str s,n)) :
  Calls prog 133 #[.pointer (some (nl rb))] w fun e w'=>KI w0.heap.size rb lb xb v xs (dq frs (fB s)) (xs.length - (ys.length+1)+n) nd w e w':=by
 obtain⟨by_,dp,ex,ov,nv,maps,hA⟩:=h.ps.1;have c0:=ac hA.row (j:=0) (u:=.pointer (some (nl lb))) rfl;have a4:=Qa (h.next hd hx);have H:=Qa h;have hcn:=h.cnt;have b2:=lV frs;have a3:mf frs:=oh (N:=kN) hcn (dJ h.ok.want hw).2;have b0:=Qa a3;have q1:=yf;have q2:=oV;have q3:=nG;have b1:=Qa (show frs.length<=1000000000 by simp only at hcn;omega);clear h hd hx hA hcn b2 a3;rcases hw with rfl|rfl
 all_goals
  go_in;go_wp2_with fail;refine Za a4 ?_;rintro e w1 ⟨rfl,hL⟩;have a0:=aa w1 (.cells #[((xs.length - (ys.length+1):Nat):Int),s] 300);have a2:=Zc H.below.size hL.below.size;have a9:=hL.ps.1.below a0;obtain⟨bs,a5⟩:=hL.ps.2;have a1:=Qa (uZ (k0:=xs.length - (ys.length+1)) (t:=.str s) (j:=fB s) (.inr ⟨s,rfl,rfl⟩) (by simp) a9 (a5.below a0) b0.out b1.out H.nds (Zc a2 a0.size));rw[show nZ (xs.length - (ys.length+1)) (.str s) =.iface 300 (.agg #[((xs.length - (ys.length+1):Nat):Int),s]) from rfl] at a1;have a6:=Qa ((dl.rd hL.below hL.kp).trans (dl.new a0 a2));obtain⟨by9,dp9,ex9,ov9,nv9,maps9,a7⟩:=a9;have c14:=ac a7.row (j:=14) rfl;simp only[dW] at c14;clear hL a0 a2 c0 a4 a7 a5;obtain⟨z,hz⟩:=y7 (((xs.length - (ys.length+1):Nat):Int):Int);rw[show nZ (xs.length - (ys.length+1)) (.str s) =.iface 300 (.agg #[((xs.length - (ys.length+1):Nat):Int),s]) from rfl];rw[hz] at a1 a6 c14 ⊢;clear hz;go_wp2_with fail;refine Za a1 ?_;rintro e w2 ⟨rfl,h2,h3⟩;have R:=NA h2 h3;clear h2 h3;go_wp2;go_end0;exact⟨nd+1,Zb _,rfl,a6.trans R.1,R.2⟩
theorem BQ {k:Nat}(hw:want=0\/want=1)(h:jA w0 rb lb xb v xs ⟨frs,want,none⟩ k nd w aU aE){y:UInt8}(hd:(xs.drop k).dropWhile dm=y::ys)(hx:dM (y::ys)=some (.leaf j,n)) :
  Calls prog 133 #[.pointer (some (nl rb))] w fun e w'=>KI w0.heap.size rb lb xb v xs (dq frs j) (xs.length - (ys.length+1)+n) nd w e w':=by
 obtain⟨by_,dp,ex,ov,nv,maps,hA⟩:=h.ps.1;have c0:=ac hA.row (j:=0) (u:=.pointer (some (nl lb))) rfl;have a2:=Qa (h.next hd hx);have H:=Qa h;have hcn:=h.cnt;have b3:=lV frs;have a1:mf frs:=oh (N:=kN) hcn (dJ h.ok.want hw).2;have a7:=Qa a1;have a0:=Cn hx;have b0:=Qa a0;have a9:=Qa (show frs.length<=1000000000 by simp only at hcn;omega);have Hw:=Qa hw;obtain⟨tt,tx,a3,b4,b6,b5⟩:∃tt tx,nZ (xs.length - (ys.length+1)) (.leaf j) =.iface tt tx/\(∀W,(Instr.typeAssert (.iface tt tx) 290 295 true).run prog W =.ok (.tuple #[.agg #[(0:Int)],false]) W)/\
   (∀W,(Instr.typeAssert (.iface tt tx) 290 297 true).run prog W =.ok (.tuple #[.agg #[(0:Int),.int .u8 0],false]) W)/\(∀W,(Instr.typeAssert (.iface tt tx) 290 300 true).run prog W =.ok (.tuple #[.agg #[(0:Int),.string ⟨#[]⟩],false]) W):=by
  cases a0 with
  |null=>exact⟨_,_,rfl,nw _,lN _,ij _⟩
  |bool b=>exact⟨_,_,rfl,nw _,lN _,ij _⟩
  |num d hd=>exact⟨_,_,rfl,zH _,wV _,AF _⟩
 have b1:=Qa a3;clear h hd hx hA hcn b3 a1 a0 hw a3;go_in;go_wp2_with fail;refine Za a2 ?_;rintro e w1 ⟨rfl,hL⟩;have a6:=Zc H.below.size hL.below.size;obtain⟨bs,a5⟩:=hL.ps.2;have a4:=Qa (uZ (k0:=xs.length - (ys.length+1)) (t:=.leaf j) (j:=j) (.inl ⟨rfl,b0⟩) Hw.out hL.ps.1 a5 a7.out a9.out H.nds a6);have b2:=Qa (dl.rd hL.below hL.kp);rw[b1.out] at a4 ⊢;clear hL a6 c0 a2 a5;go_wp2_with fail;refine Za a4 ?_;rintro e w2 ⟨rfl,h2,h3⟩;have R:=NA h2 h3;clear h2 h3;go_wp2;go_end0;exact⟨nd+1,Zb _,rfl,b2.trans R.1,R.2⟩
theorem FY {k:Nat}{c c':dT}(h:jA w0 rb lb xb v xs c k nd w aU aE){y:UInt8}(hd:(xs.drop k).dropWhile dm=y::ys){t:uE}(hx:dM (y::ys)=some (t,n))(hs:eh c t=some c') :
  Calls prog 133 #[.pointer (some (nl rb))] w fun e w'=>KI w0.heap.size rb lb xb v xs c' (xs.length - (ys.length+1)+n) nd w e w':=by
 cases t with
 |mark x=>exact Cw h hd hx hs
 |leaf j=>
  obtain⟨frs,want,done⟩:=c;simp only[eh] at hs
  split at hs
  .rename_i hw
   obtain rfl:=Zi hs;have h0:=(dJ h.ok.want hw).1;simp only at h0;subst h0;exact BQ hw h hd hx
  .cases hs
 |str s=>
  obtain⟨frs,want,done⟩:=c;simp only[eh] at hs
  split at hs
  .rename_i hw
   have h4:done=none/\∃f fs,frs=f::fs/\f.obj=true/\f.name=none:=by
    have h3:=h.ok.want;rcases hw with rfl|rfl <;> exact h3
   obtain⟨rfl,f,fs,rfl,h5,h6⟩:=h4
   try simp only at hs
   split at hs
   .cases hs
   .rename_i hn
    obtain rfl:=Zi hs;refine Ch hw h h5 h6 hd hx fun hm=>hn ?_
    obtain⟨m,a0,e⟩:=List.mem_map.1 hm;exact List.any_eq_true.2 ⟨m,a0,by simp[e]⟩
  .split at hs
   .rename_i hw
    obtain rfl:=Zi hs;have h0:=(dJ h.ok.want hw).1;simp only at h0;subst h0;exact BU hw h hd hx
   .cases hs
