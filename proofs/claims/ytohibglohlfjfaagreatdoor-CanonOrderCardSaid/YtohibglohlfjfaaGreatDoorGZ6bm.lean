import Derived.Test.YtohibglohlfjfaaGreatDoorGZ6bl
set_option linter.unusedVariables false
set_option linter.unusedSimpArgs false
set_option maxHeartbeats 64000000
set_option maxRecDepth 100000
namespace Go.Proofs.YtohibglohlfjfaaGreatDoor
open Go.RowKit
variable {o:Bool}{f:Fr}{lv:Int}{j:JV}{frs fs:List Fr}{B n pb q xb:Nat}{A:Option Addr}{e:TypeId}{dv pv v:Value}{w w5:World}
theorem uT {done:Option JV}{pv':Value}{us:List (List Value)}{bs:List Nat}(h:AG B w xb frs done pv dv us bs)(hB:B<=w.heap.size)(h5:aZ (fun k=>pv.ownBlock=some k) w w5)
  (hp:w5.ownsRow B 213 5 pv' (frs.length+1) (us.reverse.flatten ++ [.int .i64 (if o then 6 else 5),.slice none 0 0,.slice none 0 0,.string ⟨#[]⟩,.bool false])) (hg:w5.heap[xb]?=w.heap[xb]?) :
  Below B w (w5.setCell ⟨xb,0,none⟩ pv')/\Kp TB w (w5.setCell ⟨xb,0,none⟩ pv')/\fi B (w5.setCell ⟨xb,0,none⟩ pv') xb (⟨o, [], [],none⟩::frs) done bs:=by
 obtain⟨h1,h2,h3,h4,a4,h6,h7⟩:=h;have a2:w5.heap[xb]?=some (.cells #[pv,dv] 167 (0,0)):=hg.trans h1;have a0:aZ (fun k=>pv.ownBlock=some k\/k=xb) w (w5.setCell ⟨xb,0,none⟩ pv'):=(h5.mono fun _ h=>.inl h).trans (aZ.set xb 0 pv') fun i hi=>.inl (.inr hi)
 have a3:∀g,(pv.ownBlock=some g\/g=xb)->g<w.heap.size->∃cs e z,w.heap[g]?=some (.cells cs e z)/\(e=213\/e=167):=by
  intro g hg _;rcases hg with hg|rfl
  ·obtain⟨_,cur,hh⟩:=aj h3 hg;exact⟨_,_,_,hh,.inl rfl⟩
  ·exact⟨_,_,_,h1,.inr rfl⟩
 have hm:Mv [] w (w5.setCell ⟨xb,0,none⟩ pv'):=Mv.of_chg a0 fun g hg hl=>by
  obtain⟨cs,e,z,q1,q2⟩:=a3 g hg hl;exact .inr ⟨cs,e,z,q1,by rcases q2 with rfl|rfl <;> (simp only[TV];decide)⟩
 have a1:∀g∈bs,g∈bs\/w.heap.size<=g:=fun g h=>.inl h
 refine⟨a0.below hB (fun i hi=>hi.elim (fun h=>(aj h3 h).1) fun e=>by rw[e];exact h2),Kp.of_chg a0 fun g hg hl=>?_,pv',dv, [.int .i64 (if o then 6 else 5),.slice none 0 0,.slice none 0 0,.string ⟨#[]⟩,.bool false]::us,au a2 0 pv',h2,?_,?_,?_,h6,h7.move hm (by simp) a1⟩
 ·obtain⟨cs,e,z,q1,q2⟩:=a3 g hg hl;exact⟨cs,e,z,q1,q2.elim (fun h=>.inr (.inr h)) fun h=>.inr (.inl h)⟩
 ·rw[List.length_cons,List.reverse_cons,List.flatten_append];simp only[List.flatten_cons,List.flatten_nil,List.append_nil];have hne:=aK hp a2 (by decide);exact bw hp fun b hb=>(aZ.set xb 0 pv').block b (ae (aj hp hb).2.choose_spec) fun e=>hne (by rw[hb,e])
 ·refine bo.cons ⟨.slice none 0 0,.slice none 0 0,⟨#[]⟩, [], [],rfl,fun t e=>(by cases e),⟨rfl,.inl ⟨rfl,rfl⟩⟩,bo.nil _,⟨rfl,.inl ⟨rfl,rfl⟩⟩,rfl,bo.nil _,fun _=>rfl,fun _=>rfl⟩ ?_;exact h4.mono fun _ _ h=>h.move hm (by simp) a1 (by simp)
 ·rw[List.flatMap_cons,a4];rfl
theorem zj (x:Value)(W:World):(Instr.typeAssert (.iface 210 x) 208 210 true).run Tryz.prog W =.ok (.tuple #[x,.bool true]) W:=by kernel_rfl
theorem EB (x:Value)(W:World):(Instr.typeAssert (.iface 215 x) 208 215 true).run Tryz.prog W =.ok (.tuple #[x,.bool true]) W:=by kernel_rfl
theorem rY (x:Value)(W:World):(Instr.typeAssert (.iface 215 x) 208 210 true).run Tryz.prog W =.ok (.tuple #[.agg #[.int .i64 0,.int .i64 0],.bool false]) W:=by kernel_rfl
theorem EL (x:Value)(W:World):(Instr.typeAssert (.iface 217 x) 208 217 true).run Tryz.prog W =.ok (.tuple #[x,.bool true]) W:=by kernel_rfl
theorem qY (x:Value)(W:World):(Instr.typeAssert (.iface 217 x) 208 210 true).run Tryz.prog W =.ok (.tuple #[.agg #[.int .i64 0,.int .i64 0],.bool false]) W:=by kernel_rfl
theorem ql (x:Value)(W:World):(Instr.typeAssert (.iface 217 x) 208 215 true).run Tryz.prog W =.ok (.tuple #[.agg #[.int .i64 0,.string ⟨#[]⟩],.bool false]) W:=by kernel_rfl
theorem sf (x:Value)(W:World):(Instr.typeAssert (.iface 218 x) 208 218 true).run Tryz.prog W =.ok (.tuple #[x,.bool true]) W:=by kernel_rfl
theorem jE (x:Value)(W:World):(Instr.typeAssert (.iface 218 x) 208 210 true).run Tryz.prog W =.ok (.tuple #[.agg #[.int .i64 0,.int .i64 0],.bool false]) W:=by kernel_rfl
theorem jF (x:Value)(W:World):(Instr.typeAssert (.iface 218 x) 208 215 true).run Tryz.prog W =.ok (.tuple #[.agg #[.int .i64 0,.string ⟨#[]⟩],.bool false]) W:=by kernel_rfl
theorem jy (x:Value)(W:World):(Instr.typeAssert (.iface 218 x) 208 217 true).run Tryz.prog W =.ok (.tuple #[.agg #[.int .i64 0,.nilIface],.bool false]) W:=by kernel_rfl
theorem xX {bs:List Nat}(b2:lv= (frs.length+1:Nat))(h:fi B w xb frs none bs)(hw:∀f fs,frs=f::fs->bZ f=false)(hl:frs.length<=4294967296)(hB:B<=w.heap.size):Calls Tryz.prog 75 #[.pointer (some ⟨xb,0,none⟩),.iface 210 (.agg #[.int .i64 lv,.int .i64 5])] w fun e w'=>mo B xb ⟨⟨false, [], [],none⟩::frs,0,none⟩ w e w':=by
 have b1:=Qa (k8 (h.below (ac w (.cells #[.int .i64 lv,.int .i64 5] 210))) hw hl);rw[<-b2] at b1;have H:=Qa (h.below (ac w (.cells #[.int .i64 lv,.int .i64 5] 210)));have a6:=Qa (ac w (.cells #[.int .i64 lv,.int .i64 5] 210));have a2:=Qa (Zf w (.cells #[.int .i64 lv,.int .i64 5] 210));have HB:=Qa hB;obtain⟨m,hm⟩:∃m,frs.length=m:=⟨_,rfl⟩;rw[hm] at hl;have Hm:=Qa hm;clear h b2 hw hB hm;have q1:=zj;go_enter Tryz.func75,Tryz.ntmps75;go_wp2_with fail;refine Za b1 ?_;rintro e w' ⟨rfl,b5⟩;rw[b5] at H a6 a2;obtain⟨pv,dv,us,h⟩:=H.out;obtain⟨A,q,b4,-⟩:=ag h.parts;rw[Hm.out] at b4;subst b4;have c0:=aa h.row (j:=0) (u:=.slice A m q) rfl;have f0:=ak h.row 0;have e1:=aa a2.out (j:=1) rfl;have HA:=Qa h;clear h b5 H;go_wp2_with fail;obtain⟨wr,a7⟩:∃wr,w'.drew=wr:=⟨_,rfl⟩;have a3:Below w'.heap.size w' wr:=by rw[<-a7];exact(Ze _ _).drew
 have b6:wr.heap.size=w'.heap.size:=by rw[<-a7];rfl
 have C0:=Qa (Zg a3 c0);have E1:=Qa (Zg a3 e1);have a4:wr.heap[xb]?=some (.cells #[.slice A m q,dv] 167 (0,0)):=ai HA.out.row a3;have a1:=Qa (ac wr (.cells #[.int .i64 5,.slice none 0 0,.slice none 0 0,.string ⟨#[]⟩,.bool false] 213));have c1:=Qa (ap wr [.int .i64 5,.slice none 0 0,.slice none 0 0,.string ⟨#[]⟩,.bool false] 213);have a5:w'.ownsRow B 213 5 (.slice A m q) m us.reverse.flatten:=by have:=HA.out.parts;rwa[Hm.out] at this
 have b0:=Qa (ao (ao a5 a3 (Zb _)) a1.out (Zb _));have b3:=Qa (ai a4 a1.out);have b8:=Qa (aK b0.out b3.out (by decide));have a9:=Qa a3;have b7:=Qa b6;clear c0 f0 e1 a3 b6 a4 a5;refine cP (fun w2=>w2.cell? ⟨xb,0,none⟩=some (.slice A m q)/\w2.cell? ⟨w.heap.size,1,none⟩=some (.int .i64 5)) 12 ((by rw[a7];exact⟨C0.out,E1.out⟩)) fun a0=>?_
 rw[a7] at a0 ⊢;clear a7;refine tZ 0 a0 ?_;refine tZ 1 a0 ?_;refine tZ 2 a0 ?_;refine tZ 3 a0 ?_;refine tZ 4 a0 ?_;refine tZ 5 a0 ?_
 try simp only[Act.put,jP,jQ,jR]
 refine tZ 6 a0 ?_;refine tZ 7 a0 ?_
 try simp only[Act.put,jP,jQ,jR]
 refine rZ 8 fun K hK=>?_
 go_simp;refine hK.out _ _ (fun _=>⟨Zg a1.out a0.1,Zg a1.out a0.2⟩) (fun a0=>?_);clear hK K;have a0:=a0 (by decide)
 try simp only[Act.put,jP,jQ,jR]
 refine rZ 9 fun K hK=>?_
 refine xU DK b0.out c1.out (by have:=b7.out;have:=a1.out.size;have:=a6.out.size;have:=HB.out;omega) ?_;intro v' w5 p1 p2 p3;obtain⟨A5,q5,rfl,-,-,-⟩:=ag p1;have g5:=aB b3.out p2 b8.out;have f5:=ak g5 0;have k5:w5.cell? ⟨xb,0,none⟩=some (.slice A m q):=aa g5 (j:=0) rfl;have k6:w5.cell? ⟨w.heap.size,1,none⟩=some (.int .i64 5):=(fg (aB (ai (ai a2.out a9.out) a1.out) p2 (aK b0.out (ai (ai a2.out a9.out) a1.out) (by decide))) a2.out _).trans (aa a2.out (j:=1) rfl);have G5:=Qa g5;have HK:=Qa p1;have HG:=Qa p2;clear p1 p2 p3 g5;refine hK.out _ _ (fun _=>⟨k5,k6⟩) (fun a0=>?_);clear hK K;have a0:=a0 (by decide)
 try simp only[Act.put,jP,jQ,jR]
 refine rZ 10 fun K hK=>?_
 go_simp;refine hK.out _ _ (fun _=>a0) (fun a0=>?_);clear hK K;have a0:=a0 (by decide)
 try simp only[Act.put,jP,jQ,jR]
 refine tZ 11 a0 ?_
 try simp only[Act.put,jP,jQ,jR]
 refine rZ 12 fun K hK=>?_
 go_simp;refine hK.out _ _ (fun h=>absurd rfl h) (fun _=>?_);clear hK K
 try simp only[Act.put,jP,jQ,jR]
 refine aW (by kernel_rfl) (NoPanic.normal ?_) _;go_end0;have b9:=HA.out.low;have c2:aZ (fun k=>(Value.slice A m q).ownBlock=some k) w' w5:=(aZ.of_below ((a9.out).trans (a1.out.mono (by have:=b7.out;omega)))).trans (aZ.grown HG.out) fun i hi=>.inl hi
 obtain⟨r1,r2,r3⟩:=uT (o:=false) HA.out (by have:=a6.out.size;have:=HB.out;omega) c2 (by rw[Hm.out];exact HK.out) (G5.out.trans HA.out.row.symm);exact⟨rfl,(a6.out.mono HB.out).trans r1,(Kp.of_below TB a6.out).trans r2,_,r3⟩
theorem yg {bs:List Nat}(b2:lv= (frs.length+1:Nat))(h:fi B w xb frs none bs)(hw:∀f fs,frs=f::fs->bZ f=false)(hl:frs.length<=4294967296)(hB:B<=w.heap.size):Calls Tryz.prog 75 #[.pointer (some ⟨xb,0,none⟩),.iface 210 (.agg #[.int .i64 lv,.int .i64 6])] w fun e w'=>mo B xb ⟨⟨true, [], [],none⟩::frs,0,none⟩ w e w':=by
 have b1:=Qa (k8 (h.below (ac w (.cells #[.int .i64 lv,.int .i64 6] 210))) hw hl);rw[<-b2] at b1;have H:=Qa (h.below (ac w (.cells #[.int .i64 lv,.int .i64 6] 210)));have a6:=Qa (ac w (.cells #[.int .i64 lv,.int .i64 6] 210));have a2:=Qa (Zf w (.cells #[.int .i64 lv,.int .i64 6] 210));have HB:=Qa hB;obtain⟨m,hm⟩:∃m,frs.length=m:=⟨_,rfl⟩;rw[hm] at hl;have Hm:=Qa hm;clear h b2 hw hB hm;have q1:=zj;go_enter Tryz.func75,Tryz.ntmps75;go_wp2_with fail;refine Za b1 ?_;rintro e w' ⟨rfl,b5⟩;rw[b5] at H a6 a2;obtain⟨pv,dv,us,h⟩:=H.out;obtain⟨A,q,b4,-⟩:=ag h.parts;rw[Hm.out] at b4;subst b4;have c0:=aa h.row (j:=0) (u:=.slice A m q) rfl;have f0:=ak h.row 0;have e1:=aa a2.out (j:=1) rfl;have HA:=Qa h;clear h b5 H;go_wp2_with fail;obtain⟨wr,a7⟩:∃wr,w'.drew=wr:=⟨_,rfl⟩;have a3:Below w'.heap.size w' wr:=by rw[<-a7];exact(Ze _ _).drew
 have b6:wr.heap.size=w'.heap.size:=by rw[<-a7];rfl
 have C0:=Qa (Zg a3 c0);have E1:=Qa (Zg a3 e1);have a4:wr.heap[xb]?=some (.cells #[.slice A m q,dv] 167 (0,0)):=ai HA.out.row a3;have a1:=Qa (ac wr (.cells #[.int .i64 6,.slice none 0 0,.slice none 0 0,.string ⟨#[]⟩,.bool false] 213));have c1:=Qa (ap wr [.int .i64 6,.slice none 0 0,.slice none 0 0,.string ⟨#[]⟩,.bool false] 213);have a5:w'.ownsRow B 213 5 (.slice A m q) m us.reverse.flatten:=by have:=HA.out.parts;rwa[Hm.out] at this
 have b0:=Qa (ao (ao a5 a3 (Zb _)) a1.out (Zb _));have b3:=Qa (ai a4 a1.out);have b8:=Qa (aK b0.out b3.out (by decide));have a9:=Qa a3;have b7:=Qa b6;clear c0 f0 e1 a3 b6 a4 a5;refine cP (fun w2=>w2.cell? ⟨xb,0,none⟩=some (.slice A m q)/\w2.cell? ⟨w.heap.size,1,none⟩=some (.int .i64 6)) 12 ((by rw[a7];exact⟨C0.out,E1.out⟩)) fun a0=>?_
 rw[a7] at a0 ⊢;clear a7;refine tZ 0 a0 ?_;refine tZ 1 a0 ?_;refine tZ 2 a0 ?_;refine tZ 3 a0 ?_;refine tZ 4 a0 ?_;refine tZ 5 a0 ?_
 try simp only[Act.put,jP,jQ,jR]
 refine tZ 6 a0 ?_;refine tZ 7 a0 ?_
 try simp only[Act.put,jP,jQ,jR]
 refine rZ 8 fun K hK=>?_
 go_simp;refine hK.out _ _ (fun _=>⟨Zg a1.out a0.1,Zg a1.out a0.2⟩) (fun a0=>?_);clear hK K;have a0:=a0 (by decide)
 try simp only[Act.put,jP,jQ,jR]
 refine rZ 9 fun K hK=>?_
 refine xU DK b0.out c1.out (by have:=b7.out;have:=a1.out.size;have:=a6.out.size;have:=HB.out;omega) ?_;intro v' w5 p1 p2 p3;obtain⟨A5,q5,rfl,-,-,-⟩:=ag p1;have g5:=aB b3.out p2 b8.out;have f5:=ak g5 0;have k5:w5.cell? ⟨xb,0,none⟩=some (.slice A m q):=aa g5 (j:=0) rfl;have k6:w5.cell? ⟨w.heap.size,1,none⟩=some (.int .i64 6):=(fg (aB (ai (ai a2.out a9.out) a1.out) p2 (aK b0.out (ai (ai a2.out a9.out) a1.out) (by decide))) a2.out _).trans (aa a2.out (j:=1) rfl);have G5:=Qa g5;have HK:=Qa p1;have HG:=Qa p2;clear p1 p2 p3 g5;refine hK.out _ _ (fun _=>⟨k5,k6⟩) (fun a0=>?_);clear hK K;have a0:=a0 (by decide)
 try simp only[Act.put,jP,jQ,jR]
 refine rZ 10 fun K hK=>?_
 go_simp;refine hK.out _ _ (fun _=>a0) (fun a0=>?_);clear hK K;have a0:=a0 (by decide)
 try simp only[Act.put,jP,jQ,jR]
 refine tZ 11 a0 ?_
 try simp only[Act.put,jP,jQ,jR]
 refine rZ 12 fun K hK=>?_
 go_simp;refine hK.out _ _ (fun h=>absurd rfl h) (fun _=>?_);clear hK K
 try simp only[Act.put,jP,jQ,jR]
 refine aW (by kernel_rfl) (NoPanic.normal ?_) _;go_end0;have b9:=HA.out.low;have c2:aZ (fun k=>(Value.slice A m q).ownBlock=some k) w' w5:=(aZ.of_below ((a9.out).trans (a1.out.mono (by have:=b7.out;omega)))).trans (aZ.grown HG.out) fun i hi=>.inl hi
 obtain⟨r1,r2,r3⟩:=uT (o:=true) HA.out (by have:=a6.out.size;have:=HB.out;omega) c2 (by rw[Hm.out];exact HK.out) (G5.out.trans HA.out.row.symm);exact⟨rfl,(a6.out.mono HB.out).trans r1,(Kp.of_below TB a6.out).trans r2,_,r3⟩
theorem zG {bs:List Nat}{s:ByteArray}(d6:lv= (fs.length+1:Nat))(h:fi B w xb (f::fs) none bs)(ho:f.obj=true)(f2:f.name=none)(hl:fs.length<=4294967296)(hB:B<=w.heap.size):Calls Tryz.prog 75 #[.pointer (some ⟨xb,0,none⟩),.iface 215 (.agg #[.int .i64 lv,.string s])] w (mo B xb ⟨{f with name:=some s}::fs,4,none⟩ w):=by
 have b6:=ac w (.cells #[.int .i64 lv,.string s] 215);have d3:=h.below b6;have b4:=Qa (Zf w (.cells #[.int .i64 lv,.string s] 215));obtain⟨w1,c1⟩:∃w1,w.alloc (.cells #[.int .i64 lv,.string s] 215)=w1:=⟨_,rfl⟩;rw[c1] at b6 d3 b4;obtain⟨pv,dv,us,h1⟩:=d3;obtain⟨c9,h2,h3,h4,h5,h6,h7⟩:=id h1
 cases us with
 |nil=>have:=h4.1;simp at this
 |cons u us=>
 have d5:us.length=fs.length:=by have:=h4.1;simpa using this
 have a2:∀x∈u::us,x.length=5:=fun x hx=>by
  obtain⟨i,hi,rfl⟩:=List.getElem_of_mem hx;exact(h4.2 i _ ((f::fs)[i]'(by have:=h4.1;omega)) (Zd hi) (Zd _)).len
 rw[List.length_cons,<-d5] at h3;obtain⟨pb,q,e6,hT⟩:=ek h3 a2;obtain⟨e2,a1,c5,b5,b1⟩:=hT;obtain⟨iv,mv,s0,xs,L,hu,f1,c7,a7,c2,b3,a3,d0,f0⟩:=h4.2 0 u f rfl rfl;obtain rfl:=d0 ho;obtain⟨Ai,qi,rfl,-⟩:=ag c2;subst e2 hu;obtain⟨m,hm⟩:∃m,m=us.length:=⟨_,rfl⟩;rw[<-hm] at a1 b5 b1;have c0:=aa c9 (j:=0) (u:=.slice (some ⟨pb,0,none⟩) (m+1) q) (by rw[hm];rfl);have k0:=a1 0 _ rfl;have k3:=a1 3 _ rfl;have k4:=a1 4 _ rfl;rw[ho] at k0;rw[f2] at k4;simp only[if_true] at k0;rw[Nat.add_zero] at k0;obtain⟨cur,a9⟩:=c5;have f3:=ak a9 (m*5+3);have e0:=aa b4.out (j:=0) (u:=.int .i64 lv) rfl;have e1:=aa b4.out (j:=1) (u:=.string s) rfl;have s1:IntKind.i64.wrap (m:Int)= (m:Int):=IntWalk.i64_in _ (by omega);have e3:(((m+1:Nat):Int)==0)=false:=by simp only[beq_eq_false_iff_ne];omega
 have a6:lv= (m:Int)+1:=by omega
 have f5:=Qa a6;have HA:=Qa h1;have a4:=Qa a9;have Hm:=Qa hm;have Hl:=Qa a2;have H3:=Qa h3;have d9:=Qa (And.intro c7 (And.intro a7 (And.intro c2 (And.intro b3 a3))));have c4:=Qa b6;have HB:=Qa hB;have q1:=EB;have q2:=rY;have e4:(lv== (m:Int)+1)=true:=by rw[a6];simp
 have c8:(lv != (m:Int)+1)=false:=by rw[a6];simp
 clear h h1 c9 h2 h3 h4 h5 h6 h7 c7 a7 c2 b3 a3 d0 f0 a1 a9 a2 f1 d5 hm d6 a6 b6 hB b5 b1;go_enter Tryz.func75,Tryz.ntmps75;go_wp2_with fail
 try rw[c1]
 obtain⟨wr,c3⟩:∃wr,w1.drew=wr:=⟨_,rfl⟩;have a5:Below w1.heap.size w1 wr:=by rw[<-c3];exact(Ze _ _).drew
 have C0:=Qa (Zg a5 c0);have E1:=Qa (Zg a5 e1);have k3r:=Zg a5 k3;have gr:=ai a4.out a5;have f3r:=ak gr (m*5+3);have K4:=Qa (Zg a5 k4);have Gr:=Qa gr;have f8:=Qa (ai HA.out.row a5);have f6:=Qa (ai b4.out a5);have b8:=Qa a5;have d4:pb≠xb:=fun e=>by
  have:=HA.out.row;rw[<-e,a4.out] at this;injection this with this
  injection this with _ this _
  exact absurd this (by decide)
 have b0:pb≠w.heap.size:=fun e=>by
  have:=b4.out;rw[<-e,a4.out] at this;injection this with this
  injection this with _ this _
  exact absurd this (by decide)
 have b9:=Qa d4;have c6:=Qa b0;clear c0 k0 k3 k4 f3 e0 e1 gr a5 d4 b0 c1;refine aA (fun w2=>w2.cell? ⟨xb,0,none⟩=some (.slice (some ⟨pb,0,none⟩) (m+1) q)/\w2.cell? ⟨w.heap.size,1,none⟩=some (.string s)) ((by rw[c3];exact⟨C0.out,E1.out⟩)) fun a0=>?_
 refine tH 0 a0 ?_;refine tH 1 a0 ?_;refine tH 2 a0 ?_;refine tH 3 a0 ?_;refine tH 4 a0 ?_;refine tH 5 a0 ?_
 try simp only[Act.put,jP,jQ,jR]
 refine tH 6 a0 ?_;refine tH 7 a0 ?_;refine tH 8 a0 ?_;refine tH 9 a0 ?_;refine tH 10 a0 ?_;refine tH 11 a0 ?_
 try simp only[Act.put,jP,jQ,jR]
 refine tH 12 a0 ?_;refine tH 13 a0 ?_;refine tH 14 a0 ?_;refine tH 15 a0 ?_
 try simp only[Act.put,jP,jQ,jR]
 refine rH 16 fun K hK=>?_
 rw[c3] at a0 ⊢;go_simp;refine hK.out _ _ (⟨(World.cell?_setCell_far _ _ _ _ b9.out).trans C0.out,(World.cell?_setCell_far _ _ _ _ c6.out).trans E1.out⟩) (fun a0=>?_);clear hK K
 try simp only[Act.put,jP,jQ,jR]
 refine tH 17 a0 ?_;refine tH 18 a0 ?_
 try simp only[Act.put,jP,jQ,jR]
 refine rH 19 fun K hK=>?_
 have g4:=au Gr.out (m*5+3) (.string s);have f4:=ak g4 (m*5+4);have k4:=(lU Gr.out (show m*5+3≠m*5+4 by omega) (.string s)).trans K4.out;go_simp;refine hK.out _ _ (⟨(World.cell?_setCell_far _ _ _ _ b9.out).trans ((World.cell?_setCell_far _ _ _ _ b9.out).trans C0.out),(World.cell?_setCell_far _ _ _ _ c6.out).trans ((World.cell?_setCell_far _ _ _ _ c6.out).trans E1.out)⟩) (fun a0=>?_);clear hK K
 try simp only[Act.put,jP,jQ,jR]
 refine wpAnyH_done (by kernel_rfl) (NoPanic.normal ?_) _;clear a0 k3r f3r;go_end0;obtain rfl:=Hm.out;have e8:wr.ownsRow B 213 5 (.slice (some ⟨pb,0,none⟩) (us.length+1) q) (us.length+1) (([.int .i64 (if f.obj=true then 6 else 5),.slice none 0 0,.slice Ai L.length qi,.string s0,.bool f.name.isSome]:List Value)::us).reverse.flatten:=ao H3.out b8.out (Zb _);have b7:=eM e8 Hl.out (j:=3) (by decide) (.string s);have b2:=eM b7 (fun x hx=>by rcases List.mem_cons.1 hx with rfl|hx;(· rfl);exact Hl.out x (Zm _ hx)) (j:=4) (by decide) (.bool true);have d1:aZ (fun k=>k=pb) wr ((wr.setCell ⟨pb,us.length*5+3,none⟩ (.string s)).setCell ⟨pb,us.length*5+4,none⟩ (.bool true)):=
  (aZ.set pb _ _).trans (aZ.set pb _ _) fun i h=>.inl h
 have e5:B<=w1.heap.size:=Zc HB.out c4.out.size;have b0:=rK HA.out a4.out e6 e5 (aZ.of_below b8.out) d1 b2 (fun g hg=>.inl (by
  have hg:g∈bW [.int .i64 (if f.obj=true then 6 else 5),.slice none 0 0,.slice Ai L.length qi,.string s,.bool true]:=hg;rw[jd] at hg ⊢;exact hg)) (by
  show(bW [_,_,_,_,_]).Nodup
  rw[jd];exact lI _) (f':={f with name:=some s}) (fun hm ht d2=>?_)
 ·exact⟨rfl,(c4.out.mono HB.out).trans b0.1,(Kp.of_below TB c4.out).trans b0.2.1,_,b0.2.2⟩
 obtain⟨m1,m2,m3,m4,m5⟩:=d9.out;have hne:=aK m3 a4.out (by decide);refine⟨.slice none 0 0,.slice Ai L.length qi,s,xs,L,rfl,fun t e=>Zi e,?_,?_,?_,m4,?_,fun _=>rfl,fun e=>?_⟩
 ·exact bw m1 fun b hb=>by cases hb
 ·exact m2.mono fun _ _ h=>h.move hm ht d2
 ·exact bw m3 fun b hb=>((aZ.of_below b8.out).trans d1 (fun i h=>.inl h)).block b (ae (aj m3 hb).2.choose_spec) fun e=>hne (by rw[hb,e])
 ·exact m5.mono fun _ _ h=>h.move hm ht d2
 ·exact absurd (ho.symm.trans e) (by decide)
def kv (frs:List Fr):Prop:=frs.length<=4294967296/\∀f fs,frs=f::fs->bZ f=false/\f.items.length<=4294967296/\f.mems.length<=4294967296
theorem qV {bs:List Nat}(h:fi B w xb frs none bs)(hT:kv frs)(hv:VW (Pb B bs) w v j)(hB:B<=w.heap.size):Calls Tryz.prog 104 #[.pointer (some ⟨xb,0,none⟩),v] w (mo B xb (cV frs j) w):=by
 cases frs with
 |nil=>exact CE h hv hB
 |cons f fs=>
  obtain⟨h1,h2,h3⟩:=hT.2 f fs rfl;have hl:=hT.1;rw[List.length_cons] at hl
  by_cases ho:f.obj=true
  ·have hn:f.name.isSome=true:=by
    simp only[bZ,ho,Bool.true_and] at h1
    cases hn:f.name with
    |none=>rw[hn] at h1;cases h1
    |some _=>rfl
   exact Fl h ho hv hB hn h3 (by omega)
  ·exact CV h (by simpa using ho) hv hB h2 (by omega)
theorem pX {bs:List Nat}(a3:lv= (frs.length+1:Nat))(h:fi B w xb frs none bs)(hT:kv frs)(hv:VW (Pb B bs) w v j)(hB:B<=w.heap.size):Calls Tryz.prog 75 #[.pointer (some ⟨xb,0,none⟩),.iface 217 (.agg #[.int .i64 lv,v])] w (mo B xb (cV frs j) w):=by
 have a0:=ac w (.cells #[.int .i64 lv,v] 217);have a1:=h.below a0;have a2:=Qa (k8 a1 (fun f fs e=>(hT.2 f fs e).1) hT.1);rw[<-a3] at a2;have a5:=Qa (qV a1 hT (hv.move (bs':=bs) (Mv.of_below (top:= []) a0) (by simp) (fun g hg=>.inl hg)) (Zc hB a0.size));have e1:=aa (Zf w (.cells #[.int .i64 lv,v] 217)) (j:=1) rfl;have a4:=Qa a0;have HB:=Qa hB;have q1:=EL;have q2:=qY;have q3:=ql;obtain⟨tv,xv,rfl⟩:=hv.iface;clear h a1 hT hv hB a3 a0;go_enter Tryz.func75,Tryz.ntmps75;go_wp2_with fail;refine Za a2 ?_;rintro e w' ⟨rfl,rfl⟩;go_wp2_with fail;refine Za a5 ?_;rintro e w' ⟨rfl,h1,h2,h3⟩;have R:=Qa (And.intro h1 (And.intro h2 h3));clear h1 h2 h3;go_wp2_with fail;go_end0;exact⟨rfl,(a4.out.mono HB.out).trans R.out.1,(Kp.of_below TB a4.out).trans R.out.2.1,R.out.2.2⟩
theorem kd {k:Nat}{xs ys:List Value}(h:w.ownsRow B e k (.slice A (n+1) q) (n+1) (xs++ys))(hx:xs.length=n*k):w.ownsRow B e k (.slice A n q) n xs:=by
 obtain⟨h1,⟨e1,h0⟩|⟨g,cap,cur,e1,hb,hg,h2,h3,h4,h5⟩⟩:=h
 ·cases e1
 ·obtain⟨rfl,-,rfl⟩:=Value.slice.inj e1;refine⟨hx,.inr ⟨g,q,cur,rfl,hb,hg,by omega,h3,h4,?_⟩⟩;have:=congrArg (List.take (n*k)) h5;rw[List.take_take,Nat.min_eq_left (Nat.mul_le_mul_right k (Nat.le_succ n)),List.take_left' hx] at this;exact this
theorem Ga:∀ (L:List (List Value)),(∀x∈L,x.length=5)->L.flatten.length=L.length*5
 | [],_=>rfl
 |a::L,h=>by rw[List.flatten_cons,List.length_append,Ga L (fun x hx=>h x (Zm _ hx)),h a (by simp),List.length_cons];omega
theorem zg {done:Option JV}{u:List Value}{us:List (List Value)}{bs:List Nat}(h:AG B w xb (f::fs) done (.slice (some ⟨pb,0,none⟩) (us.length+1) q) dv (u::us) bs)(hB:B<=w.heap.size) :
  Below B w (w.setCell ⟨xb,0,none⟩ (.slice (some ⟨pb,0,none⟩) us.length q))/\Kp (fun e=>e=167) w (w.setCell ⟨xb,0,none⟩ (.slice (some ⟨pb,0,none⟩) us.length q))/\(∀g∈us.flatMap bW,g∈bs)/\fi B (w.setCell ⟨xb,0,none⟩ (.slice (some ⟨pb,0,none⟩) us.length q)) xb fs done (us.flatMap bW):=by
 obtain⟨h1,h2,h3,h4,h5,h6,h7⟩:=h;have a4:=aZ.set (w:=w) xb 0 (.slice (some ⟨pb,0,none⟩) us.length q);have hk:Kp (fun e=>e=167) w (w.setCell ⟨xb,0,none⟩ (.slice (some ⟨pb,0,none⟩) us.length q)):=Kp.of_chg a4 fun g e _=>by subst e;exact⟨_,_,_,h1,rfl⟩
 have hm:Mv [] w (w.setCell ⟨xb,0,none⟩ (.slice (some ⟨pb,0,none⟩) us.length q)):=Mv.of_kp hk fun e he=>by rcases he with rfl|rfl|rfl|rfl <;> decide
 have a2:us.length=fs.length:=by have:=h4.1;simpa using this
 have a1:∀g∈us.flatMap bW,g∈bs:=fun g hg=>by rw[<-h5];exact List.mem_append_right _ hg
 have a3:∀g∈us.flatMap bW,g∈bs\/w.heap.size<=g:=fun g h=>.inl (a1 g h)
 have a0:∀x∈u::us,x.length=5:=fun x hx=>by
  obtain⟨i,hi,rfl⟩:=List.getElem_of_mem hx;exact(h4.2 i _ ((f::fs)[i]'(by have:=h4.1;omega)) (Zd hi) (Zd _)).len
 refine⟨a4.below hB (fun i e=>by rw[e];exact h2),hk,a1,.slice (some ⟨pb,0,none⟩) us.length q,dv,us,au h1 0 _,h2,?_,⟨a2,fun i a b h1 h2=>?_⟩,rfl,?_,h7.move hm (by simp) a3⟩
 ·rw[List.length_cons,<-a2,List.reverse_cons,List.flatten_append] at h3;rw[<-a2];refine al (kd h3 ?_) hk.keeps (by decide);rw[Ga _ fun x hx=>a0 x (Zm _ (List.mem_reverse.1 hx)),List.length_reverse]
 ·exact(h4.2 (i+1) a b (by simpa using h1) (by simpa using h2)).move hm (by simp) a3 (by simp)
 ·rw[<-h5] at h6;exact(List.nodup_append.1 h6).2.1
