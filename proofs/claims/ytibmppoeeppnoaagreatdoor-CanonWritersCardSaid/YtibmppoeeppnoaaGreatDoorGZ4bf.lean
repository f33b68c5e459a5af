import Derived.Test.YtibmppoeeppnoaaGreatDoorGZ4be
set_option linter.unusedVariables false
set_option linter.unusedSimpArgs false
set_option maxHeartbeats 64000000
set_option maxRecDepth 100000
namespace Go.Proofs.YtibmppoeeppnoaaGreatDoor
open Go.RowKit
variable {o:Bool}{s:ByteArray}{f:Fr}{lv:Int}{j:JV}{frs fs:List Fr}{bs:List Nat}{B k n pb q xb:Nat}{A:Option Addr}{e:TypeId}{dv pv v:Value}{w w5:World}
theorem rU {done:Option JV}{pv':Value}{us:List (List Value)}(h:zP B w xb frs done pv dv us bs)(hB:B<=w.heap.size)(h5:a8 (fun k=>pv.ownBlock=some k) w w5)
  (hp:w5.ownsRow B 209 5 pv' (frs.length+1) (us.reverse.flatten ++ [.int .i64 (if o then 6 else 5),.slice none 0 0,.slice none 0 0,.string ⟨#[]⟩,.bool false])) (hg:w5.heap[xb]?=w.heap[xb]?) :
  Below B w (w5.setCell ⟨xb,0,none⟩ pv')/\Kp TB w (w5.setCell ⟨xb,0,none⟩ pv')/\fd B (w5.setCell ⟨xb,0,none⟩ pv') xb (⟨o, [], [],none⟩::frs) done bs:=by
 obtain⟨h1,h2,h3,h4,a4,h6,h7⟩:=h;have a2:w5.heap[xb]?=some (.cells #[pv,dv] 164 (0,0)):=hg.trans h1;have a0:a8 (fun k=>pv.ownBlock=some k\/k=xb) w (w5.setCell ⟨xb,0,none⟩ pv'):=(h5.mono fun _ h=>.inl h).trans (a8.set xb 0 pv') fun i hi=>.inl (.inr hi)
 have a1:∀g,(pv.ownBlock=some g\/g=xb)->g<w.heap.size->∃cs e z,w.heap[g]?=some (.cells cs e z)/\(e=209\/e=164):=by
  intro g hg _;rcases hg with hg|rfl
  ·obtain⟨_,cur,hh⟩:=ak h3 hg;exact⟨_,_,_,hh,.inl rfl⟩
  ·exact⟨_,_,_,h1,.inr rfl⟩
 have hm:Mv [] w (w5.setCell ⟨xb,0,none⟩ pv'):=Mv.of_chg a0 fun g hg hl=>by
  obtain⟨cs,e,z,q1,q2⟩:=a1 g hg hl;exact .inr ⟨cs,e,z,q1,by rcases q2 with rfl|rfl <;> (simp only[TV];decide)⟩
 have a3:∀g∈bs,g∈bs\/w.heap.size<=g:=fun g h=>.inl h
 refine⟨a0.below hB (fun i hi=>hi.elim (fun h=>(ak h3 h).1) fun e=>by rw[e];exact h2),Kp.of_chg a0 fun g hg hl=>?_,pv',dv, [.int .i64 (if o then 6 else 5),.slice none 0 0,.slice none 0 0,.string ⟨#[]⟩,.bool false]::us,au a2 0 pv',h2,?_,?_,?_,h6,h7.move hm (by simp) a3⟩
 ·obtain⟨cs,e,z,q1,q2⟩:=a1 g hg hl;exact⟨cs,e,z,q1,q2.elim (fun h=>.inr (.inr h)) fun h=>.inr (.inl h)⟩
 ·rw[List.length_cons,List.reverse_cons,List.flatten_append];simp only[List.flatten_cons,List.flatten_nil,List.append_nil];have hne:=aI hp a2 (by decide);exact bz hp fun b hb=>(a8.set xb 0 pv').block b (ae (ak hp hb).2.choose_spec) fun e=>hne (by rw[hb,e])
 ·refine br.cons ⟨.slice none 0 0,.slice none 0 0,⟨#[]⟩, [], [],rfl,fun t e=>(by cases e),⟨rfl,.inl ⟨rfl,rfl⟩⟩,br.nil _,⟨rfl,.inl ⟨rfl,rfl⟩⟩,rfl,br.nil _,fun _=>rfl,fun _=>rfl⟩ ?_;exact h4.mono fun _ _ h=>h.move hm (by simp) a3 (by simp)
 ·rw[List.flatMap_cons,a4];rfl
theorem yE (x:Value)(W:World):(Instr.typeAssert (.iface 206 x) 204 206 true).run Tryz.prog W =.ok (.tuple #[x,.bool true]) W:=by kernel_rfl
theorem DO (x:Value)(W:World):(Instr.typeAssert (.iface 211 x) 204 211 true).run Tryz.prog W =.ok (.tuple #[x,.bool true]) W:=by kernel_rfl
theorem qM (x:Value)(W:World):(Instr.typeAssert (.iface 211 x) 204 206 true).run Tryz.prog W =.ok (.tuple #[.agg #[.int .i64 0,.int .i64 0],.bool false]) W:=by kernel_rfl
theorem Do (x:Value)(W:World):(Instr.typeAssert (.iface 213 x) 204 213 true).run Tryz.prog W =.ok (.tuple #[x,.bool true]) W:=by kernel_rfl
theorem qu (x:Value)(W:World):(Instr.typeAssert (.iface 213 x) 204 206 true).run Tryz.prog W =.ok (.tuple #[.agg #[.int .i64 0,.int .i64 0],.bool false]) W:=by kernel_rfl
theorem qF (x:Value)(W:World):(Instr.typeAssert (.iface 213 x) 204 211 true).run Tryz.prog W =.ok (.tuple #[.agg #[.int .i64 0,.string ⟨#[]⟩],.bool false]) W:=by kernel_rfl
theorem uN (x:Value)(W:World):(Instr.typeAssert (.iface 214 x) 204 214 true).run Tryz.prog W =.ok (.tuple #[x,.bool true]) W:=by kernel_rfl
theorem jF (x:Value)(W:World):(Instr.typeAssert (.iface 214 x) 204 206 true).run Tryz.prog W =.ok (.tuple #[.agg #[.int .i64 0,.int .i64 0],.bool false]) W:=by kernel_rfl
theorem jz (x:Value)(W:World):(Instr.typeAssert (.iface 214 x) 204 211 true).run Tryz.prog W =.ok (.tuple #[.agg #[.int .i64 0,.string ⟨#[]⟩],.bool false]) W:=by kernel_rfl
theorem jH (x:Value)(W:World):(Instr.typeAssert (.iface 214 x) 204 213 true).run Tryz.prog W =.ok (.tuple #[.agg #[.int .i64 0,.nilIface],.bool false]) W:=by kernel_rfl
theorem wW (b6:lv= (frs.length+1:Nat))(h:fd B w xb frs none bs)(hw:∀f fs,frs=f::fs->bY f=false)(hl:frs.length<=4294967296)(hB:B<=w.heap.size):Calls Tryz.prog 73 #[.pointer (some ⟨xb,0,none⟩),.iface 206 (.agg #[.int .i64 lv,.int .i64 5])] w fun e w'=>mw B xb ⟨⟨false, [], [],none⟩::frs,0,none⟩ w e w':=by
 have b7:=Qa (lm (h.below (ac w (.cells #[.int .i64 lv,.int .i64 5] 206))) hw hl);rw[<-b6] at b7;have H:=Qa (h.below (ac w (.cells #[.int .i64 lv,.int .i64 5] 206)));have a4:=Qa (ac w (.cells #[.int .i64 lv,.int .i64 5] 206));have a3:=Qa (Ze w (.cells #[.int .i64 lv,.int .i64 5] 206));have HB:=Qa hB;obtain⟨m,hm⟩:∃m,frs.length=m:=⟨_,rfl⟩;rw[hm] at hl;have Hm:=Qa hm;clear h b6 hw hB hm;have q1:=yE;go_enter Tryz.func73,Tryz.ntmps73;go_wp2_with fail;(with_reducible refine b7.out.mono ?_);rintro e w' ⟨rfl,b4⟩;rw[b4] at H a4 a3;obtain⟨pv,dv,us,h⟩:=H.out;obtain⟨A,q,b1,-⟩:=ag h.parts;rw[Hm.out] at b1;subst b1;have c0:=aa h.row (j:=0) (u:=.slice A m q) rfl;have f0:=aj h.row 0;have e1:=aa a3.out (j:=1) rfl;have HA:=Qa h;clear h b4 H;go_wp2_with fail;obtain⟨wr,a7⟩:∃wr,w'.drew=wr:=⟨_,rfl⟩;have a2:Below w'.heap.size w' wr:=by rw[<-a7];exact(Zd _ _).drew
 have b5:wr.heap.size=w'.heap.size:=by rw[<-a7];rfl
 have C0:=Qa (Zf a2 c0);have E1:=Qa (Zf a2 e1);have a5:wr.heap[xb]?=some (.cells #[.slice A m q,dv] 164 (0,0)):=ai HA.out.row a2;have a1:=Qa (ac wr (.cells #[.int .i64 5,.slice none 0 0,.slice none 0 0,.string ⟨#[]⟩,.bool false] 209));have c1:=Qa (ap wr [.int .i64 5,.slice none 0 0,.slice none 0 0,.string ⟨#[]⟩,.bool false] 209);have a6:w'.ownsRow B 209 5 (.slice A m q) m us.reverse.flatten:=by have:=HA.out.parts;rwa[Hm.out] at this
 have b0:=Qa (ao (ao a6 a2 (Za _)) a1.out (Za _));have b2:=Qa (ai a5 a1.out);have b8:=Qa (aI b0.out b2.out (by decide));have a9:=Qa a2;have b3:=Qa b5;clear c0 f0 e1 a2 b5 a5 a6;refine cP (fun w2=>w2.cell? ⟨xb,0,none⟩=some (.slice A m q)/\w2.cell? ⟨w.heap.size,1,none⟩=some (.int .i64 5)) 12 ((by rw[a7];exact⟨C0.out,E1.out⟩)) fun a0=>?_
 rw[a7] at a0 ⊢;clear a7;refine tZ 0 a0 ?_;refine tZ 1 a0 ?_;refine tZ 2 a0 ?_;refine tZ 3 a0 ?_;refine tZ 4 a0 ?_;refine tZ 5 a0 ?_
 try simp only[Act.put,jP,jQ,jR]
 refine tZ 6 a0 ?_;refine tZ 7 a0 ?_
 try simp only[Act.put,jP,jQ,jR]
 refine rZ 8 fun K hK=>?_
 go_simp;refine hK.out _ _ (fun _=>⟨Zf a1.out a0.1,Zf a1.out a0.2⟩) (fun a0=>?_);clear hK K;have a0:=a0 (by decide)
 try simp only[Act.put,jP,jQ,jR]
 refine rZ 9 fun K hK=>?_
 refine vm Bd b0.out c1.out (by have:=b3.out;have:=a1.out.size;have:=a4.out.size;have:=HB.out;omega) ?_;intro v' w5 p1 p2 p3;obtain⟨A5,q5,rfl,-,-,-⟩:=ag p1;have g5:=az b2.out p2 b8.out;have f5:=aj g5 0;have k5:w5.cell? ⟨xb,0,none⟩=some (.slice A m q):=aa g5 (j:=0) rfl;have k6:w5.cell? ⟨w.heap.size,1,none⟩=some (.int .i64 5):=(fm (az (ai (ai a3.out a9.out) a1.out) p2 (aI b0.out (ai (ai a3.out a9.out) a1.out) (by decide))) a3.out _).trans (aa a3.out (j:=1) rfl);have G5:=Qa g5;have HK:=Qa p1;have HG:=Qa p2;clear p1 p2 p3 g5;refine hK.out _ _ (fun _=>⟨k5,k6⟩) (fun a0=>?_);clear hK K;have a0:=a0 (by decide)
 try simp only[Act.put,jP,jQ,jR]
 refine rZ 10 fun K hK=>?_
 go_simp;refine hK.out _ _ (fun _=>a0) (fun a0=>?_);clear hK K;have a0:=a0 (by decide)
 try simp only[Act.put,jP,jQ,jR]
 refine tZ 11 a0 ?_
 try simp only[Act.put,jP,jQ,jR]
 refine rZ 12 fun K hK=>?_
 go_simp;refine hK.out _ _ (fun h=>absurd rfl h) (fun _=>?_);clear hK K
 try simp only[Act.put,jP,jQ,jR]
 refine aV (by kernel_rfl) (NoPanic.normal ?_) _;go_end0;have c2:=HA.out.low;have b9:a8 (fun k=>(Value.slice A m q).ownBlock=some k) w' w5:=(a8.of_below ((a9.out).trans (a1.out.mono (by have:=b3.out;omega)))).trans (a8.grown HG.out) fun i hi=>.inl hi
 obtain⟨r1,r2,r3⟩:=rU (o:=false) HA.out (by have:=a4.out.size;have:=HB.out;omega) b9 (by rw[Hm.out];exact HK.out) (G5.out.trans HA.out.row.symm);exact⟨rfl,(a4.out.mono HB.out).trans r1,(Kp.of_below TB a4.out).trans r2,_,r3⟩
theorem wM (b6:lv= (frs.length+1:Nat))(h:fd B w xb frs none bs)(hw:∀f fs,frs=f::fs->bY f=false)(hl:frs.length<=4294967296)(hB:B<=w.heap.size):Calls Tryz.prog 73 #[.pointer (some ⟨xb,0,none⟩),.iface 206 (.agg #[.int .i64 lv,.int .i64 6])] w fun e w'=>mw B xb ⟨⟨true, [], [],none⟩::frs,0,none⟩ w e w':=by
 have b7:=Qa (lm (h.below (ac w (.cells #[.int .i64 lv,.int .i64 6] 206))) hw hl);rw[<-b6] at b7;have H:=Qa (h.below (ac w (.cells #[.int .i64 lv,.int .i64 6] 206)));have a4:=Qa (ac w (.cells #[.int .i64 lv,.int .i64 6] 206));have a3:=Qa (Ze w (.cells #[.int .i64 lv,.int .i64 6] 206));have HB:=Qa hB;obtain⟨m,hm⟩:∃m,frs.length=m:=⟨_,rfl⟩;rw[hm] at hl;have Hm:=Qa hm;clear h b6 hw hB hm;have q1:=yE;go_enter Tryz.func73,Tryz.ntmps73;go_wp2_with fail;(with_reducible refine b7.out.mono ?_);rintro e w' ⟨rfl,b4⟩;rw[b4] at H a4 a3;obtain⟨pv,dv,us,h⟩:=H.out;obtain⟨A,q,b1,-⟩:=ag h.parts;rw[Hm.out] at b1;subst b1;have c0:=aa h.row (j:=0) (u:=.slice A m q) rfl;have f0:=aj h.row 0;have e1:=aa a3.out (j:=1) rfl;have HA:=Qa h;clear h b4 H;go_wp2_with fail;obtain⟨wr,a7⟩:∃wr,w'.drew=wr:=⟨_,rfl⟩;have a2:Below w'.heap.size w' wr:=by rw[<-a7];exact(Zd _ _).drew
 have b5:wr.heap.size=w'.heap.size:=by rw[<-a7];rfl
 have C0:=Qa (Zf a2 c0);have E1:=Qa (Zf a2 e1);have a5:wr.heap[xb]?=some (.cells #[.slice A m q,dv] 164 (0,0)):=ai HA.out.row a2;have a1:=Qa (ac wr (.cells #[.int .i64 6,.slice none 0 0,.slice none 0 0,.string ⟨#[]⟩,.bool false] 209));have c1:=Qa (ap wr [.int .i64 6,.slice none 0 0,.slice none 0 0,.string ⟨#[]⟩,.bool false] 209);have a6:w'.ownsRow B 209 5 (.slice A m q) m us.reverse.flatten:=by have:=HA.out.parts;rwa[Hm.out] at this
 have b0:=Qa (ao (ao a6 a2 (Za _)) a1.out (Za _));have b2:=Qa (ai a5 a1.out);have b8:=Qa (aI b0.out b2.out (by decide));have a9:=Qa a2;have b3:=Qa b5;clear c0 f0 e1 a2 b5 a5 a6;refine cP (fun w2=>w2.cell? ⟨xb,0,none⟩=some (.slice A m q)/\w2.cell? ⟨w.heap.size,1,none⟩=some (.int .i64 6)) 12 ((by rw[a7];exact⟨C0.out,E1.out⟩)) fun a0=>?_
 rw[a7] at a0 ⊢;clear a7;refine tZ 0 a0 ?_;refine tZ 1 a0 ?_;refine tZ 2 a0 ?_;refine tZ 3 a0 ?_;refine tZ 4 a0 ?_;refine tZ 5 a0 ?_
 try simp only[Act.put,jP,jQ,jR]
 refine tZ 6 a0 ?_;refine tZ 7 a0 ?_
 try simp only[Act.put,jP,jQ,jR]
 refine rZ 8 fun K hK=>?_
 go_simp;refine hK.out _ _ (fun _=>⟨Zf a1.out a0.1,Zf a1.out a0.2⟩) (fun a0=>?_);clear hK K;have a0:=a0 (by decide)
 try simp only[Act.put,jP,jQ,jR]
 refine rZ 9 fun K hK=>?_
 refine vm Bd b0.out c1.out (by have:=b3.out;have:=a1.out.size;have:=a4.out.size;have:=HB.out;omega) ?_;intro v' w5 p1 p2 p3;obtain⟨A5,q5,rfl,-,-,-⟩:=ag p1;have g5:=az b2.out p2 b8.out;have f5:=aj g5 0;have k5:w5.cell? ⟨xb,0,none⟩=some (.slice A m q):=aa g5 (j:=0) rfl;have k6:w5.cell? ⟨w.heap.size,1,none⟩=some (.int .i64 6):=(fm (az (ai (ai a3.out a9.out) a1.out) p2 (aI b0.out (ai (ai a3.out a9.out) a1.out) (by decide))) a3.out _).trans (aa a3.out (j:=1) rfl);have G5:=Qa g5;have HK:=Qa p1;have HG:=Qa p2;clear p1 p2 p3 g5;refine hK.out _ _ (fun _=>⟨k5,k6⟩) (fun a0=>?_);clear hK K;have a0:=a0 (by decide)
 try simp only[Act.put,jP,jQ,jR]
 refine rZ 10 fun K hK=>?_
 go_simp;refine hK.out _ _ (fun _=>a0) (fun a0=>?_);clear hK K;have a0:=a0 (by decide)
 try simp only[Act.put,jP,jQ,jR]
 refine tZ 11 a0 ?_
 try simp only[Act.put,jP,jQ,jR]
 refine rZ 12 fun K hK=>?_
 go_simp;refine hK.out _ _ (fun h=>absurd rfl h) (fun _=>?_);clear hK K
 try simp only[Act.put,jP,jQ,jR]
 refine aV (by kernel_rfl) (NoPanic.normal ?_) _;go_end0;have c2:=HA.out.low;have b9:a8 (fun k=>(Value.slice A m q).ownBlock=some k) w' w5:=(a8.of_below ((a9.out).trans (a1.out.mono (by have:=b3.out;omega)))).trans (a8.grown HG.out) fun i hi=>.inl hi
 obtain⟨r1,r2,r3⟩:=rU (o:=true) HA.out (by have:=a4.out.size;have:=HB.out;omega) b9 (by rw[Hm.out];exact HK.out) (G5.out.trans HA.out.row.symm);exact⟨rfl,(a4.out.mono HB.out).trans r1,(Kp.of_below TB a4.out).trans r2,_,r3⟩
theorem yY (e5:lv= (fs.length+1:Nat))(h:fd B w xb (f::fs) none bs)(ho:f.obj=true)(e3:f.name=none)(hl:fs.length<=4294967296)(hB:B<=w.heap.size):Calls Tryz.prog 73 #[.pointer (some ⟨xb,0,none⟩),.iface 211 (.agg #[.int .i64 lv,.string s])] w (mw B xb ⟨{f with name:=some s}::fs,4,none⟩ w):=by
 have b6:=ac w (.cells #[.int .i64 lv,.string s] 211);have c8:=h.below b6;have b2:=Qa (Ze w (.cells #[.int .i64 lv,.string s] 211));obtain⟨w1,c4⟩:∃w1,w.alloc (.cells #[.int .i64 lv,.string s] 211)=w1:=⟨_,rfl⟩;rw[c4] at b6 c8 b2;obtain⟨pv,dv,us,h1⟩:=c8;obtain⟨c7,h2,h3,h4,h5,h6,h7⟩:=id h1
 cases us with
 |nil=>have:=h4.1;simp at this
 |cons u us=>
 have d5:us.length=fs.length:=by have:=h4.1;simpa using this
 have a2:∀x∈u::us,x.length=5:=fun x hx=>by
  obtain⟨i,hi,rfl⟩:=List.getElem_of_mem hx;exact(h4.2 i _ ((f::fs)[i]'(by have:=h4.1;omega)) (Zc hi) (Zc _)).len
 rw[List.length_cons,<-d5] at h3;obtain⟨pb,q,d6,hT⟩:=el h3 a2;obtain⟨d9,a1,b9,b5,b4⟩:=hT;obtain⟨iv,mv,s0,xs,L,hu,e4,d1,a7,c3,b3,a3,d0,e8⟩:=h4.2 0 u f rfl rfl;obtain rfl:=d0 ho;obtain⟨Ai,qi,rfl,-⟩:=ag c3;subst d9 hu;obtain⟨m,hm⟩:∃m,m=us.length:=⟨_,rfl⟩;rw[<-hm] at a1 b5 b4;have c0:=aa c7 (j:=0) (u:=.slice (some ⟨pb,0,none⟩) (m+1) q) (by rw[hm];rfl);have k0:=a1 0 _ rfl;have k3:=a1 3 _ rfl;have k4:=a1 4 _ rfl;rw[ho] at k0;rw[e3] at k4;simp only[if_true] at k0;rw[Nat.add_zero] at k0;obtain⟨cur,a9⟩:=b9;have f3:=aj a9 (m*5+3);have e0:=aa b2.out (j:=0) (u:=.int .i64 lv) rfl;have e1:=aa b2.out (j:=1) (u:=.string s) rfl;have s1:IntKind.i64.wrap (m:Int)= (m:Int):=IntWalk.i64_in _ (by omega);have f0:(((m+1:Nat):Int)==0)=false:=by simp only[beq_eq_false_iff_ne];omega
 have a6:lv= (m:Int)+1:=by omega
 have f2:=Qa a6;have HA:=Qa h1;have a4:=Qa a9;have Hm:=Qa hm;have Hl:=Qa a2;have H3:=Qa h3;have e6:=Qa (And.intro d1 (And.intro a7 (And.intro c3 (And.intro b3 a3))));have c6:=Qa b6;have HB:=Qa hB;have q1:=DO;have q2:=qM;have d7:(lv== (m:Int)+1)=true:=by rw[a6];simp
 have d3:(lv != (m:Int)+1)=false:=by rw[a6];simp
 clear h h1 c7 h2 h3 h4 h5 h6 h7 d1 a7 c3 b3 a3 d0 e8 a1 a9 a2 e4 d5 hm e5 a6 b6 hB b5 b4;go_enter Tryz.func73,Tryz.ntmps73;go_wp2_with fail
 try rw[c4]
 obtain⟨wr,c5⟩:∃wr,w1.drew=wr:=⟨_,rfl⟩;have a5:Below w1.heap.size w1 wr:=by rw[<-c5];exact(Zd _ _).drew
 have C0:=Qa (Zf a5 c0);have E1:=Qa (Zf a5 e1);have k3r:=Zf a5 k3;have gr:=ai a4.out a5;have f3r:=aj gr (m*5+3);have K4:=Qa (Zf a5 k4);have Gr:=Qa gr;have f1:=Qa (ai HA.out.row a5);have f5:=Qa (ai b2.out a5);have b8:=Qa a5;have c9:pb≠xb:=fun e=>by
  have:=HA.out.row;rw[<-e,a4.out] at this;injection this with this
  injection this with _ this _
  exact absurd this (by decide)
 have b0:pb≠w.heap.size:=fun e=>by
  have:=b2.out;rw[<-e,a4.out] at this;injection this with this
  injection this with _ this _
  exact absurd this (by decide)
 have c2:=Qa c9;have c1:=Qa b0;clear c0 k0 k3 k4 f3 e0 e1 gr a5 c9 b0 c4;refine aO (fun w2=>w2.cell? ⟨xb,0,none⟩=some (.slice (some ⟨pb,0,none⟩) (m+1) q)/\w2.cell? ⟨w.heap.size,1,none⟩=some (.string s)) ((by rw[c5];exact⟨C0.out,E1.out⟩)) fun a0=>?_
 refine tH 0 a0 ?_;refine tH 1 a0 ?_;refine tH 2 a0 ?_;refine tH 3 a0 ?_;refine tH 4 a0 ?_;refine tH 5 a0 ?_
 try simp only[Act.put,jP,jQ,jR]
 refine tH 6 a0 ?_;refine tH 7 a0 ?_;refine tH 8 a0 ?_;refine tH 9 a0 ?_;refine tH 10 a0 ?_;refine tH 11 a0 ?_
 try simp only[Act.put,jP,jQ,jR]
 refine tH 12 a0 ?_;refine tH 13 a0 ?_;refine tH 14 a0 ?_;refine tH 15 a0 ?_
 try simp only[Act.put,jP,jQ,jR]
 refine rH 16 fun K hK=>?_
 rw[c5] at a0 ⊢;go_simp;refine hK.out _ _ (⟨(World.cell?_setCell_far _ _ _ _ c2.out).trans C0.out,(World.cell?_setCell_far _ _ _ _ c1.out).trans E1.out⟩) (fun a0=>?_);clear hK K
 try simp only[Act.put,jP,jQ,jR]
 refine tH 17 a0 ?_;refine tH 18 a0 ?_
 try simp only[Act.put,jP,jQ,jR]
 refine rH 19 fun K hK=>?_
 have g4:=au Gr.out (m*5+3) (.string s);have f4:=aj g4 (m*5+4);have k4:=(lP Gr.out (show m*5+3≠m*5+4 by omega) (.string s)).trans K4.out;go_simp;refine hK.out _ _ (⟨(World.cell?_setCell_far _ _ _ _ c2.out).trans ((World.cell?_setCell_far _ _ _ _ c2.out).trans C0.out),(World.cell?_setCell_far _ _ _ _ c1.out).trans ((World.cell?_setCell_far _ _ _ _ c1.out).trans E1.out)⟩) (fun a0=>?_);clear hK K
 try simp only[Act.put,jP,jQ,jR]
 refine wpAnyH_done (by kernel_rfl) (NoPanic.normal ?_) _;clear a0 k3r f3r;go_end0;obtain rfl:=Hm.out;have e7:wr.ownsRow B 209 5 (.slice (some ⟨pb,0,none⟩) (us.length+1) q) (us.length+1) (([.int .i64 (if f.obj=true then 6 else 5),.slice none 0 0,.slice Ai L.length qi,.string s0,.bool f.name.isSome]:List Value)::us).reverse.flatten:=ao H3.out b8.out (Za _);have b7:=eK e7 Hl.out (j:=3) (by decide) (.string s);have b1:=eK b7 (fun x hx=>by rcases List.mem_cons.1 hx with rfl|hx;(· rfl);exact Hl.out x (Zl _ hx)) (j:=4) (by decide) (.bool true);have d2:a8 (fun k=>k=pb) wr ((wr.setCell ⟨pb,us.length*5+3,none⟩ (.string s)).setCell ⟨pb,us.length*5+4,none⟩ (.bool true)):=
  (a8.set pb _ _).trans (a8.set pb _ _) fun i h=>.inl h
 have e2:B<=w1.heap.size:=Zb HB.out c6.out.size;have b0:=rt HA.out a4.out d6 e2 (a8.of_below b8.out) d2 b1 (fun g hg=>.inl (by
  have hg:g∈bV [.int .i64 (if f.obj=true then 6 else 5),.slice none 0 0,.slice Ai L.length qi,.string s,.bool true]:=hg;rw[jp] at hg ⊢;exact hg)) (by
  show(bV [_,_,_,_,_]).Nodup
  rw[jp];exact ls _) (f':={f with name:=some s}) (fun hm ht d4=>?_)
 ·exact⟨rfl,(c6.out.mono HB.out).trans b0.1,(Kp.of_below TB c6.out).trans b0.2.1,_,b0.2.2⟩
 obtain⟨m1,m2,m3,m4,m5⟩:=e6.out;have hne:=aI m3 a4.out (by decide);refine⟨.slice none 0 0,.slice Ai L.length qi,s,xs,L,rfl,fun t e=>Zh e,?_,?_,?_,m4,?_,fun _=>rfl,fun e=>?_⟩
 ·exact bz m1 fun b hb=>by cases hb
 ·exact m2.mono fun _ _ h=>h.move hm ht d4
 ·exact bz m3 fun b hb=>((a8.of_below b8.out).trans d2 (fun i h=>.inl h)).block b (ae (ak m3 hb).2.choose_spec) fun e=>hne (by rw[hb,e])
 ·exact m5.mono fun _ _ h=>h.move hm ht d4
 ·exact absurd (ho.symm.trans e) (by decide)
def kG (frs:List Fr):Prop:=frs.length<=4294967296/\∀f fs,frs=f::fs->bY f=false/\f.items.length<=4294967296/\f.mems.length<=4294967296
theorem rB (h:fd B w xb frs none bs)(hT:kG frs)(hv:VW (Pb B bs) w v j)(hB:B<=w.heap.size):Calls Tryz.prog 99 #[.pointer (some ⟨xb,0,none⟩),v] w (mw B xb (bX frs j) w):=by
 cases frs with
 |nil=>exact Ce h hv hB
 |cons f fs=>
  obtain⟨h1,h2,h3⟩:=hT.2 f fs rfl;have hl:=hT.1;rw[List.length_cons] at hl
  by_cases ho:f.obj=true
  ·have hn:f.name.isSome=true:=by
    simp only[bY,ho,Bool.true_and] at h1
    cases hn:f.name with
    |none=>rw[hn] at h1;cases h1
    |some _=>rfl
   exact D6 h ho hv hB hn h3 (by omega)
  ·exact CU h (by simpa using ho) hv hB h2 (by omega)
theorem pL (a2:lv= (frs.length+1:Nat))(h:fd B w xb frs none bs)(hT:kG frs)(hv:VW (Pb B bs) w v j)(hB:B<=w.heap.size):Calls Tryz.prog 73 #[.pointer (some ⟨xb,0,none⟩),.iface 213 (.agg #[.int .i64 lv,v])] w (mw B xb (bX frs j) w):=by
 have a0:=ac w (.cells #[.int .i64 lv,v] 213);have a1:=h.below a0;have a3:=Qa (lm a1 (fun f fs e=>(hT.2 f fs e).1) hT.1);rw[<-a2] at a3;have a5:=Qa (rB a1 hT (hv.move (bs':=bs) (Mv.of_below (top:= []) a0) (by simp) (fun g hg=>.inl hg)) (Zb hB a0.size));have e1:=aa (Ze w (.cells #[.int .i64 lv,v] 213)) (j:=1) rfl;have a4:=Qa a0;have HB:=Qa hB;have q1:=Do;have q2:=qu;have q3:=qF;obtain⟨tv,xv,rfl⟩:=hv.iface;clear h a1 hT hv hB a2 a0;go_enter Tryz.func73,Tryz.ntmps73;go_wp2_with fail;(with_reducible refine a3.out.mono ?_);rintro e w' ⟨rfl,rfl⟩;go_wp2_with fail;(with_reducible refine a5.out.mono ?_);rintro e w' ⟨rfl,h1,h2,h3⟩;have R:=Qa (And.intro h1 (And.intro h2 h3));clear h1 h2 h3;go_wp2_with fail;go_end0;exact⟨rfl,(a4.out.mono HB.out).trans R.out.1,(Kp.of_below TB a4.out).trans R.out.2.1,R.out.2.2⟩
theorem jZ {xs ys:List Value}(h:w.ownsRow B e k (.slice A (n+1) q) (n+1) (xs++ys))(hx:xs.length=n*k):w.ownsRow B e k (.slice A n q) n xs:=by
 obtain⟨h1,⟨e1,h0⟩|⟨g,cap,cur,e1,hb,hg,h2,h3,h4,h5⟩⟩:=h
 ·cases e1
 ·obtain⟨rfl,-,rfl⟩:=Value.slice.inj e1;refine⟨hx,.inr ⟨g,q,cur,rfl,hb,hg,by omega,h3,h4,?_⟩⟩;have:=congrArg (List.take (n*k)) h5;rw[List.take_take,Nat.min_eq_left (Nat.mul_le_mul_right k (Nat.le_succ n)),List.take_left' hx] at this;exact this
theorem E2:∀ (L:List (List Value)),(∀x∈L,x.length=5)->L.flatten.length=L.length*5
 | [],_=>rfl
 |a::L,h=>by rw[List.flatten_cons,List.length_append,E2 L (fun x hx=>h x (Zl _ hx)),h a (by simp),List.length_cons];omega
theorem yw {done:Option JV}{u:List Value}{us:List (List Value)}(h:zP B w xb (f::fs) done (.slice (some ⟨pb,0,none⟩) (us.length+1) q) dv (u::us) bs)(hB:B<=w.heap.size) :
  Below B w (w.setCell ⟨xb,0,none⟩ (.slice (some ⟨pb,0,none⟩) us.length q))/\Kp (fun e=>e=164) w (w.setCell ⟨xb,0,none⟩ (.slice (some ⟨pb,0,none⟩) us.length q))/\(∀g∈us.flatMap bV,g∈bs)/\fd B (w.setCell ⟨xb,0,none⟩ (.slice (some ⟨pb,0,none⟩) us.length q)) xb fs done (us.flatMap bV):=by
 obtain⟨h1,h2,h3,h4,h5,h6,h7⟩:=h;have a3:=a8.set (w:=w) xb 0 (.slice (some ⟨pb,0,none⟩) us.length q);have hk:Kp (fun e=>e=164) w (w.setCell ⟨xb,0,none⟩ (.slice (some ⟨pb,0,none⟩) us.length q)):=Kp.of_chg a3 fun g e _=>by subst e;exact⟨_,_,_,h1,rfl⟩
 have hm:Mv [] w (w.setCell ⟨xb,0,none⟩ (.slice (some ⟨pb,0,none⟩) us.length q)):=Mv.of_kp hk fun e he=>by rcases he with rfl|rfl|rfl|rfl <;> decide
 have a2:us.length=fs.length:=by have:=h4.1;simpa using this
 have a1:∀g∈us.flatMap bV,g∈bs:=fun g hg=>by rw[<-h5];exact List.mem_append_right _ hg
 have a4:∀g∈us.flatMap bV,g∈bs\/w.heap.size<=g:=fun g h=>.inl (a1 g h)
 have a0:∀x∈u::us,x.length=5:=fun x hx=>by
  obtain⟨i,hi,rfl⟩:=List.getElem_of_mem hx;exact(h4.2 i _ ((f::fs)[i]'(by have:=h4.1;omega)) (Zc hi) (Zc _)).len
 refine⟨a3.below hB (fun i e=>by rw[e];exact h2),hk,a1,.slice (some ⟨pb,0,none⟩) us.length q,dv,us,au h1 0 _,h2,?_,⟨a2,fun i a b h1 h2=>?_⟩,rfl,?_,h7.move hm (by simp) a4⟩
 ·rw[List.length_cons,<-a2,List.reverse_cons,List.flatten_append] at h3;rw[<-a2];refine al (jZ h3 ?_) hk.keeps (by decide);rw[E2 _ fun x hx=>a0 x (Zl _ (List.mem_reverse.1 hx)),List.length_reverse]
 ·exact(h4.2 (i+1) a b (by simpa using h1) (by simpa using h2)).move hm (by simp) a4 (by simp)
 ·rw[<-h5] at h6;exact(List.nodup_append.1 h6).2.1
