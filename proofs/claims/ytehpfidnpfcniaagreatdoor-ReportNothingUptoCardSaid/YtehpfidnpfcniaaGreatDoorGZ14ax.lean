import Derived.Test.YtehpfidnpfcniaaGreatDoorGZ14aw
set_option linter.unusedVariables false
set_option linter.unusedSimpArgs false
set_option maxHeartbeats 64000000
set_option maxRecDepth 100000
namespace Go.Proofs.YtehpfidnpfcniaaGreatDoor
open Go.RowKit
variable {f:Fr}{lv:Int}{j:JV}{ms:List (ByteArray×JV)}{S:List (ByteArray×Value)}{frs fs:List Fr}{ks:List JV}{us:List Value}{B c g n pb q xb:Nat}{Q:Nat->Prop}{A:Option Addr}{e:TypeId}{dv pv v:Value}{w w5:World}
theorem yc {α β:Type}{f:α->β}{S L:List β}(hp:S.Perm L):∀ {Z:List α},Z.map f=L->∃Z':List α,Z'.Perm Z/\Z'.map f=S:=by
 induction hp with
 |nil=>intro Z h;exact⟨Z,List.Perm.refl _,h⟩
 |cons x _ ih=>
  intro Z h
  cases Z with
  |nil=>cases h
  |cons z Z=>
   rw[List.map_cons] at h;injection h with h1 h2
   obtain⟨Z',h3,h4⟩:=ih h2;exact⟨z::Z',h3.cons z,by rw[List.map_cons,h1,h4]⟩
 |swap x y l=>
  intro Z h
  match Z,h with
  |a::b::Z,h=>
   simp only[List.map_cons] at h;injection h with h1 h2
   injection h2 with h2 h3
   exact⟨b::a::Z,List.Perm.swap a b Z,by simp[h1,h2,h3]⟩
 |trans _ _ ih1 ih2=>
  intro Z h;obtain⟨Z1,h1,h2⟩:=ih2 h;obtain⟨Z2,h3,h4⟩:=ih1 h2;exact⟨Z2,h3.trans h1,h4⟩
theorem D4 (S:List (ByteArray×Value)):ft S=tY (S.map Prod.fst) (S.map Prod.snd):=by
 unfold ft tY
 congr 1
 induction S with
 |nil=>rfl
 |cons p S ih=>simp[<-ih]
theorem zf {L:List (ByteArray×Value)}(hg:w.heap[g]?=some (.cells #[.slice A S.length c] 168 (0,0)))(hr:bG Q w 87 2 A S.length c (ft S))(hQ:Q g)(hp:S.Perm L)(hs:(S.map Prod.fst).Pairwise jy)
  (hn:L.map Prod.fst=ms.map Prod.fst) (hv:bY (VW Q w) (L.map Prod.snd) (ms.map Prod.snd)):VW Q w (.iface 103 (.pointer (some ⟨g,0,none⟩))) (fQ (cF ms)):=by
 have hl:L.length=ms.length:=by have:=congrArg List.length hn;simpa using this
 have hz:(L.zip ms).map Prod.fst=L:=List.map_fst_zip (by omega);have a5:(L.zip ms).map Prod.snd=ms:=List.map_snd_zip (by omega);obtain⟨Z,hZ,a1⟩:=yc hp hz;have a0:∀z∈L.zip ms,z.1.1=z.2.1/\VW Q w z.1.2 z.2.2:=by
  intro z hz;obtain⟨i,hi,rfl⟩:=List.getElem_of_mem hz;rw[List.length_zip] at hi;have h1:L[i]?=some L[i]:=Zd (by omega);have h2:ms[i]?=some ms[i]:=Zd (by omega);rw[List.getElem_zip];refine⟨?_,hv.2 i _ _ (by rw[List.getElem?_map,h1];rfl) (by rw[List.getElem?_map,h2];rfl)⟩;have:=congrArg (·[i]?) hn;simp only[List.getElem?_map,h1,h2,Option.map_some] at this;exact Zi this
 have a4:cF ms=Z.map Prod.snd:=by
  refine AL ?_ ?_
  ·have:=(hZ.map Prod.snd).symm
   rwa[a5] at this
  ·have e:(Z.map Prod.snd).map Prod.fst=S.map Prod.fst:=by
    rw[<-a1,List.map_map,List.map_map];exact List.map_congr_left fun z hz=>(a0 z (hZ.mem_iff.1 hz)).1.symm
   rw[e];exact hs
 rw[a4];have a2:S.map Prod.fst= (Z.map Prod.snd).map Prod.fst:=by
  rw[<-a1,List.map_map,List.map_map];exact List.map_congr_left fun z hz=>(a0 z (hZ.mem_iff.1 hz)).1
 have a3:S.length=Z.length:=by rw[<-a1];simp
 unfold fQ;rw[<-a2];refine VW.obj g A c (S.map Prod.snd) (S.map Prod.fst) _ hQ (by rw[List.length_map];exact hg) (by rw[List.length_map,<-D4];exact hr) (by simp[a3]) (by simp[a3]) fun i u k h1 h2=>?_
 rw[List.getElem?_map,<-a1,List.getElem?_map] at h1;rw[List.getElem?_map,List.getElem?_map] at h2
 cases hz3:Z[i]? with
 |none=>rw[hz3] at h1;cases h1
 |some z=>
  rw[hz3] at h1 h2;obtain rfl:=Zi h1;obtain rfl:=Zi h2;exact(a0 z (hZ.mem_iff.1 (Zk hz3))).2
theorem vj (hg:w.heap[g]?=some (.cells #[.slice A us.length c] 273 (0,0)))(hr:bG Q w 85 1 A us.length c us)(hQ:Q g)(hv:bY (VW Q w) us ks):VW Q w (.iface 112 (.pointer (some ⟨g,0,none⟩))) (cD ks):=
 VW.list g A c us ks hQ hg hr hv.1 fun i u k h1 h2=>hv.2 i u k h1 h2
theorem rU {done:Option JV}{pv':Value}{us:List (List Value)}{bs:List Nat}{o:Bool}(h:xj B w xb frs done pv dv us bs)(hB:B<=w.heap.size)(h5:aM (fun k=>pv.ownBlock=some k) w w5)
  (hp:w5.ownsRow B 254 5 pv' (frs.length+1) (us.reverse.flatten ++ [.int .i64 (if o then 6 else 5),.slice none 0 0,.slice none 0 0,.string ⟨#[]⟩,.bool false])) (hg:w5.heap[xb]?=w.heap[xb]?) :
  Below B w (w5.setCell ⟨xb,0,none⟩ pv')/\Kp TB w (w5.setCell ⟨xb,0,none⟩ pv')/\dT B (w5.setCell ⟨xb,0,none⟩ pv') xb (⟨o, [], [],none⟩::frs) done bs:=by
 obtain⟨h1,h2,h3,h4,a4,h6,h7⟩:=h;have a1:w5.heap[xb]?=some (.cells #[pv,dv] 212 (0,0)):=hg.trans h1;have a0:aM (fun k=>pv.ownBlock=some k\/k=xb) w (w5.setCell ⟨xb,0,none⟩ pv'):=(h5.mono fun _ h=>.inl h).trans (aM.set xb 0 pv') fun i hi=>.inl (.inr hi)
 have a3:∀g,(pv.ownBlock=some g\/g=xb)->g<w.heap.size->∃cs e z,w.heap[g]?=some (.cells cs e z)/\(e=254\/e=212):=by
  intro g hg _;rcases hg with hg|rfl
  ·obtain⟨_,cur,hh⟩:=al h3 hg;exact⟨_,_,_,hh,.inl rfl⟩
  ·exact⟨_,_,_,h1,.inr rfl⟩
 have hm:Mv [] w (w5.setCell ⟨xb,0,none⟩ pv'):=Mv.of_chg a0 fun g hg hl=>by
  obtain⟨cs,e,z,q1,q2⟩:=a3 g hg hl;exact .inr ⟨cs,e,z,q1,by rcases q2 with rfl|rfl <;> (simp only[TV];decide)⟩
 have a2:∀g∈bs,g∈bs\/w.heap.size<=g:=fun g h=>.inl h
 refine⟨a0.below hB (fun i hi=>hi.elim (fun h=>(al h3 h).1) fun e=>by rw[e];exact h2),Kp.of_chg a0 fun g hg hl=>?_,pv',dv, [.int .i64 (if o then 6 else 5),.slice none 0 0,.slice none 0 0,.string ⟨#[]⟩,.bool false]::us,au a1 0 pv',h2,?_,?_,?_,h6,h7.move hm (by simp) a2⟩
 ·obtain⟨cs,e,z,q1,q2⟩:=a3 g hg hl;exact⟨cs,e,z,q1,q2.elim (fun h=>.inr (.inr h)) fun h=>.inr (.inl h)⟩
 ·rw[List.length_cons,List.reverse_cons,List.flatten_append];simp only[List.flatten_cons,List.flatten_nil,List.append_nil];have hne:=aG hp a1 (by decide);exact be hp fun b hb=>(aM.set xb 0 pv').block b (ah (al hp hb).2.choose_spec) fun e=>hne (by rw[hb,e])
 ·refine bY.cons ⟨.slice none 0 0,.slice none 0 0,⟨#[]⟩, [], [],rfl,fun t e=>(by cases e),⟨rfl,.inl ⟨rfl,rfl⟩⟩,bY.nil _,⟨rfl,.inl ⟨rfl,rfl⟩⟩,rfl,bY.nil _,fun _=>rfl,fun _=>rfl⟩ ?_;exact h4.mono fun _ _ h=>h.move hm (by simp) a2 (by simp)
 ·rw[List.flatMap_cons,a4];rfl
theorem we (x:Value)(W:World):(Instr.typeAssert (.iface 252 x) 250 252 true).run Tryz.prog W =.ok (.tuple #[x,.bool true]) W:=by kernel_rfl
theorem CW (x:Value)(W:World):(Instr.typeAssert (.iface 256 x) 250 256 true).run Tryz.prog W =.ok (.tuple #[x,.bool true]) W:=by kernel_rfl
theorem pf (x:Value)(W:World):(Instr.typeAssert (.iface 256 x) 250 252 true).run Tryz.prog W =.ok (.tuple #[.agg #[.int .i64 0,.int .i64 0],.bool false]) W:=by kernel_rfl
theorem CJ (x:Value)(W:World):(Instr.typeAssert (.iface 258 x) 250 258 true).run Tryz.prog W =.ok (.tuple #[x,.bool true]) W:=by kernel_rfl
theorem oo (x:Value)(W:World):(Instr.typeAssert (.iface 258 x) 250 252 true).run Tryz.prog W =.ok (.tuple #[.agg #[.int .i64 0,.int .i64 0],.bool false]) W:=by kernel_rfl
theorem oO (x:Value)(W:World):(Instr.typeAssert (.iface 258 x) 250 256 true).run Tryz.prog W =.ok (.tuple #[.agg #[.int .i64 0,.string ⟨#[]⟩],.bool false]) W:=by kernel_rfl
theorem pY (x:Value)(W:World):(Instr.typeAssert (.iface 259 x) 250 259 true).run Tryz.prog W =.ok (.tuple #[x,.bool true]) W:=by kernel_rfl
theorem gJ (x:Value)(W:World):(Instr.typeAssert (.iface 259 x) 250 252 true).run Tryz.prog W =.ok (.tuple #[.agg #[.int .i64 0,.int .i64 0],.bool false]) W:=by kernel_rfl
theorem gO (x:Value)(W:World):(Instr.typeAssert (.iface 259 x) 250 256 true).run Tryz.prog W =.ok (.tuple #[.agg #[.int .i64 0,.string ⟨#[]⟩],.bool false]) W:=by kernel_rfl
theorem gM (x:Value)(W:World):(Instr.typeAssert (.iface 259 x) 250 258 true).run Tryz.prog W =.ok (.tuple #[.agg #[.int .i64 0,.nilIface],.bool false]) W:=by kernel_rfl
theorem uw {bs:List Nat}(c2:lv= (frs.length+1:Nat))(h:dT B w xb frs none bs)(hw:∀f fs,frs=f::fs->bH f=false)(hl:frs.length<=4294967296)(hB:B<=w.heap.size):Calls Tryz.prog 123 #[.pointer (some ⟨xb,0,none⟩),.iface 252 (.agg #[.int .i64 lv,.int .i64 5])] w fun e w'=>km B xb ⟨⟨false, [], [],none⟩::frs,0,none⟩ w e w':=by
 have c1:=H8 (jq (h.below (ac w (.cells #[.int .i64 lv,.int .i64 5] 252))) hw hl);rw[<-c2] at c1;have H:=H8 (h.below (ac w (.cells #[.int .i64 lv,.int .i64 5] 252)));have a4:=H8 (ac w (.cells #[.int .i64 lv,.int .i64 5] 252));have a3:=H8 (Zf w (.cells #[.int .i64 lv,.int .i64 5] 252));have HB:=H8 hB;obtain⟨m,hm⟩:∃m,frs.length=m:=⟨_,rfl⟩;rw[hm] at hl;have Hm:=H8 hm;clear h c2 hw hB hm;have q1:=we;go_enter Tryz.func123,Tryz.ntmps123;go_wp2_with fail;refine Za c1 ?_;rintro e w' ⟨rfl,b4⟩;rw[b4] at H a4 a3;obtain⟨pv,dv,us,h⟩:=H.out;obtain⟨A,q,b3,-⟩:=af h.parts;rw[Hm.out] at b3;subst b3;have c0:=aa h.row (j:=0) (u:=.slice A m q) rfl;have f0:=aj h.row 0;have e1:=aa a3.out (j:=1) rfl;have HA:=H8 h;clear h b4 H;go_wp2_with fail;obtain⟨wr,a5⟩:∃wr,w'.drew=wr:=⟨_,rfl⟩;have a2:Below w'.heap.size w' wr:=by rw[<-a5];exact(Ze _ _).drew
 have b5:wr.heap.size=w'.heap.size:=by rw[<-a5];rfl
 have C0:=H8 (Zg a2 c0);have E1:=H8 (Zg a2 e1);have a9:wr.heap[xb]?=some (.cells #[.slice A m q,dv] 212 (0,0)):=ai HA.out.row a2;have a1:=H8 (ac wr (.cells #[.int .i64 5,.slice none 0 0,.slice none 0 0,.string ⟨#[]⟩,.bool false] 254));have c6:=H8 (ar wr [.int .i64 5,.slice none 0 0,.slice none 0 0,.string ⟨#[]⟩,.bool false] 254);have b0:w'.ownsRow B 254 5 (.slice A m q) m us.reverse.flatten:=by have:=HA.out.parts;rwa[Hm.out] at this
 have b2:=H8 (ag (ag b0 a2 (Zb _)) a1.out (Zb _));have b8:=H8 (ai a9 a1.out);have c3:=H8 (aG b2.out b8.out (by decide));have b1:=H8 a2;have b9:=H8 b5;clear c0 f0 e1 a2 b5 a9 b0;refine ce (fun w2=>w2.cell? ⟨xb,0,none⟩=some (.slice A m q)/\w2.cell? ⟨w.heap.size,1,none⟩=some (.int .i64 5)) 12 ((by rw[a5];exact⟨C0.out,E1.out⟩)) fun a0=>?_
 rw[a5] at a0 ⊢;clear a5;refine tZ 0 a0 ?_;refine tZ 1 a0 ?_;refine tZ 2 a0 ?_;refine tZ 3 a0 ?_;refine tZ 4 a0 ?_;refine tZ 5 a0 ?_
 try simp only[Act.put,jP,jQ,jR]
 refine tZ 6 a0 ?_;refine tZ 7 a0 ?_
 try simp only[Act.put,jP,jQ,jR]
 refine rZ 8 fun K hK=>?_
 go_simp;refine hK.out _ _ (fun _=>⟨Zg a1.out a0.1,Zg a1.out a0.2⟩) (fun a0=>?_);clear hK K;have a0:=a0 (by decide)
 try simp only[Act.put,jP,jQ,jR]
 refine rZ 9 fun K hK=>?_
 refine nZ AR b2.out c6.out (by have:=b9.out;have:=a1.out.size;have:=a4.out.size;have:=HB.out;omega) ?_;intro v' w5 p1 p2 p3;obtain⟨A5,q5,rfl,-,-,-⟩:=af p1;have g5:=ay b8.out p2 c3.out;have f5:=aj g5 0;have k5:w5.cell? ⟨xb,0,none⟩=some (.slice A m q):=aa g5 (j:=0) rfl;have k6:w5.cell? ⟨w.heap.size,1,none⟩=some (.int .i64 5):=(dS (ay (ai (ai a3.out b1.out) a1.out) p2 (aG b2.out (ai (ai a3.out b1.out) a1.out) (by decide))) a3.out _).trans (aa a3.out (j:=1) rfl);have G5:=H8 g5;have HK:=H8 p1;have HG:=H8 p2;clear p1 p2 p3 g5;refine hK.out _ _ (fun _=>⟨k5,k6⟩) (fun a0=>?_);clear hK K;have a0:=a0 (by decide)
 try simp only[Act.put,jP,jQ,jR]
 refine rZ 10 fun K hK=>?_
 go_simp;refine hK.out _ _ (fun _=>a0) (fun a0=>?_);clear hK K;have a0:=a0 (by decide)
 try simp only[Act.put,jP,jQ,jR]
 refine tZ 11 a0 ?_
 try simp only[Act.put,jP,jQ,jR]
 refine rZ 12 fun K hK=>?_
 go_simp;refine hK.out _ _ (fun h=>absurd rfl h) (fun _=>?_);clear hK K
 try simp only[Act.put,jP,jQ,jR]
 refine aI (by kernel_rfl) (NoPanic.normal ?_) _;go_end0;have c4:=HA.out.low;have c5:aM (fun k=>(Value.slice A m q).ownBlock=some k) w' w5:=(aM.of_below ((b1.out).trans (a1.out.mono (by have:=b9.out;omega)))).trans (aM.grown HG.out) fun i hi=>.inl hi
 obtain⟨r1,r2,r3⟩:=rU (o:=false) HA.out (by have:=a4.out.size;have:=HB.out;omega) c5 (by rw[Hm.out];exact HK.out) (G5.out.trans HA.out.row.symm);exact⟨rfl,(a4.out.mono HB.out).trans r1,(Kp.of_below TB a4.out).trans r2,_,r3⟩
theorem t6 {bs:List Nat}(c2:lv= (frs.length+1:Nat))(h:dT B w xb frs none bs)(hw:∀f fs,frs=f::fs->bH f=false)(hl:frs.length<=4294967296)(hB:B<=w.heap.size):Calls Tryz.prog 123 #[.pointer (some ⟨xb,0,none⟩),.iface 252 (.agg #[.int .i64 lv,.int .i64 6])] w fun e w'=>km B xb ⟨⟨true, [], [],none⟩::frs,0,none⟩ w e w':=by
 have c1:=H8 (jq (h.below (ac w (.cells #[.int .i64 lv,.int .i64 6] 252))) hw hl);rw[<-c2] at c1;have H:=H8 (h.below (ac w (.cells #[.int .i64 lv,.int .i64 6] 252)));have a4:=H8 (ac w (.cells #[.int .i64 lv,.int .i64 6] 252));have a3:=H8 (Zf w (.cells #[.int .i64 lv,.int .i64 6] 252));have HB:=H8 hB;obtain⟨m,hm⟩:∃m,frs.length=m:=⟨_,rfl⟩;rw[hm] at hl;have Hm:=H8 hm;clear h c2 hw hB hm;have q1:=we;go_enter Tryz.func123,Tryz.ntmps123;go_wp2_with fail;refine Za c1 ?_;rintro e w' ⟨rfl,b4⟩;rw[b4] at H a4 a3;obtain⟨pv,dv,us,h⟩:=H.out;obtain⟨A,q,b3,-⟩:=af h.parts;rw[Hm.out] at b3;subst b3;have c0:=aa h.row (j:=0) (u:=.slice A m q) rfl;have f0:=aj h.row 0;have e1:=aa a3.out (j:=1) rfl;have HA:=H8 h;clear h b4 H;go_wp2_with fail;obtain⟨wr,a5⟩:∃wr,w'.drew=wr:=⟨_,rfl⟩;have a2:Below w'.heap.size w' wr:=by rw[<-a5];exact(Ze _ _).drew
 have b5:wr.heap.size=w'.heap.size:=by rw[<-a5];rfl
 have C0:=H8 (Zg a2 c0);have E1:=H8 (Zg a2 e1);have a9:wr.heap[xb]?=some (.cells #[.slice A m q,dv] 212 (0,0)):=ai HA.out.row a2;have a1:=H8 (ac wr (.cells #[.int .i64 6,.slice none 0 0,.slice none 0 0,.string ⟨#[]⟩,.bool false] 254));have c6:=H8 (ar wr [.int .i64 6,.slice none 0 0,.slice none 0 0,.string ⟨#[]⟩,.bool false] 254);have b0:w'.ownsRow B 254 5 (.slice A m q) m us.reverse.flatten:=by have:=HA.out.parts;rwa[Hm.out] at this
 have b2:=H8 (ag (ag b0 a2 (Zb _)) a1.out (Zb _));have b8:=H8 (ai a9 a1.out);have c3:=H8 (aG b2.out b8.out (by decide));have b1:=H8 a2;have b9:=H8 b5;clear c0 f0 e1 a2 b5 a9 b0;refine ce (fun w2=>w2.cell? ⟨xb,0,none⟩=some (.slice A m q)/\w2.cell? ⟨w.heap.size,1,none⟩=some (.int .i64 6)) 12 ((by rw[a5];exact⟨C0.out,E1.out⟩)) fun a0=>?_
 rw[a5] at a0 ⊢;clear a5;refine tZ 0 a0 ?_;refine tZ 1 a0 ?_;refine tZ 2 a0 ?_;refine tZ 3 a0 ?_;refine tZ 4 a0 ?_;refine tZ 5 a0 ?_
 try simp only[Act.put,jP,jQ,jR]
 refine tZ 6 a0 ?_;refine tZ 7 a0 ?_
 try simp only[Act.put,jP,jQ,jR]
 refine rZ 8 fun K hK=>?_
 go_simp;refine hK.out _ _ (fun _=>⟨Zg a1.out a0.1,Zg a1.out a0.2⟩) (fun a0=>?_);clear hK K;have a0:=a0 (by decide)
 try simp only[Act.put,jP,jQ,jR]
 refine rZ 9 fun K hK=>?_
 refine nZ AR b2.out c6.out (by have:=b9.out;have:=a1.out.size;have:=a4.out.size;have:=HB.out;omega) ?_;intro v' w5 p1 p2 p3;obtain⟨A5,q5,rfl,-,-,-⟩:=af p1;have g5:=ay b8.out p2 c3.out;have f5:=aj g5 0;have k5:w5.cell? ⟨xb,0,none⟩=some (.slice A m q):=aa g5 (j:=0) rfl;have k6:w5.cell? ⟨w.heap.size,1,none⟩=some (.int .i64 6):=(dS (ay (ai (ai a3.out b1.out) a1.out) p2 (aG b2.out (ai (ai a3.out b1.out) a1.out) (by decide))) a3.out _).trans (aa a3.out (j:=1) rfl);have G5:=H8 g5;have HK:=H8 p1;have HG:=H8 p2;clear p1 p2 p3 g5;refine hK.out _ _ (fun _=>⟨k5,k6⟩) (fun a0=>?_);clear hK K;have a0:=a0 (by decide)
 try simp only[Act.put,jP,jQ,jR]
 refine rZ 10 fun K hK=>?_
 go_simp;refine hK.out _ _ (fun _=>a0) (fun a0=>?_);clear hK K;have a0:=a0 (by decide)
 try simp only[Act.put,jP,jQ,jR]
 refine tZ 11 a0 ?_
 try simp only[Act.put,jP,jQ,jR]
 refine rZ 12 fun K hK=>?_
 go_simp;refine hK.out _ _ (fun h=>absurd rfl h) (fun _=>?_);clear hK K
 try simp only[Act.put,jP,jQ,jR]
 refine aI (by kernel_rfl) (NoPanic.normal ?_) _;go_end0;have c4:=HA.out.low;have c5:aM (fun k=>(Value.slice A m q).ownBlock=some k) w' w5:=(aM.of_below ((b1.out).trans (a1.out.mono (by have:=b9.out;omega)))).trans (aM.grown HG.out) fun i hi=>.inl hi
 obtain⟨r1,r2,r3⟩:=rU (o:=true) HA.out (by have:=a4.out.size;have:=HB.out;omega) c5 (by rw[Hm.out];exact HK.out) (G5.out.trans HA.out.row.symm);exact⟨rfl,(a4.out.mono HB.out).trans r1,(Kp.of_below TB a4.out).trans r2,_,r3⟩
theorem xH {bs:List Nat}{s:ByteArray}(f9:lv= (fs.length+1:Nat))(h:dT B w xb (f::fs) none bs)(ho:f.obj=true)(f2:f.name=none)(hl:fs.length<=4294967296)(hB:B<=w.heap.size):Calls Tryz.prog 123 #[.pointer (some ⟨xb,0,none⟩),.iface 256 (.agg #[.int .i64 lv,.string s])] w (km B xb ⟨{f with name:=some s}::fs,4,none⟩ w):=by
 have c1:=ac w (.cells #[.int .i64 lv,.string s] 256);have d1:=h.below c1;have b5:=H8 (Zf w (.cells #[.int .i64 lv,.string s] 256));obtain⟨w1,c8⟩:∃w1,w.alloc (.cells #[.int .i64 lv,.string s] 256)=w1:=⟨_,rfl⟩;rw[c8] at c1 d1 b5;obtain⟨pv,dv,us,h1⟩:=d1;obtain⟨d6,h2,h3,h4,h5,h6,h7⟩:=id h1
 cases us with
 |nil=>have:=h4.1;simp at this
 |cons u us=>
 have d9:us.length=fs.length:=by have:=h4.1;simpa using this
 have a4:∀x∈u::us,x.length=5:=fun x hx=>by
  obtain⟨i,hi,rfl⟩:=List.getElem_of_mem hx;exact(h4.2 i _ ((f::fs)[i]'(by have:=h4.1;omega)) (Zd hi) (Zd _)).len
 rw[List.length_cons,<-d9] at h3;obtain⟨pb,q,f8,hT⟩:=dm h3 a4;obtain⟨f0,a1,c7,b3,b9⟩:=hT;obtain⟨iv,mv,s0,xs,L,hu,f1,d4,b0,d0,b4,a3,e2,e4⟩:=h4.2 0 u f rfl rfl;obtain rfl:=e2 ho;obtain⟨Ai,qi,rfl,-⟩:=af d0;subst f0 hu;obtain⟨m,hm⟩:∃m,m=us.length:=⟨_,rfl⟩;rw[<-hm] at a1 b3 b9;have c0:=aa d6 (j:=0) (u:=.slice (some ⟨pb,0,none⟩) (m+1) q) (by rw[hm];rfl);have k0:=a1 0 _ rfl;have k3:=a1 3 _ rfl;have k4:=a1 4 _ rfl;rw[ho] at k0;rw[f2] at k4;simp only[if_true] at k0;rw[Nat.add_zero] at k0;obtain⟨cur,b1⟩:=c7;have f3:=aj b1 (m*5+3);have e0:=aa b5.out (j:=0) (u:=.int .i64 lv) rfl;have e1:=aa b5.out (j:=1) (u:=.string s) rfl;have s1:IntKind.i64.wrap (m:Int)= (m:Int):=IntWalk.i64_in _ (by omega);have e5:(((m+1:Nat):Int)==0)=false:=by simp only[beq_eq_false_iff_ne];omega
 have a5:lv= (m:Int)+1:=by omega
 have g2:=H8 a5;have HA:=H8 h1;have a2:=H8 b1;have Hm:=H8 hm;have Hl:=H8 a4;have H3:=H8 h3;have f5:=H8 (And.intro d4 (And.intro b0 (And.intro d0 (And.intro b4 a3))));have c4:=H8 c1;have HB:=H8 hB;have q1:=CW;have q2:=pf;have f7:(lv== (m:Int)+1)=true:=by rw[a5];simp
 have d2:(lv != (m:Int)+1)=false:=by rw[a5];simp
 clear h h1 d6 h2 h3 h4 h5 h6 h7 d4 b0 d0 b4 a3 e2 e4 a1 b1 a4 f1 d9 hm f9 a5 c1 hB b3 b9;go_enter Tryz.func123,Tryz.ntmps123;go_wp2_with fail
 try rw[c8]
 obtain⟨wr,c3⟩:∃wr,w1.drew=wr:=⟨_,rfl⟩;have a9:Below w1.heap.size w1 wr:=by rw[<-c3];exact(Ze _ _).drew
 have C0:=H8 (Zg a9 c0);have E1:=H8 (Zg a9 e1);have k3r:=Zg a9 k3;have gr:=ai a2.out a9;have f3r:=aj gr (m*5+3);have K4:=H8 (Zg a9 k4);have Gr:=H8 gr;have g1:=H8 (ai HA.out.row a9);have g0:=H8 (ai b5.out a9);have c9:=H8 a9;have d3:pb≠xb:=fun e=>by
  have:=HA.out.row;rw[<-e,a2.out] at this;injection this with this
  injection this with _ this _
  exact absurd this (by decide)
 have b2:pb≠w.heap.size:=fun e=>by
  have:=b5.out;rw[<-e,a2.out] at this;injection this with this
  injection this with _ this _
  exact absurd this (by decide)
 have c6:=H8 d3;have c5:=H8 b2;clear c0 k0 k3 k4 f3 e0 e1 gr a9 d3 b2 c8;refine bp (fun w2=>w2.cell? ⟨xb,0,none⟩=some (.slice (some ⟨pb,0,none⟩) (m+1) q)/\w2.cell? ⟨w.heap.size,1,none⟩=some (.string s)) ((by rw[c3];exact⟨C0.out,E1.out⟩)) fun a0=>?_
 refine tH 0 a0 ?_;refine tH 1 a0 ?_;refine tH 2 a0 ?_;refine tH 3 a0 ?_;refine tH 4 a0 ?_;refine tH 5 a0 ?_
 try simp only[Act.put,jP,jQ,jR]
 refine tH 6 a0 ?_;refine tH 7 a0 ?_;refine tH 8 a0 ?_;refine tH 9 a0 ?_;refine tH 10 a0 ?_;refine tH 11 a0 ?_
 try simp only[Act.put,jP,jQ,jR]
 refine tH 12 a0 ?_;refine tH 13 a0 ?_;refine tH 14 a0 ?_;refine tH 15 a0 ?_
 try simp only[Act.put,jP,jQ,jR]
 refine rH 16 fun K hK=>?_
 rw[c3] at a0 ⊢;go_simp;refine hK.out _ _ (⟨(World.cell?_setCell_far _ _ _ _ c6.out).trans C0.out,(World.cell?_setCell_far _ _ _ _ c5.out).trans E1.out⟩) (fun a0=>?_);clear hK K
 try simp only[Act.put,jP,jQ,jR]
 refine tH 17 a0 ?_;refine tH 18 a0 ?_
 try simp only[Act.put,jP,jQ,jR]
 refine rH 19 fun K hK=>?_
 have g4:=au Gr.out (m*5+3) (.string s);have f4:=aj g4 (m*5+4);have k4:=(kg Gr.out (show m*5+3≠m*5+4 by omega) (.string s)).trans K4.out;go_simp;refine hK.out _ _ (⟨(World.cell?_setCell_far _ _ _ _ c6.out).trans ((World.cell?_setCell_far _ _ _ _ c6.out).trans C0.out),(World.cell?_setCell_far _ _ _ _ c5.out).trans ((World.cell?_setCell_far _ _ _ _ c5.out).trans E1.out)⟩) (fun a0=>?_);clear hK K
 try simp only[Act.put,jP,jQ,jR]
 refine wpAnyH_done (by kernel_rfl) (NoPanic.normal ?_) _;clear a0 k3r f3r;go_end0;obtain rfl:=Hm.out;have f6:wr.ownsRow B 254 5 (.slice (some ⟨pb,0,none⟩) (us.length+1) q) (us.length+1) (([.int .i64 (if f.obj=true then 6 else 5),.slice none 0 0,.slice Ai L.length qi,.string s0,.bool f.name.isSome]:List Value)::us).reverse.flatten:=ag H3.out c9.out (Zb _);have c2:=du f6 Hl.out (j:=3) (by decide) (.string s);have b8:=du c2 (fun x hx=>by rcases List.mem_cons.1 hx with rfl|hx;(· rfl);exact Hl.out x (Zl _ hx)) (j:=4) (by decide) (.bool true);have e3:aM (fun k=>k=pb) wr ((wr.setCell ⟨pb,us.length*5+3,none⟩ (.string s)).setCell ⟨pb,us.length*5+4,none⟩ (.bool true)):=
  (aM.set pb _ _).trans (aM.set pb _ _) fun i h=>.inl h
 have e6:B<=w1.heap.size:=Zc HB.out c4.out.size;have b2:=pe HA.out a2.out f8 e6 (aM.of_below c9.out) e3 b8 (fun g hg=>.inl (by
  have hg:g∈bD [.int .i64 (if f.obj=true then 6 else 5),.slice none 0 0,.slice Ai L.length qi,.string s,.bool true]:=hg;rw[gv] at hg ⊢;exact hg)) (by
  show(bD [_,_,_,_,_]).Nodup
  rw[gv];exact jC _) (f':={f with name:=some s}) (fun hm ht d5=>?_)
 ·exact⟨rfl,(c4.out.mono HB.out).trans b2.1,(Kp.of_below TB c4.out).trans b2.2.1,_,b2.2.2⟩
 obtain⟨m1,m2,m3,m4,m5⟩:=f5.out;have hne:=aG m3 a2.out (by decide);refine⟨.slice none 0 0,.slice Ai L.length qi,s,xs,L,rfl,fun t e=>Zi e,?_,?_,?_,m4,?_,fun _=>rfl,fun e=>?_⟩
 ·exact be m1 fun b hb=>by cases hb
 ·exact m2.mono fun _ _ h=>h.move hm ht d5
 ·exact be m3 fun b hb=>((aM.of_below c9.out).trans e3 (fun i h=>.inl h)).block b (ah (al m3 hb).2.choose_spec) fun e=>hne (by rw[hb,e])
 ·exact m5.mono fun _ _ h=>h.move hm ht d5
 ·exact absurd (ho.symm.trans e) (by decide)
def iO (frs:List Fr):Prop:=frs.length<=4294967296/\∀f fs,frs=f::fs->bH f=false/\f.items.length<=4294967296/\f.mems.length<=4294967296
theorem oX {bs:List Nat}(h:dT B w xb frs none bs)(hT:iO frs)(hv:VW (Pb B bs) w v j)(hB:B<=w.heap.size):Calls Tryz.prog 152 #[.pointer (some ⟨xb,0,none⟩),v] w (km B xb (bt frs j) w):=by
 cases frs with
 |nil=>exact zm h hv hB
 |cons f fs=>
  obtain⟨h1,h2,h3⟩:=hT.2 f fs rfl;have hl:=hT.1;rw[List.length_cons] at hl
  by_cases ho:f.obj=true
  ·have hn:f.name.isSome=true:=by
    simp only[bH,ho,Bool.true_and] at h1
    cases hn:f.name with
    |none=>rw[hn] at h1;cases h1
    |some _=>rfl
   exact Cu h ho hv hB hn h3 (by omega)
  ·exact yF h (by simpa using ho) hv hB h2 (by omega)
theorem nh {bs:List Nat}(a4:lv= (frs.length+1:Nat))(h:dT B w xb frs none bs)(hT:iO frs)(hv:VW (Pb B bs) w v j)(hB:B<=w.heap.size):Calls Tryz.prog 123 #[.pointer (some ⟨xb,0,none⟩),.iface 258 (.agg #[.int .i64 lv,v])] w (km B xb (bt frs j) w):=by
 have a0:=ac w (.cells #[.int .i64 lv,v] 258);have a1:=h.below a0;have a3:=H8 (jq a1 (fun f fs e=>(hT.2 f fs e).1) hT.1);rw[<-a4] at a3;have a5:=H8 (oX a1 hT (hv.move (bs':=bs) (Mv.of_below (top:= []) a0) (by simp) (fun g hg=>.inl hg)) (Zc hB a0.size));have e1:=aa (Zf w (.cells #[.int .i64 lv,v] 258)) (j:=1) rfl;have a2:=H8 a0;have HB:=H8 hB;have q1:=CJ;have q2:=oo;have q3:=oO;obtain⟨tv,xv,rfl⟩:=hv.iface;clear h a1 hT hv hB a4 a0;go_enter Tryz.func123,Tryz.ntmps123;go_wp2_with fail;refine Za a3 ?_;rintro e w' ⟨rfl,rfl⟩;go_wp2_with fail;refine Za a5 ?_;rintro e w' ⟨rfl,h1,h2,h3⟩;have R:=H8 (And.intro h1 (And.intro h2 h3));clear h1 h2 h3;go_wp2_with fail;go_end0;exact⟨rfl,(a2.out.mono HB.out).trans R.out.1,(Kp.of_below TB a2.out).trans R.out.2.1,R.out.2.2⟩
theorem ie {k:Nat}{xs ys:List Value}(h:w.ownsRow B e k (.slice A (n+1) q) (n+1) (xs++ys))(hx:xs.length=n*k):w.ownsRow B e k (.slice A n q) n xs:=by
 obtain⟨h1,⟨e1,h0⟩|⟨g,cap,cur,e1,hb,hg,h2,h3,h4,h5⟩⟩:=h
 ·cases e1
 ·obtain⟨rfl,-,rfl⟩:=Value.slice.inj e1;refine⟨hx,.inr ⟨g,q,cur,rfl,hb,hg,by omega,h3,h4,?_⟩⟩;have:=congrArg (List.take (n*k)) h5;rw[List.take_take,Nat.min_eq_left (Nat.mul_le_mul_right k (Nat.le_succ n)),List.take_left' hx] at this;exact this
theorem DH:∀ (L:List (List Value)),(∀x∈L,x.length=5)->L.flatten.length=L.length*5
 | [],_=>rfl
 |a::L,h=>by rw[List.flatten_cons,List.length_append,DH L (fun x hx=>h x (Zl _ hx)),h a (by simp),List.length_cons];omega
theorem vy {done:Option JV}{u:List Value}{us:List (List Value)}{bs:List Nat}(h:xj B w xb (f::fs) done (.slice (some ⟨pb,0,none⟩) (us.length+1) q) dv (u::us) bs)(hB:B<=w.heap.size) :
  Below B w (w.setCell ⟨xb,0,none⟩ (.slice (some ⟨pb,0,none⟩) us.length q))/\Kp (fun e=>e=212) w (w.setCell ⟨xb,0,none⟩ (.slice (some ⟨pb,0,none⟩) us.length q))/\(∀g∈us.flatMap bD,g∈bs)/\dT B (w.setCell ⟨xb,0,none⟩ (.slice (some ⟨pb,0,none⟩) us.length q)) xb fs done (us.flatMap bD):=by
 obtain⟨h1,h2,h3,h4,h5,h6,h7⟩:=h;have a3:=aM.set (w:=w) xb 0 (.slice (some ⟨pb,0,none⟩) us.length q);have hk:Kp (fun e=>e=212) w (w.setCell ⟨xb,0,none⟩ (.slice (some ⟨pb,0,none⟩) us.length q)):=Kp.of_chg a3 fun g e _=>by subst e;exact⟨_,_,_,h1,rfl⟩
 have hm:Mv [] w (w.setCell ⟨xb,0,none⟩ (.slice (some ⟨pb,0,none⟩) us.length q)):=Mv.of_kp hk fun e he=>by rcases he with rfl|rfl|rfl|rfl <;> decide
 have a2:us.length=fs.length:=by have:=h4.1;simpa using this
 have a1:∀g∈us.flatMap bD,g∈bs:=fun g hg=>by rw[<-h5];exact List.mem_append_right _ hg
 have a4:∀g∈us.flatMap bD,g∈bs\/w.heap.size<=g:=fun g h=>.inl (a1 g h)
 have a0:∀x∈u::us,x.length=5:=fun x hx=>by
  obtain⟨i,hi,rfl⟩:=List.getElem_of_mem hx;exact(h4.2 i _ ((f::fs)[i]'(by have:=h4.1;omega)) (Zd hi) (Zd _)).len
 refine⟨a3.below hB (fun i e=>by rw[e];exact h2),hk,a1,.slice (some ⟨pb,0,none⟩) us.length q,dv,us,au h1 0 _,h2,?_,⟨a2,fun i a b h1 h2=>?_⟩,rfl,?_,h7.move hm (by simp) a4⟩
 ·rw[List.length_cons,<-a2,List.reverse_cons,List.flatten_append] at h3;rw[<-a2];refine av (ie h3 ?_) hk.keeps (by decide);rw[DH _ fun x hx=>a0 x (Zl _ (List.mem_reverse.1 hx)),List.length_reverse]
 ·exact(h4.2 (i+1) a b (by simpa using h1) (by simpa using h2)).move hm (by simp) a4 (by simp)
 ·rw[<-h5] at h6;exact(List.nodup_append.1 h6).2.1
