import Derived.Test.YtgkkffeagolnpaaGreatDoorGZ16aw
set_option linter.unusedVariables false
set_option linter.unusedSimpArgs false
set_option maxHeartbeats 64000000
set_option maxRecDepth 100000
namespace Go.Proofs.YtgkkffeagolnpaaGreatDoor
open Go.RowKit
variable {f:Fr}{lv:Int}{j:JV}{ms:List (ByteArray×JV)}{S:List (ByteArray×Value)}{frs fs:List Fr}{ks:List JV}{us:List Value}{B c g n pb q xb:Nat}{Q:Nat->Prop}{A:Option Addr}{e:TypeId}{dv pv v:Value}{w w5:World}
theorem zi {α β:Type}{f:α->β}{S L:List β}(hp:S.Perm L):∀ {Z:List α},Z.map f=L->∃Z':List α,Z'.Perm Z/\Z'.map f=S:=by
 induction hp with
 |nil=>intro Z h;exact⟨Z,List.Perm.refl _,h⟩
 |cons x _ ih=>
  intro Z h
  cases Z with
  |nil=>cases h
  |cons z Z=>
   rw[List.map_cons] at h;injection h with h1 h2
   obtain⟨Z',h3,h4⟩:=ih h2;exact⟨z::Z',h3.cons z,by rw[List.map_cons,h1,h4]⟩
 |swap x y l=>
  intro Z h
  match Z,h with
  |a::b::Z,h=>
   simp only[List.map_cons] at h;injection h with h1 h2
   injection h2 with h2 h3
   exact⟨b::a::Z,List.Perm.swap a b Z,by simp[h1,h2,h3]⟩
 |trans _ _ ih1 ih2=>
  intro Z h;obtain⟨Z1,h1,h2⟩:=ih2 h;obtain⟨Z2,h3,h4⟩:=ih1 h2;exact⟨Z2,h3.trans h1,h4⟩
theorem GH (S:List (ByteArray×Value)):gn S=sU (S.map Prod.fst) (S.map Prod.snd):=by
 unfold gn sU
 congr 1
 induction S with
 |nil=>rfl
 |cons p S ih=>simp[<-ih]
theorem Cb {L:List (ByteArray×Value)}(hg:w.heap[g]?=some (.cells #[.slice A S.length c] 161 (0,0)))(hr:bO Q w 82 2 A S.length c (gn S))(hQ:Q g)(hp:S.Perm L)(hs:(S.map Prod.fst).Pairwise iC)
  (hn:L.map Prod.fst=ms.map Prod.fst) (hv:ch (VW Q w) (L.map Prod.snd) (ms.map Prod.snd)):VW Q w (.iface 95 (.pointer (some ⟨g,0,none⟩))) (fV (cW ms)):=by
 have hl:L.length=ms.length:=by have:=congrArg List.length hn;simpa using this
 have hz:(L.zip ms).map Prod.fst=L:=List.map_fst_zip (by omega);have a4:(L.zip ms).map Prod.snd=ms:=List.map_snd_zip (by omega);obtain⟨Z,hZ,a1⟩:=zi hp hz;have a0:∀z∈L.zip ms,z.1.1=z.2.1/\VW Q w z.1.2 z.2.2:=by
  intro z hz;obtain⟨i,hi,rfl⟩:=List.getElem_of_mem hz;rw[List.length_zip] at hi;have h1:L[i]?=some L[i]:=Zd (by omega);have h2:ms[i]?=some ms[i]:=Zd (by omega);rw[List.getElem_zip];refine⟨?_,hv.2 i _ _ (by rw[List.getElem?_map,h1];rfl) (by rw[List.getElem?_map,h2];rfl)⟩;have:=congrArg (·[i]?) hn;simp only[List.getElem?_map,h1,h2,Option.map_some] at this;exact Zi this
 have a5:cW ms=Z.map Prod.snd:=by
  refine BC ?_ ?_
  ·have:=(hZ.map Prod.snd).symm
   rwa[a4] at this
  ·have e:(Z.map Prod.snd).map Prod.fst=S.map Prod.fst:=by
    rw[<-a1,List.map_map,List.map_map];exact List.map_congr_left fun z hz=>(a0 z (hZ.mem_iff.1 hz)).1.symm
   rw[e];exact hs
 rw[a5];have a2:S.map Prod.fst= (Z.map Prod.snd).map Prod.fst:=by
  rw[<-a1,List.map_map,List.map_map];exact List.map_congr_left fun z hz=>(a0 z (hZ.mem_iff.1 hz)).1
 have a3:S.length=Z.length:=by rw[<-a1];simp
 unfold fV;rw[<-a2];refine VW.obj g A c (S.map Prod.snd) (S.map Prod.fst) _ hQ (by rw[List.length_map];exact hg) (by rw[List.length_map,<-GH];exact hr) (by simp[a3]) (by simp[a3]) fun i u k h1 h2=>?_
 rw[List.getElem?_map,<-a1,List.getElem?_map] at h1;rw[List.getElem?_map,List.getElem?_map] at h2
 cases hz3:Z[i]? with
 |none=>rw[hz3] at h1;cases h1
 |some z=>
  rw[hz3] at h1 h2;obtain rfl:=Zi h1;obtain rfl:=Zi h2;exact(a0 z (hZ.mem_iff.1 (Zk hz3))).2
theorem wP (hg:w.heap[g]?=some (.cells #[.slice A us.length c] 273 (0,0)))(hr:bO Q w 80 1 A us.length c us)(hQ:Q g)(hv:ch (VW Q w) us ks):VW Q w (.iface 104 (.pointer (some ⟨g,0,none⟩))) (cJ ks):=
 VW.list g A c us ks hQ hg hr hv.1 fun i u k h1 h2=>hv.2 i u k h1 h2
theorem sq {done:Option JV}{pv':Value}{us:List (List Value)}{bs:List Nat}{o:Bool}(h:xS B w xb frs done pv dv us bs)(hB:B<=w.heap.size)(h5:aP (fun k=>pv.ownBlock=some k) w w5)
  (hp:w5.ownsRow B 246 5 pv' (frs.length+1) (us.reverse.flatten ++ [.int .i64 (if o then 6 else 5),.slice none 0 0,.slice none 0 0,.string ⟨#[]⟩,.bool false])) (hg:w5.heap[xb]?=w.heap[xb]?) :
  Below B w (w5.setCell ⟨xb,0,none⟩ pv')/\Kp TB w (w5.setCell ⟨xb,0,none⟩ pv')/\d8 B (w5.setCell ⟨xb,0,none⟩ pv') xb (⟨o, [], [],none⟩::frs) done bs:=by
 obtain⟨h1,h2,h3,h4,a4,h6,h7⟩:=h;have a3:w5.heap[xb]?=some (.cells #[pv,dv] 200 (0,0)):=hg.trans h1;have a0:aP (fun k=>pv.ownBlock=some k\/k=xb) w (w5.setCell ⟨xb,0,none⟩ pv'):=(h5.mono fun _ h=>.inl h).trans (aP.set xb 0 pv') fun i hi=>.inl (.inr hi)
 have a1:∀g,(pv.ownBlock=some g\/g=xb)->g<w.heap.size->∃cs e z,w.heap[g]?=some (.cells cs e z)/\(e=246\/e=200):=by
  intro g hg _;rcases hg with hg|rfl
  ·obtain⟨_,cur,hh⟩:=ao h3 hg;exact⟨_,_,_,hh,.inl rfl⟩
  ·exact⟨_,_,_,h1,.inr rfl⟩
 have hm:Mv [] w (w5.setCell ⟨xb,0,none⟩ pv'):=Mv.of_chg a0 fun g hg hl=>by
  obtain⟨cs,e,z,q1,q2⟩:=a1 g hg hl;exact .inr ⟨cs,e,z,q1,by rcases q2 with rfl|rfl <;> (simp only[TV];decide)⟩
 have a2:∀g∈bs,g∈bs\/w.heap.size<=g:=fun g h=>.inl h
 refine⟨a0.below hB (fun i hi=>hi.elim (fun h=>(ao h3 h).1) fun e=>by rw[e];exact h2),Kp.of_chg a0 fun g hg hl=>?_,pv',dv, [.int .i64 (if o then 6 else 5),.slice none 0 0,.slice none 0 0,.string ⟨#[]⟩,.bool false]::us,ar a3 0 pv',h2,?_,?_,?_,h6,h7.move hm (by simp) a2⟩
 ·obtain⟨cs,e,z,q1,q2⟩:=a1 g hg hl;exact⟨cs,e,z,q1,q2.elim (fun h=>.inr (.inr h)) fun h=>.inr (.inl h)⟩
 ·rw[List.length_cons,List.reverse_cons,List.flatten_append];simp only[List.flatten_cons,List.flatten_nil,List.append_nil];have hne:=aL hp a3 (by decide);exact bh hp fun b hb=>(aP.set xb 0 pv').block b (ak (ao hp hb).2.choose_spec) fun e=>hne (by rw[hb,e])
 ·refine ch.cons ⟨.slice none 0 0,.slice none 0 0,⟨#[]⟩, [], [],rfl,fun t e=>(by cases e),⟨rfl,.inl ⟨rfl,rfl⟩⟩,ch.nil _,⟨rfl,.inl ⟨rfl,rfl⟩⟩,rfl,ch.nil _,fun _=>rfl,fun _=>rfl⟩ ?_;exact h4.mono fun _ _ h=>h.move hm (by simp) a2 (by simp)
 ·rw[List.flatMap_cons,a4];rfl
theorem wU (x:Value)(W:World):(Instr.typeAssert (.iface 243 x) 241 243 true).run Tryz.prog W =.ok (.tuple #[x,.bool true]) W:=by kernel_rfl
theorem Es (x:Value)(W:World):(Instr.typeAssert (.iface 248 x) 241 248 true).run Tryz.prog W =.ok (.tuple #[x,.bool true]) W:=by kernel_rfl
theorem pr (x:Value)(W:World):(Instr.typeAssert (.iface 248 x) 241 243 true).run Tryz.prog W =.ok (.tuple #[.agg #[.int .i64 0,.int .i64 0],.bool false]) W:=by kernel_rfl
theorem E7 (x:Value)(W:World):(Instr.typeAssert (.iface 250 x) 241 250 true).run Tryz.prog W =.ok (.tuple #[x,.bool true]) W:=by kernel_rfl
theorem pV (x:Value)(W:World):(Instr.typeAssert (.iface 250 x) 241 243 true).run Tryz.prog W =.ok (.tuple #[.agg #[.int .i64 0,.int .i64 0],.bool false]) W:=by kernel_rfl
theorem qj (x:Value)(W:World):(Instr.typeAssert (.iface 250 x) 241 248 true).run Tryz.prog W =.ok (.tuple #[.agg #[.int .i64 0,.string ⟨#[]⟩],.bool false]) W:=by kernel_rfl
theorem rP (x:Value)(W:World):(Instr.typeAssert (.iface 251 x) 241 251 true).run Tryz.prog W =.ok (.tuple #[x,.bool true]) W:=by kernel_rfl
theorem iW (x:Value)(W:World):(Instr.typeAssert (.iface 251 x) 241 243 true).run Tryz.prog W =.ok (.tuple #[.agg #[.int .i64 0,.int .i64 0],.bool false]) W:=by kernel_rfl
theorem iO (x:Value)(W:World):(Instr.typeAssert (.iface 251 x) 241 248 true).run Tryz.prog W =.ok (.tuple #[.agg #[.int .i64 0,.string ⟨#[]⟩],.bool false]) W:=by kernel_rfl
theorem iY (x:Value)(W:World):(Instr.typeAssert (.iface 251 x) 241 250 true).run Tryz.prog W =.ok (.tuple #[.agg #[.int .i64 0,.nilIface],.bool false]) W:=by kernel_rfl
theorem uy {bs:List Nat}(b5:lv= (frs.length+1:Nat))(h:d8 B w xb frs none bs)(hw:∀f fs,frs=f::fs->bS f=false)(hl:frs.length<=4294967296)(hB:B<=w.heap.size):Calls Tryz.prog 114 #[.pointer (some ⟨xb,0,none⟩),.iface 243 (.agg #[.int .i64 lv,.int .i64 5])] w fun e w'=>lF B xb ⟨⟨false, [], [],none⟩::frs,0,none⟩ w e w':=by
 have b3:=Qa (kC (h.below (aa w (.cells #[.int .i64 lv,.int .i64 5] 243))) hw hl);rw[<-b5] at b3;have H:=Qa (h.below (aa w (.cells #[.int .i64 lv,.int .i64 5] 243)));have a4:=Qa (aa w (.cells #[.int .i64 lv,.int .i64 5] 243));have a2:=Qa (Zf w (.cells #[.int .i64 lv,.int .i64 5] 243));have HB:=Qa hB;obtain⟨m,hm⟩:∃m,frs.length=m:=⟨_,rfl⟩;rw[hm] at hl;have Hm:=Qa hm;clear h b5 hw hB hm;have q1:=wU;go_enter Tryz.func114,Tryz.ntmps114;go_wp2_with fail;refine Za b3 ?_;rintro e w' ⟨rfl,c1⟩;rw[c1] at H a4 a2;obtain⟨pv,dv,us,h⟩:=H.out;obtain⟨A,q,b4,-⟩:=ag h.parts;rw[Hm.out] at b4;subst b4;have c0:=ac h.row (j:=0) (u:=.slice A m q) rfl;have f0:=al h.row 0;have e1:=ac a2.out (j:=1) rfl;have HA:=Qa h;clear h c1 H;go_wp2_with fail;obtain⟨wr,a9⟩:∃wr,w'.drew=wr:=⟨_,rfl⟩;have a3:Below w'.heap.size w' wr:=by rw[<-a9];exact(Ze _ _).drew
 have b9:wr.heap.size=w'.heap.size:=by rw[<-a9];rfl
 have C0:=Qa (Zg a3 c0);have E1:=Qa (Zg a3 e1);have a5:wr.heap[xb]?=some (.cells #[.slice A m q,dv] 200 (0,0)):=ah HA.out.row a3;have a1:=Qa (aa wr (.cells #[.int .i64 5,.slice none 0 0,.slice none 0 0,.string ⟨#[]⟩,.bool false] 246));have c3:=Qa (av wr [.int .i64 5,.slice none 0 0,.slice none 0 0,.string ⟨#[]⟩,.bool false] 246);have b0:w'.ownsRow B 246 5 (.slice A m q) m us.reverse.flatten:=by have:=HA.out.parts;rwa[Hm.out] at this
 have b1:=Qa (ai (ai b0 a3 (Zb _)) a1.out (Zb _));have c2:=Qa (ah a5 a1.out);have c6:=Qa (aL b1.out c2.out (by decide));have b2:=Qa a3;have b8:=Qa b9;clear c0 f0 e1 a3 b9 a5 b0;refine cC (fun w2=>w2.cell? ⟨xb,0,none⟩=some (.slice A m q)/\w2.cell? ⟨w.heap.size,1,none⟩=some (.int .i64 5)) 12 ((by rw[a9];exact⟨C0.out,E1.out⟩)) fun a0=>?_
 rw[a9] at a0 ⊢;clear a9;refine tZ 0 a0 ?_;refine tZ 1 a0 ?_;refine tZ 2 a0 ?_;refine tZ 3 a0 ?_;refine tZ 4 a0 ?_;refine tZ 5 a0 ?_
 try simp only[Act.put,jP,jQ,jR]
 refine tZ 6 a0 ?_;refine tZ 7 a0 ?_
 try simp only[Act.put,jP,jQ,jR]
 refine rZ 8 fun K hK=>?_
 go_simp;refine hK.out _ _ (fun _=>⟨Zg a1.out a0.1,Zg a1.out a0.2⟩) (fun a0=>?_);clear hK K;have a0:=a0 (by decide)
 try simp only[Act.put,jP,jQ,jR]
 refine rZ 9 fun K hK=>?_
 refine xV BG b1.out c3.out (by have:=b8.out;have:=a1.out.size;have:=a4.out.size;have:=HB.out;omega) ?_;intro v' w5 p1 p2 p3;obtain⟨A5,q5,rfl,-,-,-⟩:=ag p1;have g5:=ay c2.out p2 c6.out;have f5:=al g5 0;have k5:w5.cell? ⟨xb,0,none⟩=some (.slice A m q):=ac g5 (j:=0) rfl;have k6:w5.cell? ⟨w.heap.size,1,none⟩=some (.int .i64 5):=(et (ay (ah (ah a2.out b2.out) a1.out) p2 (aL b1.out (ah (ah a2.out b2.out) a1.out) (by decide))) a2.out _).trans (ac a2.out (j:=1) rfl);have G5:=Qa g5;have HK:=Qa p1;have HG:=Qa p2;clear p1 p2 p3 g5;refine hK.out _ _ (fun _=>⟨k5,k6⟩) (fun a0=>?_);clear hK K;have a0:=a0 (by decide)
 try simp only[Act.put,jP,jQ,jR]
 refine rZ 10 fun K hK=>?_
 go_simp;refine hK.out _ _ (fun _=>a0) (fun a0=>?_);clear hK K;have a0:=a0 (by decide)
 try simp only[Act.put,jP,jQ,jR]
 refine tZ 11 a0 ?_
 try simp only[Act.put,jP,jQ,jR]
 refine rZ 12 fun K hK=>?_
 go_simp;refine hK.out _ _ (fun h=>absurd rfl h) (fun _=>?_);clear hK K
 try simp only[Act.put,jP,jQ,jR]
 refine aK (by kernel_rfl) (NoPanic.normal ?_) _;go_end0;have c5:=HA.out.low;have c4:aP (fun k=>(Value.slice A m q).ownBlock=some k) w' w5:=(aP.of_below ((b2.out).trans (a1.out.mono (by have:=b8.out;omega)))).trans (aP.grown HG.out) fun i hi=>.inl hi
 obtain⟨r1,r2,r3⟩:=sq (o:=false) HA.out (by have:=a4.out.size;have:=HB.out;omega) c4 (by rw[Hm.out];exact HK.out) (G5.out.trans HA.out.row.symm);exact⟨rfl,(a4.out.mono HB.out).trans r1,(Kp.of_below TB a4.out).trans r2,_,r3⟩
theorem vZ {bs:List Nat}(b5:lv= (frs.length+1:Nat))(h:d8 B w xb frs none bs)(hw:∀f fs,frs=f::fs->bS f=false)(hl:frs.length<=4294967296)(hB:B<=w.heap.size):Calls Tryz.prog 114 #[.pointer (some ⟨xb,0,none⟩),.iface 243 (.agg #[.int .i64 lv,.int .i64 6])] w fun e w'=>lF B xb ⟨⟨true, [], [],none⟩::frs,0,none⟩ w e w':=by
 have b3:=Qa (kC (h.below (aa w (.cells #[.int .i64 lv,.int .i64 6] 243))) hw hl);rw[<-b5] at b3;have H:=Qa (h.below (aa w (.cells #[.int .i64 lv,.int .i64 6] 243)));have a4:=Qa (aa w (.cells #[.int .i64 lv,.int .i64 6] 243));have a2:=Qa (Zf w (.cells #[.int .i64 lv,.int .i64 6] 243));have HB:=Qa hB;obtain⟨m,hm⟩:∃m,frs.length=m:=⟨_,rfl⟩;rw[hm] at hl;have Hm:=Qa hm;clear h b5 hw hB hm;have q1:=wU;go_enter Tryz.func114,Tryz.ntmps114;go_wp2_with fail;refine Za b3 ?_;rintro e w' ⟨rfl,c1⟩;rw[c1] at H a4 a2;obtain⟨pv,dv,us,h⟩:=H.out;obtain⟨A,q,b4,-⟩:=ag h.parts;rw[Hm.out] at b4;subst b4;have c0:=ac h.row (j:=0) (u:=.slice A m q) rfl;have f0:=al h.row 0;have e1:=ac a2.out (j:=1) rfl;have HA:=Qa h;clear h c1 H;go_wp2_with fail;obtain⟨wr,a9⟩:∃wr,w'.drew=wr:=⟨_,rfl⟩;have a3:Below w'.heap.size w' wr:=by rw[<-a9];exact(Ze _ _).drew
 have b9:wr.heap.size=w'.heap.size:=by rw[<-a9];rfl
 have C0:=Qa (Zg a3 c0);have E1:=Qa (Zg a3 e1);have a5:wr.heap[xb]?=some (.cells #[.slice A m q,dv] 200 (0,0)):=ah HA.out.row a3;have a1:=Qa (aa wr (.cells #[.int .i64 6,.slice none 0 0,.slice none 0 0,.string ⟨#[]⟩,.bool false] 246));have c3:=Qa (av wr [.int .i64 6,.slice none 0 0,.slice none 0 0,.string ⟨#[]⟩,.bool false] 246);have b0:w'.ownsRow B 246 5 (.slice A m q) m us.reverse.flatten:=by have:=HA.out.parts;rwa[Hm.out] at this
 have b1:=Qa (ai (ai b0 a3 (Zb _)) a1.out (Zb _));have c2:=Qa (ah a5 a1.out);have c6:=Qa (aL b1.out c2.out (by decide));have b2:=Qa a3;have b8:=Qa b9;clear c0 f0 e1 a3 b9 a5 b0;refine cC (fun w2=>w2.cell? ⟨xb,0,none⟩=some (.slice A m q)/\w2.cell? ⟨w.heap.size,1,none⟩=some (.int .i64 6)) 12 ((by rw[a9];exact⟨C0.out,E1.out⟩)) fun a0=>?_
 rw[a9] at a0 ⊢;clear a9;refine tZ 0 a0 ?_;refine tZ 1 a0 ?_;refine tZ 2 a0 ?_;refine tZ 3 a0 ?_;refine tZ 4 a0 ?_;refine tZ 5 a0 ?_
 try simp only[Act.put,jP,jQ,jR]
 refine tZ 6 a0 ?_;refine tZ 7 a0 ?_
 try simp only[Act.put,jP,jQ,jR]
 refine rZ 8 fun K hK=>?_
 go_simp;refine hK.out _ _ (fun _=>⟨Zg a1.out a0.1,Zg a1.out a0.2⟩) (fun a0=>?_);clear hK K;have a0:=a0 (by decide)
 try simp only[Act.put,jP,jQ,jR]
 refine rZ 9 fun K hK=>?_
 refine xV BG b1.out c3.out (by have:=b8.out;have:=a1.out.size;have:=a4.out.size;have:=HB.out;omega) ?_;intro v' w5 p1 p2 p3;obtain⟨A5,q5,rfl,-,-,-⟩:=ag p1;have g5:=ay c2.out p2 c6.out;have f5:=al g5 0;have k5:w5.cell? ⟨xb,0,none⟩=some (.slice A m q):=ac g5 (j:=0) rfl;have k6:w5.cell? ⟨w.heap.size,1,none⟩=some (.int .i64 6):=(et (ay (ah (ah a2.out b2.out) a1.out) p2 (aL b1.out (ah (ah a2.out b2.out) a1.out) (by decide))) a2.out _).trans (ac a2.out (j:=1) rfl);have G5:=Qa g5;have HK:=Qa p1;have HG:=Qa p2;clear p1 p2 p3 g5;refine hK.out _ _ (fun _=>⟨k5,k6⟩) (fun a0=>?_);clear hK K;have a0:=a0 (by decide)
 try simp only[Act.put,jP,jQ,jR]
 refine rZ 10 fun K hK=>?_
 go_simp;refine hK.out _ _ (fun _=>a0) (fun a0=>?_);clear hK K;have a0:=a0 (by decide)
 try simp only[Act.put,jP,jQ,jR]
 refine tZ 11 a0 ?_
 try simp only[Act.put,jP,jQ,jR]
 refine rZ 12 fun K hK=>?_
 go_simp;refine hK.out _ _ (fun h=>absurd rfl h) (fun _=>?_);clear hK K
 try simp only[Act.put,jP,jQ,jR]
 refine aK (by kernel_rfl) (NoPanic.normal ?_) _;go_end0;have c5:=HA.out.low;have c4:aP (fun k=>(Value.slice A m q).ownBlock=some k) w' w5:=(aP.of_below ((b2.out).trans (a1.out.mono (by have:=b8.out;omega)))).trans (aP.grown HG.out) fun i hi=>.inl hi
 obtain⟨r1,r2,r3⟩:=sq (o:=true) HA.out (by have:=a4.out.size;have:=HB.out;omega) c4 (by rw[Hm.out];exact HK.out) (G5.out.trans HA.out.row.symm);exact⟨rfl,(a4.out.mono HB.out).trans r1,(Kp.of_below TB a4.out).trans r2,_,r3⟩
theorem yj {bs:List Nat}{s:ByteArray}(e6:lv= (fs.length+1:Nat))(h:d8 B w xb (f::fs) none bs)(ho:f.obj=true)(f9:f.name=none)(hl:fs.length<=4294967296)(hB:B<=w.heap.size):Calls Tryz.prog 114 #[.pointer (some ⟨xb,0,none⟩),.iface 248 (.agg #[.int .i64 lv,.string s])] w (lF B xb ⟨{f with name:=some s}::fs,4,none⟩ w):=by
 have c1:=aa w (.cells #[.int .i64 lv,.string s] 248);have d9:=h.below c1;have b5:=Qa (Zf w (.cells #[.int .i64 lv,.string s] 248));obtain⟨w1,c6⟩:∃w1,w.alloc (.cells #[.int .i64 lv,.string s] 248)=w1:=⟨_,rfl⟩;rw[c6] at c1 d9 b5;obtain⟨pv,dv,us,h1⟩:=d9;obtain⟨e2,h2,h3,h4,h5,h6,h7⟩:=id h1
 cases us with
 |nil=>have:=h4.1;simp at this
 |cons u us=>
 have e3:us.length=fs.length:=by have:=h4.1;simpa using this
 have a4:∀x∈u::us,x.length=5:=fun x hx=>by
  obtain⟨i,hi,rfl⟩:=List.getElem_of_mem hx;exact(h4.2 i _ ((f::fs)[i]'(by have:=h4.1;omega)) (Zd hi) (Zd _)).len
 rw[List.length_cons,<-e3] at h3;obtain⟨pb,q,f2,hT⟩:=dE h3 a4;obtain⟨e5,a1,c3,b3,b9⟩:=hT;obtain⟨iv,mv,s0,xs,L,hu,f7,d2,b0,c4,b4,a3,d4,f0⟩:=h4.2 0 u f rfl rfl;obtain rfl:=d4 ho;obtain⟨Ai,qi,rfl,-⟩:=ag c4;subst e5 hu;obtain⟨m,hm⟩:∃m,m=us.length:=⟨_,rfl⟩;rw[<-hm] at a1 b3 b9;have c0:=ac e2 (j:=0) (u:=.slice (some ⟨pb,0,none⟩) (m+1) q) (by rw[hm];rfl);have k0:=a1 0 _ rfl;have k3:=a1 3 _ rfl;have k4:=a1 4 _ rfl;rw[ho] at k0;rw[f9] at k4;simp only[if_true] at k0;rw[Nat.add_zero] at k0;obtain⟨cur,b1⟩:=c3;have f3:=al b1 (m*5+3);have e0:=ac b5.out (j:=0) (u:=.int .i64 lv) rfl;have e1:=ac b5.out (j:=1) (u:=.string s) rfl;have s1:IntKind.i64.wrap (m:Int)= (m:Int):=IntWalk.i64_in _ (by omega);have f6:(((m+1:Nat):Int)==0)=false:=by simp only[beq_eq_false_iff_ne];omega
 have a5:lv= (m:Int)+1:=by omega
 have g2:=Qa a5;have HA:=Qa h1;have a2:=Qa b1;have Hm:=Qa hm;have Hl:=Qa a4;have H3:=Qa h3;have f1:=Qa (And.intro d2 (And.intro b0 (And.intro c4 (And.intro b4 a3))));have c7:=Qa c1;have HB:=Qa hB;have q1:=Es;have q2:=pr;have f8:(lv== (m:Int)+1)=true:=by rw[a5];simp
 have d5:(lv != (m:Int)+1)=false:=by rw[a5];simp
 clear h h1 e2 h2 h3 h4 h5 h6 h7 d2 b0 c4 b4 a3 d4 f0 a1 b1 a4 f7 e3 hm e6 a5 c1 hB b3 b9;go_enter Tryz.func114,Tryz.ntmps114;go_wp2_with fail
 try rw[c6]
 obtain⟨wr,c9⟩:∃wr,w1.drew=wr:=⟨_,rfl⟩;have a9:Below w1.heap.size w1 wr:=by rw[<-c9];exact(Ze _ _).drew
 have C0:=Qa (Zg a9 c0);have E1:=Qa (Zg a9 e1);have k3r:=Zg a9 k3;have gr:=ah a2.out a9;have f3r:=al gr (m*5+3);have K4:=Qa (Zg a9 k4);have Gr:=Qa gr;have g1:=Qa (ah HA.out.row a9);have g0:=Qa (ah b5.out a9);have d0:=Qa a9;have d1:pb≠xb:=fun e=>by
  have:=HA.out.row;rw[<-e,a2.out] at this;injection this with this
  injection this with _ this _
  exact absurd this (by decide)
 have b2:pb≠w.heap.size:=fun e=>by
  have:=b5.out;rw[<-e,a2.out] at this;injection this with this
  injection this with _ this _
  exact absurd this (by decide)
 have c5:=Qa d1;have c2:=Qa b2;clear c0 k0 k3 k4 f3 e0 e1 gr a9 d1 b2 c6;refine bF (fun w2=>w2.cell? ⟨xb,0,none⟩=some (.slice (some ⟨pb,0,none⟩) (m+1) q)/\w2.cell? ⟨w.heap.size,1,none⟩=some (.string s)) ((by rw[c9];exact⟨C0.out,E1.out⟩)) fun a0=>?_
 refine tH 0 a0 ?_;refine tH 1 a0 ?_;refine tH 2 a0 ?_;refine tH 3 a0 ?_;refine tH 4 a0 ?_;refine tH 5 a0 ?_
 try simp only[Act.put,jP,jQ,jR]
 refine tH 6 a0 ?_;refine tH 7 a0 ?_;refine tH 8 a0 ?_;refine tH 9 a0 ?_;refine tH 10 a0 ?_;refine tH 11 a0 ?_
 try simp only[Act.put,jP,jQ,jR]
 refine tH 12 a0 ?_;refine tH 13 a0 ?_;refine tH 14 a0 ?_;refine tH 15 a0 ?_
 try simp only[Act.put,jP,jQ,jR]
 refine rH 16 fun K hK=>?_
 rw[c9] at a0 ⊢;go_simp;refine hK.out _ _ (⟨(World.cell?_setCell_far _ _ _ _ c5.out).trans C0.out,(World.cell?_setCell_far _ _ _ _ c2.out).trans E1.out⟩) (fun a0=>?_);clear hK K
 try simp only[Act.put,jP,jQ,jR]
 refine tH 17 a0 ?_;refine tH 18 a0 ?_
 try simp only[Act.put,jP,jQ,jR]
 refine rH 19 fun K hK=>?_
 have g4:=ar Gr.out (m*5+3) (.string s);have f4:=al g4 (m*5+4);have k4:=(kX Gr.out (show m*5+3≠m*5+4 by omega) (.string s)).trans K4.out;go_simp;refine hK.out _ _ (⟨(World.cell?_setCell_far _ _ _ _ c5.out).trans ((World.cell?_setCell_far _ _ _ _ c5.out).trans C0.out),(World.cell?_setCell_far _ _ _ _ c2.out).trans ((World.cell?_setCell_far _ _ _ _ c2.out).trans E1.out)⟩) (fun a0=>?_);clear hK K
 try simp only[Act.put,jP,jQ,jR]
 refine wpAnyH_done (by kernel_rfl) (NoPanic.normal ?_) _;clear a0 k3r f3r;go_end0;obtain rfl:=Hm.out;have e4:wr.ownsRow B 246 5 (.slice (some ⟨pb,0,none⟩) (us.length+1) q) (us.length+1) (([.int .i64 (if f.obj=true then 6 else 5),.slice none 0 0,.slice Ai L.length qi,.string s0,.bool f.name.isSome]:List Value)::us).reverse.flatten:=ai H3.out d0.out (Zb _);have c8:=dO e4 Hl.out (j:=3) (by decide) (.string s);have b8:=dO c8 (fun x hx=>by rcases List.mem_cons.1 hx with rfl|hx;(· rfl);exact Hl.out x (Zl _ hx)) (j:=4) (by decide) (.bool true);have d6:aP (fun k=>k=pb) wr ((wr.setCell ⟨pb,us.length*5+3,none⟩ (.string s)).setCell ⟨pb,us.length*5+4,none⟩ (.bool true)):=
  (aP.set pb _ _).trans (aP.set pb _ _) fun i h=>.inl h
 have f5:B<=w1.heap.size:=Zc HB.out c7.out.size;have b2:=o5 HA.out a2.out f2 f5 (aP.of_below d0.out) d6 b8 (fun g hg=>.inl (by
  have hg:g∈bM [.int .i64 (if f.obj=true then 6 else 5),.slice none 0 0,.slice Ai L.length qi,.string s,.bool true]:=hg;rw[iy] at hg ⊢;exact hg)) (by
  show(bM [_,_,_,_,_]).Nodup
  rw[iy];exact ka _) (f':={f with name:=some s}) (fun hm ht d3=>?_)
 ·exact⟨rfl,(c7.out.mono HB.out).trans b2.1,(Kp.of_below TB c7.out).trans b2.2.1,_,b2.2.2⟩
 obtain⟨m1,m2,m3,m4,m5⟩:=f1.out;have hne:=aL m3 a2.out (by decide);refine⟨.slice none 0 0,.slice Ai L.length qi,s,xs,L,rfl,fun t e=>Zi e,?_,?_,?_,m4,?_,fun _=>rfl,fun e=>?_⟩
 ·exact bh m1 fun b hb=>by cases hb
 ·exact m2.mono fun _ _ h=>h.move hm ht d3
 ·exact bh m3 fun b hb=>((aP.of_below d0.out).trans d6 (fun i h=>.inl h)).block b (ak (ao m3 hb).2.choose_spec) fun e=>hne (by rw[hb,e])
 ·exact m5.mono fun _ _ h=>h.move hm ht d3
 ·exact absurd (ho.symm.trans e) (by decide)
def jy (frs:List Fr):Prop:=frs.length<=4294967296/\∀f fs,frs=f::fs->bS f=false/\f.items.length<=4294967296/\f.mems.length<=4294967296
theorem qm {bs:List Nat}(h:d8 B w xb frs none bs)(hT:jy frs)(hv:VW (Pb B bs) w v j)(hB:B<=w.heap.size):Calls Tryz.prog 142 #[.pointer (some ⟨xb,0,none⟩),v] w (lF B xb (bD frs j) w):=by
 cases frs with
 |nil=>exact Dx h hv hB
 |cons f fs=>
  obtain⟨h1,h2,h3⟩:=hT.2 f fs rfl;have hl:=hT.1;rw[List.length_cons] at hl
  by_cases ho:f.obj=true
  ·have hn:f.name.isSome=true:=by
    simp only[bS,ho,Bool.true_and] at h1
    cases hn:f.name with
    |none=>rw[hn] at h1;cases h1
    |some _=>rfl
   exact Fp h ho hv hB hn h3 (by omega)
  ·exact Aw h (by simpa using ho) hv hB h2 (by omega)
theorem om {bs:List Nat}(a3:lv= (frs.length+1:Nat))(h:d8 B w xb frs none bs)(hT:jy frs)(hv:VW (Pb B bs) w v j)(hB:B<=w.heap.size):Calls Tryz.prog 114 #[.pointer (some ⟨xb,0,none⟩),.iface 250 (.agg #[.int .i64 lv,v])] w (lF B xb (bD frs j) w):=by
 have a0:=aa w (.cells #[.int .i64 lv,v] 250);have a1:=h.below a0;have a2:=Qa (kC a1 (fun f fs e=>(hT.2 f fs e).1) hT.1);rw[<-a3] at a2;have a5:=Qa (qm a1 hT (hv.move (bs':=bs) (Mv.of_below (top:= []) a0) (by simp) (fun g hg=>.inl hg)) (Zc hB a0.size));have e1:=ac (Zf w (.cells #[.int .i64 lv,v] 250)) (j:=1) rfl;have a4:=Qa a0;have HB:=Qa hB;have q1:=E7;have q2:=pV;have q3:=qj;obtain⟨tv,xv,rfl⟩:=hv.iface;clear h a1 hT hv hB a3 a0;go_enter Tryz.func114,Tryz.ntmps114;go_wp2_with fail;refine Za a2 ?_;rintro e w' ⟨rfl,rfl⟩;go_wp2_with fail;refine Za a5 ?_;rintro e w' ⟨rfl,h1,h2,h3⟩;have R:=Qa (And.intro h1 (And.intro h2 h3));clear h1 h2 h3;go_wp2_with fail;go_end0;exact⟨rfl,(a4.out.mono HB.out).trans R.out.1,(Kp.of_below TB a4.out).trans R.out.2.1,R.out.2.2⟩
theorem jr {k:Nat}{xs ys:List Value}(h:w.ownsRow B e k (.slice A (n+1) q) (n+1) (xs++ys))(hx:xs.length=n*k):w.ownsRow B e k (.slice A n q) n xs:=by
 obtain⟨h1,⟨e1,h0⟩|⟨g,cap,cur,e1,hb,hg,h2,h3,h4,h5⟩⟩:=h
 ·cases e1
 ·obtain⟨rfl,-,rfl⟩:=Value.slice.inj e1;refine⟨hx,.inr ⟨g,q,cur,rfl,hb,hg,by omega,h3,h4,?_⟩⟩;have:=congrArg (List.take (n*k)) h5;rw[List.take_take,Nat.min_eq_left (Nat.mul_le_mul_right k (Nat.le_succ n)),List.take_left' hx] at this;exact this
theorem FN:∀ (L:List (List Value)),(∀x∈L,x.length=5)->L.flatten.length=L.length*5
 | [],_=>rfl
 |a::L,h=>by rw[List.flatten_cons,List.length_append,FN L (fun x hx=>h x (Zl _ hx)),h a (by simp),List.length_cons];omega
theorem wY {done:Option JV}{u:List Value}{us:List (List Value)}{bs:List Nat}(h:xS B w xb (f::fs) done (.slice (some ⟨pb,0,none⟩) (us.length+1) q) dv (u::us) bs)(hB:B<=w.heap.size) :
  Below B w (w.setCell ⟨xb,0,none⟩ (.slice (some ⟨pb,0,none⟩) us.length q))/\Kp (fun e=>e=200) w (w.setCell ⟨xb,0,none⟩ (.slice (some ⟨pb,0,none⟩) us.length q))/\(∀g∈us.flatMap bM,g∈bs)/\d8 B (w.setCell ⟨xb,0,none⟩ (.slice (some ⟨pb,0,none⟩) us.length q)) xb fs done (us.flatMap bM):=by
 obtain⟨h1,h2,h3,h4,h5,h6,h7⟩:=h;have a3:=aP.set (w:=w) xb 0 (.slice (some ⟨pb,0,none⟩) us.length q);have hk:Kp (fun e=>e=200) w (w.setCell ⟨xb,0,none⟩ (.slice (some ⟨pb,0,none⟩) us.length q)):=Kp.of_chg a3 fun g e _=>by subst e;exact⟨_,_,_,h1,rfl⟩
 have hm:Mv [] w (w.setCell ⟨xb,0,none⟩ (.slice (some ⟨pb,0,none⟩) us.length q)):=Mv.of_kp hk fun e he=>by rcases he with rfl|rfl|rfl|rfl <;> decide
 have a2:us.length=fs.length:=by have:=h4.1;simpa using this
 have a1:∀g∈us.flatMap bM,g∈bs:=fun g hg=>by rw[<-h5];exact List.mem_append_right _ hg
 have a4:∀g∈us.flatMap bM,g∈bs\/w.heap.size<=g:=fun g h=>.inl (a1 g h)
 have a0:∀x∈u::us,x.length=5:=fun x hx=>by
  obtain⟨i,hi,rfl⟩:=List.getElem_of_mem hx;exact(h4.2 i _ ((f::fs)[i]'(by have:=h4.1;omega)) (Zd hi) (Zd _)).len
 refine⟨a3.below hB (fun i e=>by rw[e];exact h2),hk,a1,.slice (some ⟨pb,0,none⟩) us.length q,dv,us,ar h1 0 _,h2,?_,⟨a2,fun i a b h1 h2=>?_⟩,rfl,?_,h7.move hm (by simp) a4⟩
 ·rw[List.length_cons,<-a2,List.reverse_cons,List.flatten_append] at h3;rw[<-a2];refine aw (jr h3 ?_) hk.keeps (by decide);rw[FN _ fun x hx=>a0 x (Zl _ (List.mem_reverse.1 hx)),List.length_reverse]
 ·exact(h4.2 (i+1) a b (by simpa using h1) (by simpa using h2)).move hm (by simp) a4 (by simp)
 ·rw[<-h5] at h6;exact(List.nodup_append.1 h6).2.1
