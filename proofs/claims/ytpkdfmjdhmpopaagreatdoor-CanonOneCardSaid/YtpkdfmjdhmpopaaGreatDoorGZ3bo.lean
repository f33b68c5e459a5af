import Derived.Test.YtpkdfmjdhmpopaaGreatDoorGZ3bn
import Derived.Shelf.Strconv.Itoa3
import Derived.Lib.AppendIntMem
set_option linter.unusedVariables false
set_option linter.unusedSimpArgs false
set_option maxHeartbeats 64000000
set_option maxRecDepth 100000
namespace Go.Proofs.YtpkdfmjdhmpopaaGreatDoor
open Go.RowKit Go.Shelf
variable {cs : Array Value} {s : ByteArray} {d : Dc} {j : JV} {ns : List ByteArray} {ks : List JV} {ps : List Nat} {us : List Value} {N a c cap ck cn g g1 g2 gt n : Nat} {P : Nat -> Prop} {A Ak An : Option Addr} {u v x : Value} {w w' w1 w2 : World}
def IH (B:Nat)(w2:World)(ns:List ByteArray)(ks:List JV)(s10 s11:Value)(wr:World):Prop:= ∃ (i:Nat) (A:Option Addr) (c:Nat) (L:List (ByteArray×Value)),s11 = .int .i64 i/\i<=ks.length/\s10 = .slice A i c/\L.length=i/\Below w2.heap.size w2 wr/\wr.ownsRow B 109 2 (.slice A i c) i (fd L)/\L.map Prod.fst=ns.take i/\bB (VW (fun g=>B<=g/\(Value.slice A i c).ownBlock≠some g) wr) (L.map Prod.snd) (ks.take i)
theorem Bv {t:Bool}{x:ByteArray}(hc:mx w gt a 6 t x d (.slice An ks.length cn) (.slice Ak ks.length ck))(f1:dS w 0 (.slice An ks.length cn) ns)(hk:cB w 0 (.slice Ak ks.length ck) ps)(hnl:ns.length=ks.length)(f4:ps.length=ks.length)(ha:a<N)(hN:N<=1000000)(hl:ks.length<=1000000)(e8:∀s∈ns,jU s)(f3:dc ns)
  (H:∀ (i:Nat) (k:JV) (p:Nat),ks[i]?=some k->ps[i]?=some p->∀w1,Below w.heap.size w w1->Calls Tryz.prog 25 #[.slice (some ⟨gt,0,none⟩) N cap, .int .i64 (p:Int)] w1 (Ej w1 k)) :
  Calls Tryz.prog 25 #[.slice (some ⟨gt,0,none⟩) N cap, .int .i64 (a:Int)] w (Ej w (.mk 6 false ⟨#[]⟩ ⟨false,⟨#[]⟩,0⟩ ns ks)):=by
 have c0:=hc 0 _ rfl;rw [Nat.add_zero] at c0;have c1:=hc 1 _ rfl;have c2:=hc 2 _ rfl;have c3:=hc 3 _ rfl;have c4:=hc 4 _ rfl;have c5:=hc 5 _ rfl;have c6:=hc 6 _ rfl;have c7:=hc 7 _ rfl;have g8: (a:Int)<N:=by omega
 have a4:=Qa (ac w (.cells #[.int .i64 6, .bool t, .string x, .bool d.neg, .string d.digits, .int .i64 d.exp, .slice An ks.length cn, .slice Ak ks.length ck] 77));have a2:=Qa (Ze w (.cells #[.int .i64 6, .bool t, .string x, .bool d.neg, .string d.digits, .int .i64 d.exp, .slice An ks.length cn, .slice Ak ks.length ck] 77));have Hk:=Qa (cB.below hk a4.out (Za _));have e4:=Qa (dS.below f1 a4.out (Za _));have HH:=Qa H;have d9:=Qa f4;have b3:=Qa hnl;have g4:=Qa e8;have e1:=Qa f3;clear hc hk f1 H f4 hnl e8 f3;go_enter Tryz.func25,Tryz.ntmps25;go_wp2_with fail;obtain⟨w2,e0⟩:∃w2,w.alloc (.cells #[.int .i64 6, .bool t, .string x, .bool d.neg, .string d.digits, .int .i64 d.exp, .slice An ks.length cn, .slice Ak ks.length ck] 77)=w2:=⟨_,rfl⟩;rw [e0] at a4 a2 Hk e4 ⊢;clear e0 c0 c1 c2 c3 c4 c5 c6 c7;have c9:=Qa (show w.heap.size<w2.heap.size from ae a2.out)
 go_loopw [10,11] (fun s10 s11 wr=>IH w2.heap.size w2 ns ks s10 s11 wr) (fun _ v _=>ks.length - (intOf v).toNat)
 case atStart=>exact⟨0,none,0, [],rfl,Zj _,rfl,rfl,Zd _ _,⟨rfl, .inl ⟨rfl,rfl⟩⟩,rfl,bB.nil _⟩
 case round=>
  obtain⟨i,A,c,L,rfl,hi,rfl,f0,hb,ho,e6,hv⟩:=hrel;have b4:=ai a2.out hb;have c7:=aa b4 (j:=7) (u:= .slice Ak ks.length ck) rfl;have Hb:=Qa hb;have Ho:=Qa ho;have Hv:=Qa hv;have e2:=Qa e6;have b5:=Qa f0;have b1:=hb.size;clear hb ho hv e6 f0
  by_cases hlt:i<ks.length
  ·obtain⟨k,b6⟩:∃k,ks[i]?=some k:=⟨_,Zc hlt⟩
   obtain⟨p,d4⟩:∃p,ps[i]?=some p:=⟨_,Zc (by rw [d9.out];exact hlt)⟩;obtain⟨s,d5⟩:∃s,ns[i]?=some s:=⟨_,Zc (by rw [b3.out];exact hlt)⟩;have a5:=Hk.out.below Hb.out (Za _);have a6:=e4.out.below Hb.out (Za _);unfold cB at a5;unfold dS at a6;rw [d9.out] at a5;rw [b3.out] at a6;obtain⟨gk,hgk⟩:∃gk,Ak=some ⟨gk,0,none⟩:=by
    obtain⟨_,_,e,_,_,hA⟩:=ag a5;obtain⟨rfl, -, -⟩:=Value.slice.inj e;exact hA (by omega)
   obtain⟨gn,g1⟩:∃gn,An=some ⟨gn,0,none⟩:=by
    obtain⟨_,_,e,_,_,hA⟩:=ag a6;obtain⟨rfl, -, -⟩:=Value.slice.inj e;exact hA (by omega)
   subst hgk g1;have ck0:=bg a5 rfl i (by omega);rw [List.getElem?_map,d4] at ck0;simp only [Option.map_some,bX] at ck0;have cn0:=bg a6 rfl i (by omega);rw [List.getElem?_map,d5] at cn0;simp only [Option.map_some,dq] at cn0;have c6:=aa b4 (j:=6) (u:= .slice (some ⟨gn,0,none⟩) ks.length cn) rfl;have a7:Below wr.heap.size wr wr.drew:=(Zd _ _).drew;have HC:=Qa (HH.out i k p b6 d4 wr.drew (a4.out.trans ((Hb.out.trans (a7.mono b1)).mono a4.out.size)));have g6:=Qa b6;have g2:=Qa d5;have d3: (i:Int)<ks.length:=by omega
   have b0:=Qa (aR Ho.out b4 (by decide));have d0:=Qa (aR Ho.out (ak a5 rfl).2.choose_spec (by decide));have b8:=Qa (aR Ho.out (ak a6 rfl).2.choose_spec (by decide));have K6:=Qa (And.intro c6 (And.intro c7 (And.intro cn0 ck0)));clear b6 d4 d5 a5 a6 b4 c6 ck0 cn0;go_wp2_with fail;refine aW (fun w'=>w'.cell? ⟨w.heap.size,6,none⟩=some (.slice (some ⟨gn,0,none⟩) ks.length cn)/\w'.cell? ⟨w.heap.size,7,none⟩=some (.slice (some ⟨gk,0,none⟩) ks.length ck)/\w'.cell? ⟨gn,i,none⟩=some (.string s)/\w'.cell? ⟨gk,i,none⟩=some (.int .i64 (p:Int))) (K6.out) fun a0=> ?_
   refine tH 0 a0 ?_;refine tH 1 a0 ?_;refine tH 2 a0 ?_;refine tH 3 a0 ?_;refine tH 4 a0 ?_;refine tH 5 a0 ?_
   try simp only [Act.put,jP,jQ,jR]
   refine tH 6 a0 ?_;refine tH 7 a0 ?_;refine tH 8 a0 ?_;refine tH 9 a0 ?_;refine tH 10 a0 ?_;refine tH 11 a0 ?_
   try simp only [Act.put,jP,jQ,jR]
   refine rH 12 fun K hK=> ?_
   go_simp;(with_reducible refine HC.out.mono ?_);rintro e w3 ⟨u,rfl,a1,hu⟩;obtain⟨tv,xv,rfl⟩:=hu.iface;have d2:=a1.size;have f9:=Qa (Hb.out.trans ((a7.trans (a1.mono a7.size)).mono b1));have a3:=(a7.trans (a1.mono a7.size)).alloc d2 (.cells #[.string s, .iface tv xv] 109);have b2:=Qa (ap Ho.out a3 (Za _));have f8:=Qa (av w3 [.string s, .iface tv xv] 109);have hob:∀b,(Value.slice A i c).ownBlock=some b->b<wr.heap.size:=fun b hb=>ae (ak Ho.out hb).2.choose_spec;have f6:=Qa (Hv.out.mono fun _ _ h=>h.later a3);have Hu:=Qa ((hu.later (ac w3 (.cells #[.string s, .iface tv xv] 109))).imp (Q:=fun g=>w2.heap.size<=g/\(Value.slice A i c).ownBlock≠some g) fun g hg _=>⟨Zb b1 hg,fun e=>by have:=hob g e;have:wr.heap.size<=g:=hg;omega⟩);have a9:=Qa (show w2.heap.size<=(w3.alloc (.cells #[.string s, .iface tv xv] 109)).heap.size by simp;have:wr.heap.size<=w3.heap.size:=d2;omega);have d6:=Qa (f9.out.alloc (Zb b1 d2) (.cells #[.string s, .iface tv xv] 109));have g7:=Qa a1;clear a3 hu hob
   refine hK.out _ _ (⟨Zf a1 a0.1,Zf a1 a0.2.1,Zf a1 a0.2.2.1,Zf a1 a0.2.2.2⟩) (fun a0=> ?_);clear hK K
   try simp only [Act.put,jP,jQ,jR]
   refine tH 13 a0 ?_
   try simp only [Act.put,jP,jQ,jR]
   refine rH 14 fun K hK=> ?_
   go_simp;refine hK.out _ _ ((by have hx:=ac w3 (.cells #[.string s, .iface tv xv] 109);exact⟨Zf hx a0.1,Zf hx a0.2.1,Zf hx a0.2.2.1,Zf hx a0.2.2.2⟩)) (fun a0=> ?_);clear hK K
   try simp only [Act.put,jP,jQ,jR]
   refine rH 15 fun K hK=> ?_
   refine cA ya rfl (.tmp 84) (.tmp 98) rfl w2.heap.size (.slice A i c) i w3.heap.size 1 1 (fd L) [.string s, .iface tv xv] (by simp [Act.eval]) b2.out (by simp [Act.eval]) rfl f8.out (by simp [Value.oneCell']) (by unfold maxLen;omega) (by omega) a9.out ?_;intro v' w5 p1 p2 p3;obtain⟨A5,q5,rfl, -, -, -⟩:=ag p1;have HK:=Qa p1;have HG:=Qa p2;have HD:=Qa p3;clear p1 p2 p3;refine hK.out _ _ (⟨HG.out.cell a0.1 (fun e=>b0.out e.symm),HG.out.cell a0.2.1 (fun e=>b0.out e.symm),HG.out.cell a0.2.2.1 (fun e=>b8.out e.symm),HG.out.cell a0.2.2.2 (fun e=>d0.out e.symm)⟩) (fun a0=> ?_);clear hK K
   try simp only [Act.put,jP,jQ,jR]
   refine tH 16 a0 ?_
   try simp only [Act.put,jP,jQ,jR]
   refine wpAnyH_done (by kernel_rfl) (NoPanic.normal ?_) _;clear a0;go_wp2_with fail;have g3:fd (L ++ [(s, .iface tv xv)])=fd L ++ [.string s, .iface tv xv]:=by simp [fd]
   refine⟨⟨i+1,A5,q5,L ++ [(s, .iface tv xv)],by go_num,by omega,rfl,by rw [List.length_append,b5.out];rfl,d6.out.grown HG.out a9.out (fun g e=>(ak b2.out e).1),by rw [g3];exact HK.out,by rw [cL g2.out,List.map_append,e2.out];rfl, ?_⟩,by simp [intOf];omega⟩;rw [cL g6.out,List.map_append];exact xJ f6.out Hu.out HG.out HD.out
  ·obtain rfl:i=ks.length:=by omega
   have d3:¬ (ks.length:Int)<ks.length:=by omega
   have hn:L.map Prod.fst=ns:=by rw [e2.out,<- b3.out,List.take_length]
   have b9:bB (VW (fun g=>w2.heap.size<=g/\(Value.slice A ks.length c).ownBlock≠some g) wr) (L.map Prod.snd) ks:=by have:=Hv.out;rw [List.take_length] at this;exact this
   have HN:=Qa (gw (xW.of_own Ho.out) (fun p hp=>by
    obtain⟨j,hj,rfl⟩:=List.getElem_of_mem hp;exact⟨g4.out _ (by rw [<- hn];exact List.mem_map.2 ⟨_,List.getElem_mem hj,rfl⟩),(b9.2 j L[j].2 (ks[j]'(by have:=b5.out;omega)) (by rw [List.getElem?_map,Zc hj];rfl) (Zc _)).iface⟩) (by rw [hn];exact e1.out.imp fun h=>nP h) (by omega))
   have Hn:=Qa hn;have g0:=Qa b9;clear hlt hn b9;go_wp2_with fail;(with_reducible refine HN.out.mono ?_);rintro e w3 ⟨gl,A1,c1,S,rfl,d1,g9,e5,e3,hp,hs⟩;have g5:=Qa (a4.out.trans ((Hb.out.trans (d1.mono b1)).mono a4.out.size));have b7:S.length=ks.length:=by rw [hp.length_eq];exact b5.out
   have f5:ns.length=ks.length:=b3.out;have c8:=Qa (wv (Q:=(w.heap.size<= ·)) (L:=L) (ms:=ns.zip ks) (by rw [b7];exact e5) (by rw [b7];exact e3.stay fun g o hp hg _ _=>⟨by have:=c9.out;omega,hg⟩) (by have:=c9.out;omega) hp hs (by rw [List.map_fst_zip (by omega)];exact Hn.out) (by rw [List.map_snd_zip (by omega)];exact g0.out.mono fun _ _ h=>(h.later d1).imp fun g hg _=>by have:=c9.out;omega));rw [il (by rw [List.map_fst_zip (by omega)];exact e1.out)] at c8;have f2:kG (ns.zip ks) = .mk 6 false ⟨#[]⟩ ⟨false,⟨#[]⟩,0⟩ ns ks:=by unfold kG;rw [List.map_fst_zip (by omega),List.map_snd_zip (by omega)]
   rw [f2] at c8;clear d1 e5 e3 hp hs b7 f5 f2;go_wp2_with fail;go_ret;exact⟨_,rfl,g5.out,c8.out⟩
theorem As {T:ByteArray->Prop}{j0:JV}(hf:eu w 0 v (j0.flat 0))(a3:j0.size<=1000000):∀ (j:JV) (a:Nat) (w1:World),Below w.heap.size w w1->ig j0 0 a j->Ok True T j->Calls Tryz.prog 25 #[v, .int .i64 (a:Int)] w1 (Ej w1 j):=by
 obtain⟨A,cap,rfl,a4,hm,hA⟩:=hf.form;have hn:=j0.size_pos;obtain⟨gt,rfl⟩:=hA (by rw [JV.flat_len];omega);rw [JV.flat_len] at a4 hm hf ⊢;refine JV.ind (P:=fun j=> ∀ (a:Nat) (w1:World),Below w.heap.size w w1->ig j0 0 a j->Ok True T j->Calls Tryz.prog 25 #[.slice (some ⟨gt,0,none⟩) j0.size cap, .int .i64 (a:Int)] w1 (Ej w1 j)) (fun k t x n ns ks ih a w1 hb hs a9=> ?_);have a1:=hs.node;rw [Nat.sub_zero] at a1;obtain⟨vn,vk,h1,h2,h3⟩:=(hf.below hb (Za _)).node a1;have hc:=(show mx w1 gt a k t x n vn vk from fun j u hu=>h3 j u hu);have b0:=hs.bd;have b2:1<=(JV.mk k t x n ns ks).size:=JV.size_pos _;have ha:a<j0.size:=by omega
 obtain⟨Ak,ck,rfl, -, -, -⟩:=ag h2;obtain⟨An,cn,rfl, -, -, -⟩:=ag h1;have leaf:∀u,oh k t x n u->VW (w1.heap.size<= ·) w1 u (.mk k t x n ns ks)->Calls Tryz.prog 25 #[.slice (some ⟨gt,0,none⟩) j0.size cap, .int .i64 (a:Int)] w1 (Ej w1 (.mk k t x n ns ks)):=fun u hl hv=>(yy hc ha a3 hl).mono fun e w' ⟨he,a6⟩=>⟨u,he,a6,hv.later a6⟩
 have hkl:ks.length<=1000000:=by
  have:=cW ks;simp only [JV.size] at b0;omega
 have a5:cB w1 0 (.slice Ak ks.length ck) (bi (a+1) ks):=by
  simp only [cS] at h2;exact h2
 simp only [cS] at hc;have a0:∀ (i:Nat) (u:JV) (p:Nat),ks[i]?=some u->(bi (a+1) ks)[i]?=some p->ig j0 0 p u/\u∈ks:=fun i u p hu hp=>by
  have hi:=(List.getElem?_eq_some_iff.1 hu).1;have e:ks=ks.take i++u::ks.drop (i+1):=by
   have h:=(List.take_append_drop i ks).symm;rw [List.drop_eq_getElem_cons hi] at h;rw [(List.getElem?_eq_some_iff.1 hu).2] at h;exact h
  have a7:p=a+1+JV.sizes (ks.take i):=by
   rw [e,eD,List.getElem?_append_right (by rw [cS,List.length_take];omega),cS,List.length_take,Nat.min_eq_left (by omega),Nat.sub_self] at hp;simpa [bi] using hp.symm
  refine⟨?_,Zk hu⟩;rw [a7];rw [e] at hs;exact hs.kid
 cases a9 with
 | null=>exact leaf _ (.null _ _ _) .null
 | bool b=>exact leaf _ (.bool _ _ _) (.bool _)
 | num d hd hn=>exact leaf _ (.num _ _ _) (.num _)
 | text s hs=>exact leaf _ (.text _ _ _) (.text _)
 | hole h=>exact leaf _ (.hole _ _ _) .hole
 | list ks hks=>exact zu hc a5 (cS _ _) ha a3 hkl fun i u p hu hp w2 a2=>ih u (a0 i u p hu hp).2 p w2 (hb.trans (a2.mono hb.size)) (a0 i u p hu hp).1 (hks u (a0 i u p hu hp).2)
 | obj ns ks hnl h8 hr hks=>
  have b1:dS w1 0 (.slice An ks.length cn) ns:=by
   have:=h1;rw [hnl] at this;exact this
  rw [hnl] at hc;exact Bv hc b1 a5 hnl (cS _ _) ha a3 hkl (fun s hs=>⟨(h8 s hs).1,by have:=(h8 s hs).2;omega⟩) hr fun i u p hu hp w2 a2=>ih u (a0 i u p hu hp).2 p w2 (hb.trans (a2.mono hb.size)) (a0 i u p hu hp).1 (hks u (a0 i u p hu hp).2)
theorem sV {T:ByteArray->Prop}(hf:eu w 0 v (j.flat 0))(a1:j.size<=1000000)(a0:Ok True T j):Calls Tryz.prog 6 #[v] w (Ej w j):=by
 have H:=Qa (show Calls Tryz.prog 25 #[v, .int .i64 0] w (fun e w'=>Ej w j e w') from As hf a1 j 0 w (Zd _ _) (.here _ _) a0);obtain⟨A,cap,rfl,a2,hm,hA⟩:=hf.form;have hn:=j.size_pos;rw [JV.flat_len] at H hm ⊢;have hne: ((j.size:Int)==0)=false:=by simp only [beq_eq_false_iff_ne];omega
 clear hf hA;go_enter Tryz.func6,Tryz.ntmps6;go_wp2_with fail;(with_reducible refine H.out.mono ?_);rintro e w1 ⟨u,rfl,hb,hv⟩;have Hb:=Qa hb;have Hv:=Qa hv;obtain⟨t,x,rfl⟩:=hv.iface;clear hb hv;go_wp2_with fail;go_ret;exact⟨_,rfl,Hb.out,Hv.out⟩
def qm:Go.Shelf.Ren:=⟨fun | 171=>73 | 243=>100 | 246=>137 | 283=>173 | 284=>174 | 285=>175 | 286=>176 | 129=>134 | 317=>194 | 318=>195 | 319=>196 | 320=>197 | 337=>210 | 338=>211 | n=>n,fun | 3=>3 | 9=>9 | 2=>2 | 4=>4 | 171=>310 | 0=>0 | 53=>273 | 37=>22 | 5=>5 | 173=>312 | 212=>341 | 51=>271 | 20=>20 | 213=>342 | 46=>199 | 232=>371 | 233=>372 | n=>n,fun | 17=>11 | 18=>16 | 19=>17 | n=>n⟩
theorem uB:Go.Proofs.LaysM.n171 Tryz.prog qm:={
 mixed:=by kernel_rfl
 f129:=Tryz.func134.trans (congrArg some (by kernel_rfl))
 f171:=Tryz.func73.trans (congrArg some (by kernel_rfl))
 f243:=Tryz.func100.trans (congrArg some (by kernel_rfl))
 f246:=Tryz.func137.trans (congrArg some (by kernel_rfl))
 f283:=Tryz.func173.trans (congrArg some (by kernel_rfl))
 f284:=Tryz.func174.trans (congrArg some (by kernel_rfl))
 f285:=Tryz.func175.trans (congrArg some (by kernel_rfl))
 f286:=Tryz.func176.trans (congrArg some (by kernel_rfl))
 f317:=Tryz.func194.trans (congrArg some (by kernel_rfl))
 f318:=Tryz.func195.trans (congrArg some (by kernel_rfl))
 f319:=Tryz.func196.trans (congrArg some (by kernel_rfl))
 f320:=Tryz.func197.trans (congrArg some (by kernel_rfl))
 f337:=Tryz.func210.trans (congrArg some (by kernel_rfl))
 f338:=Tryz.func211.trans (congrArg some (by kernel_rfl))
 t0:=Tryz.underlying0
 a0:=Tryz.isAgg0
 z0:=Tryz.sizeOf0
 v0:=Tryz.zeroValue0
 t2:=Tryz.underlying2
 a2:=Tryz.isAgg2
 z2:=Tryz.sizeOf2
 v2:=Tryz.zeroValue2
 t3:=Tryz.underlying3
 a3:=Tryz.isAgg3
 z3:=Tryz.sizeOf3
 v3:=Tryz.zeroValue3
 t4:=Tryz.underlying4
 a4:=Tryz.isAgg4
 z4:=Tryz.sizeOf4
 v4:=Tryz.zeroValue4
 t5:=Tryz.underlying5
 a5:=Tryz.isAgg5
 z5:=Tryz.sizeOf5
 v5:=Tryz.zeroValue5
 t9:=Tryz.underlying9
 a9:=Tryz.isAgg9
 z9:=Tryz.sizeOf9
 v9:=Tryz.zeroValue9
 t20:=Tryz.underlying20
 a20:=Tryz.isAgg20
 z20:=Tryz.sizeOf20
 v20:=Tryz.zeroValue20
 t37:=Tryz.underlying22
 a37:=Tryz.isAgg22
 z37:=Tryz.sizeOf22
 v37:=Tryz.zeroValue22
 t46:=Tryz.underlying199
 a46:=Tryz.isAgg199
 z46:=Tryz.sizeOf199
 v46:=Tryz.zeroValue199
 t51:=Tryz.underlying271
 a51:=Tryz.isAgg271
 z51:=Tryz.sizeOf271
 v51:=Tryz.zeroValue271
 t53:=Tryz.underlying273
 a53:=Tryz.isAgg273
 z53:=Tryz.sizeOf273
 v53:=Tryz.zeroValue273
 t171:=Tryz.underlying310
 a171:=Tryz.isAgg310
 z171:=Tryz.sizeOf310
 v171:=Tryz.zeroValue310
 t173:=Tryz.underlying312
 a173:=Tryz.isAgg312
 z173:=Tryz.sizeOf312
 v173:=Tryz.zeroValue312
 t212:=Tryz.underlying341
 a212:=Tryz.isAgg341
 z212:=Tryz.sizeOf341
 v212:=Tryz.zeroValue341
 t213:=Tryz.underlying342
 a213:=Tryz.isAgg342
 z213:=Tryz.sizeOf342
 t232:=Tryz.underlying371
 a232:=Tryz.isAgg371
 z232:=Tryz.sizeOf371
 v232:=Tryz.zeroValue371
 t233:=Tryz.underlying372
 a233:=Tryz.isAgg372
 z233:=Tryz.sizeOf372
 v233:=Tryz.zeroValue372
 g17:=by kernel_rfl
 g18:=by kernel_rfl
 g19:=by kernel_rfl
 i0:=by kernel_rfl
 i2:=by kernel_rfl
 i3:=by kernel_rfl
 i4:=by kernel_rfl
 i5:=by kernel_rfl
 i9:=by kernel_rfl
 i20:=by kernel_rfl
 i37:=by kernel_rfl
 i46:=by kernel_rfl
 i51:=by kernel_rfl
 i53:=by kernel_rfl
 i171:=by kernel_rfl
 i173:=by kernel_rfl
 i212:=by kernel_rfl
 i232:=by kernel_rfl
 i233:=by kernel_rfl
 m17:=by kernel_rfl
 m18:=by kernel_rfl
 m19:=by kernel_rfl
}
def dt (w:World):Prop:=Lib.TabIs Tryz.prog w "internal/strconv.uint64pow10" .u64 Lib.pow10Tab
theorem dt.below (h:dt w)(hb:Below w.heap.size w w'):dt w':=by
 have hg:Tryz.prog.globalNamed "internal/strconv.uint64pow10" = some 11:=by kernel_rfl
 unfold dt Lib.TabIs World.var? at h ⊢;rw [hg] at h ⊢;simp only [Option.bind_some] at h ⊢;rcases ho:w.heap[(11:Nat)]? with _ | o
 ·rw [ho] at h;cases h
 ·rw [hb.block _ (ae ho)];exact h
theorem BI (n:Nat)(h1:n<9223372036854775808)(hT:dt w):Calls Tryz.prog 73 #[.int .i64 n] w fun e w'=>e = .returned (.string ⟨(Lib.itoa n).toArray⟩)/\Below w.heap.size w w':=by
 refine(Any.strconv_Itoa uB n (by omega) (by omega) w hT).mono ?_;rintro e w' ⟨rfl,k,os,rfl⟩;exact⟨rfl,Lib.below_grow _ w (Za _) k os⟩
theorem tQ {xs:List Value}(hg:w.heap[g]?=some (.cells #[.slice A n c] 165 (0,0)))(hr:cf P w 109 2 A n c xs)(i:Nat)(hi:i<n)(hs:xs[i*2]?=some (.string s))(hu:xs[i*2+1]?=some u) :
  Calls Tryz.prog 50 #[.pointer (some ⟨g,0,none⟩), .int .i64 i] w fun e w'=>e = .returned (.tuple #[.string s,u])/\Below w.heap.size w w':=by
 have c0:w.cell? ⟨g,0,none⟩=some (.slice A n c):=aa hg (j:=0) rfl;obtain⟨b,rfl, -⟩:=hr.ptr (by omega);have c1:=hr.cell (i*2) (by omega);have c2:=hr.cell (i*2+1) (by omega);rw [hs] at c1;rw [hu] at c2;have hm:=hr.2.2.1;unfold maxLen at hm;have Hl:=Qa (mN hg);clear hg hr hu hs;have h0:¬ (i:Int)<0:=by omega
 have h1: (i:Int)<n:=by omega
 go_enter Tryz.func50,Tryz.ntmps50;go_wp2_with fail;(with_reducible refine Hl.out.mono ?_);rintro e w' ⟨rfl,rfl⟩;go_wp2_with fail;go_quiet (fail);go_wp2_with fail;go_ret2;exact⟨rfl,aD (Zd _ _) nq⟩
theorem rp (hT:dt w)(hg:w.heap[g]?=some (.cells #[.slice A n c] 160 (0,0)))(hr:cf P w 32 1 A n c us)(i:Nat)(hi:i<n)(hu:us[i]?=some u) :
  Calls Tryz.prog 48 #[.pointer (some ⟨g,0,none⟩), .int .i64 i] w fun e w'=>e = .returned (.tuple #[.string ⟨(Lib.itoa i).toArray⟩,u])/\Below w.heap.size w w':=by
 have a0:=Qa (vK hg hr i hi hu);have hnc:n<=c:=hr.2.1;have hm:=hr.2.2.1;unfold maxLen at hm;clear hg hr hu;go_enter Tryz.func48,Tryz.ntmps48;go_wp2_with fail;(with_reducible refine a0.out.mono ?_);rintro e w' ⟨rfl,rfl⟩;have Hi:=Qa (BI (w:=w) i (by have:=hnc;omega) hT);go_wp2_with fail;(with_reducible refine Hi.out.mono ?_);rintro e w' ⟨rfl,hb⟩;go_wp2_with fail;go_ret2;exact⟨rfl,hb⟩
theorem gS:Calls Tryz.prog 286 #[.agg #[]] w fun e w'=>e = .returned (.int .i64 1)/\Below w.heap.size w w':=by
 go_enter Tryz.func286,Tryz.ntmps286;go_wp2_with fail;go_ret;exact⟨rfl,ac w _⟩
theorem gT:Calls Tryz.prog 288 #[x] w fun e w'=>e = .returned (.int .i64 2)/\Below w.heap.size w w':=by
 go_enter Tryz.func288,Tryz.ntmps288;go_wp2_with fail;go_ret;exact⟨rfl,Zd _ _⟩
theorem iP:Calls Tryz.prog 282 #[.agg cs] w fun e w'=>e = .returned (.int .i64 3)/\Below w.heap.size w w':=by
 go_enter Tryz.func282,Tryz.ntmps282;go_wp2_with fail;go_ret;exact⟨rfl,ac w _⟩
theorem gK:Calls Tryz.prog 292 #[x] w fun e w'=>e = .returned (.int .i64 4)/\Below w.heap.size w w':=by
 go_enter Tryz.func292,Tryz.ntmps292;go_wp2_with fail;go_ret;exact⟨rfl,Zd _ _⟩
theorem gH:Calls Tryz.prog 283 #[.agg #[]] w fun e w'=>e = .returned (.int .i64 7)/\Below w.heap.size w w':=by
 go_enter Tryz.func283,Tryz.ntmps283;go_wp2_with fail;go_ret;exact⟨rfl,ac w _⟩
theorem ep:Calls Tryz.prog 284 #[x] w fun e w'=>e = .returned (.int .i64 5)/\Below w.heap.size w w':=by
 go_enter Tryz.func284,Tryz.ntmps284;go_wp2_with fail;go_ret;exact⟨rfl,Zd _ _⟩
theorem gJ:Calls Tryz.prog 299 #[x] w fun e w'=>e = .returned (.int .i64 6)/\Below w.heap.size w w':=by
 go_enter Tryz.func299,Tryz.ntmps299;go_wp2_with fail;go_ret;exact⟨rfl,Zd _ _⟩
def sg (a b:Int):Int:=if a<b then -1 else if b<a then 1 else 0
theorem em {a:Int}:Calls Tryz.prog 74 #[.int .i64 a] w fun e w'=>e = .returned (.bool false)/\w=w':=by
 go_enter Tryz.func74,Tryz.ntmps74;go_wp2_with fail;go_ret;simp
theorem bh {a b:Int}:Calls Tryz.prog 52 #[.int .i64 a, .int .i64 b] w fun e w'=>e = .returned (.int .i64 (sg a b))/\w=w':=by
 unfold sg;rcases Int.lt_trichotomy a b with h | h | h
 ·rw [if_pos h]
  go_enter Tryz.func52,Tryz.ntmps52;go_wp2_with fail;(with_reducible refine em.mono ?_);rintro e w' ⟨rfl,rfl⟩;go_wp2_with fail;(with_reducible refine em.mono ?_);rintro e w' ⟨rfl,rfl⟩;go_wp2_with fail;go_ret;exact⟨rfl,rfl⟩
 ·subst h
  rw [if_neg (Int.lt_irrefl _),if_neg (Int.lt_irrefl _)];go_enter Tryz.func52,Tryz.ntmps52;go_wp2_with fail;(with_reducible refine em.mono ?_);rintro e w' ⟨rfl,rfl⟩;go_wp2_with fail;(with_reducible refine em.mono ?_);rintro e w' ⟨rfl,rfl⟩;go_wp2_with fail;go_ret;exact⟨rfl,rfl⟩
 ·have h':¬a<b:=by omega
  rw [if_neg h',if_pos h];go_enter Tryz.func52,Tryz.ntmps52;go_wp2_with fail;(with_reducible refine em.mono ?_);rintro e w' ⟨rfl,rfl⟩;go_wp2_with fail;(with_reducible refine em.mono ?_);rintro e w' ⟨rfl,rfl⟩;go_wp2_with fail;go_ret;exact⟨rfl,rfl⟩
theorem fg (x:List UInt8): (⟨x.toArray⟩:ByteArray).toList=x:=by rw [ByteArray.toList_eq]
theorem EB (a:ByteArray)(x:List UInt8): (a.toList==x)=decide (a= ⟨x.toArray⟩):=by
 rw [Bool.eq_iff_iff];simp only [beq_iff_eq,decide_eq_true_eq]
 constructor
 ·intro h
  subst h;rw [ByteArray.toList_eq]
 ·intro h
  subst h;exact fg x
theorem lY:Calls Tryz.prog 138 #[.agg #[.bool d.neg, .string d.digits, .int .i64 d.exp]] w fun e w'=>e = .returned (.bool (decide (d.digits= ⟨#[48]⟩)))/\Below w.heap.size w w':=by
 go_enter Tryz.func138,Tryz.ntmps138;go_wp2_with fail;go_ret;refine⟨?_,ac w _⟩
 show Ending.returned (.bool (d.digits.toList == [48]))=_
 rw [EB]
theorem lN:Calls Tryz.prog 101 #[.agg #[.bool d.neg, .string d.digits, .int .i64 d.exp]] w fun e w'=>e = .returned (.int .i64 (km d))/\Below w.heap.size w w':=by
 have a1:=Qa (ac w (.cells #[.bool d.neg, .string d.digits, .int .i64 d.exp] 48));have h0:=Ze w (.cells #[.bool d.neg, .string d.digits, .int .i64 d.exp] 48)
 by_cases hz:d.digits= ⟨#[48]⟩
 ·have hs:=Qa (show km d=0 by unfold km;rw [if_pos hz])
  have hd:decide (d.digits= ⟨#[48]⟩)=true:=by simpa using hz
  have Hz:=Qa hd;clear hz hd;go_enter Tryz.func101,Tryz.ntmps101;go_wp2_with fail;(with_reducible refine lY.mono ?_);rintro e w1 ⟨rfl,a0⟩;rw [Hz.out];have B1:=Qa (a1.out.trans (a0.mono a1.out.size));go_wp2_with fail;go_ret;rw [hs.out];exact⟨rfl,B1.out⟩
 ·have hd:decide (d.digits= ⟨#[48]⟩)=false:=by simpa using hz
  have Hz:=Qa hd;have hs:=Qa (show km d=if d.neg then -1 else 1 by unfold km;rw [if_neg hz]);clear hz hd;go_enter Tryz.func101,Tryz.ntmps101;go_wp2_with fail;(with_reducible refine lY.mono ?_);rintro e w1 ⟨rfl,a0⟩;rw [Hz.out];have B1:=Qa (a1.out.trans (a0.mono a1.out.size));have c0:w1.cell? ⟨w.heap.size,0,none⟩=some (.bool d.neg):=aa ((a0.block _ (ae h0)).trans h0) (j:=0) rfl;rcases hn:d.neg with _ | _
  all_goals
   rw [hn] at c0;have Hn:=Qa hn;clear hn;go_wp2_with fail;go_ret;rw [hs.out,Hn.out];exact⟨rfl,B1.out⟩
theorem oo {a:ByteArray}:Calls Tryz.prog 177 #[.string a] w fun e w'=>e = .returned (.bool false)/\w=w':=by
 go_enter Tryz.func177,Tryz.ntmps177;go_wp2_with fail;go_ret;exact⟨rfl,rfl⟩
def sv (x y:List UInt8):Int:=if Op.bytesLess x y then -1 else if x=y then 0 else 1
theorem rt {s:Int}(hs:s=1\/s = -1):∀ (x y:List UInt8),aG (ko s x) (ko s y)=s*sv x y
 | [], []=>by
  have:sv [] []=0:=rfl;rw [this,Int.mul_zero];exact fw _
 | [],b::y=>by
  have e:sv [] (b::y) = -1:=by simp [sv,Op.bytesLess]
  rw [e];unfold ko;rw [bk];rcases hs with rfl | rfl
  ·rw [if_pos (by omega)];rfl
  ·rw [if_neg (by omega),if_pos (by omega)];rfl
 | a::x, []=>by
  have e:sv (a::x) []=1:=by simp [sv,Op.bytesLess]
  rw [e];unfold ko;rw [bk];rcases hs with rfl | rfl
  ·rw [if_neg (by omega),if_pos (by omega)];rfl
  ·rw [if_pos (by omega)];rfl
 | a::x,b::y=>by
  have ih:=rt hs x y;unfold ko;rw [bk];rcases Nat.lt_trichotomy a.toNat b.toNat with h | h | h
  ·have e:sv (a::x) (b::y) = -1:=by unfold sv;rw [if_pos (pN h).1]
   rw [e];rcases hs with rfl | rfl
   ·rw [if_pos (by omega)];rfl
   ·rw [if_neg (by omega),if_pos (by omega)];rfl
  ·obtain rfl:=UInt8.toNat_inj.1 h
   rw [if_neg (by omega),if_neg (by omega),ih]
   congr 1
   simp [sv,Op.bytesLess]
  ·have e:sv (a::x) (b::y)=1:=by
    unfold sv;rw [if_neg (by simp [(pN h).2]),if_neg (by intro e;injection e with e _;subst e;omega)]
   rw [e];rcases hs with rfl | rfl
   ·rw [if_neg (by omega),if_pos (by omega)];rfl
   ·rw [if_pos (by omega)];rfl
theorem wy {a b:ByteArray}:Calls Tryz.prog 139 #[.string a, .string b] w fun e w'=>e = .returned (.int .i64 (sv a.toList b.toList))/\w=w':=by
 have Hs:=Qa (show sv a.toList b.toList=if Op.bytesLess a.toList b.toList then -1 else if a.toList=b.toList then 0 else 1 from rfl);go_enter Tryz.func139,Tryz.ntmps139;go_wp2_with fail;(with_reducible refine oo.mono ?_);rintro e w' ⟨rfl,rfl⟩;go_wp2_with fail;(with_reducible refine oo.mono ?_);rintro e w' ⟨rfl,rfl⟩;go_wp2_with fail
 ·rename_i h1
  go_ret;refine⟨?_,rfl⟩;rw [Hs.out,if_pos h1];rfl
 ·rename_i h1 _ _ h2
  go_ret;refine⟨?_,rfl⟩;rw [Hs.out,if_neg (by simp [h1]),if_neg (by simpa using h2)];rfl
 ·rename_i h1 h2
  go_ret;refine⟨?_,rfl⟩;rw [Hs.out,if_neg (by simp [h1]),if_pos (by simpa using h2)];rfl
def zX (d:Dc):Prop:=d.digits.size<=1000000000000/\ -1000000000000<=d.exp/\d.exp<=1000000000000
theorem Bm {a b s:Int}(hs:s=1\/s = -1)(x y:List Int):aG (s*a::x) (s*b::y)=if sg a b=0 then aG x y else s*sg a b:=by
 rw [bk];unfold sg;rcases hs with rfl | rfl <;> (repeat' split) <;> first | rfl | omega
def l9 (a b:Dc):Int:=if sg (a.digits.size+a.exp) (b.digits.size+b.exp)=0 then sv a.digits.toList b.digits.toList else sg (a.digits.size+a.exp) (b.digits.size+b.exp)
theorem BR (a b:Dc):aG (fO a) (fO b)=if km a=km b/\km a≠0 then km a*l9 a b else sg (km a) (km b):=by
 unfold fO;rcases jq a with h | h | h <;> rcases jq b with k | k | k <;> simp only [h,k,if_true] <;> try (simp [bk,aG,sg];done)
 ·rw [if_neg (by decide),if_neg (by decide),if_pos (by decide),bk,if_neg (by omega),if_neg (by omega),Bm (.inr rfl),rt (.inr rfl),<- ByteArray.toList_eq,<- ByteArray.toList_eq]
  unfold l9;split <;> simp [*]
 ·rw [if_neg (by decide),if_neg (by decide),if_pos (by decide),bk,if_neg (by omega),if_neg (by omega),Bm (.inl rfl),rt (.inl rfl),<- ByteArray.toList_eq,<- ByteArray.toList_eq]
  unfold l9;split <;> simp [*]
theorem xK {x:Int}(h:n<=1000000000000)(h1: -1000000000000<=x)(h2:x<=1000000000000):IntKind.i64.wrap ((n:Int)+x)= (n:Int)+x:=by
 rw [IntKind.wrap_i64];omega
theorem vX {a b:Dc}(ha:zX a)(hb:zX b):Calls Tryz.prog 102 #[.agg #[.bool a.neg, .string a.digits, .int .i64 a.exp], .agg #[.bool b.neg, .string b.digits, .int .i64 b.exp]] w fun e w'=>e = .returned (.int .i64 (l9 a b))/\Below w.heap.size w w':=by
 obtain⟨a1,a2,a3⟩:=ha;obtain⟨b1,b2,b3⟩:=hb;have w1:=xK a1 a2 a3;have w2:=xK b1 b2 b3;obtain⟨v,hv⟩:∃v,sg (a.digits.size+a.exp) (b.digits.size+b.exp)=v:=⟨_,rfl⟩;have Ha:=Qa (show l9 a b=if v=0 then sv a.digits.toList b.digits.toList else v by rw [<- hv];rfl);have Hv:=Qa hv;have Hw:=Qa (show Below w.heap.size w ((w.alloc (.cells #[.bool a.neg, .string a.digits, .int .i64 a.exp] 48)).alloc (.cells #[.bool b.neg, .string b.digits, .int .i64 b.exp] 48)) from((Zd _ _).alloc (Za _) _).alloc (by simp) _);clear hv a1 a2 a3 b1 b2 b3
 by_cases h0:v=0
 ·subst h0
  have a0:=Qa (show l9 a b=sv a.digits.toList b.digits.toList from Ha.out);clear Ha;go_enter Tryz.func102,Tryz.ntmps102;go_wp2_with fail;(with_reducible refine bh.mono ?_);rintro e w' ⟨rfl,rfl⟩;rw [Hv.out];go_wp2_with fail;(with_reducible refine wy.mono ?_);rintro e w' ⟨rfl,rfl⟩;go_wp2_with fail;go_ret;rw [a0.out];exact⟨rfl,Hw.out⟩
 ·have a0:=Qa (show l9 a b=v from Ha.out.trans (if_neg h0))
  clear Ha;go_enter Tryz.func102,Tryz.ntmps102;go_wp2_with fail;(with_reducible refine bh.mono ?_);rintro e w' ⟨rfl,rfl⟩;rw [Hv.out];go_wp2_with fail;go_ret;rw [a0.out];exact⟨rfl,Hw.out⟩
abbrev IA (d:Dc):Obj:= .cells #[.bool d.neg, .string d.digits, .int .i64 d.exp] 48 (0,0)
def sZ (w:World)(g1 g2:Nat)(a b:Dc)(w':World):Prop:=w'.heap[g1]?=some (IA a)/\w'.heap[g2]?=some (IA b)/\Below w.heap.size w w'
theorem sZ.below {a b:Dc}(h:sZ w g1 g2 a b w1)(hb:Below w1.heap.size w1 w2):sZ w g1 g2 a b w2:=⟨ai h.1 hb,ai h.2.1 hb,h.2.2.trans (hb.mono h.2.2.size)⟩
theorem sZ.c1 {a b:Dc}(h:sZ w g1 g2 a b w'):w'.cell? ⟨g1,0,none⟩=some (.bool a.neg)/\w'.cell? ⟨g1,1,none⟩=some (.string a.digits)/\w'.cell? ⟨g1,2,none⟩=some (.int .i64 a.exp):=⟨aa h.1 (j:=0) rfl,aa h.1 (j:=1) rfl,aa h.1 (j:=2) rfl⟩
theorem sZ.c2 {a b:Dc}(h:sZ w g1 g2 a b w'):w'.cell? ⟨g2,0,none⟩=some (.bool b.neg)/\w'.cell? ⟨g2,1,none⟩=some (.string b.digits)/\w'.cell? ⟨g2,2,none⟩=some (.int .i64 b.exp):=⟨aa h.2.1 (j:=0) rfl,aa h.2.1 (j:=1) rfl,aa h.2.1 (j:=2) rfl⟩
theorem wu (w:World)(a b:Dc):sZ w w.heap.size (w.heap.size+1) a b ((w.alloc (.cells #[.bool a.neg, .string a.digits, .int .i64 a.exp] 48)).alloc (.cells #[.bool b.neg, .string b.digits, .int .i64 b.exp] 48)):=by
 refine⟨ai (Ze w _) (ac _ _), ?_,((Zd _ _).alloc (Za _) _).alloc (by simp) _⟩;have:=Ze (w.alloc (.cells #[.bool a.neg, .string a.digits, .int .i64 a.exp] 48)) (.cells #[.bool b.neg, .string b.digits, .int .i64 b.exp] 48);have e: (w.alloc (.cells #[.bool a.neg, .string a.digits, .int .i64 a.exp] 48)).heap.size=w.heap.size+1:=by show(w.heap.push _).size=_;rw [Array.size_push]
 rwa [e] at this
theorem wt {a b:Dc}(ha:zX a)(hb:zX b):Calls Tryz.prog 75 #[.agg #[.bool a.neg, .string a.digits, .int .i64 a.exp], .agg #[.bool b.neg, .string b.digits, .int .i64 b.exp]] w fun e w'=>e = .returned (.int .i64 (aG (fO a) (fO b)))/\Below w.heap.size w w':=by
 have Hc:=Qa (BR a b);have Ha:=Qa ha;have Hb:=Qa hb;have HT:=Qa (wu w a b);clear ha hb;go_enter Tryz.func75,Tryz.ntmps75;go_wp2_with fail;obtain⟨w0,b0⟩:∃w0:World,w0= ((w.alloc (.cells #[.bool a.neg, .string a.digits, .int .i64 a.exp] 48)).alloc (.cells #[.bool b.neg, .string b.digits, .int .i64 b.exp] 48)):=⟨_,rfl⟩;rw [<- b0] at HT ⊢;clear b0;have hs:=HT.out.c1;have ht:=HT.out.c2;have b1:=HT.out.2.2;clear HT;generalize w.heap.size+1=g2 at *;obtain⟨g1,a6⟩:∃g1,g1=w.heap.size:=⟨_,rfl⟩;rw [<- a6] at hs ⊢;have a5:=Qa b1;have b3:=Qa a6;clear b1 a6;refine aW (fun w'=>(w'.cell? ⟨g1,0,none⟩=some (.bool a.neg)/\w'.cell? ⟨g1,1,none⟩=some (.string a.digits)/\w'.cell? ⟨g1,2,none⟩=some (.int .i64 a.exp))/\(w'.cell? ⟨g2,0,none⟩=some (.bool b.neg)/\w'.cell? ⟨g2,1,none⟩=some (.string b.digits)/\w'.cell? ⟨g2,2,none⟩=some (.int .i64 b.exp))) (⟨hs,ht⟩) fun a0=> ?_
 refine tH 0 a0 ?_;refine tH 2 a0 ?_
 try simp only [Act.put,jP,jQ,jR]
 refine rH 1 fun K hK=> ?_
 go_simp;(with_reducible refine lN.mono ?_);rintro e w1 ⟨rfl,a1⟩;refine hK.out _ _ (⟨⟨Zf a1 a0.1.1,Zf a1 a0.1.2.1,Zf a1 a0.1.2.2⟩,⟨Zf a1 a0.2.1,Zf a1 a0.2.2.1,Zf a1 a0.2.2.2⟩⟩) (fun a0=> ?_);clear hK K
 try simp only [Act.put,jP,jQ,jR]
 refine rH 3 fun K hK=> ?_
 go_simp;(with_reducible refine lN.mono ?_);rintro e w2 ⟨rfl,a2⟩;refine hK.out _ _ (⟨⟨Zf a2 a0.1.1,Zf a2 a0.1.2.1,Zf a2 a0.1.2.2⟩,⟨Zf a2 a0.2.1,Zf a2 a0.2.2.1,Zf a2 a0.2.2.2⟩⟩) (fun a0=> ?_);clear hK K
 try simp only [Act.put,jP,jQ,jR]
 refine tH 4 a0 ?_;refine tH 5 a0 ?_
 try simp only [Act.put,jP,jQ,jR]
 refine wpAnyH_done (by kernel_rfl) (NoPanic.normal ?_) _;obtain⟨⟨s0,s1,s2⟩,t0,t1,t2⟩:=a0;have a7:Below w.heap.size w w2:=by
  have h1:Below w.heap.size w w1:=a5.out.drew.trans (a1.mono (show w.heap.size<=w0.drew.heap.size from a5.out.size));exact h1.trans (a2.mono h1.size)
 clear hs ht a1 a2 a5 b3;have Hw:=Qa a7;have a3:=jq a;have a4:=jq b;have a9:=Qa (vX (w:=w2) Ha.out Hb.out);have Hd:Hid (l9 a b=0\/l9 a b=1\/l9 a b = -1):=Qa (by unfold l9 sg sv;(repeat' split) <;> simp);generalize hz:l9 a b=z at *;generalize hsa:km a=sa at *;generalize hsb:km b=sb at *;clear hz hsa hsb a7 Ha Hb
 by_cases hq:sa=sb/\sa≠0
 ·obtain⟨rfl,h0⟩:=hq
  have Hv:=Qa (show aG (fO a) (fO b)=sa*z from Hc.out.trans (if_pos ⟨rfl,h0⟩));have hin: -1<=sa*z/\sa*z<=1:=by
   rcases a3 with h | h | h <;> rcases Hd.out with k | k | k <;> rw [h,k] <;> omega
  have hw:IntKind.i64.wrap (sa*z)=sa*z:=IntWalk.i64_in _ (by omega);have b6:=Qa hin;clear hin Hc Hd a3 a4;have b5: (sa==0)=false:=by simpa using h0
  clear h0;go_wp2_with fail;(with_reducible refine a9.out.mono ?_);rintro e w3 ⟨rfl,b4⟩;have b2:=Qa (Hw.out.trans (b4.mono Hw.out.size));go_wp2_with fail;go_ret;rw [Hv.out];exact⟨rfl,b2.out⟩
 ·have Hv:=Qa (show aG (fO a) (fO b)=sg sa sb from Hc.out.trans (if_neg hq))
  clear Hc Hd a9
  by_cases he:sa=sb
  ·subst he
   obtain rfl:sa=0:=by
    rcases a3 with h | h | h
    ·exact h
    all_goals exact absurd ⟨rfl,by rw [h];decide⟩ hq
   clear hq a3 a4;go_wp2_with fail;(with_reducible refine bh.mono ?_);rintro e w3 ⟨rfl,rfl⟩;go_wp2_with fail;go_ret;rw [Hv.out];exact⟨rfl,Hw.out⟩
  ·have b7: (sa==sb)=false:=by simpa using he
   clear hq a3 a4 he;go_wp2_with fail;(with_reducible refine bh.mono ?_);rintro e w3 ⟨rfl,rfl⟩;go_wp2_with fail;go_ret;rw [Hv.out];exact⟨rfl,Hw.out⟩
theorem sJ {a b:Dc}(ha:zX a)(hb:zX b):Calls Tryz.prog 54 #[.agg #[.bool a.neg, .string a.digits, .int .i64 a.exp], .agg #[.bool b.neg, .string b.digits, .int .i64 b.exp]] w fun e w'=>e = .returned (.int .i64 (aG (fO a) (fO b)))/\Below w.heap.size w w':=by
 have Hw:=Qa (show Below w.heap.size w ((w.alloc (.cells #[.bool a.neg, .string a.digits, .int .i64 a.exp] 50)).alloc (.cells #[.bool b.neg, .string b.digits, .int .i64 b.exp] 50)) from((Zd _ _).alloc (Za _) _).alloc (by simp) _);go_enter Tryz.func54,Tryz.ntmps54;go_wp2_with fail;(with_reducible refine(wt ha hb).mono ?_);rintro e w' ⟨rfl,a0⟩;have a1:=Qa (Hw.out.trans (a0.mono Hw.out.size));go_wp2_with fail;go_ret;exact⟨rfl,a1.out⟩
