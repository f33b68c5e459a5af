import Derived.Test.YtohibglohlfjfaaGreatDoorGZ6bs
set_option linter.unusedVariables false
set_option linter.unusedSimpArgs false
set_option maxHeartbeats 64000000
set_option maxRecDepth 100000
namespace Go.Proofs.YtohibglohlfjfaaGreatDoor
open Go.RowKit Go.Shelf
variable {aE aU:Addr}{r:Bool}{d:Dc}{j j':JV}{ns ns':List ByteArray}{ks ks':List JV}{ps:List Nat}{xs xs' ys:List UInt8}{us us':List Value}{N c cap ck cn g gr gt n:Nat}{P Q:Nat->Prop}{A Ak An:Option Addr}{u v v' x:Value}{W w w1:World}
def Kr (B:Nat)(w2:World)(ns:List ByteArray)(ks:List JV)(s10 s11:Value)(wr:World):Prop:= ∃ (i:Nat) (A:Option Addr) (c:Nat) (L:List (ByteArray×Value)),s11 =.int .i64 i/\i<=ks.length/\s10 =.slice A i c/\L.length=i/\Below w2.heap.size w2 wr/\wr.ownsRow B 97 2 (.slice A i c) i (fI L)/\L.map Prod.fst=ns.take i/\bo (VW (fun g=>B<=g/\(Value.slice A i c).ownBlock≠some g) wr) (L.map Prod.snd) (ks.take i)
theorem DX {a:Nat}{t:Bool}{x:ByteArray}(hc:eZ w gt a 6 t x d (.slice An ks.length cn) (.slice Ak ks.length ck))(e8:dh w 0 (.slice An ks.length cn) ns)(hk:bI w 0 (.slice Ak ks.length ck) ps)(hnl:ns.length=ks.length)(f3:ps.length=ks.length)(ha:a<N)(hN:N<=1000000)(hl:ks.length<=1000000)(f0:∀s∈ns,jB s)(e4:f7 ns)
  (H:∀ (i:Nat) (k:JV) (p:Nat),ks[i]?=some k->ps[i]?=some p->∀w1,Below w.heap.size w w1->Calls Tryz.prog 23 #[.slice (some ⟨gt,0,none⟩) N cap,.int .i64 (p:Int)] w1 (FI w1 k)) :
  Calls Tryz.prog 23 #[.slice (some ⟨gt,0,none⟩) N cap,.int .i64 (a:Int)] w (FI w (.mk 6 false ⟨#[]⟩ ⟨false,⟨#[]⟩,0⟩ ns ks)):=by
 obtain⟨c0,c1,c2,c3,c4,c5,c6,c7⟩:=hc.all;have g6:(a:Int)<N:=by omega
 have a2:=Qa (ac w (Io 6 t x d (.slice An ks.length cn) (.slice Ak ks.length ck)));have a4:=Qa (Zf w (Io 6 t x d (.slice An ks.length cn) (.slice Ak ks.length ck)));have Hk:=Qa (bI.below hk a2.out (Zb _));have e0:=Qa (dh.below e8 a2.out (Zb _));have HH:=Qa H;have d6:=Qa f3;have b4:=Qa hnl;have g5:=Qa f0;have e3:=Qa e4;clear hc hk e8 H f3 hnl f0 e4;go_enter Tryz.func23,Tryz.ntmps23;go_wp2_with fail;obtain⟨w2,e1⟩:∃w2,w.alloc (Io 6 t x d (.slice An ks.length cn) (.slice Ak ks.length ck))=w2:=⟨_,rfl⟩;rw[e1] at a2 a4 Hk e0 ⊢;clear e1 c0 c1 c2 c3 c4 c5 c6 c7;have c8:=Qa (show w.heap.size<w2.heap.size from ae a4.out)
 go_loopw [10,11] (fun s10 s11 wr=>Kr w2.heap.size w2 ns ks s10 s11 wr) (fun _ v _=>ks.length - (intOf v).toNat)
 case atStart=>exact⟨0,none,0, [],rfl,Zk _,rfl,rfl,Ze _ _,⟨rfl,.inl ⟨rfl,rfl⟩⟩,rfl,bo.nil _⟩
 case round=>
  obtain⟨i,A,c,L,rfl,hi,rfl,e5,hb,ho,f2,hv⟩:=hrel;have b3:=ai a4.out hb;have c7:=aa b3 (j:=7) (u:=.slice Ak ks.length ck) rfl;have Hb:=Qa hb;have Ho:=Qa ho;have Hv:=Qa hv;have e6:=Qa f2;have d0:=Qa e5;have a7:=hb.size;clear hb ho hv f2 e5
  by_cases hlt:i<ks.length
  ·obtain⟨k,hki⟩:∃k,ks[i]?=some k:=⟨_,Zd hlt⟩;obtain⟨p,b8⟩:∃p,ps[i]?=some p:=⟨_,Zd (by rw[d6.out];exact hlt)⟩;obtain⟨s,c9⟩:∃s,ns[i]?=some s:=⟨_,Zd (by rw[b4.out];exact hlt)⟩;have a5:=Hk.out.below Hb.out (Zb _);have a6:=e0.out.below Hb.out (Zb _);unfold bI at a5;unfold dh at a6;rw[d6.out] at a5;rw[b4.out] at a6;obtain⟨gk,hgk⟩:∃gk,Ak=some ⟨gk,0,none⟩:=by
    obtain⟨_,_,e,_,_,hA⟩:=ag a5;obtain⟨rfl,-,-⟩:=Value.slice.inj e;exact hA (by omega)
   obtain⟨gn,f6⟩:∃gn,An=some ⟨gn,0,none⟩:=by
    obtain⟨_,_,e,_,_,hA⟩:=ag a6;obtain⟨rfl,-,-⟩:=Value.slice.inj e;exact hA (by omega)
   subst hgk f6;have ck0:=aL a5 rfl i (by omega);rw[List.getElem?_map,b8] at ck0;simp only[Option.map_some,cO] at ck0;have cn0:=aL a6 rfl i (by omega);rw[List.getElem?_map,c9] at cn0;simp only[Option.map_some,dU] at cn0;have c6:=aa b3 (j:=6) (u:=.slice (some ⟨gn,0,none⟩) ks.length cn) rfl;have a9:Below wr.heap.size wr wr.drew:=(Ze _ _).drew;have HC:=Qa (HH.out i k p hki b8 wr.drew (a2.out.trans ((Hb.out.trans (a9.mono a7)).mono a2.out.size)));have g2:=Qa hki;have g3:=Qa c9;have d2:(i:Int)<ks.length:=by omega
   have b0:=Qa (aK Ho.out b3 (by decide));have b5:=Qa (aK Ho.out (aj a5 rfl).2.choose_spec (by decide));have b9:=Qa (aK Ho.out (aj a6 rfl).2.choose_spec (by decide));have K6:=Qa (And.intro c6 (And.intro c7 (And.intro cn0 ck0)));clear hki b8 c9 a5 a6 b3 c6 ck0 cn0;go_wp2_with fail;refine aA (fun w'=>w'.cell? ⟨w.heap.size,6,none⟩=some (.slice (some ⟨gn,0,none⟩) ks.length cn)/\w'.cell? ⟨w.heap.size,7,none⟩=some (.slice (some ⟨gk,0,none⟩) ks.length ck)/\w'.cell? ⟨gn,i,none⟩=some (.string s)/\w'.cell? ⟨gk,i,none⟩=some (.int .i64 (p:Int))) (K6.out) fun a0=>?_
   refine tH 0 a0 ?_;refine tH 1 a0 ?_;refine tH 2 a0 ?_;refine tH 3 a0 ?_;refine tH 4 a0 ?_;refine tH 5 a0 ?_
   try simp only[Act.put,jP,jQ,jR]
   refine tH 6 a0 ?_;refine tH 7 a0 ?_;refine tH 8 a0 ?_;refine tH 9 a0 ?_;refine tH 10 a0 ?_;refine tH 11 a0 ?_
   try simp only[Act.put,jP,jQ,jR]
   refine rH 12 fun K hK=>?_
   go_simp;refine Za HC ?_;rintro e w3 ⟨u,rfl,a1,hu⟩;obtain⟨tv,xv,rfl⟩:=hu.iface;have d5:=a1.size;have g4:=Qa (Hb.out.trans ((a9.trans (a1.mono a9.size)).mono a7));have a3:=(a9.trans (a1.mono a9.size)).alloc d5 (.cells #[.string s,.iface tv xv] 97);have b1:=Qa (ao Ho.out a3 (Zb _));have g1:=Qa (ap w3 [.string s,.iface tv xv] 97);have hob:∀b,(Value.slice A i c).ownBlock=some b->b<wr.heap.size:=fun b hb=>ae (aj Ho.out hb).2.choose_spec;have g0:=Qa (Hv.out.mono fun _ _ h=>h.later a3);have Hu:=Qa ((hu.later (ac w3 (.cells #[.string s,.iface tv xv] 97))).imp (Q:=fun g=>w2.heap.size<=g/\(Value.slice A i c).ownBlock≠some g) fun g hg _=>⟨Zc a7 hg,fun e=>by have:=hob g e;have:wr.heap.size<=g:=hg;omega⟩);have b2:=Qa (show w2.heap.size<=(w3.alloc (.cells #[.string s,.iface tv xv] 97)).heap.size by simp;have:wr.heap.size<=w3.heap.size:=d5;omega);have d4:=Qa (g4.out.alloc (Zc a7 d5) (.cells #[.string s,.iface tv xv] 97));have g8:=Qa a1;clear a3 hu hob
   refine hK.out _ _ (⟨Zg a1 a0.1,Zg a1 a0.2.1,Zg a1 a0.2.2.1,Zg a1 a0.2.2.2⟩) (fun a0=>?_);clear hK K
   try simp only[Act.put,jP,jQ,jR]
   refine tH 13 a0 ?_
   try simp only[Act.put,jP,jQ,jR]
   refine rH 14 fun K hK=>?_
   go_simp;refine hK.out _ _ ((by have hx:=ac w3 (.cells #[.string s,.iface tv xv] 97);exact⟨Zg hx a0.1,Zg hx a0.2.1,Zg hx a0.2.2.1,Zg hx a0.2.2.2⟩)) (fun a0=>?_);clear hK K
   try simp only[Act.put,jP,jQ,jR]
   refine rH 15 fun K hK=>?_
   refine xU yF b1.out g1.out b2.out ?_;intro v' w5 p1 p2 p3;obtain⟨A5,q5,rfl,-,-,-⟩:=ag p1;have HK:=Qa p1;have HG:=Qa p2;have HD:=Qa p3;clear p1 p2 p3;refine hK.out _ _ (⟨HG.out.cell a0.1 (fun e=>b0.out e.symm),HG.out.cell a0.2.1 (fun e=>b0.out e.symm),HG.out.cell a0.2.2.1 (fun e=>b9.out e.symm),HG.out.cell a0.2.2.2 (fun e=>b5.out e.symm)⟩) (fun a0=>?_);clear hK K
   try simp only[Act.put,jP,jQ,jR]
   refine tH 16 a0 ?_
   try simp only[Act.put,jP,jQ,jR]
   refine wpAnyH_done (by kernel_rfl) (NoPanic.normal ?_) _;clear a0;go_wp2_with fail;have f8:fI (L ++ [(s,.iface tv xv)])=fI L ++ [.string s,.iface tv xv]:=by simp[fI]
   refine⟨⟨i+1,A5,q5,L ++ [(s,.iface tv xv)],by go_num,by omega,rfl,by rw[List.length_append,d0.out];rfl,d4.out.grown HG.out b2.out (fun g e=>(aj b1.out e).1),by rw[f8];exact HK.out,by rw[bQ g3.out,List.map_append,e6.out];rfl,?_⟩,by simp[intOf];omega⟩;rw[bQ g2.out,List.map_append];exact yP g0.out Hu.out HG.out HD.out
  ·obtain rfl:i=ks.length:=by omega
   have d2:¬ (ks.length:Int)<ks.length:=by omega
   have hn:L.map Prod.fst=ns:=by rw[e6.out,<-b4.out,List.take_length]
   have d1:bo (VW (fun g=>w2.heap.size<=g/\(Value.slice A ks.length c).ownBlock≠some g) wr) (L.map Prod.snd) ks:=by have:=Hv.out;rw[List.take_length] at this;exact this
   have HN:=Qa (gd (yX.of_own Ho.out) (fun p hp=>by
    obtain⟨j,hj,rfl⟩:=List.getElem_of_mem hp;exact⟨g5.out _ (by rw[<-hn];exact List.mem_map.2 ⟨_,List.getElem_mem hj,rfl⟩),(d1.2 j L[j].2 (ks[j]'(by have:=d0.out;omega)) (by rw[List.getElem?_map,Zd hj];rfl) (Zd _)).iface⟩) (by rw[hn];exact e3.out.imp fun h=>mR h) (by omega))
   have Hn:=Qa hn;have f9:=Qa d1;clear hlt hn d1;go_wp2_with fail;refine Za HN ?_;rintro e w3 ⟨gl,A1,c1,S,rfl,b7,g7,d9,f1,hp,hs⟩;have f5:=Qa (a2.out.trans ((Hb.out.trans (b7.mono a7)).mono a2.out.size));have d3:S.length=ks.length:=by rw[hp.length_eq];exact d0.out
   have f4:ns.length=ks.length:=b4.out;have b6:=Qa (wR (Q:=(w.heap.size<= ·)) (L:=L) (ms:=ns.zip ks) (by rw[d3];exact d9) (by rw[d3];exact f1.stay fun g o hp hg _ _=>⟨by have:=c8.out;omega,hg⟩) (by have:=c8.out;omega) hp hs (by rw[List.map_fst_zip (by omega)];exact Hn.out) (by rw[List.map_snd_zip (by omega)];exact f9.out.mono fun _ _ h=>(h.later b7).imp fun g hg _=>by have:=c8.out;omega));rw[jS (by rw[List.map_fst_zip (by omega)];exact e3.out)] at b6;have e2:mn (ns.zip ks) =.mk 6 false ⟨#[]⟩ ⟨false,⟨#[]⟩,0⟩ ns ks:=by unfold mn;rw[List.map_fst_zip (by omega),List.map_snd_zip (by omega)]
   rw[e2] at b6;clear b7 d9 f1 hp hs d3 f4 e2;go_wp2_with fail;go_ret;exact⟨_,rfl,f5.out,b6.out⟩
theorem DD {T:ByteArray->Prop}{j0:JV}(hf:dL w 0 v (j0.flat 0))(hsz:j0.size<=1000000):∀ (j:JV) (a:Nat) (w1:World),Below w.heap.size w w1->dV j0 0 a j->Ok True T j->Calls Tryz.prog 23 #[v,.int .i64 (a:Int)] w1 (FI w1 j):=by
 obtain⟨A,cap,rfl,a2,hm,hA⟩:=hf.form;have hn:=j0.size_pos;obtain⟨gt,rfl⟩:=hA (by rw[JV.flat_len];omega);rw[JV.flat_len] at a2 hm hf ⊢;refine JV.ind (P:=fun j=> ∀ (a:Nat) (w1:World),Below w.heap.size w w1->dV j0 0 a j->Ok True T j->Calls Tryz.prog 23 #[.slice (some ⟨gt,0,none⟩) j0.size cap,.int .i64 (a:Int)] w1 (FI w1 j)) (fun k t x n ns ks ih a w1 hb hs a9=>?_);have a1:=hs.node;rw[Nat.sub_zero] at a1;obtain⟨vn,vk,h1,h2,h3⟩:=(hf.below hb (Zb _)).node a1;have hc:=(show eZ w1 gt a k t x n vn vk from fun j u hu=>h3 j u hu);have a7:=hs.bd;have b1:1<=(JV.mk k t x n ns ks).size:=JV.size_pos _;have ha:a<j0.size:=by omega
 obtain⟨Ak,ck,rfl,-,-,-⟩:=ag h2;obtain⟨An,cn,rfl,-,-,-⟩:=ag h1;have leaf:∀u,nT k t x n u->VW (w1.heap.size<= ·) w1 u (.mk k t x n ns ks)->Calls Tryz.prog 23 #[.slice (some ⟨gt,0,none⟩) j0.size cap,.int .i64 (a:Int)] w1 (FI w1 (.mk k t x n ns ks)):=fun u hl hv=>(zY hc ha hsz hl).mono fun e w' ⟨he,a5⟩=>⟨u,he,a5,hv.later a5⟩
 have hkl:ks.length<=1000000:=by
  have:=cf ks;simp only[JV.size] at a7;omega
 have a4:bI w1 0 (.slice Ak ks.length ck) (aV (a+1) ks):=by
  simp only[bR] at h2;exact h2
 simp only[bR] at hc;have a0:∀ (i:Nat) (u:JV) (p:Nat),ks[i]?=some u->(aV (a+1) ks)[i]?=some p->dV j0 0 p u/\u∈ks:=fun i u p hu hp=>by
  have hi:=(List.getElem?_eq_some_iff.1 hu).1;have e:ks=ks.take i++u::ks.drop (i+1):=by
   have h:=(List.take_append_drop i ks).symm;rw[List.drop_eq_getElem_cons hi] at h;rw[(List.getElem?_eq_some_iff.1 hu).2] at h;exact h
  have b0:p=a+1+JV.sizes (ks.take i):=by
   rw[e,dH,List.getElem?_append_right (by rw[bR,List.length_take];omega),bR,List.length_take,Nat.min_eq_left (by omega),Nat.sub_self] at hp;simpa [aV] using hp.symm
  refine⟨?_,Zl hu⟩;rw[b0];rw[e] at hs;exact hs.kid
 cases a9 with
 |null=>exact leaf _ (.null ..) .null
 |bool b=>exact leaf _ (.bool ..) (.bool _)
 |num d hd hn=>exact leaf _ (.num ..) (.num _)
 |text s hs=>exact leaf _ (.text ..) (.text _)
 |hole h=>exact leaf _ (.hole ..) .hole
 |list ks hks=>exact Br hc a4 (bR _ _) ha hsz hkl fun i u p hu hp w2 a3=>ih u (a0 i u p hu hp).2 p w2 (hb.trans (a3.mono hb.size)) (a0 i u p hu hp).1 (hks u (a0 i u p hu hp).2)
 |obj ns ks hnl h8 hr hks=>
  have a6:dh w1 0 (.slice An ks.length cn) ns:=by
   have:=h1;rw[hnl] at this;exact this
  rw[hnl] at hc;exact DX hc a6 a4 hnl (bR _ _) ha hsz hkl (fun s hs=>⟨(h8 s hs).1,by have:=(h8 s hs).2;omega⟩) hr fun i u p hu hp w2 a3=>ih u (a0 i u p hu hp).2 p w2 (hb.trans (a3.mono hb.size)) (a0 i u p hu hp).1 (hks u (a0 i u p hu hp).2)
theorem El {T:ByteArray->Prop}(hf:dL w 0 v (j.flat 0))(hsz:j.size<=1000000)(a1:Ok True T j):Calls Tryz.prog 6 #[v] w (FI w j):=by
 have H:=Qa (show Calls Tryz.prog 23 #[v,.int .i64 0] w (fun e w'=>FI w j e w') from DD hf hsz j 0 w (Ze _ _) (.here _ _) a1);obtain⟨A,cap,rfl,a0,hm,hA⟩:=hf.form;have hn:=j.size_pos;rw[JV.flat_len] at H hm ⊢;have hne:((j.size:Int)==0)=false:=by simp only[beq_eq_false_iff_ne];omega
 clear hf hA;go_enter Tryz.func6,Tryz.ntmps6;go_wp2_with fail;refine Za H ?_;rintro e w1 ⟨u,rfl,hb,hv⟩;have Hb:=Qa hb;have Hv:=Qa hv;obtain⟨t,x,rfl⟩:=hv.iface;clear hb hv;go_wp2_with fail;go_ret;exact⟨_,rfl,Hb.out,Hv.out⟩
theorem ue {t:TypeId}{y:Value}{i:TypeInfo}(hi:Tryz.prog.info? t=some i)(hc:i.comparable=true)(h:(Op.equalIn (9997+2) t x y).run Tryz.prog W =.ok r W):(binOp .eql 32 (.iface t x) (.iface t y)).run Tryz.prog W =.ok (.bool r) W:=by
 have h:(Op.equalIn (9996+4) 32 (.iface t x) (.iface t y)).run Tryz.prog W =.ok r W:=by
  rw[Op.equalIn];simp only[Sem.run_bind,run_underlying Tryz.underlying32,Result.andThen_ok];simp[typeInfo,hi,hc,h]
 simp only[binOp];simp[Op.equal,Op.maxDepth,h]
theorem kG {t:TypeId}(h:(Tryz.prog.info? t).map (·.comparable)=some true):∃i,Tryz.prog.info? t=some i/\i.comparable=true:=by
 obtain⟨i,h1,h2⟩:=Option.map_eq_some_iff.1 h;exact⟨i,h1,h2⟩
theorem Ff (W:World):(binOp .eql 32 (.iface 49 (.agg #[])) (.iface 49 (.agg #[]))).run Tryz.prog W =.ok (.bool true) W:=by
 obtain⟨i,h1,h2⟩:=kG (t:=49) (by kernel_rfl);exact ue h1 h2 (by kernel_rfl)
theorem FC (W:World):(binOp .eql 32 (.iface 45 (.agg #[])) (.iface 45 (.agg #[]))).run Tryz.prog W =.ok (.bool true) W:=by
 obtain⟨i,h1,h2⟩:=kG (t:=45) (by kernel_rfl);exact ue h1 h2 (by kernel_rfl)
theorem FF (a b:Bool)(W:World):(binOp .eql 32 (.iface 50 (.bool a)) (.iface 50 (.bool b))).run Tryz.prog W =.ok (.bool (a==b)) W:=by
 obtain⟨i,h1,h2⟩:=kG (t:=50) (by kernel_rfl);exact ue h1 h2 (by kernel_rfl)
theorem Fa (a b:ByteArray)(W:World):(binOp .eql 32 (.iface 51 (.string a)) (.iface 51 (.string b))).run Tryz.prog W =.ok (.bool (a.toList==b.toList)) W:=by
 obtain⟨i,h1,h2⟩:=kG (t:=51) (by kernel_rfl);exact ue h1 h2 (run_equalIn_string W 9998 51 a b Tryz.underlying51)
theorem FN (d:Nat)(a b:Bool)(s t:ByteArray)(x y:Int)(W:World):(Op.equalIn (d+3) 110 (.agg #[.bool a,.string s,.int .i64 x]) (.agg #[.bool b,.string t,.int .i64 y])).run Tryz.prog W =.ok ((a==b)&& (s.toList==t.toList)&& (x==y)) W:=by
 rw[run_equalIn_agg W (d+2) 110 _ _ (by kernel_rfl) (by kernel_rfl)];have hf:((Tryz.prog.fieldsOf 110).toList.map fun f=>(decide (f.name = "_"),f.type,f.offset)) = [(false,4,0),(false,9,1),(false,3,2)]:=by kernel_rfl
 obtain⟨f1,f2,f3,h1,h2,h3,h4,h5,h6,h7,h8,h9,a0⟩:∃f1 f2 f3,(Tryz.prog.fieldsOf 110).toList = [f1,f2,f3]/\¬f1.name = "_" /\¬f2.name = "_" /\¬f3.name = "_" /\f1.type=4/\f2.type=9/\f3.type=3/\f1.offset=0/\f2.offset=1/\f3.offset=2:=by
  generalize (Tryz.prog.fieldsOf 110).toList=fs at hf
  cases fs with
  |nil=>simp at hf
  |cons f1 r=>cases r with
   |nil=>simp at hf
   |cons f2 r2=>cases r2 with
    |nil=>simp at hf
    |cons f3 r3=>cases r3 with
     |cons f4 r4=>simp at hf
     |nil=>
      simp only[List.map_cons,List.map_nil,List.cons.injEq,Prod.mk.injEq,decide_eq_false_iff_not,and_true] at hf;exact⟨f1,f2,f3,rfl,hf.1.1,hf.2.1.1,hf.2.2.1,hf.1.2.1,hf.2.1.2.1,hf.2.2.2.1,hf.1.2.2,hf.2.1.2.2,hf.2.2.2.2⟩
 have p1:∀ (a b c:Value) (w:World),(part 4 #[a,b,c] 0).run Tryz.prog w =.ok a w:=fun a b c w=>by kernel_rfl
 have p2:∀ (a b c:Value) (w:World),(part 9 #[a,b,c] 1).run Tryz.prog w =.ok b w:=fun a b c w=>by kernel_rfl
 have p3:∀ (a b c:Value) (w:World),(part 3 #[a,b,c] 2).run Tryz.prog w =.ok c w:=fun a b c w=>by kernel_rfl
 rw[h1];have hs:=run_equalIn_string W (d+1) 9 s t Tryz.underlying9;have hq:(Op.equalIn (d+1+1) 4 (.bool a) (.bool b)).run Tryz.prog W =.ok (a==b) W:=by kernel_rfl
 have hi:=run_equalIn_int W (d+1) 3 .i64 .i64 x y Tryz.underlying3;generalize (s.toList==t.toList)=v at hs ⊢;generalize (a==b)=u at hq ⊢;generalize (x==y)=z at hi ⊢
 cases u <;> cases v <;> cases z <;> simp[Op.eqFields,h2,h3,h4,h5,h6,h7,h8,h9,a0,p1,p2,p3,hi,hs,hq]
theorem Fm (d:Nat)(a b:Bool)(s t:ByteArray)(x y:Int)(W:World):(Op.equalIn (d+4) 113 (.agg #[.bool a,.string s,.int .i64 x]) (.agg #[.bool b,.string t,.int .i64 y])).run Tryz.prog W =.ok ((a==b)&& (s.toList==t.toList)&& (x==y)) W:=by
 rw[run_equalIn_agg W (d+3) 113 _ _ (by kernel_rfl) (by kernel_rfl)];have hf:((Tryz.prog.fieldsOf 113).toList.map fun f=>(decide (f.name = "_"),f.type,f.offset)) = [(false,110,0)]:=by kernel_rfl
 obtain⟨f1,h1,h2,h3,h4⟩:∃f1,(Tryz.prog.fieldsOf 113).toList = [f1]/\¬f1.name = "_" /\f1.type=110/\f1.offset=0:=by
  generalize (Tryz.prog.fieldsOf 113).toList=fs at hf
  cases fs with
  |nil=>simp at hf
  |cons f1 r=>cases r with
   |cons f2 r2=>simp at hf
   |nil=>
    simp only[List.map_cons,List.map_nil,List.cons.injEq,Prod.mk.injEq,decide_eq_false_iff_not,and_true] at hf;exact⟨f1,rfl,hf.1,hf.2.1,hf.2.2⟩
 have p1:∀ (a b c:Value) (w:World),(part 110 #[a,b,c] 0).run Tryz.prog w =.ok (.agg #[a,b,c]) w:=fun a b c w=>by kernel_rfl
 rw[h1];have hs:=FN d a b s t x y W;generalize ((a==b)&& (s.toList==t.toList)&& (x==y))=v at hs ⊢
 cases v <;> simp[Op.eqFields,h2,h3,h4,p1,hs]
theorem GD (a b:Dc)(W:World):(binOp .eql 32 (.iface 113 (.agg #[.bool a.neg,.string a.digits,.int .i64 a.exp])) (.iface 113 (.agg #[.bool b.neg,.string b.digits,.int .i64 b.exp]))).run Tryz.prog W =.ok (.bool ((a.neg==b.neg)&& (a.digits.toList==b.digits.toList)&& (a.exp==b.exp))) W:=by
 obtain⟨i,h1,h2⟩:=kG (t:=113) (by kernel_rfl);exact ue h1 h2 (Fm 9995 _ _ _ _ _ _ W)
theorem C9 (a b:ByteArray):(a.toList==b.toList)=decide (a=b):=by
 rw[Gd]
 congr 1
 rw[ByteArray.toList_eq]
theorem sO {B:Option Addr}(ha:de P w A us ks)(hb:de Q w B us' ks')(hT:cG w)(h1:Below w.heap.size w w1)(hr:r=true↔ks=ks')
  (H:∀ (i:Nat) u u' k k',us[i]?=some u->ks[i]?=some k->us'[i]?=some u'->ks'[i]?=some k'->∀w1,Below w.heap.size w w1->Calls Tryz.prog 25 #[u,u'] w1 fun e w'=>e =.returned (.bool (sW k k'))/\Below w1.heap.size w1 w') :
  Calls Tryz.prog 25 #[.iface 48 (.pointer A),.iface 48 (.pointer B)] w1 fun e w'=>e =.returned (.bool r)/\Below w1.heap.size w1 w':=by
 refine EO fun w2 h2=>?_
 have h3:=h1.trans (h2.mono h1.size);refine qS (ha.below h3) (hb.below h3) (hT.below h3) hr fun i u u' k k' e1 e2 e3 e4 w4 h4=>?_
 exact H i u u' k k' e1 e2 e3 e4 w4 (h3.trans (h4.mono h3.size))
theorem EY {B:Option Addr}(ha:eD P w A us ns ks)(hb:eD Q w B us' ns' ks')(h1:Below w.heap.size w w1)(hr:r=true↔ns=ns'/\ks=ks')
  (H:∀ (i:Nat) u u' k k',us[i]?=some u->ks[i]?=some k->us'[i]?=some u'->ks'[i]?=some k'->∀w1,Below w.heap.size w w1->Calls Tryz.prog 25 #[u,u'] w1 fun e w'=>e =.returned (.bool (sW k k'))/\Below w1.heap.size w1 w') :
  Calls Tryz.prog 25 #[.iface 116 (.pointer A),.iface 116 (.pointer B)] w1 fun e w'=>e =.returned (.bool r)/\Below w1.heap.size w1 w':=by
 refine Ie fun w2 h2=>?_
 have h3:=h1.trans (h2.mono h1.size);refine sY (ha.below h3) (hb.below h3) hr fun i u u' k k' e1 e2 e3 e4 w4 h4=>?_
 exact H i u u' k k' e1 e2 e3 e4 w4 (h3.trans (h4.mono h3.size))
theorem eL {a b:JV}(h:a.kindOf≠b.kindOf):sW a b=false:=jt.2 fun e=>h (by rw[e])
theorem AB {a:JV}(ha:VW P w v a)(hT:cG w):∀ {Q:Nat->Prop} {v':Value} {b:JV},VW Q w v' b->∀w1,Below w.heap.size w w1->Calls Tryz.prog 25 #[v,v'] w1 fun e w'=>e =.returned (.bool (sW a b))/\Below w1.heap.size w1 w':=by
 induction ha with
 |null=>
  intro Q v' b hb w1 h1
  by_cases hk:b.kindOf=1
  ·cases hb with
   |null=>rw[cX.2 rfl];exact ED Ff
   |bool|num|text|hole|bare|list|obj=>simp[JV.kindOf] at hk
  ·rw[eL (fun e=>hk e.symm)];exact fO (P:=P) (Q:=Q) .null (hb.later h1) (fun e=>hk e.symm)
 |hole=>
  intro Q v' b hb w1 h1
  by_cases hk:b.kindOf=7
  ·cases hb with
   |hole=>rw[cX.2 rfl];exact FM FC
   |bool|num|text|null|bare|list|obj=>simp[JV.kindOf] at hk
  ·rw[eL (fun e=>hk e.symm)];exact fO (P:=P) (Q:=Q) .hole (hb.later h1) (fun e=>hk e.symm)
 |bool x=>
  intro Q v' b hb w1 h1
  by_cases hk:b.kindOf=2
  ·cases hb with
   |bool y=>
    have e:sW (.mk 2 x es ⟨false,es,0⟩ [] []) (.mk 2 y es ⟨false,es,0⟩ [] [])= (x==y):=by
     rw[Bool.eq_iff_iff,cX];simp
    rw[e];exact Fb x y (FF x y)
   |hole|num|text|null|bare|list|obj=>simp[JV.kindOf] at hk
  ·rw[eL (fun e=>hk e.symm)];exact fO (P:=P) (Q:=Q) (.bool x) (hb.later h1) (fun e=>hk e.symm)
 |num d=>
  intro Q v' b hb w1 h1
  by_cases hk:b.kindOf=3
  ·cases hb with
   |num y=>
    have e:sW (.mk 3 false es d [] []) (.mk 3 false es y [] [])= ((d.neg==y.neg)&& (d.digits.toList==y.digits.toList)&& (d.exp==y.exp)):=by
     rw[Bool.eq_iff_iff,cX,C9];obtain⟨d1,d2,d3⟩:=d;obtain⟨y1,y2,y3⟩:=y;simp[and_assoc]
    rw[e];exact GA d y (GD d y)
   |hole|bool|text|null|bare|list|obj=>simp[JV.kindOf] at hk
  ·rw[eL (fun e=>hk e.symm)];exact fO (P:=P) (Q:=Q) (.num d) (hb.later h1) (fun e=>hk e.symm)
 |text s=>
  intro Q v' b hb w1 h1
  by_cases hk:b.kindOf=4
  ·cases hb with
   |text y=>
    have e:sW (.mk 4 false s ⟨false,es,0⟩ [] []) (.mk 4 false y ⟨false,es,0⟩ [] [])= (s.toList==y.toList):=by
     rw[Bool.eq_iff_iff,cX,C9];simp
    rw[e];exact EC s y (Fa s y)
   |hole|bool|num|null|bare|list|obj=>simp[JV.kindOf] at hk
  ·rw[eL (fun e=>hk e.symm)];exact fO (P:=P) (Q:=Q) (.text s) (hb.later h1) (fun e=>hk e.symm)
 |bare=>
  intro Q v' b hb w1 h1
  by_cases hk:b.kindOf=5
  ·have a0:=hb;obtain⟨ks',rfl⟩:∃ks',b =.mk 5 false es ⟨false,es,0⟩ [] ks':=by cases hb <;> first|exact⟨_,rfl⟩|simp[JV.kindOf] at hk
   obtain⟨B,us',rfl,hL,hK⟩:=a0.asList;refine sO (P:=P) (us:= []) (.inl ⟨rfl,rfl,rfl⟩) hL hT h1 (cX.trans (by simp)) fun i u u' k k' e1=>?_
   simp at e1
  ·rw[eL (fun e=>hk e.symm)];exact fO (P:=P) (Q:=Q) .bare (hb.later h1) (fun e=>hk e.symm)
 |list g A c us ks hp hg hr hl hks ih=>
  intro Q v' b hb w1 h1
  by_cases hk:b.kindOf=5
  ·have a0:=hb;obtain⟨ks',rfl⟩:∃ks',b =.mk 5 false es ⟨false,es,0⟩ [] ks':=by cases hb <;> first|exact⟨_,rfl⟩|simp[JV.kindOf] at hk
   obtain⟨B,us',rfl,hL,hK⟩:=a0.asList;refine sO (P:=P) (.inr ⟨g,A,c,rfl,hg,hr,hl⟩) hL hT h1 (cX.trans (by simp)) fun i u u' k k' e1 e2 e3 e4 w2 h2=>?_
   exact ih i u k e1 e2 (hK i u' k' e3 e4) w2 h2
  ·rw[eL (fun e=>hk e.symm)];exact fO (P:=P) (Q:=Q) ((VW.list g A c us ks hp hg hr hl hks).later h1) (hb.later h1) (fun e=>hk e.symm)
 |obj g A c us ns ks hp hg hr hl hn hks ih=>
  intro Q v' b hb w1 h1
  by_cases hk:b.kindOf=6
  ·have a0:=hb;obtain⟨ns',ks',rfl⟩:∃ns' ks',b =.mk 6 false es ⟨false,es,0⟩ ns' ks':=by cases hb <;> first|exact⟨_,_,rfl⟩|simp[JV.kindOf] at hk
   obtain⟨B,us',rfl,hL,hK⟩:=a0.asObj;refine EY (P:=P) ⟨g,A,c,rfl,hg,hr,hl,hn⟩ hL h1 (cX.trans (by simp)) fun i u u' k k' e1 e2 e3 e4 w2 h2=>?_
   exact ih i u k e1 e2 (hK i u' k' e3 e4) w2 h2
  ·rw[eL (fun e=>hk e.symm)];exact fO (P:=P) (Q:=Q) ((VW.obj g A c us ns ks hp hg hr hl hn hks).later h1) (hb.later h1) (fun e=>hk e.symm)
theorem pl {a b:JV}(ha:VW P w v a)(hb:VW Q w v' b)(hT:cG w):Calls Tryz.prog 8 #[v,v'] w fun e w'=>e =.returned (.bool (sW a b))/\Below w.heap.size w w':=by
 have H:=Qa (AB ha hT hb w (Ze _ _));obtain⟨t1,x1,rfl⟩:=ha.iface;obtain⟨t2,x2,rfl⟩:=hb.iface;clear ha hb hT;generalize sW a b=c at *;go_enter Tryz.func8,Tryz.ntmps8;go_wp2_with fail;refine Za H ?_;rintro e w2 ⟨rfl,a0⟩;go_wp2_with fail;go_ret;exact⟨rfl,a0⟩
theorem nr {a b:Option JV}(ha:OV P w v a)(hb:OV Q w v' b)(hn:a=none\/b=none):Calls Tryz.prog 8 #[v,v'] w fun e w'=>e =.returned (.bool false)/\Below w.heap.size w w':=by
 by_cases h1:a=none
 ·subst h1;obtain rfl:v =.nilIface:=ha;go_enter Tryz.func8,Tryz.ntmps8;go_wp2_with fail;go_ret;exact⟨rfl,Ze _ _⟩
 ·obtain rfl:=hn.resolve_left h1;obtain rfl:v' =.nilIface:=hb;obtain⟨j,rfl⟩:∃j,a=some j:=by cases a with|none=>exact absurd rfl h1|some j=>exact⟨j,rfl⟩
  obtain⟨t1,x1,rfl⟩:=VW.iface (show VW P w v j from ha);clear ha h1 hn;go_enter Tryz.func8,Tryz.ntmps8;go_wp2_with fail;go_ret;exact⟨rfl,Ze _ _⟩
theorem vv (hE:qG w aU aE)(hM:kB w)(hT:cG w)(hb:Bs w v xs)(h0:0<xs.length)(hl:xs.length<=1000000000)(hp:eV xs=some j)(tx:Tx j)(sz:Sz j)(hx:(JV.txt j).length<=140737488355328) :
  Calls Tryz.prog 10 #[v] w (GG (JV.txt j) w):=by
 have H:=Qa (ki hE hM hb h0 hl hp);have HB:=Qa (fun u w1 (hw:Below w.heap.size w w1) (hv:VW (w.heap.size<= ·) w1 u j)=>ji hv (hT.below hw) (hE.glob.below hw) tx sz hx);clear hE hM hT hb h0 hl hp tx sz hx;generalize JV.txt j=tl at *;go_enter Tryz.func10,Tryz.ntmps10;go_wp2_with fail;refine Za H ?_;rintro e w1 ⟨u,rfl,a1,hv⟩;have a0:=Qa a1;have a4:=Qa (HB.out u w1 a1 hv);obtain⟨t1,x1,rfl⟩:=hv.iface;clear a1 hv HB;go_wp2_with fail;refine Za a4 ?_;rintro e w2 ⟨u2,rfl,ho,a2⟩;have a3:=Qa (a0.out.trans (a2.mono a0.out.size));have Ho:=Qa (bV ho a0.out.size);obtain⟨A,q,rfl,-⟩:=ag ho;clear ho a2;go_wp2_with fail;go_ret2;exact⟨_,rfl,Ho.out,a3.out⟩
theorem Cc (hE:qG w aU aE)(hM:kB w)(hT:cG w)(hb:Bs w v xs)(h0:0<xs.length)(hl:xs.length<=1000000000)(hp:eV xs=some j)(b0:Bs w v' xs')(a5:0<xs'.length)(a4:xs'.length<=1000000000)(a9:eV xs'=some j') :
  Calls Tryz.prog 12 #[v,v'] w fun e w'=>e =.returned (.tuple #[.bool (sW j j'),.nilIface])/\Below w.heap.size w w':=by
 have H:=Qa (ki hE hM hb h0 hl hp);have H2:=Qa (fun w1 (hw:Below w.heap.size w w1)=>ki (hE.below hw) (hM.below hw) (b0.below hw) a5 a4 a9);have HT:=Qa hT;clear hE hM hT hb h0 hl hp b0 a5 a4 a9;go_enter Tryz.func12,Tryz.ntmps12;go_wp2_with fail;refine Za H ?_;rintro e w1 ⟨u,rfl,a1,hv⟩;have a7:=Qa a1;have Hv:=Qa hv;have b1:=Qa (H2.out w1 a1);obtain⟨t1,x1,rfl⟩:=hv.iface;clear a1 hv;go_wp2_with fail;refine Za b1 ?_;rintro e w2 ⟨u2,rfl,a0,a2⟩;have a3:=Qa (a7.out.trans (a0.mono a7.out.size));have HQ:=Qa (pl (Hv.out.later a0) a2 (HT.out.below a3.out));obtain⟨t2,x2,rfl⟩:=a2.iface;clear a0 a2;go_wp2_with fail;refine Za HQ ?_;rintro e w3 ⟨rfl,a6⟩;have b2:=Qa (a3.out.trans (a6.mono a3.out.size));clear a6;go_wp2_with fail;go_ret2;exact⟨rfl,b2.out⟩
theorem nF (h:Bs w v xs)(h':Bs w v' ys):Calls Tryz.prog 37 #[v,v'] w fun e w'=>e =.returned (.bool (decide (xs=ys)))/\w=w':=by
 have c1:=aO h;have c2:=aO h';have He:Hid (((⟨xs.toArray⟩:ByteArray).toList== (⟨ys.toArray⟩:ByteArray).toList)=decide (xs=ys)):=Qa (by
  rw[qD,qD,Bool.eq_iff_iff];simp)
 clear h h';generalize (⟨xs.toArray⟩:ByteArray)=a at *;generalize (⟨ys.toArray⟩:ByteArray)=b at *;go_enter Tryz.func37,Tryz.ntmps37;go_wp2_with fail;go_ret;rw[<-He.out];exact⟨rfl,rfl⟩
theorem Da (hE:qG w aU aE)(hM:kB w)(hT:cG w)(hb:Bs w v xs)(h0:0<xs.length)(hl:xs.length<=1000000000)(hp:eV xs=some j)(tx:Tx j)(sz:Sz j)(hx:(JV.txt j).length<=140737488355328) :
  Calls Tryz.prog 19 #[v] w fun e w'=>e =.returned (.bool (decide (xs=JV.txt j)))/\Below w.heap.size w w':=by
 have H:=Qa (vv hE hM hT hb h0 hl hp tx sz hx);have HE:=Qa (fun w1 u (hw:Below w.heap.size w w1) (ho:aq w1 w.heap.size u (JV.txt j))=>nF (hb.below hw) (aq.bs ho));clear hE hM hT hb h0 hl hp tx sz hx;go_enter Tryz.func19,Tryz.ntmps19;go_wp2_with fail;refine Za H ?_;rintro e w1 ⟨u,rfl,ho,a0⟩;have a1:=Qa a0;have HQ:=Qa (HE.out w1 u a0 ho);obtain⟨A,q,rfl,-⟩:=ag ho;clear ho a0;go_wp2_with fail;refine Za HQ ?_;rintro e w2 ⟨rfl,rfl⟩;go_wp2_with fail;go_ret;exact⟨rfl,a1.out⟩
def J8 (x:Value)(w:World)(e:Ending)(w':World):Prop:=e =.returned (.tuple #[.slice none 0 0,x])/\Below w.heap.size w w'
theorem z7 {a:Addr}(hN:w.cell? ⟨0,0,none⟩=some (bG a)):Calls Tryz.prog 11 #[.nilIface] w (J8 (bG a) w):=by
 have a1:Below w.heap.size w ((w.alloc (.cells #[.slice none 0 0] 22)).alloc (.cells #[.nilIface] 40)):=((Ze _ _).alloc (Zb _) _).alloc (by simp) _;have h0:((w.alloc (.cells #[.slice none 0 0] 22)).alloc (.cells #[.nilIface] 40)).heap[w.heap.size]?=some (.cells #[.slice none 0 0] 22 (0,0)):=(Below.heap_alloc _ _ _ (by simp)).trans (Zf w _);have h1:((w.alloc (.cells #[.slice none 0 0] 22)).alloc (.cells #[.nilIface] 40)).heap[w.heap.size+1]?=some (.cells #[.nilIface] 40 (0,0)):=by
  have:=Zf (w.alloc (.cells #[.slice none 0 0] 22)) (.cells #[.nilIface] 40)
  rwa[World.size_alloc] at this
 have cN:=Zg a1 hN;have a5:0<w.heap.size:=World.block_lt_of_cell? w _ hN;have a3:=Qa a1;have H0:=Qa h0;have H1:=Qa h1;clear a1 h0 h1 hN;go_enter_defers Tryz.func11,Tryz.ntmps11;go_wp2_with fail;generalize (w.alloc (.cells #[.slice none 0 0] 22)).alloc (.cells #[.nilIface] 40)=w1 at *;have c0:=aa H0.out (j:=0) (u:=.slice none 0 0) rfl;have f0:=ak H0.out 0;have c1:=aa H1.out (j:=0) (u:=.nilIface) rfl;have f1:=ak H1.out 0;refine aA (fun w'=>w'.cell? ⟨0,0,none⟩=some (bG a)/\(w'.heap[w.heap.size]?=some (.cells #[.slice none 0 0] 22 (0,0)))/\(∃z,w'.heap[w.heap.size+1]?=some (.cells #[z] 40 (0,0)))) (⟨cN,H0.out,_,H1.out⟩) fun a0=>?_
 refine tH 0 a0 ?_
 try simp only[Act.put,jP,jQ,jR]
 refine rH 1 fun K hK=>?_
 go_simp;refine hK.out _ _ ((by obtain⟨q1,q2,z,q3⟩:=a0;exact⟨(World.cell?_of_block (Below.heap_setCell _ ⟨w.heap.size,0,none⟩ _ 0 (by show _≠w.heap.size;omega))).trans q1,au q2 0 (.slice none 0 0),z,ar _ (w.heap.size+1) w.heap.size 0 (.slice none 0 0) _ _ (by omega) q3⟩)) (fun a0=>?_);clear hK K
 try simp only[Act.put,jP,jQ,jR]
 refine rH 2 fun K hK=>?_
 go_simp;refine hK.out _ _ ((by obtain⟨q1,q2,z,q3⟩:=a0;exact⟨(World.cell?_of_block (Below.heap_setCell _ ⟨w.heap.size+1,0,none⟩ _ 0 (by show _≠w.heap.size+1;omega))).trans q1,ar _ w.heap.size (w.heap.size+1) 0 (bG a) _ _ (by omega) q2,_,au q3 0 (bG a)⟩)) (fun a0=>?_);clear hK K
 try simp only[Act.put,jP,jQ,jR]
 refine wpAnyH_done (by kernel_rfl) (NoPanic.normal ?_) _;obtain⟨a2,d0,d1⟩:=qz H0.out H1.out a3.out (.slice none 0 0) (bG a);rw[show(Value.iface 409 (.pointer (some a)))=bG a from rfl];have a4:=a2.drew;have e0:((w1.setCell ⟨w.heap.size,0,none⟩ (.slice none 0 0)).setCell ⟨w.heap.size+1,0,none⟩ (bG a)).drew.cell? ⟨w.heap.size,0,none⟩=some (.slice none 0 0):=d0;have e1:((w1.setCell ⟨w.heap.size,0,none⟩ (.slice none 0 0)).setCell ⟨w.heap.size+1,0,none⟩ (bG a)).drew.cell? ⟨w.heap.size+1,0,none⟩=some (bG a):=d1;clear d0 d1 a2 c0 c1 f0 f1 a0;generalize ((w1.setCell ⟨w.heap.size,0,none⟩ (.slice none 0 0)).setCell ⟨w.heap.size+1,0,none⟩ (bG a)).drew=w4 at *;go_wp2_with fail;simp[bodyPostD,Leaves,settle,results,Tryz.results11,go_sem,e0,e1];exact⟨rfl,a4⟩
theorem vY:Calls Tryz.prog 30 #[.iface 45 (.agg #[])] w fun e w'=>e =.returned (.bool true)/\Below w.heap.size w w':=by
 have a2:=Qa (show Below w.heap.size w (w.alloc (.cells #[.bool false] 4)) from(Ze _ _).alloc (Zb _) _);have Hk:=Qa (Bx.new w 4 (.bool false));go_enter Tryz.func30,Tryz.ntmps30;go_wp2_with fail;refine gV.mono ?_;rintro e w1 ⟨rfl,a1⟩;have a3:=Qa (a2.out.trans (a1.mono a2.out.size));have a0:=Hk.out.later a1;have a6:=a0.cell;have a7:=a0.frozen;have a5:=Qa (a0.set (.bool true)).cell;clear a1 a0;go_wp2_with fail;refine Zh (v:=.bool true) ?_ rfl ⟨rfl,a3.out.setCell (p:=⟨w.heap.size,0,none⟩) (Zb _) _⟩;have a4:=a5.out;simp[results,Tryz.results30,go_sem,a4]
theorem yk {a:Addr}(hN:w.cell? ⟨1,0,none⟩=some (bG a)):Calls Tryz.prog 11 #[.iface 45 (.agg #[])] w (J8 (bG a) w):=by
 have a3:Below w.heap.size w ((w.alloc (.cells #[.slice none 0 0] 22)).alloc (.cells #[.nilIface] 40)):=((Ze _ _).alloc (Zb _) _).alloc (by simp) _;have h0:((w.alloc (.cells #[.slice none 0 0] 22)).alloc (.cells #[.nilIface] 40)).heap[w.heap.size]?=some (.cells #[.slice none 0 0] 22 (0,0)):=(Below.heap_alloc _ _ _ (by simp)).trans (Zf w _);have h1:((w.alloc (.cells #[.slice none 0 0] 22)).alloc (.cells #[.nilIface] 40)).heap[w.heap.size+1]?=some (.cells #[.nilIface] 40 (0,0)):=by
  have:=Zf (w.alloc (.cells #[.slice none 0 0] 22)) (.cells #[.nilIface] 40)
  rwa[World.size_alloc] at this
 have cN:=Zg a3 hN;have a6:1<w.heap.size:=World.block_lt_of_cell? w _ hN;have a2:=Qa a3;have H0:=Qa h0;have H1:=Qa h1;clear a3 h0 h1 hN;go_enter_defers Tryz.func11,Tryz.ntmps11;go_wp2_with fail;generalize (w.alloc (.cells #[.slice none 0 0] 22)).alloc (.cells #[.nilIface] 40)=w1 at *;refine vY.mono ?_;rintro e w2 ⟨rfl,a1⟩;replace cN:=Zg a1 cN;replace H0:=Qa (ai H0.out a1);replace H1:=Qa (ai H1.out a1);replace a2:=Qa (a2.out.trans (a1.mono a2.out.size));clear a1;go_wp2_with fail;have c0:=aa H0.out (j:=0) (u:=.slice none 0 0) rfl;have f0:=ak H0.out 0;have c1:=aa H1.out (j:=0) (u:=.nilIface) rfl;have f1:=ak H1.out 0;refine aA (fun w'=>w'.cell? ⟨1,0,none⟩=some (bG a)/\(w'.heap[w.heap.size]?=some (.cells #[.slice none 0 0] 22 (0,0)))/\(∃z,w'.heap[w.heap.size+1]?=some (.cells #[z] 40 (0,0)))) (⟨cN,H0.out,_,H1.out⟩) fun a0=>?_
 refine tH 0 a0 ?_
 try simp only[Act.put,jP,jQ,jR]
 refine rH 1 fun K hK=>?_
 go_simp;refine hK.out _ _ ((by obtain⟨q1,q2,z,q3⟩:=a0;exact⟨(World.cell?_of_block (Below.heap_setCell _ ⟨w.heap.size,0,none⟩ _ 1 (by show _≠w.heap.size;omega))).trans q1,au q2 0 (.slice none 0 0),z,ar _ (w.heap.size+1) w.heap.size 0 (.slice none 0 0) _ _ (by omega) q3⟩)) (fun a0=>?_);clear hK K
 try simp only[Act.put,jP,jQ,jR]
 refine rH 2 fun K hK=>?_
 go_simp;refine hK.out _ _ ((by obtain⟨q1,q2,z,q3⟩:=a0;exact⟨(World.cell?_of_block (Below.heap_setCell _ ⟨w.heap.size+1,0,none⟩ _ 1 (by show _≠w.heap.size+1;omega))).trans q1,ar _ w.heap.size (w.heap.size+1) 0 (bG a) _ _ (by omega) q2,_,au q3 0 (bG a)⟩)) (fun a0=>?_);clear hK K
 try simp only[Act.put,jP,jQ,jR]
 refine wpAnyH_done (by kernel_rfl) (NoPanic.normal ?_) _;obtain⟨a4,d0,d1⟩:=qz H0.out H1.out a2.out (.slice none 0 0) (bG a);rw[show(Value.iface 409 (.pointer (some a)))=bG a from rfl];have a5:=a4.drew;have e0:((w2.setCell ⟨w.heap.size,0,none⟩ (.slice none 0 0)).setCell ⟨w.heap.size+1,0,none⟩ (bG a)).drew.cell? ⟨w.heap.size,0,none⟩=some (.slice none 0 0):=d0;have e1:((w2.setCell ⟨w.heap.size,0,none⟩ (.slice none 0 0)).setCell ⟨w.heap.size+1,0,none⟩ (bG a)).drew.cell? ⟨w.heap.size+1,0,none⟩=some (bG a):=d1;clear d0 d1 a4 c0 c1 f0 f1 a0;generalize ((w2.setCell ⟨w.heap.size,0,none⟩ (.slice none 0 0)).setCell ⟨w.heap.size+1,0,none⟩ (bG a)).drew=w4 at *;go_wp2_with fail;simp[bodyPostD,Leaves,settle,results,Tryz.results11,go_sem,e0,e1];exact⟨rfl,a5⟩
theorem oX:Calls Tryz.prog 13 #[] w fun e w'=>e =.returned (.pointer (some ⟨w.heap.size,0,none⟩))/\w'.heap[w.heap.size]?=some (.cells #[.slice none 0 0,.nilIface] 83 (0,0))/\Below w.heap.size w w':=by
 have h0:=Qa (Zf w (.cells #[.slice none 0 0,.nilIface] 83));have hb:=Qa (ac w (.cells #[.slice none 0 0,.nilIface] 83));go_enter Tryz.func13,Tryz.ntmps13;go_wp2_with fail;go_ret;exact⟨rfl,h0.out,hb.out⟩
theorem oJ {d:Value}(h:w.heap[g]?=some (.cells #[.slice A 0 c,d] 83 (0,0))):Calls Tryz.prog 34 #[.pointer (some ⟨g,0,none⟩)] w fun e w'=>e =.returned .nilIface/\w=w':=by
 have c0:=aa h (j:=0) (u:=.slice A 0 c) rfl;clear h;go_enter Tryz.func34,Tryz.ntmps34;go_wp2_with fail;go_ret;exact⟨rfl,rfl⟩
theorem B6 {d:Value}(h:w.heap[g]?=some (.cells #[.slice (some ⟨gr,0,none⟩) (n+1) c,d] 83 (0,0)))(hn:n<1000000000)(hu:w.cell? ⟨gr,n,none⟩=some u):Calls Tryz.prog 34 #[.pointer (some ⟨g,0,none⟩)] w fun e w'=>e =.returned u/\∃m,w'=w.drewN m:=by
 have c0:=aa h (j:=0) (u:=.slice (some ⟨gr,0,none⟩) (n+1) c) rfl;have s1:IntKind.i64.wrap (n:Int)= (n:Int):=IntWalk.i64_in _ (by omega);have s2:(n:Int)< (n:Int)+1:=by omega
 have s3:((n:Int)+1==0)=false:=by simp only[beq_eq_false_iff_ne];omega
 clear h;go_enter Tryz.func34,Tryz.ntmps34;go_wp2_with fail;go_quiet (fail);go_wp2_with fail;go_ret;exact⟨rfl,_,rfl⟩
