import Derived.Test.YtibmppoeeppnoaaGreatDoorGZ4bl
import Derived.Shelf.Strconv.Itoa3
import Derived.Lib.AppendIntMem
set_option linter.unusedVariables false
set_option linter.unusedSimpArgs false
set_option maxHeartbeats 64000000
set_option maxRecDepth 100000
namespace Go.Proofs.YtibmppoeeppnoaaGreatDoor
open Go.RowKit Go.Shelf
variable {cs:Array Value}{s:ByteArray}{d:Dc}{j j0:JV}{ns:List ByteArray}{ks:List JV}{ps:List Nat}{us:List Value}{N a c cap ck cn g gt i n:Nat}{P:Nat->Prop}{A Ak An:Option Addr}{u v x:Value}{w w':World}
def IK (B:Nat)(w2:World)(ns:List ByteArray)(ks:List JV)(s10 s11:Value)(wr:World):Prop:= ∃ (i:Nat) (A:Option Addr) (c:Nat) (L:List (ByteArray×Value)),s11 =.int .i64 i/\i<=ks.length/\s10 =.slice A i c/\L.length=i/\Below w2.heap.size w2 wr/\wr.ownsRow B 99 2 (.slice A i c) i (fI L)/\L.map Prod.fst=ns.take i/\br (VW (fun g=>B<=g/\(Value.slice A i c).ownBlock≠some g) wr) (L.map Prod.snd) (ks.take i)
theorem BN {t:Bool}{x:ByteArray}(hc:fa w gt a 6 t x d (.slice An ks.length cn) (.slice Ak ks.length ck))(e4:cI w 0 (.slice An ks.length cn) ns)(hk:bQ w 0 (.slice Ak ks.length ck) ps)(hnl:ns.length=ks.length)(e1:ps.length=ks.length)(ha:a<N)(hN:N<=1000000)(hl:ks.length<=1000000)(d9:∀s∈ns,jr s)(f2:dU ns)
  (H:∀ (i:Nat) (k:JV) (p:Nat),ks[i]?=some k->ps[i]?=some p->∀w1,Below w.heap.size w w1->Calls Tryz.prog 27 #[.slice (some ⟨gt,0,none⟩) N cap,.int .i64 (p:Int)] w1 (Eu w1 k)) :
  Calls Tryz.prog 27 #[.slice (some ⟨gt,0,none⟩) N cap,.int .i64 (a:Int)] w (Eu w (.mk 6 false ⟨#[]⟩ ⟨false,⟨#[]⟩,0⟩ ns ks)):=by
 have c0:=hc 0 _ rfl;rw[Nat.add_zero] at c0;have c1:=hc 1 _ rfl;have c2:=hc 2 _ rfl;have c3:=hc 3 _ rfl;have c4:=hc 4 _ rfl;have c5:=hc 5 _ rfl;have c6:=hc 6 _ rfl;have c7:=hc 7 _ rfl;have g5:(a:Int)<N:=by omega
 have a3:=Qa (ac w (.cells #[.int .i64 6,.bool t,.string x,.bool d.neg,.string d.digits,.int .i64 d.exp,.slice An ks.length cn,.slice Ak ks.length ck] 69));have a4:=Qa (Ze w (.cells #[.int .i64 6,.bool t,.string x,.bool d.neg,.string d.digits,.int .i64 d.exp,.slice An ks.length cn,.slice Ak ks.length ck] 69));have Hk:=Qa (bQ.below hk a3.out (Za _));have e3:=Qa (cI.below e4 a3.out (Za _));have HH:=Qa H;have f1:=Qa e1;have b4:=Qa hnl;have g4:=Qa d9;have e2:=Qa f2;clear hc hk e4 H e1 hnl d9 f2;go_enter Tryz.func27,Tryz.ntmps27;go_wp2_with fail;obtain⟨w2,d7⟩:∃w2,w.alloc (.cells #[.int .i64 6,.bool t,.string x,.bool d.neg,.string d.digits,.int .i64 d.exp,.slice An ks.length cn,.slice Ak ks.length ck] 69)=w2:=⟨_,rfl⟩;rw[d7] at a3 a4 Hk e3 ⊢;clear d7 c0 c1 c2 c3 c4 c5 c6 c7;have b8:=Qa (show w.heap.size<w2.heap.size from ae a4.out)
 go_loopw [10,11] (fun s10 s11 wr=>IK w2.heap.size w2 ns ks s10 s11 wr) (fun _ v _=>ks.length - (intOf v).toNat)
 case atStart=>exact⟨0,none,0, [],rfl,Zj _,rfl,rfl,Zd _ _,⟨rfl,.inl ⟨rfl,rfl⟩⟩,rfl,br.nil _⟩
 case round=>
  obtain⟨i,A,c,L,rfl,hi,rfl,e8,hb,ho,e6,hv⟩:=hrel;have b3:=ai a4.out hb;have c7:=aa b3 (j:=7) (u:=.slice Ak ks.length ck) rfl;have Hb:=Qa hb;have Ho:=Qa ho;have Hv:=Qa hv;have e7:=Qa e6;have b6:=Qa e8;have b1:=hb.size;clear hb ho hv e6 e8
  by_cases hlt:i<ks.length
  ·obtain⟨k,d0⟩:∃k,ks[i]?=some k:=⟨_,Zc hlt⟩;obtain⟨p,b5⟩:∃p,ps[i]?=some p:=⟨_,Zc (by rw[f1.out];exact hlt)⟩;obtain⟨s,d3⟩:∃s,ns[i]?=some s:=⟨_,Zc (by rw[b4.out];exact hlt)⟩;have a6:=Hk.out.below Hb.out (Za _);have a5:=e3.out.below Hb.out (Za _);unfold bQ at a6;unfold cI at a5;rw[f1.out] at a6;rw[b4.out] at a5;obtain⟨gk,hgk⟩:∃gk,Ak=some ⟨gk,0,none⟩:=by
    obtain⟨_,_,e,_,_,hA⟩:=ag a6;obtain⟨rfl,-,-⟩:=Value.slice.inj e;exact hA (by omega)
   obtain⟨gn,g2⟩:∃gn,An=some ⟨gn,0,none⟩:=by
    obtain⟨_,_,e,_,_,hA⟩:=ag a5;obtain⟨rfl,-,-⟩:=Value.slice.inj e;exact hA (by omega)
   subst hgk g2;have ck0:=aD a6 rfl i (by omega);rw[List.getElem?_map,b5] at ck0;simp only[Option.map_some,df] at ck0;have cn0:=aD a5 rfl i (by omega);rw[List.getElem?_map,d3] at cn0;simp only[Option.map_some,dL] at cn0;have c6:=aa b3 (j:=6) (u:=.slice (some ⟨gn,0,none⟩) ks.length cn) rfl;have a9:Below wr.heap.size wr wr.drew:=(Zd _ _).drew;have HC:=Qa (HH.out i k p d0 b5 wr.drew (a3.out.trans ((Hb.out.trans (a9.mono b1)).mono a3.out.size)));have g0:=Qa d0;have f4:=Qa d3;have d5:(i:Int)<ks.length:=by omega
   have a7:=Qa (aI Ho.out b3 (by decide));have c9:=Qa (aI Ho.out (ak a6 rfl).2.choose_spec (by decide));have d4:=Qa (aI Ho.out (ak a5 rfl).2.choose_spec (by decide));have K6:=Qa (And.intro c6 (And.intro c7 (And.intro cn0 ck0)));clear d0 b5 d3 a6 a5 b3 c6 ck0 cn0;go_wp2_with fail;refine aO (fun w'=>w'.cell? ⟨w.heap.size,6,none⟩=some (.slice (some ⟨gn,0,none⟩) ks.length cn)/\w'.cell? ⟨w.heap.size,7,none⟩=some (.slice (some ⟨gk,0,none⟩) ks.length ck)/\w'.cell? ⟨gn,i,none⟩=some (.string s)/\w'.cell? ⟨gk,i,none⟩=some (.int .i64 (p:Int))) (K6.out) fun a0=>?_
   refine tH 0 a0 ?_;refine tH 1 a0 ?_;refine tH 2 a0 ?_;refine tH 3 a0 ?_;refine tH 4 a0 ?_;refine tH 5 a0 ?_
   try simp only[Act.put,jP,jQ,jR]
   refine tH 6 a0 ?_;refine tH 7 a0 ?_;refine tH 8 a0 ?_;refine tH 9 a0 ?_;refine tH 10 a0 ?_;refine tH 11 a0 ?_
   try simp only[Act.put,jP,jQ,jR]
   refine rH 12 fun K hK=>?_
   go_simp;(with_reducible refine HC.out.mono ?_);rintro e w3 ⟨u,rfl,a1,hu⟩;obtain⟨tv,xv,rfl⟩:=hu.iface;have b9:=a1.size;have g1:=Qa (Hb.out.trans ((a9.trans (a1.mono a9.size)).mono b1));have a2:=(a9.trans (a1.mono a9.size)).alloc b9 (.cells #[.string s,.iface tv xv] 99);have b0:=Qa (ao Ho.out a2 (Za _));have f3:=Qa (ap w3 [.string s,.iface tv xv] 99);have hob:∀b,(Value.slice A i c).ownBlock=some b->b<wr.heap.size:=fun b hb=>ae (ak Ho.out hb).2.choose_spec;have f6:=Qa (Hv.out.mono fun _ _ h=>h.later a2);have Hu:=Qa ((hu.later (ac w3 (.cells #[.string s,.iface tv xv] 99))).imp (Q:=fun g=>w2.heap.size<=g/\(Value.slice A i c).ownBlock≠some g) fun g hg _=>⟨Zb b1 hg,fun e=>by have:=hob g e;have:wr.heap.size<=g:=hg;omega⟩);have b2:=Qa (show w2.heap.size<=(w3.alloc (.cells #[.string s,.iface tv xv] 99)).heap.size by simp;have:wr.heap.size<=w3.heap.size:=b9;omega);have d6:=Qa (g1.out.alloc (Zb b1 b9) (.cells #[.string s,.iface tv xv] 99));have g6:=Qa a1;clear a2 hu hob
   refine hK.out _ _ (⟨Zf a1 a0.1,Zf a1 a0.2.1,Zf a1 a0.2.2.1,Zf a1 a0.2.2.2⟩) (fun a0=>?_);clear hK K
   try simp only[Act.put,jP,jQ,jR]
   refine tH 13 a0 ?_
   try simp only[Act.put,jP,jQ,jR]
   refine rH 14 fun K hK=>?_
   go_simp;refine hK.out _ _ ((by have hx:=ac w3 (.cells #[.string s,.iface tv xv] 99);exact⟨Zf hx a0.1,Zf hx a0.2.1,Zf hx a0.2.2.1,Zf hx a0.2.2.2⟩)) (fun a0=>?_);clear hK K
   try simp only[Act.put,jP,jQ,jR]
   refine rH 15 fun K hK=>?_
   refine vm yA b0.out f3.out b2.out ?_;intro v' w5 p1 p2 p3;obtain⟨A5,q5,rfl,-,-,-⟩:=ag p1;have HK:=Qa p1;have HG:=Qa p2;have HD:=Qa p3;clear p1 p2 p3;refine hK.out _ _ (⟨HG.out.cell a0.1 (fun e=>a7.out e.symm),HG.out.cell a0.2.1 (fun e=>a7.out e.symm),HG.out.cell a0.2.2.1 (fun e=>d4.out e.symm),HG.out.cell a0.2.2.2 (fun e=>c9.out e.symm)⟩) (fun a0=>?_);clear hK K
   try simp only[Act.put,jP,jQ,jR]
   refine tH 16 a0 ?_
   try simp only[Act.put,jP,jQ,jR]
   refine wpAnyH_done (by kernel_rfl) (NoPanic.normal ?_) _;clear a0;go_wp2_with fail;have f9:fI (L ++ [(s,.iface tv xv)])=fI L ++ [.string s,.iface tv xv]:=by simp[fI]
   refine⟨⟨i+1,A5,q5,L ++ [(s,.iface tv xv)],by go_num,by omega,rfl,by rw[List.length_append,b6.out];rfl,d6.out.grown HG.out b2.out (fun g e=>(ak b0.out e).1),by rw[f9];exact HK.out,by rw[bU f4.out,List.map_append,e7.out];rfl,?_⟩,by simp[intOf];omega⟩;rw[bU g0.out,List.map_append];exact yv f6.out Hu.out HG.out HD.out
  ·obtain rfl:i=ks.length:=by omega
   have d5:¬ (ks.length:Int)<ks.length:=by omega
   have hn:L.map Prod.fst=ns:=by rw[e7.out,<-b4.out,List.take_length]
   have c8:br (VW (fun g=>w2.heap.size<=g/\(Value.slice A ks.length c).ownBlock≠some g) wr) (L.map Prod.snd) ks:=by have:=Hv.out;rw[List.take_length] at this;exact this
   have HN:=Qa (gc (yO.of_own Ho.out) (fun p hp=>by
    obtain⟨j,hj,rfl⟩:=List.getElem_of_mem hp;exact⟨g4.out _ (by rw[<-hn];exact List.mem_map.2 ⟨_,List.getElem_mem hj,rfl⟩),(c8.2 j L[j].2 (ks[j]'(by have:=b6.out;omega)) (by rw[List.getElem?_map,Zc hj];rfl) (Zc _)).iface⟩) (by rw[hn];exact e2.out.imp fun h=>lz h) (by omega))
   have Hn:=Qa hn;have f8:=Qa c8;clear hlt hn c8;go_wp2_with fail;(with_reducible refine HN.out.mono ?_);rintro e w3 ⟨gl,A1,c1,S,rfl,d1,g7,e5,f0,hp,hs⟩;have g3:=Qa (a3.out.trans ((Hb.out.trans (d1.mono b1)).mono a3.out.size));have b7:S.length=ks.length:=by rw[hp.length_eq];exact b6.out
   have f5:ns.length=ks.length:=b4.out;have d2:=Qa (vD (Q:=(w.heap.size<= ·)) (L:=L) (ms:=ns.zip ks) (by rw[b7];exact e5) (by rw[b7];exact f0.stay fun g o hp hg _ _=>⟨by have:=b8.out;omega,hg⟩) (by have:=b8.out;omega) hp hs (by rw[List.map_fst_zip (by omega)];exact Hn.out) (by rw[List.map_snd_zip (by omega)];exact f8.out.mono fun _ _ h=>(h.later d1).imp fun g hg _=>by have:=b8.out;omega));rw[jX (by rw[List.map_fst_zip (by omega)];exact e2.out)] at d2;have e0:kq (ns.zip ks) =.mk 6 false ⟨#[]⟩ ⟨false,⟨#[]⟩,0⟩ ns ks:=by unfold kq;rw[List.map_fst_zip (by omega),List.map_snd_zip (by omega)]
   rw[e0] at d2;clear d1 e5 f0 hp hs b7 f5 e0;go_wp2_with fail;go_ret;exact⟨_,rfl,g3.out,d2.out⟩
theorem CR {T:ByteArray->Prop}(hf:dA w 0 v (j0.flat 0))(a4:j0.size<=1000000):∀ (j:JV) (a:Nat) (w1:World),Below w.heap.size w w1->eo j0 0 a j->Ok True T j->Calls Tryz.prog 27 #[v,.int .i64 (a:Int)] w1 (Eu w1 j):=by
 obtain⟨A,cap,rfl,a2,hm,hA⟩:=hf.form;have hn:=j0.size_pos;obtain⟨gt,rfl⟩:=hA (by rw[JV.flat_len];omega);rw[JV.flat_len] at a2 hm hf ⊢;refine JV.ind (P:=fun j=> ∀ (a:Nat) (w1:World),Below w.heap.size w w1->eo j0 0 a j->Ok True T j->Calls Tryz.prog 27 #[.slice (some ⟨gt,0,none⟩) j0.size cap,.int .i64 (a:Int)] w1 (Eu w1 j)) (fun k t x n ns ks ih a w1 hb hs a9=>?_);have a1:=hs.node;rw[Nat.sub_zero] at a1;obtain⟨vn,vk,h1,h2,h3⟩:=(hf.below hb (Za _)).node a1;have hc:=(show fa w1 gt a k t x n vn vk from fun j u hu=>h3 j u hu);have b0:=hs.bd;have b2:1<=(JV.mk k t x n ns ks).size:=JV.size_pos _;have ha:a<j0.size:=by omega
 obtain⟨Ak,ck,rfl,-,-,-⟩:=ag h2;obtain⟨An,cn,rfl,-,-,-⟩:=ag h1;have leaf:∀u,ob k t x n u->VW (w1.heap.size<= ·) w1 u (.mk k t x n ns ks)->Calls Tryz.prog 27 #[.slice (some ⟨gt,0,none⟩) j0.size cap,.int .i64 (a:Int)] w1 (Eu w1 (.mk k t x n ns ks)):=fun u hl hv=>(zr hc ha a4 hl).mono fun e w' ⟨he,a6⟩=>⟨u,he,a6,hv.later a6⟩
 have hkl:ks.length<=1000000:=by
  have:=bP ks;simp only[JV.size] at b0;omega
 have a5:bQ w1 0 (.slice Ak ks.length ck) (aP (a+1) ks):=by
  simp only[bj] at h2;exact h2
 simp only[bj] at hc;have a0:∀ (i:Nat) (u:JV) (p:Nat),ks[i]?=some u->(aP (a+1) ks)[i]?=some p->eo j0 0 p u/\u∈ks:=fun i u p hu hp=>by
  have hi:=(List.getElem?_eq_some_iff.1 hu).1;have e:ks=ks.take i++u::ks.drop (i+1):=by
   have h:=(List.take_append_drop i ks).symm;rw[List.drop_eq_getElem_cons hi] at h;rw[(List.getElem?_eq_some_iff.1 hu).2] at h;exact h
  have b1:p=a+1+JV.sizes (ks.take i):=by
   rw[e,cZ,List.getElem?_append_right (by rw[bj,List.length_take];omega),bj,List.length_take,Nat.min_eq_left (by omega),Nat.sub_self] at hp;simpa [aP] using hp.symm
  refine⟨?_,Zk hu⟩;rw[b1];rw[e] at hs;exact hs.kid
 cases a9 with
 |null=>exact leaf _ (.null ..) .null
 |bool b=>exact leaf _ (.bool ..) (.bool _)
 |num d hd hn=>exact leaf _ (.num ..) (.num _)
 |text s hs=>exact leaf _ (.text ..) (.text _)
 |hole h=>exact leaf _ (.hole ..) .hole
 |list ks hks=>exact yP hc a5 (bj _ _) ha a4 hkl fun i u p hu hp w2 a3=>ih u (a0 i u p hu hp).2 p w2 (hb.trans (a3.mono hb.size)) (a0 i u p hu hp).1 (hks u (a0 i u p hu hp).2)
 |obj ns ks hnl h8 hr hks=>
  have a7:cI w1 0 (.slice An ks.length cn) ns:=by
   have:=h1;rw[hnl] at this;exact this
  rw[hnl] at hc;exact BN hc a7 a5 hnl (bj _ _) ha a4 hkl (fun s hs=>⟨(h8 s hs).1,by have:=(h8 s hs).2;omega⟩) hr fun i u p hu hp w2 a3=>ih u (a0 i u p hu hp).2 p w2 (hb.trans (a3.mono hb.size)) (a0 i u p hu hp).1 (hks u (a0 i u p hu hp).2)
theorem ux {T:ByteArray->Prop}(hf:dA w 0 v (j.flat 0))(a1:j.size<=1000000)(a2:Ok True T j):Calls Tryz.prog 11 #[v] w (Eu w j):=by
 have H:=Qa (show Calls Tryz.prog 27 #[v,.int .i64 0] w (fun e w'=>Eu w j e w') from CR hf a1 j 0 w (Zd _ _) (.here _ _) a2);obtain⟨A,cap,rfl,a0,hm,hA⟩:=hf.form;have hn:=j.size_pos;rw[JV.flat_len] at H hm ⊢;have hne:((j.size:Int)==0)=false:=by simp only[beq_eq_false_iff_ne];omega
 clear hf hA;go_enter Tryz.func11,Tryz.ntmps11;go_wp2_with fail;(with_reducible refine H.out.mono ?_);rintro e w1 ⟨u,rfl,hb,hv⟩;have Hb:=Qa hb;have Hv:=Qa hv;obtain⟨t,x,rfl⟩:=hv.iface;clear hb hv;go_wp2_with fail;go_ret;exact⟨_,rfl,Hb.out,Hv.out⟩
def Ix (w:World)(x:Nd)(e:Ending)(w':World):Prop:= ∃v,e =.returned v/\Below w.heap.size w w'/\dA w' 0 v [x]
def F0 (w:World)(x:Nd)(a:Nat)(s5 s7:Value)(wr:World):Prop:=(s5 =.slice none 0 0/\s7 =.int .i64 a/\Below w.heap.size w wr)\/(∃A c,s5 =.slice A 1 c/\s7 =.int .i64 ((a:Int)+1)/\Below w.heap.size w wr/\dA wr 0 (.slice A 1 c) [x])
theorem Bq {k:Int}{t:Bool}{x:ByteArray}(hf:dA w 0 (.slice (some ⟨gt,0,none⟩) j0.size cap) (j0.flat 0))(hs:eo j0 0 a (.mk k t x d [] []))(b8:j0.size<=1000000)(hc:fa w gt a k t x d (.slice An 0 cn) (.slice Ak 0 ck))(b1:cI w 0 (.slice An 0 cn) []) :
  Calls Tryz.prog 23 #[.slice (some ⟨gt,0,none⟩) j0.size cap,.int .i64 (a:Int)] w (Ix w ⟨k,t,x,d, [], []⟩):=by
 have hz:(JV.mk k t x d [] []).size=1:=by simp[JV.size,JV.sizes]
 have He:=Qa (show Calls Tryz.prog 39 #[.slice (some ⟨gt,0,none⟩) j0.size cap,.int .i64 (a:Int)] w (fun e w'=>Gk w (a+1) e w') from by have:=AD hf hs b8;rwa[hz] at this);have b9:=hs.bd;rw[hz] at b9;have h0:¬ (a:Int)<0:=by omega
 have d1:¬ (j0.size:Int)<=a:=by omega
 have d2:(a:Int)<j0.size:=by omega
 have Hc:=Qa hc;have d0:=Qa b1;clear hc b1 hf hs;go_enter Tryz.func23,Tryz.ntmps23;go_wp2_with fail;(with_reducible refine He.out.mono ?_);rintro e w1 ⟨rfl,b4⟩;have Hb1:=Qa b4;clear b4;go_wp2_with fail
 go_loopw [5,7] (fun s5 s7 wr=>F0 w ⟨k,t,x,d, [], []⟩ a s5 s7 wr) (fun _ v _=>a+1 - (intOf v).toNat)
 case atStart=>exact .inl ⟨rfl,rfl,Hb1.out⟩
 case round=>
  rcases hrel with ⟨rfl,rfl,hb⟩|⟨A,c,rfl,rfl,hb,b3⟩
  ·have c0:=Zf hb (Hc.out 0 _ rfl);rw[Nat.add_zero] at c0;have c1:=Zf hb (Hc.out 1 _ rfl);have c2:=Zf hb (Hc.out 2 _ rfl);have c3:=Zf hb (Hc.out 3 _ rfl);have c4:=Zf hb (Hc.out 4 _ rfl);have c5:=Zf hb (Hc.out 5 _ rfl);have c6:=Zf hb (Hc.out 6 _ rfl);have c7:=Zf hb (Hc.out 7 _ rfl);have hlt:(a:Int)< (a:Int)+1:=by omega
   have Hb:=Qa hb;clear hb;go_wp2_with fail;have a4:=ac wr (.cells #[.int .i64 k,.bool t,.string x,.bool d.neg,.string d.digits,.int .i64 d.exp,.slice An 0 cn,.slice Ak 0 ck] 69);have a3:=Ze wr (.cells #[.int .i64 k,.bool t,.string x,.bool d.neg,.string d.digits,.int .i64 d.exp,.slice An 0 cn,.slice Ak 0 ck] 69);obtain⟨w2,b2⟩:∃w2,wr.alloc (.cells #[.int .i64 k,.bool t,.string x,.bool d.neg,.string d.digits,.int .i64 d.exp,.slice An 0 cn,.slice Ak 0 ck] 69)=w2:=⟨_,rfl⟩;rw[b2] at a4 a3 ⊢;have a6:=Qa a4;have a5:=Qa a3;clear a4 a3 b2 c0 c1 c2 c3 c4 c5 c6 c7
   go_loopw [9,10] (fun s9 s10 wx=>s9 =.slice none 0 0/\s10 =.int .i64 0/\w2=wx) (fun _ _ _=>0)
   case atStart=>exact⟨rfl,rfl,rfl⟩
   case round=>
    obtain⟨rfl,rfl,rfl⟩:=hrel;have c7:=aa a5.out (j:=7) (u:=.slice Ak 0 ck) rfl;go_wp2_with fail;obtain⟨wq,hwq⟩:∃wq,w2.drew=wq:=⟨_,rfl⟩;have a9:Below w2.heap.size w2 wq:=by rw[<-hwq];exact(Zd _ _).drew
    have hr:=ai a5.out a9;have Hc:=Qa (And.intro (aa hr (j:=0) (u:=.int .i64 k) rfl) (And.intro (aa hr (j:=1) (u:=.bool t) rfl) (And.intro (aa hr (j:=2) (u:=.string x) rfl) (And.intro (aa hr (j:=3) (u:=.bool d.neg) rfl) (And.intro (aa hr (j:=4) (u:=.string d.digits) rfl) (And.intro (aa hr (j:=5) (u:=.int .i64 d.exp) rfl) (aa hr (j:=6) (u:=.slice An 0 cn) rfl)))))));have a7:=Qa (Hb.out.trans ((a6.out.trans (a9.mono a6.out.size)).mono Hb.out.size));have HT:=Qa (lj (l:= []) (Sl.of_own (d0.out.below a7.out (Za _))) (by simp));clear a9 hr c7;refine aO (fun w'=>w'.cell? ⟨wr.heap.size,0,none⟩=some (.int .i64 k)/\w'.cell? ⟨wr.heap.size,1,none⟩=some (.bool t)/\w'.cell? ⟨wr.heap.size,2,none⟩=some (.string x)/\w'.cell? ⟨wr.heap.size,3,none⟩=some (.bool d.neg)/\w'.cell? ⟨wr.heap.size,4,none⟩=some (.string d.digits)/\w'.cell? ⟨wr.heap.size,5,none⟩=some (.int .i64 d.exp)/\w'.cell? ⟨wr.heap.size,6,none⟩=some (.slice An 0 cn)) ((by rw[hwq];exact Hc.out)) fun a0=>?_
    refine tH 0 a0 ?_;refine tH 1 a0 ?_;refine tH 2 a0 ?_;refine tH 3 a0 ?_;refine tH 4 a0 ?_;refine tH 5 a0 ?_
    try simp only[Act.put,jP,jQ,jR]
    refine tH 6 a0 ?_;refine tH 7 a0 ?_;refine tH 8 a0 ?_;refine tH 9 a0 ?_;refine tH 10 a0 ?_;refine tH 12 a0 ?_
    try simp only[Act.put,jP,jQ,jR]
    refine rH 11 fun K hK=>?_
    go_simp;rw[hwq] at a0;(with_reducible refine HT.out.mono ?_);rintro e w5 ⟨vt,rfl,a1,b5⟩;obtain⟨At5,ct5,rfl,-,-,-⟩:=ag b5;have b0:=Qa a1;have b7:=Qa b5;refine hK.out _ _ (⟨Zf a1 a0.1,Zf a1 a0.2.1,Zf a1 a0.2.2.1,Zf a1 a0.2.2.2.1,Zf a1 a0.2.2.2.2.1,Zf a1 a0.2.2.2.2.2.1,Zf a1 a0.2.2.2.2.2.2⟩) (fun a0=>?_);clear hK K
    try simp only[Act.put,jP,jQ,jR]
    refine tH 13 a0 ?_
    try simp only[Act.put,jP,jQ,jR]
    refine rH 14 fun K hK=>?_
    go_simp;refine hK.out _ _ ((by have hx:=ac w5 (.cells #[.int .i64 k,.bool t,.string x,.bool d.neg,.string d.digits,.int .i64 d.exp,.slice At5 0 ct5,.slice none 0 0] 69);exact⟨Zf hx a0.1,Zf hx a0.2.1,Zf hx a0.2.2.1,Zf hx a0.2.2.2.1,Zf hx a0.2.2.2.2.1,Zf hx a0.2.2.2.2.2.1,Zf hx a0.2.2.2.2.2.2⟩)) (fun a0=>?_);clear hK K
    try simp only[Act.put,jP,jQ,jR]
    refine rH 15 fun K hK=>?_
    refine vm AL (base:=w.heap.size) (us:= []) ⟨rfl,.inl ⟨rfl,rfl⟩⟩ (ap w5 [.int .i64 k,.bool t,.string x,.bool d.neg,.string d.digits,.int .i64 d.exp,.slice At5 0 ct5,.slice none 0 0] 69) (by have h1:=a7.out.size;have h2:=b0.out.size;simp;omega) ?_ (h1:=(by intro u hu;simp at hu;rcases hu with rfl|rfl|rfl|rfl|rfl|rfl|rfl|rfl <;> rfl));intro v6 w6 p1 p2 p3;obtain⟨A6,q6,rfl,-,-,-⟩:=ag p1;have c9:=Qa p1;have a2:=(Zd _ _).grown p2 (Za _) (fun g e=>by cases e);have b6:=Qa a2;clear p1 p2 p3;refine hK.out _ _ (⟨Zf a2 a0.1,Zf a2 a0.2.1,Zf a2 a0.2.2.1,Zf a2 a0.2.2.2.1,Zf a2 a0.2.2.2.2.1,Zf a2 a0.2.2.2.2.2.1,Zf a2 a0.2.2.2.2.2.2⟩) (fun a0=>?_);clear hK K
    try simp only[Act.put,jP,jQ,jR]
    refine tH 16 a0 ?_
    try simp only[Act.put,jP,jQ,jR]
    refine wpAnyH_done (by kernel_rfl) (NoPanic.normal ?_) _;clear a0;go_wp2_with fail;have h5:=ac w5 (.cells #[.int .i64 k,.bool t,.string x,.bool d.neg,.string d.digits,.int .i64 d.exp,.slice At5 0 ct5,.slice none 0 0] 69);have c8:=(b7.out.below h5 (Za _)).below b6.out (Za _);refine⟨.inr ⟨A6,q6,rfl,by go_num,?_, [[.int .i64 k,.bool t,.string x,.bool d.neg,.string d.digits,.int .i64 d.exp,.slice At5 0 ct5,.slice none 0 0]],bZ c9.out (Zj _),?_⟩,by simp[intOf]⟩
    ·exact a7.out.trans ((b0.out.trans ((h5.trans (b6.out.mono h5.size)).mono b0.out.size)).mono a7.out.size)
    ·exact br.cons ⟨.slice At5 0 ct5,.slice none 0 0,rfl,c8.low (Zj _),⟨rfl,.inl ⟨rfl,rfl⟩⟩⟩ (br.nil _)
  ·have hlt:¬ (a:Int)+1< (a:Int)+1:=by omega
   have Hb:=Qa hb;have Hf:=Qa b3;clear hb b3;go_wp2_with fail;go_ret;exact⟨_,rfl,Hb.out,Hf.out⟩
def zj {α:Type}(m:Nat)(l:List α):List α:=l.drop m++l.take m
theorem ku {α:Type}(m:Nat)(l:List α):(zj m l).Perm l:=by
 unfold zj;exact List.perm_append_comm.trans (by rw[List.take_append_drop])
theorem qA {α:Type}(m:Nat)(l:List α):(zj m l).length=l.length:=(ku m l).length_eq
theorem Ef {α:Type}{l:List α}{x:Nat}(hi:i<l.length):(zj (x % l.length) l)[i]?=l[(i+x) % l.length]?:=by
 have hm:x % l.length<l.length:=Nat.mod_lt _ (by omega);rw[<-Nat.add_mod_mod];generalize x % l.length=m at *;unfold zj
 by_cases h:i<l.length - m
 ·rw[List.getElem?_append_left (by simp;omega),List.getElem?_drop,Nat.mod_eq_of_lt (by omega)]
  congr 1
  omega
 ·rw[List.getElem?_append_right (by simp;omega),List.length_drop,List.getElem?_take_of_lt (by omega),Nat.mod_eq_sub_mod (by omega),Nat.mod_eq_of_lt (by omega)]
  congr 1
  omega
theorem wX {α:Type}{l:List α}(h:l.Nodup){s:α}(hs:l[i]?=some s):s∉l.take i:=by
 intro hm;obtain⟨j,hj,e⟩:=List.getElem_of_mem hm;obtain⟨hi,e2⟩:=List.getElem?_eq_some_iff.1 hs;rw[List.length_take] at hj;rw[List.getElem_take] at e;exact(List.pairwise_iff_getElem.1 h) j i (by omega) hi (by omega) (by rw[e,e2])
theorem BH (hl:ns.length=ks.length)(hr:dU ns)(m:Nat):kq (fp (zj m (ns.zip ks))) =.mk 6 false ⟨#[]⟩ ⟨false,⟨#[]⟩,0⟩ ns ks:=by
 rw[uM (ku m _) (by rw[List.map_fst_zip (by omega)];exact hr),kq,List.map_fst_zip (by omega),List.map_snd_zip (by omega)]
theorem Dk {k:JV}(hs:ns[i]?=some s)(hk:ks[i]?=some k):(ns.zip ks)[i]?=some (s,k):=by
 rw[List.getElem?_zip_eq_some];exact⟨hs,hk⟩
def ra:Go.Shelf.Ren:=⟨fun|171=>65|243=>86|246=>116|283=>157|284=>158|285=>159|286=>160|129=>126|317=>187|318=>188|319=>189|320=>190|337=>202|338=>203|n=>n,fun|3=>3|9=>9|2=>2|4=>4|171=>296|0=>0|53=>250|37=>22|5=>5|173=>298|212=>327|51=>248|20=>20|213=>328|46=>175|232=>361|233=>362|n=>n,fun|17=>9|18=>14|19=>15|n=>n⟩
theorem t8:Go.Proofs.LaysM.n171 Tryz.prog ra:={
 mixed:=by kernel_rfl
 f129:=Tryz.func126.trans (congrArg some (by kernel_rfl))
 f171:=Tryz.func65.trans (congrArg some (by kernel_rfl))
 f243:=Tryz.func86.trans (congrArg some (by kernel_rfl))
 f246:=Tryz.func116.trans (congrArg some (by kernel_rfl))
 f283:=Tryz.func157.trans (congrArg some (by kernel_rfl))
 f284:=Tryz.func158.trans (congrArg some (by kernel_rfl))
 f285:=Tryz.func159.trans (congrArg some (by kernel_rfl))
 f286:=Tryz.func160.trans (congrArg some (by kernel_rfl))
 f317:=Tryz.func187.trans (congrArg some (by kernel_rfl))
 f318:=Tryz.func188.trans (congrArg some (by kernel_rfl))
 f319:=Tryz.func189.trans (congrArg some (by kernel_rfl))
 f320:=Tryz.func190.trans (congrArg some (by kernel_rfl))
 f337:=Tryz.func202.trans (congrArg some (by kernel_rfl))
 f338:=Tryz.func203.trans (congrArg some (by kernel_rfl))
 t0:=Tryz.underlying0
 a0:=Tryz.isAgg0
 z0:=Tryz.sizeOf0
 v0:=Tryz.zeroValue0
 t2:=Tryz.underlying2
 a2:=Tryz.isAgg2
 z2:=Tryz.sizeOf2
 v2:=Tryz.zeroValue2
 t3:=Tryz.underlying3
 a3:=Tryz.isAgg3
 z3:=Tryz.sizeOf3
 v3:=Tryz.zeroValue3
 t4:=Tryz.underlying4
 a4:=Tryz.isAgg4
 z4:=Tryz.sizeOf4
 v4:=Tryz.zeroValue4
 t5:=Tryz.underlying5
 a5:=Tryz.isAgg5
 z5:=Tryz.sizeOf5
 v5:=Tryz.zeroValue5
 t9:=Tryz.underlying9
 a9:=Tryz.isAgg9
 z9:=Tryz.sizeOf9
 v9:=Tryz.zeroValue9
 t20:=Tryz.underlying20
 a20:=Tryz.isAgg20
 z20:=Tryz.sizeOf20
 v20:=Tryz.zeroValue20
 t37:=Tryz.underlying22
 a37:=Tryz.isAgg22
 z37:=Tryz.sizeOf22
 v37:=Tryz.zeroValue22
 t46:=Tryz.underlying175
 a46:=Tryz.isAgg175
 z46:=Tryz.sizeOf175
 v46:=Tryz.zeroValue175
 t51:=Tryz.underlying248
 a51:=Tryz.isAgg248
 z51:=Tryz.sizeOf248
 v51:=Tryz.zeroValue248
 t53:=Tryz.underlying250
 a53:=Tryz.isAgg250
 z53:=Tryz.sizeOf250
 v53:=Tryz.zeroValue250
 t171:=Tryz.underlying296
 a171:=Tryz.isAgg296
 z171:=Tryz.sizeOf296
 v171:=Tryz.zeroValue296
 t173:=Tryz.underlying298
 a173:=Tryz.isAgg298
 z173:=Tryz.sizeOf298
 v173:=Tryz.zeroValue298
 t212:=Tryz.underlying327
 a212:=Tryz.isAgg327
 z212:=Tryz.sizeOf327
 v212:=Tryz.zeroValue327
 t213:=Tryz.underlying328
 a213:=Tryz.isAgg328
 z213:=Tryz.sizeOf328
 t232:=Tryz.underlying361
 a232:=Tryz.isAgg361
 z232:=Tryz.sizeOf361
 v232:=Tryz.zeroValue361
 t233:=Tryz.underlying362
 a233:=Tryz.isAgg362
 z233:=Tryz.sizeOf362
 v233:=Tryz.zeroValue362
 g17:=by kernel_rfl
 g18:=by kernel_rfl
 g19:=by kernel_rfl
 i0:=by kernel_rfl
 i2:=by kernel_rfl
 i3:=by kernel_rfl
 i4:=by kernel_rfl
 i5:=by kernel_rfl
 i9:=by kernel_rfl
 i20:=by kernel_rfl
 i37:=by kernel_rfl
 i46:=by kernel_rfl
 i51:=by kernel_rfl
 i53:=by kernel_rfl
 i171:=by kernel_rfl
 i173:=by kernel_rfl
 i212:=by kernel_rfl
 i232:=by kernel_rfl
 i233:=by kernel_rfl
 m17:=by kernel_rfl
 m18:=by kernel_rfl
 m19:=by kernel_rfl
}
def cW (w:World):Prop:=Lib.TabIs Tryz.prog w "internal/strconv.uint64pow10" .u64 Lib.pow10Tab
theorem cW.below (h:cW w)(hb:Below w.heap.size w w'):cW w':=by
 have hg:Tryz.prog.globalNamed "internal/strconv.uint64pow10" = some 9:=by kernel_rfl
 unfold cW Lib.TabIs World.var? at h ⊢;rw[hg] at h ⊢;simp only[Option.bind_some] at h ⊢;rcases ho:w.heap[(9:Nat)]? with _|o
 ·rw[ho] at h;cases h
 ·rw[hb.block _ (ae ho)];exact h
theorem CS (n:Nat)(h1:n<9223372036854775808)(hT:cW w):Calls Tryz.prog 65 #[.int .i64 n] w fun e w'=>e =.returned (.string ⟨(Lib.itoa n).toArray⟩)/\Below w.heap.size w w':=by
 refine(Any.strconv_Itoa t8 n (by omega) (by omega) w hT).mono ?_;rintro e w' ⟨rfl,k,os,rfl⟩;exact⟨rfl,Lib.below_grow _ w (Za _) k os⟩
theorem sf {xs:List Value}(hg:w.heap[g]?=some (.cells #[.slice A n c] 156 (0,0)))(hr:ce P w 99 2 A n c xs)(i:Nat)(hi:i<n)(hs:xs[i*2]?=some (.string s))(hu:xs[i*2+1]?=some u) :
  Calls Tryz.prog 46 #[.pointer (some ⟨g,0,none⟩),.int .i64 i] w fun e w'=>e =.returned (.tuple #[.string s,u])/\Below w.heap.size w w':=by
 have c0:w.cell? ⟨g,0,none⟩=some (.slice A n c):=aa hg (j:=0) rfl;obtain⟨b,rfl,-⟩:=hr.ptr (by omega);have c1:=hr.cell (i*2) (by omega);have c2:=hr.cell (i*2+1) (by omega);rw[hs] at c1;rw[hu] at c2;have hm:=hr.2.2.1;unfold maxLen at hm;have Hl:=Qa (nz hg);clear hg hr hu hs;have h0:¬ (i:Int)<0:=by omega
 have h1:(i:Int)<n:=by omega
 go_enter Tryz.func46,Tryz.ntmps46;go_wp2_with fail;(with_reducible refine Hl.out.mono ?_);rintro e w' ⟨rfl,rfl⟩;go_wp2_with fail;go_quiet (fail);go_wp2_with fail;go_ret2;exact⟨rfl,av (Zd _ _) nq⟩
theorem p6 (hT:cW w)(hg:w.heap[g]?=some (.cells #[.slice A n c] 152 (0,0)))(hr:ce P w 41 1 A n c us)(i:Nat)(hi:i<n)(hu:us[i]?=some u) :
  Calls Tryz.prog 44 #[.pointer (some ⟨g,0,none⟩),.int .i64 i] w fun e w'=>e =.returned (.tuple #[.string ⟨(Lib.itoa i).toArray⟩,u])/\Below w.heap.size w w':=by
 have a1:=Qa (vU hg hr i hi hu);have a0:n<=c:=hr.2.1;have hm:=hr.2.2.1;unfold maxLen at hm;clear hg hr hu;go_enter Tryz.func44,Tryz.ntmps44;go_wp2_with fail;(with_reducible refine a1.out.mono ?_);rintro e w' ⟨rfl,rfl⟩;have Hi:=Qa (CS (w:=w) i (by have:=a0;omega) hT);go_wp2_with fail;(with_reducible refine Hi.out.mono ?_);rintro e w' ⟨rfl,hb⟩;go_wp2_with fail;go_ret2;exact⟨rfl,hb⟩
theorem gI:Calls Tryz.prog 281 #[.agg #[]] w fun e w'=>e =.returned (.int .i64 1)/\Below w.heap.size w w':=by
 go_enter Tryz.func281,Tryz.ntmps281;go_wp2_with fail;go_ret;exact⟨rfl,ac w _⟩
theorem gQ:Calls Tryz.prog 285 #[x] w fun e w'=>e =.returned (.int .i64 2)/\Below w.heap.size w w':=by
 go_enter Tryz.func285,Tryz.ntmps285;go_wp2_with fail;go_ret;exact⟨rfl,Zd _ _⟩
theorem iZ:Calls Tryz.prog 298 #[.agg cs] w fun e w'=>e =.returned (.int .i64 3)/\Below w.heap.size w w':=by
 go_enter Tryz.func298,Tryz.ntmps298;go_wp2_with fail;go_ret;exact⟨rfl,ac w _⟩
theorem gw:Calls Tryz.prog 289 #[x] w fun e w'=>e =.returned (.int .i64 4)/\Below w.heap.size w w':=by
 go_enter Tryz.func289,Tryz.ntmps289;go_wp2_with fail;go_ret;exact⟨rfl,Zd _ _⟩
theorem gv:Calls Tryz.prog 282 #[.agg #[]] w fun e w'=>e =.returned (.int .i64 7)/\Below w.heap.size w w':=by
 go_enter Tryz.func282,Tryz.ntmps282;go_wp2_with fail;go_ret;exact⟨rfl,ac w _⟩
theorem em:Calls Tryz.prog 283 #[x] w fun e w'=>e =.returned (.int .i64 5)/\Below w.heap.size w w':=by
 go_enter Tryz.func283,Tryz.ntmps283;go_wp2_with fail;go_ret;exact⟨rfl,Zd _ _⟩
theorem gG:Calls Tryz.prog 296 #[x] w fun e w'=>e =.returned (.int .i64 6)/\Below w.heap.size w w':=by
 go_enter Tryz.func296,Tryz.ntmps296;go_wp2_with fail;go_ret;exact⟨rfl,Zd _ _⟩
def sg (a b:Int):Int:=if a<b then -1 else if b<a then 1 else 0
theorem eu {a:Int}:Calls Tryz.prog 75 #[.int .i64 a] w fun e w'=>e =.returned (.bool false)/\w=w':=by
 go_enter Tryz.func75,Tryz.ntmps75;go_wp2_with fail;go_ret;simp
theorem aY {a b:Int}:Calls Tryz.prog 53 #[.int .i64 a,.int .i64 b] w fun e w'=>e =.returned (.int .i64 (sg a b))/\w=w':=by
 unfold sg;rcases Int.lt_trichotomy a b with h|h|h
 ·rw[if_pos h];go_enter Tryz.func53,Tryz.ntmps53;go_wp2_with fail;(with_reducible refine eu.mono ?_);rintro e w' ⟨rfl,rfl⟩;go_wp2_with fail;(with_reducible refine eu.mono ?_);rintro e w' ⟨rfl,rfl⟩;go_wp2_with fail;go_ret;exact⟨rfl,rfl⟩
 ·subst h;rw[if_neg (Int.lt_irrefl _),if_neg (Int.lt_irrefl _)];go_enter Tryz.func53,Tryz.ntmps53;go_wp2_with fail;(with_reducible refine eu.mono ?_);rintro e w' ⟨rfl,rfl⟩;go_wp2_with fail;(with_reducible refine eu.mono ?_);rintro e w' ⟨rfl,rfl⟩;go_wp2_with fail;go_ret;exact⟨rfl,rfl⟩
 ·have h':¬a<b:=by omega
  rw[if_neg h',if_pos h];go_enter Tryz.func53,Tryz.ntmps53;go_wp2_with fail;(with_reducible refine eu.mono ?_);rintro e w' ⟨rfl,rfl⟩;go_wp2_with fail;(with_reducible refine eu.mono ?_);rintro e w' ⟨rfl,rfl⟩;go_wp2_with fail;go_ret;exact⟨rfl,rfl⟩
theorem kx (x:List UInt8):(⟨x.toArray⟩:ByteArray).toList=x:=by rw[ByteArray.toList_eq]
theorem ET (a:ByteArray)(x:List UInt8):(a.toList==x)=decide (a= ⟨x.toArray⟩):=by
 rw[Bool.eq_iff_iff];simp only[beq_iff_eq,decide_eq_true_eq]
 constructor
 ·intro h;subst h;rw[ByteArray.toList_eq]
 ·intro h;subst h;exact kx x
theorem lT:Calls Tryz.prog 137 #[.agg #[.bool d.neg,.string d.digits,.int .i64 d.exp]] w fun e w'=>e =.returned (.bool (decide (d.digits= ⟨#[48]⟩)))/\Below w.heap.size w w':=by
 go_enter Tryz.func137,Tryz.ntmps137;go_wp2_with fail;go_ret;refine⟨?_,ac w _⟩
 show Ending.returned (.bool (d.digits.toList == [48]))=_
 rw[ET]
theorem lK:Calls Tryz.prog 101 #[.agg #[.bool d.neg,.string d.digits,.int .i64 d.exp]] w fun e w'=>e =.returned (.int .i64 (ke d))/\Below w.heap.size w w':=by
 have a1:=Qa (ac w (.cells #[.bool d.neg,.string d.digits,.int .i64 d.exp] 125));have h0:=Ze w (.cells #[.bool d.neg,.string d.digits,.int .i64 d.exp] 125)
 by_cases hz:d.digits= ⟨#[48]⟩
 ·have hs:=Qa (show ke d=0 by unfold ke;rw[if_pos hz]);have hd:decide (d.digits= ⟨#[48]⟩)=true:=by simpa using hz
  have Hz:=Qa hd;clear hz hd;go_enter Tryz.func101,Tryz.ntmps101;go_wp2_with fail;(with_reducible refine lT.mono ?_);rintro e w1 ⟨rfl,a0⟩;rw[Hz.out];have B1:=Qa (a1.out.trans (a0.mono a1.out.size));go_wp2_with fail;go_ret;rw[hs.out];exact⟨rfl,B1.out⟩
 ·have hd:decide (d.digits= ⟨#[48]⟩)=false:=by simpa using hz
  have Hz:=Qa hd;have hs:=Qa (show ke d=if d.neg then -1 else 1 by unfold ke;rw[if_neg hz]);clear hz hd;go_enter Tryz.func101,Tryz.ntmps101;go_wp2_with fail;(with_reducible refine lT.mono ?_);rintro e w1 ⟨rfl,a0⟩;rw[Hz.out];have B1:=Qa (a1.out.trans (a0.mono a1.out.size));have c0:w1.cell? ⟨w.heap.size,0,none⟩=some (.bool d.neg):=aa ((a0.block _ (ae h0)).trans h0) (j:=0) rfl;rcases hn:d.neg with _|_
  all_goals
   rw[hn] at c0;have Hn:=Qa hn;clear hn;go_wp2_with fail;go_ret;rw[hs.out,Hn.out];exact⟨rfl,B1.out⟩
theorem mO {a:ByteArray}:Calls Tryz.prog 176 #[.string a] w fun e w'=>e =.returned (.bool false)/\w=w':=by
 go_enter Tryz.func176,Tryz.ntmps176;go_wp2_with fail;go_ret;exact⟨rfl,rfl⟩
def uq (x y:List UInt8):Int:=if Op.bytesLess x y then -1 else if x=y then 0 else 1
theorem ql {s:Int}(hs:s=1\/s = -1):∀ (x y:List UInt8),aw (kF s x) (kF s y)=s*uq x y
 | [], []=>by
  have:uq [] []=0:=rfl;rw[this,Int.mul_zero];exact gH _
 | [],b::y=>by
  have e:uq [] (b::y) = -1:=by simp[uq,Op.bytesLess]
  rw[e];unfold kF;rw[bi];rcases hs with rfl|rfl
  ·rw[if_pos (by omega)];rfl
  ·rw[if_neg (by omega),if_pos (by omega)];rfl
 |a::x, []=>by
  have e:uq (a::x) []=1:=by simp[uq,Op.bytesLess]
  rw[e];unfold kF;rw[bi];rcases hs with rfl|rfl
  ·rw[if_neg (by omega),if_pos (by omega)];rfl
  ·rw[if_pos (by omega)];rfl
 |a::x,b::y=>by
  have ih:=ql hs x y;unfold kF;rw[bi];rcases Nat.lt_trichotomy a.toNat b.toNat with h|h|h
  ·have e:uq (a::x) (b::y) = -1:=by unfold uq;rw[if_pos (pj h).1]
   rw[e];rcases hs with rfl|rfl
   ·rw[if_pos (by omega)];rfl
   ·rw[if_neg (by omega),if_pos (by omega)];rfl
  ·obtain rfl:=UInt8.toNat_inj.1 h;rw[if_neg (by omega),if_neg (by omega),ih]
   congr 1
   simp[uq,Op.bytesLess]
  ·have e:uq (a::x) (b::y)=1:=by
    unfold uq;rw[if_neg (by simp[(pj h).2]),if_neg (by intro e;injection e with e _;subst e;omega)]
   rw[e];rcases hs with rfl|rfl
   ·rw[if_neg (by omega),if_pos (by omega)];rfl
   ·rw[if_pos (by omega)];rfl
theorem wP {a b:ByteArray}:Calls Tryz.prog 138 #[.string a,.string b] w fun e w'=>e =.returned (.int .i64 (uq a.toList b.toList))/\w=w':=by
 have Hs:=Qa (show uq a.toList b.toList=if Op.bytesLess a.toList b.toList then -1 else if a.toList=b.toList then 0 else 1 from rfl);go_enter Tryz.func138,Tryz.ntmps138;go_wp2_with fail;(with_reducible refine mO.mono ?_);rintro e w' ⟨rfl,rfl⟩;go_wp2_with fail;(with_reducible refine mO.mono ?_);rintro e w' ⟨rfl,rfl⟩;go_wp2_with fail
 ·rename_i h1
  go_ret;refine⟨?_,rfl⟩;rw[Hs.out,if_pos h1];rfl
 ·rename_i h1 _ _ h2
  go_ret;refine⟨?_,rfl⟩;rw[Hs.out,if_neg (by simp[h1]),if_neg (by simpa using h2)];rfl
 ·rename_i h1 h2
  go_ret;refine⟨?_,rfl⟩;rw[Hs.out,if_neg (by simp[h1]),if_pos (by simpa using h2)];rfl
def BJ (d:Dc):Prop:=d.digits.size<=1000000000000/\ -1000000000000<=d.exp/\d.exp<=1000000000000
theorem AY {a b s:Int}(hs:s=1\/s = -1)(x y:List Int):aw (s*a::x) (s*b::y)=if sg a b=0 then aw x y else s*sg a b:=by
 rw[bi];unfold sg;rcases hs with rfl|rfl <;> (repeat' split) <;> first|rfl|omega
def mx (a b:Dc):Int:=if sg (a.digits.size+a.exp) (b.digits.size+b.exp)=0 then uq a.digits.toList b.digits.toList else sg (a.digits.size+a.exp) (b.digits.size+b.exp)
theorem AZ (a b:Dc):aw (fM a) (fM b)=if ke a=ke b/\ke a≠0 then ke a*mx a b else sg (ke a) (ke b):=by
 unfold fM;rcases ji a with h|h|h <;> rcases ji b with k|k|k <;> simp only[h,k,if_true] <;> try (simp[bi,aw,sg];done)
 ·rw[if_neg (by decide),if_neg (by decide),if_pos (by decide),bi,if_neg (by omega),if_neg (by omega),AY (.inr rfl),ql (.inr rfl),<-ByteArray.toList_eq,<-ByteArray.toList_eq];unfold mx;split <;> simp[*]
 ·rw[if_neg (by decide),if_neg (by decide),if_pos (by decide),bi,if_neg (by omega),if_neg (by omega),AY (.inl rfl),ql (.inl rfl),<-ByteArray.toList_eq,<-ByteArray.toList_eq];unfold mx;split <;> simp[*]
theorem yK {x:Int}(h:n<=1000000000000)(h1: -1000000000000<=x)(h2:x<=1000000000000):IntKind.i64.wrap ((n:Int)+x)= (n:Int)+x:=by
 rw[IntKind.wrap_i64];omega
theorem wj {a b:Dc}(ha:BJ a)(hb:BJ b):Calls Tryz.prog 102 #[.agg #[.bool a.neg,.string a.digits,.int .i64 a.exp],.agg #[.bool b.neg,.string b.digits,.int .i64 b.exp]] w fun e w'=>e =.returned (.int .i64 (mx a b))/\Below w.heap.size w w':=by
 obtain⟨a1,a2,a3⟩:=ha;obtain⟨b1,b2,b3⟩:=hb;have w1:=yK a1 a2 a3;have w2:=yK b1 b2 b3;obtain⟨v,hv⟩:∃v,sg (a.digits.size+a.exp) (b.digits.size+b.exp)=v:=⟨_,rfl⟩;have Ha:=Qa (show mx a b=if v=0 then uq a.digits.toList b.digits.toList else v by rw[<-hv];rfl);have Hv:=Qa hv;have Hw:=Qa (show Below w.heap.size w ((w.alloc (.cells #[.bool a.neg,.string a.digits,.int .i64 a.exp] 125)).alloc (.cells #[.bool b.neg,.string b.digits,.int .i64 b.exp] 125)) from((Zd _ _).alloc (Za _) _).alloc (by simp) _);clear hv a1 a2 a3 b1 b2 b3
 by_cases h0:v=0
 ·subst h0;have a0:=Qa (show mx a b=uq a.digits.toList b.digits.toList from Ha.out);clear Ha;go_enter Tryz.func102,Tryz.ntmps102;go_wp2_with fail;(with_reducible refine aY.mono ?_);rintro e w' ⟨rfl,rfl⟩;rw[Hv.out];go_wp2_with fail;(with_reducible refine wP.mono ?_);rintro e w' ⟨rfl,rfl⟩;go_wp2_with fail;go_ret;rw[a0.out];exact⟨rfl,Hw.out⟩
 ·have a0:=Qa (show mx a b=v from Ha.out.trans (if_neg h0));clear Ha;go_enter Tryz.func102,Tryz.ntmps102;go_wp2_with fail;(with_reducible refine aY.mono ?_);rintro e w' ⟨rfl,rfl⟩;rw[Hv.out];go_wp2_with fail;go_ret;rw[a0.out];exact⟨rfl,Hw.out⟩
