import Derived.Test.YtehpfidnpfcniaaGreatDoorGZ14be
set_option linter.unusedVariables false
set_option linter.unusedSimpArgs false
set_option maxHeartbeats 64000000
set_option maxRecDepth 100000
namespace Go.Proofs.YtehpfidnpfcniaaGreatDoor
open Go.RowKit Go.Shelf
variable {cells cur old:Array Value}{base c g i n:Nat}{A:Option Addr}{e ty:TypeId}{v:Value}{w w':World}
section
variable {Q:Nat->Array Value->Prop}{B g:Nat}{w:World}{bs:List Nat}{frs:List Fr}{a aU aE:Addr}{v:Value}{j j0:JV}{P:Nat->Prop}
theorem Ac (h:j5 B Q w g frs none bs)(ht:vp frs none=true)(hv:VW (Pb B bs) w v j)(hP:dI w)(hG:cd w aU aE)(tx:Tx j)(sz:Sz j)(hx:(JV.txt j).length<=140737488355328)(hB:B<=w.heap.size)(hl:frs.length<=1000000000)(hi:∀f∈frs,Cf f) :
  Calls Tryz.prog 38 #[.pointer (some ⟨g,0,none⟩),v] w fun e w'=>ET B Q g (bt frs j).frs (bt frs j).done w e w':=by
 have H1:=H8 (nf hv hP hG tx sz hx);have H2:=H8 (fun w1 (hw:Below w.heap.size w w1)=>iu (h.below hw) hl);have H3:=H8 (fun w1 (hw:Below w.heap.size w w1)=>fP (h.below hw) ht (hv.later hw) (Zc hB hw.size) hl hi);rw[ht] at H2;have HB:=H8 hB;generalize JV.txt j=tl at *;obtain⟨t,x,rfl⟩:=hv.iface;clear h ht hv hP hG tx sz hx hB hl hi;go_enter Tryz.func38,Tryz.ntmps38;go_wp2_with fail;refine Za H1 ?_;rintro e w1 ⟨u,rfl,ho,a0⟩;obtain⟨A,q,rfl,-⟩:=af ho;have a2:=H8 a0;have a9:=H8 (H2.out w1 a0);clear ho a0;go_wp2_with fail;refine Za a9 ?_;rintro e w2 ⟨rfl,a3⟩;have a1:=H8 (a2.out.trans (a3.mono a2.out.size));have a5:=H8 (H3.out w2 a1.out);clear a3;go_wp2_with fail;refine Za a5 ?_;rintro e w3 ⟨rfl,a4,bs',hs⟩;have b0:=H8 a4;have Hs:=H8 hs;clear a4 hs;go_wp2_with fail;go_ret;exact⟨rfl,(sm.new a1.out HB.out).trans b0.out,bs',Hs.out⟩
theorem pI (h:j5 B Q w g [] (some j) bs)(hP:dI w)(hG:cd w aU aE)(tx:Tx j)(sz:Sz j)(hx:(JV.txt j).length<=140737488355328):Calls Tryz.prog 40 #[.pointer (some ⟨g,0,none⟩)] w (CT (JV.txt j) w):=by
 obtain⟨A,c,dv,us,h⟩:=h;obtain⟨rfl,rfl⟩:=h.empty;have hr:=h.row;have hd:VW (Pb B []) w dv j:=h.done;have H1:=H8 (nf hd hP hG tx sz hx);obtain⟨t,x,rfl⟩:=hd.iface;have c0:=aa hr (j:=0) (u:=.slice A 0 c) rfl;have c1:=aa hr (j:=1) (u:=.iface t x) rfl;generalize JV.txt j=tl at *;clear h hr hd hP hG tx sz hx;go_enter Tryz.func40,Tryz.ntmps40;go_wp2_with fail;refine Za H1 ?_;rintro e w1 ⟨u,rfl,ho,a0⟩;obtain⟨A2,q,rfl,-⟩:=af ho;have a1:=H8 a0;have Ho:=H8 ho;clear ho a0;go_wp2_with fail;go_ret2;exact⟨_,rfl,Ho.out,a1.out⟩
end
section
variable {Q:Nat->Array Value->Prop}{B g:Nat}{w:World}{bs:List Nat}{fs:List Fr}{its:List JV}{ms:List (ByteArray×JV)}
theorem bG.freshW {k:Nat}{xs:List Value}(h:bG (w.heap.size<= ·) w' e k A n c xs)(hB:B<=w.heap.size)(a0:∀g∈bs,g<w.heap.size):bG (Pb B bs) w' e k A n c xs:=
 h.stay fun g o hp hg _ _=>⟨⟨Zc hB hp,fun hb=>by have:=a0 g hb;omega⟩,hg⟩
theorem uv (h:j5 B Q w g (⟨false,its, [],none⟩::fs) none bs)(ht:vp fs none=true)(hB:B<=w.heap.size)(hl:fs.length<1000000000)(hi:∀f∈fs,Cf f)(hn:its.length<=1000000000) :
  Calls Tryz.prog 39 #[.pointer (some ⟨g,0,none⟩)] w fun e w'=>ET B Q g (bt fs (cD its)).frs (bt fs (cD its)).done w e w':=by
 obtain⟨A,c,dv,us,hA⟩:=h;obtain⟨u,m,us,rfl,hw,d3⟩:=hA.innermost;have hin:=H8 (hA.in_top hl);have HA:=H8 hA;have HB:=H8 hB;have hlt:=hA.lt
 cases hw with
 |row gt At ct xs its h1 h2 h3 h4=>
 have d1:xs.length=its.length:=h4.1;have HE:=H8 (fun k=>uu (w:=w.drewN k) (K:=fun gl w1=>Below w.heap.size w w1/\VW (Pb B bs) w1 (.iface 112 (.pointer (some ⟨gl,0,none⟩))) (cD its)) h2 ((jZ (w:=w.drewN k) (Sl.of_own h3) (fun v hv=>by
   obtain⟨i,hi,rfl⟩:=List.getElem_of_mem hv;exact(h4.2 i xs[i] (its[i]'(by omega)) (Zd hi) (Zd _)).iface) (by omega)).mono (by
  rintro e w1 ⟨gl,A1,c1,rfl,d0,b0,c8,c9⟩;have hb:Below w.heap.size w w1:=(ap (Ze _ _) k).trans d0;have b0:w.heap.size<=gl:=b0;exact⟨gl,rfl,hb,vj c8 (c9.freshW hB hlt) ⟨Zc hB b0,fun hk=>by have:=hlt gl hk;omega⟩ (h4.mono fun _ _ h=>h.later hb)⟩)))
 have Ht:=H8 ht;have Hi:=H8 hi;have Hl:=H8 hl;obtain⟨n,a9⟩:∃n,us.length=n:=⟨_,rfl⟩;have d6:n<1000000000:=by omega
 have d4:n+1<=c:=by
  obtain⟨_,_,e,hc,_⟩:=af hA.own;obtain⟨-,-,rfl⟩:=Value.slice.inj e;rw[List.length_cons,a9] at hc;exact hc
 obtain⟨go,d2⟩:∃go,A=some ⟨go,0,none⟩:=by
  obtain⟨_,_,e,_,_,hA⟩:=af hA.own;obtain⟨rfl,-,-⟩:=Value.slice.inj e;exact hA (by simp)
 subst d2;have c4:=H8 a9;clear hA ht hB hi hn h1 h2 h3 h4 hlt d1 d3 a9 hl;go_enter Tryz.func39,Tryz.ntmps39;go_wp2_with fail;refine Za hin ?_;rintro e w1 ⟨rfl,k,rfl⟩;have b8:=H8 (HE.out k);go_wp2_with fail;refine Za b8 ?_;rintro e w2 ⟨gl,rfl,w3,m3,⟨b4,b3⟩,rfl⟩;have a4:Below w.heap.size w (w3.drewN m3):=ap b4 m3;have Hv:=H8 (b3.drewN m3);obtain⟨w4,c5⟩:∃w4,w3.drewN m3=w4:=⟨_,rfl⟩;rw[c5] at a4 Hv ⊢;have c2:=H8 a4;have a3:=H8 (HA.out.below a4);clear b4 b3 c5 a4 HE b8;have a2:=a3.out.row;rw[List.length_cons,c4.out] at a2;have c0:=aa a2 (j:=0) (u:=.slice (some ⟨go,0,none⟩) (n+1) c) rfl;have s1:IntKind.i64.wrap ((n:Int)+1 - 1)=n:=by rw[IntWalk.i64_in _ (by omega)];omega
 have s2:IntKind.i64.wrap (n:Int)=n:=IntWalk.i64_in _ (by omega);have s3:(((n+1:Nat):Int))= (n:Int)+1:=by omega
 have s4:(n:Int)<=c:=by omega
 have c0d:w4.drew.cell? ⟨g,0,none⟩=some (.slice (some ⟨go,0,none⟩) (n+1) c):=c0;have f0d:w4.drew.frozen? ⟨g,0,none⟩=false:=aj a2 0;clear a2 c0;go_wp2_with fail;refine ce (fun w'=>w'.cell? ⟨g,0,none⟩=some (.slice (some ⟨go,0,none⟩) (n+1) c)) 14 (c0d) fun a0=>?_
 refine tZ 0 a0 ?_;refine tZ 1 a0 ?_;refine tZ 2 a0 ?_;refine tZ 3 a0 ?_;refine tZ 4 a0 ?_;refine tZ 5 a0 ?_
 try simp only[Act.put,jP,jQ,jR]
 refine tZ 6 a0 ?_;refine tZ 7 a0 ?_;refine tZ 8 a0 ?_;refine tZ 9 a0 ?_;refine tZ 10 a0 ?_;refine tZ 11 a0 ?_
 try simp only[Act.put,jP,jQ,jR]
 refine rZ 12 fun K hK=>?_
 go_simp;refine hK.out _ _ (fun _=>a0) (fun a0=>?_);clear hK K;have a0:=a0 (by decide)
 try simp only[Act.put,jP,jQ,jR]
 refine tZ 13 a0 ?_
 try simp only[Act.put,jP,jQ,jR]
 refine rZ 14 fun K hK=>?_
 go_simp;refine hK.out _ _ (fun h=>absurd rfl h) (fun _=>?_);clear hK K
 try simp only[Act.put,jP,jQ,jR]
 refine aI (by kernel_rfl) (NoPanic.normal ?_) _;obtain⟨w5,a5⟩:∃w5,(w4.setCell ⟨g,0,none⟩ (.slice (some ⟨go,0,none⟩) n c)).drew=w5:=⟨_,rfl⟩;have b9:gW B Q w4.drew g _ none _ c dv _ bs:=a3.out.below (Ze _ _).drew;have a1:=b9.pop;rw[c4.out] at a1;have a1:gW B Q w5 g fs none (some ⟨go,0,none⟩) c dv us (us.flatMap fun u=>cn u.2):=by rw[<-a5];exact a1
 have b1:aM (fun k=>k=g) w4 w5:=by rw[<-a5];exact(aM.of_below (Ze _ _).drew).trans (aM.set g 0 (.slice (some ⟨go,0,none⟩) n c)) fun i h=>.inl h
 have hm:Mw [] w4 w5:=Mw.of_chg b1 fun k hk _=>.inr (by subst hk;exact⟨_,_,_,a3.out.row,dW⟩)
 have c3:=Hv.out.move (bs':=us.flatMap fun u=>cn u.2) hm.mv (by simp) (fun k hk=>.inl (by rw[<-a3.out.blocks];exact List.mem_append_right _ hk));have b5:=H8 ((sm.new c2.out HB.out).trans (.chg b1 (Zc HB.out c2.out.size) fun i e=>by subst e;exact⟨a3.out.low,_,_,_,a3.out.row,.inr (.inl rfl)⟩));have b2:=fP ⟨_,_,_,_,a1⟩ Ht.out c3 (Zc HB.out b5.out.b.size) (by have:=Hl.out;omega) Hi.out;rw[a5];have d5:=H8 b2;clear b9 b1 hm c3 b2 a5 c0d f0d a0;go_wp2_with fail;refine Za d5 ?_;rintro e w6 ⟨rfl,c6,bs',hs⟩;have c7:=H8 c6;have Hs:=H8 hs;clear c6 hs;go_wp2_with fail;go_ret;exact⟨rfl,b5.out.trans c7.out,bs',Hs.out⟩
theorem oV (h:j5 B Q w g (⟨true, [],ms,none⟩::fs) none bs)(ht:vp fs none=true)(hB:B<=w.heap.size)(hl:fs.length<1000000000)(hi:∀f∈fs,Cf f)(hn:ms.length<=1000000000)(b3:∀s∈ms.map Prod.fst,ey s)(b5:(ms.map Prod.fst).Nodup) :
  Calls Tryz.prog 39 #[.pointer (some ⟨g,0,none⟩)] w fun e w'=>ET B Q g (bt fs (fQ (cF ms))).frs (bt fs (fQ (cF ms))).done w e w':=by
 obtain⟨A,c,dv,us,hA⟩:=h;obtain⟨u,m,us,rfl,hw,d6⟩:=hA.innermost;have hin:=H8 (hA.in_top hl);have HA:=H8 hA;have HB:=H8 hB;have hlt:=hA.lt
 cases hw with
 |table gt At ct L ms s0 nm h1 h2 h3 h4 h5 h6=>
 have d4:L.length=ms.length:=by have:=congrArg List.length h4;simpa using this
 have HE:=H8 (fun k=>o8 (w:=w.drewN k) (K:=fun gl w1=>Below w.heap.size w w1/\VW (Pb B bs) w1 (.iface 103 (.pointer (some ⟨gl,0,none⟩))) (fQ (cF ms))) h2 rfl ((gS (w:=w.drewN k) (xg.of_own h3) (fun p hp=>by
   obtain⟨i,hi,rfl⟩:=List.getElem_of_mem hp;exact⟨b3 _ (by rw[<-h4];exact List.mem_map.2 ⟨_,List.getElem_mem hi,rfl⟩),(h5.2 i L[i].2 ((ms[i]'(by omega)).2) (by rw[List.getElem?_map,Zd hi];rfl) (by rw[List.getElem?_map,Zd (by omega)];rfl)).iface⟩) (by rw[h4];exact b5) (by omega)).mono (by
  rintro e w1 ⟨gl,A1,c1,S,rfl,d3,b0,d1,d2,hp,hs⟩;have hb:Below w.heap.size w w1:=(ap (Ze _ _) k).trans d3;have b0:w.heap.size<=gl:=b0;have b9:S.length=L.length:=hp.length_eq;exact⟨gl,rfl,hb,zf (by rw[b9];exact d1) (by rw[b9];exact d2.freshW hB hlt) ⟨Zc hB b0,fun hk=>by have:=hlt gl hk;omega⟩ hp hs h4 (h5.mono fun _ _ h=>h.later hb)⟩)))
 have Ht:=H8 ht;have Hi:=H8 hi;have Hl:=H8 hl;obtain⟨n,a9⟩:∃n,us.length=n:=⟨_,rfl⟩;have e1:n<1000000000:=by omega
 have d9:n+1<=c:=by
  obtain⟨_,_,e,hc,_⟩:=af hA.own;obtain⟨-,-,rfl⟩:=Value.slice.inj e;rw[List.length_cons,a9] at hc;exact hc
 obtain⟨go,d5⟩:∃go,A=some ⟨go,0,none⟩:=by
  obtain⟨_,_,e,_,_,hA⟩:=af hA.own;obtain⟨rfl,-,-⟩:=Value.slice.inj e;exact hA (by simp)
 subst d5;have c7:=H8 a9;clear hA ht hB hi hn h1 h2 h3 h4 h5 h6 b3 b5 hlt d4 d6 a9 hl;go_enter Tryz.func39,Tryz.ntmps39;go_wp2_with fail;refine Za hin ?_;rintro e w1 ⟨rfl,k,rfl⟩;have c3:=H8 (HE.out k);go_wp2_with fail;refine Za c3 ?_;rintro e w2 ⟨gl,rfl,w3,m3,⟨b8,b4⟩,rfl⟩;have a4:Below w.heap.size w (w3.drewN m3):=ap b8 m3;have Hv:=H8 (b4.drewN m3);obtain⟨w4,c8⟩:∃w4,w3.drewN m3=w4:=⟨_,rfl⟩;rw[c8] at a4 Hv ⊢;have c5:=H8 a4;have a3:=H8 (HA.out.below a4);clear b8 b4 c8 a4 HE c3;have a2:=a3.out.row;rw[List.length_cons,c7.out] at a2;have c0:=aa a2 (j:=0) (u:=.slice (some ⟨go,0,none⟩) (n+1) c) rfl;have s1:IntKind.i64.wrap ((n:Int)+1 - 1)=n:=by rw[IntWalk.i64_in _ (by omega)];omega
 have s2:IntKind.i64.wrap (n:Int)=n:=IntWalk.i64_in _ (by omega);have s3:(((n+1:Nat):Int))= (n:Int)+1:=by omega
 have s4:(n:Int)<=c:=by omega
 have c0d:w4.drew.cell? ⟨g,0,none⟩=some (.slice (some ⟨go,0,none⟩) (n+1) c):=c0;have f0d:w4.drew.frozen? ⟨g,0,none⟩=false:=aj a2 0;clear a2 c0;go_wp2_with fail;refine ce (fun w'=>w'.cell? ⟨g,0,none⟩=some (.slice (some ⟨go,0,none⟩) (n+1) c)) 14 (c0d) fun a0=>?_
 refine tZ 0 a0 ?_;refine tZ 1 a0 ?_;refine tZ 2 a0 ?_;refine tZ 3 a0 ?_;refine tZ 4 a0 ?_;refine tZ 5 a0 ?_
 try simp only[Act.put,jP,jQ,jR]
 refine tZ 6 a0 ?_;refine tZ 7 a0 ?_;refine tZ 8 a0 ?_;refine tZ 9 a0 ?_;refine tZ 10 a0 ?_;refine tZ 11 a0 ?_
 try simp only[Act.put,jP,jQ,jR]
 refine rZ 12 fun K hK=>?_
 go_simp;refine hK.out _ _ (fun _=>a0) (fun a0=>?_);clear hK K;have a0:=a0 (by decide)
 try simp only[Act.put,jP,jQ,jR]
 refine tZ 13 a0 ?_
 try simp only[Act.put,jP,jQ,jR]
 refine rZ 14 fun K hK=>?_
 go_simp;refine hK.out _ _ (fun h=>absurd rfl h) (fun _=>?_);clear hK K
 try simp only[Act.put,jP,jQ,jR]
 refine aI (by kernel_rfl) (NoPanic.normal ?_) _;obtain⟨w5,a5⟩:∃w5,(w4.setCell ⟨g,0,none⟩ (.slice (some ⟨go,0,none⟩) n c)).drew=w5:=⟨_,rfl⟩;have c4:gW B Q w4.drew g _ none _ c dv _ bs:=a3.out.below (Ze _ _).drew;have a1:=c4.pop;rw[c7.out] at a1;have a1:gW B Q w5 g fs none (some ⟨go,0,none⟩) c dv us (us.flatMap fun u=>cn u.2):=by rw[<-a5];exact a1
 have b1:aM (fun k=>k=g) w4 w5:=by rw[<-a5];exact(aM.of_below (Ze _ _).drew).trans (aM.set g 0 (.slice (some ⟨go,0,none⟩) n c)) fun i h=>.inl h
 have hm:Mw [] w4 w5:=Mw.of_chg b1 fun k hk _=>.inr (by subst hk;exact⟨_,_,_,a3.out.row,dW⟩)
 have c6:=Hv.out.move (bs':=us.flatMap fun u=>cn u.2) hm.mv (by simp) (fun k hk=>.inl (by rw[<-a3.out.blocks];exact List.mem_append_right _ hk));have c2:=H8 ((sm.new c5.out HB.out).trans (.chg b1 (Zc HB.out c5.out.size) fun i e=>by subst e;exact⟨a3.out.low,_,_,_,a3.out.row,.inr (.inl rfl)⟩));have b2:=fP ⟨_,_,_,_,a1⟩ Ht.out c6 (Zc HB.out c2.out.b.size) (by have:=Hl.out;omega) Hi.out;rw[a5];have e0:=H8 b2;clear c4 b1 hm c6 b2 a5 c0d f0d a0;go_wp2_with fail;refine Za e0 ?_;rintro e w6 ⟨rfl,c9,bs',hs⟩;have d0:=H8 c9;have Hs:=H8 hs;clear c9 hs;go_wp2_with fail;go_ret;exact⟨rfl,c2.out.trans d0.out,bs',Hs.out⟩
end
section
variable {Q:Nat->Array Value->Prop}{B g c:Nat}{w:World}{bs:List Nat}{A:Option Addr}{dv u:Value}{f:Fr}{frs:List Fr}{us:List (Value×Nat×Value)}
theorem rA (h:j5 B Q w g frs none bs)(ht:vp frs none=true)(hB:B<=w.heap.size)(hl:frs.length<=1000000000):Calls Tryz.prog 36 #[.pointer (some ⟨g,0,none⟩),.int .u8 123] w (ET B Q g (⟨true, [], [],none⟩::frs) none w):=by
 have HT:=H8 (iu h hl);rw[ht] at HT;have Hl:=H8 hl;have H:=H8 h;clear h ht hl;go_enter Tryz.func36,Tryz.ntmps36;go_wp2_with fail;refine Za HT ?_;rintro e w1 ⟨rfl,a0⟩;obtain⟨A,c,dv,us,hA⟩:=H.out.below a0;have b0:us.length=frs.length:=hA.frames.1;obtain⟨n,hn⟩:∃n,us.length=n:=⟨_,rfl⟩;have b4:n<=1000000000:=by have:=Hl.out;omega
 have hh:=hA.row;have ho:=hA.own;rw[hn] at hh ho;have c0:=aa hh (j:=0) (u:=.slice A n c) rfl;have a1:Below w1.heap.size w1 ((w1.alloc (.cells #[.slice none 0 0,.string ⟨#[]⟩,.bool false] 137)).alloc (.cells #[Cb w1.heap.size] 140)):=((Ze _ _).alloc (Zb _) _).alloc (by simp) _;have a4:=H8 (ag ho a1 (Zb _));have b3:=H8 (ar (w1.alloc (.cells #[.slice none 0 0,.string ⟨#[]⟩,.bool false] 137)) [Cb w1.heap.size] 140);have a5:=H8 (ai hh a1);have b2:=H8 (aG a4.out a5.out (by decide));have a3:=H8 ((Below.heap_alloc (w1.alloc (.cells #[.slice none 0 0,.string ⟨#[]⟩,.bool false] 137)) (.cells #[Cb w1.heap.size] 140) w1.heap.size (by simp)).trans (Zf w1 (.cells #[.slice none 0 0,.string ⟨#[]⟩,.bool false] 137)));have HA:=H8 hA;have a9:=H8 a0;have a2:=H8 a1;have HB:=H8 (Zc hB a0.size);have b1:=H8 hB;have Hn:=H8 hn;clear hA a0 a1 hh ho b0 hn H hB;go_wp2_with (at_builtin;refine mb BL a4.out (by have:=b3.out;rw[World.size_alloc] at this;exact this) (Zc HB.out a2.out.size) ?_;intro v' w5 p1 p2 p3;obtain⟨A5,q5,rfl,-,-,-⟩:=af p1;have g5:=ay a5.out p2 b2.out;have f5:=aj g5 0;have c5:=aa g5 (j:=0) (u:=.slice A n c) rfl;have HK:=H8 p1;have HG:=H8 p2;clear p1 p2 p3 g5);go_ret;obtain rfl:=Hn.out;obtain⟨r1,r2⟩:=HA.out.push (f:=⟨true, [], [],none⟩) HB.out a2.out (Zb _) (ah a3.out) HG.out HK.out (fun P w' e=>.table w1.heap.size none 0 [] [] ⟨#[]⟩ none HB.out (e.trans a3.out) ⟨rfl,.inl ⟨rfl,rfl⟩⟩ rfl (bY.nil _) (fun t e=>by cases e));exact⟨rfl,(sm.new a9.out b1.out).trans r1,_,_,_,_,_,r2⟩
end
theorem BG (d:Nat)(a b:En)(W:World):(Op.equalIn (d+3) 34 (E8 a) (E8 b)).run Tryz.prog W =.ok (decide (a=b)) W:=by
 rw[show decide (a=b)= ((a.eAt.toList==b.eAt.toList)&& (a.eSch.toList==b.eSch.toList)&& (a.eKw.toList==b.eKw.toList)) by
  rw[dJ,dJ,dJ,Bool.eq_iff_iff]
  cases a;cases b;simp[and_assoc]]
 obtain⟨a1,a2,a3⟩:=a;obtain⟨b1,b2,b3⟩:=b;rw[run_equalIn_agg W (d+2) 34 _ _ (by kernel_rfl) (by kernel_rfl)];have hf:((Tryz.prog.fieldsOf 34).toList.map fun f=>(decide (f.name = "_"),f.type,f.offset)) = [(false,9,0),(false,9,1),(false,9,2)]:=by kernel_rfl
 obtain⟨f1,f2,f3,h1,h2,h3,h4,h5,h6,h7,h8,h9,a0⟩:∃f1 f2 f3,(Tryz.prog.fieldsOf 34).toList = [f1,f2,f3]/\¬f1.name = "_" /\¬f2.name = "_" /\¬f3.name = "_" /\f1.type=9/\f2.type=9/\f3.type=9/\f1.offset=0/\f2.offset=1/\f3.offset=2:=by
  generalize (Tryz.prog.fieldsOf 34).toList=fs at hf
  cases fs with
  |nil=>simp at hf
  |cons f1 r=>cases r with
   |nil=>simp at hf
   |cons f2 r2=>cases r2 with
    |nil=>simp at hf
    |cons f3 r3=>cases r3 with
     |cons f4 r4=>simp at hf
     |nil=>
      simp only[List.map_cons,List.map_nil,List.cons.injEq,Prod.mk.injEq,decide_eq_false_iff_not,and_true] at hf;exact⟨f1,f2,f3,rfl,hf.1.1,hf.2.1.1,hf.2.2.1,hf.1.2.1,hf.2.1.2.1,hf.2.2.2.1,hf.1.2.2,hf.2.1.2.2,hf.2.2.2.2⟩
 have p1:∀ (a b c:Value) (w:World),(part 9 #[a,b,c] 0).run Tryz.prog w =.ok a w:=fun a b c w=>by kernel_rfl
 have p2:∀ (a b c:Value) (w:World),(part 9 #[a,b,c] 1).run Tryz.prog w =.ok b w:=fun a b c w=>by kernel_rfl
 have p3:∀ (a b c:Value) (w:World),(part 9 #[a,b,c] 2).run Tryz.prog w =.ok c w:=fun a b c w=>by kernel_rfl
 rw[h1];have hs:=fun s t=>run_equalIn_string (P:=Tryz.prog) W (d+1) 9 s t Tryz.underlying9
 have q1:=hs a1 b1;have q2:=hs a2 b2;have q3:=hs a3 b3;clear hs
 dsimp only
 generalize (a1.toList==b1.toList)=u at q1 ⊢;generalize (a2.toList==b2.toList)=v at q2 ⊢;generalize (a3.toList==b3.toList)=z at q3 ⊢
 cases u <;> cases v <;> cases z <;> simp[Op.eqFields,h2,h3,h4,h5,h6,h7,h8,h9,a0,p1,p2,p3,q1,q2,q3]
theorem yK (a b:En)(W:World):(binOp .eql 34 (E8 a) (E8 b)).run Tryz.prog W =.ok (.bool (decide (a=b))) W:=by
 simp only[binOp];simp[Op.equal,Op.maxDepth,BG 9997 a b W]
theorem Bu (a b:En)(W:World):(binOp .neq 34 (E8 a) (E8 b)).run Tryz.prog W =.ok (.bool (!decide (a=b))) W:=by
 simp only[binOp];simp[Op.equal,Op.maxDepth,BG 9997 a b W]
def yY:Option En->List En->List En
 |_, []=> []
 |p,x::t=>if p=some x then yY (some x) t else x::yY (some x) t
theorem Cy (t:List En):∀x:En,nQ (x::t)=x::yY (some x) t:=by
 induction t with
 |nil=>intro x;rfl
 |cons y t ih0=>
  intro x;have ih:=ih0 y;rw[nQ,yY,ih]
  by_cases e:x=y
  ·subst e;rw[if_pos rfl,if_pos rfl]
  ·rw[if_neg e,if_neg (fun h=>e (Zi h))]
theorem EL (s:List En):nQ s=yY none s:=by
 cases s with
 |nil=>rfl
 |cons x t=>rw[Cy];rfl
theorem Ba (x y:En)(l:List En):∀p:Option En,yY p (l ++ [y] ++ [x])=yY p (l ++ [y])++if y=x then [] else [x]:=by
 induction l with
 |nil=>
  intro p
  by_cases e:y=x
  ·by_cases h:p=some y <;> simp[yY,e,h]
  ·by_cases h:p=some y <;> simp[yY,e,h]
 |cons z l ih=>
  intro p;simp only[List.cons_append,yY];rw[ih]
  split <;> rfl
def cu (s:List En)(n:Nat):List En:=yY none (s.take n)
theorem vl {s:List En}{x y:En}(hx:s[n+1]?=some x)(hy:s[n]?=some y):cu s (n+2)=cu s (n+1)++if y=x then [] else [x]:=by
 obtain⟨h1,rfl⟩:=List.getElem?_eq_some_iff.1 hx;obtain⟨h2,rfl⟩:=List.getElem?_eq_some_iff.1 hy;unfold cu;rw[List.take_succ_eq_append_getElem h1,List.take_succ_eq_append_getElem h2,Ba]
theorem Ez (s:List En)(h:1<=s.length):cu s 1=s.take 1:=by
 cases s with
 |nil=>simp at h
 |cons x t=>rfl
theorem AA (s:List En):cu s s.length=nQ s:=by unfold cu;rw[List.take_length,EL]
theorem wD {t:TypeId}{p:Nat}(hg:w.heap[g]?=some (.cells old t (0,0)))(hi:(Tryz.prog.info? ty).map (·.size)=some cells.size)(a0:p+cells.size<=old.size)(h1:∀v∈cells.toList,v.oneCell'=true) :
  (storeVar ty ⟨g,p,none⟩ (.agg cells)).run Tryz.prog w =.ok () (w.setRow g (old.toList.take p++cells.toList++old.toList.drop (p+cells.size)).toArray):=by
 have:=run_storeCells_at (P:=Tryz.prog) g p t cells.toList 0 old w hg (by simpa using a0) h1;rw[Nat.add_zero] at this
 cases hq:Tryz.prog.info? ty with
 |none=>simp[hq] at hi
 |some i=>
  have hs:cells.size=i.size:=by simp[hq] at hi;omega
  simp[storeVar,sizeOf,typeInfo,hq,Value.cells,hs] at this ⊢;exact this
theorem jl {ops:Array Oper}{rest:List Oper}{o:Oper}{a:Act}{Q:Exit->Act->World->Prop}{t:TypeId}{x y:Operand}{p:Nat}(hg:w.heap[g]?=some (.cells old t (0,0)))
  (h:wpList Tryz.prog ops Q rest a (w.setRow g (old.toList.take p++cells.toList++old.toList.drop (p+cells.size)).toArray)) (a0:p+cells.size<=old.size)
  (ho:o.op =.store ty x y:=by exact rfl) (hx:a.eval x =.pointer (some ⟨g,p,none⟩):=by exact rfl) (hy:a.eval y =.agg cells:=by exact rfl) (a2:o.guard=none:=by exact rfl) (hd:o.dst=none:=by exact rfl)
  (hi:(Tryz.prog.info? ty).map (·.size)=some cells.size:=by kernel_rfl) (h1:∀v∈cells.toList,v.oneCell'=true:=by simp[Value.oneCell']):wpList Tryz.prog ops Q (o::rest) a w:=by
 have a1:=wD (w:=w) (ty:=ty) hg hi a0 h1;refine wpList_plain a2 fun _ hK=>?_
 unfold Oper.wp execOp;simp only[ho,hx,hy,Instr.storeAt,Instr.sureAddr,Sem.run_bind,Sem.run_pure,Result.andThen_ok,a1];refine hK _ _ ?_;rw[hd];exact h
theorem bJ.full {l:List En}(h:bJ w base (.slice (some ⟨g,0,none⟩) n c) l):n=l.length/\base<=g/\l.length<=c/\c<=maxLen/\∃cur,w.heap[g]?=some (.cells cur 34 (0,0))/\cur.size=c*3/\cur.toList.take (l.length*3)=bk l:=by
 obtain⟨_,⟨e,_⟩|⟨g',cap,cur,e,h1,h2,h3,h4,h5,h6⟩⟩:=h
 ·cases e
 ·injection e with e1 e2 e3
  injection e1 with e1
  injection e1 with e1 _ _
  subst e1 e2 e3;exact⟨rfl,h1,h3,h4,cur,h2,h5,h6⟩
theorem bJ.of {l:List En}(h1:base<=g)(h2:l.length<=c)(h3:c<=maxLen)(h4:w.heap[g]?=some (.cells cur 34 (0,0)))(h5:cur.size=c*3)(h6:cur.toList.take (l.length*3)=bk l):bJ w base (.slice (some ⟨g,0,none⟩) l.length c) l:=
 ⟨eL l,.inr ⟨g,c,cur,rfl,h1,h4,h2,h3,h5,h6⟩⟩
theorem bJ.rd {l:List En}(h:bJ w base (.slice (some ⟨g,0,none⟩) n c) l){p:En}(hp:l[i]?=some p):w.cell? ⟨g,i*3,none⟩=some (.string p.eAt)/\w.cell? ⟨g,i*3+1,none⟩=some (.string p.eSch)/\w.cell? ⟨g,i*3+2,none⟩=some (.string p.eKw):=by
 obtain⟨rfl,-⟩:=h.full;have hlt:=(List.getElem?_eq_some_iff.1 hp).1;obtain⟨f1,f2,f3⟩:=gc l i p hp;refine⟨?_,?_,?_⟩
 ·rw[aK h rfl (i*3) (by omega),f1]
 ·rw[aK h rfl (i*3+1) (by omega),f2]
 ·rw[aK h rfl (i*3+2) (by omega),f3]
theorem qf (l m:List En):bk (l++m)=bk l++bk m:=by simp[bk]
theorem qZ (l:List En)(i:Nat)(h:i<=l.length):bk l=bk (l.take i)++bk (l.drop i)/\(bk (l.take i)).length=i*3:=by
 refine⟨by rw[<-qf,List.take_append_drop],?_⟩;rw[eL,List.length_take];omega
theorem jE (l:List En)(i:Nat):bk (l.take i)= (bk l).take (i*3):=by
 by_cases h:i<=l.length
 ·obtain⟨e,hl⟩:=qZ l i h;have:=congrArg (List.take (i*3)) e;rw[this,List.take_append_of_le_length (by omega)];exact(List.take_of_length_le (by omega)).symm
 ·rw[List.take_of_length_le (by omega)];exact(List.take_of_length_le (by rw[eL];omega)).symm
theorem wR (l:List En)(i:Nat)(h:i<=l.length):bk (l.drop i)= (bk l).drop (i*3):=by
 obtain⟨e,hl⟩:=qZ l i h;have:=congrArg (List.drop (i*3)) e;rw[this,<-hl,List.drop_left]
theorem bJ.cut {l:List En}(h:bJ w base (.slice (some ⟨g,0,none⟩) n c) l)(i:Nat)(hi:i<=l.length):bJ w base (.slice (some ⟨g,0,none⟩) i c) (l.take i):=by
 obtain⟨rfl,h1,h2,h3,cur,h4,h5,h6⟩:=h.full;have hl:(l.take i).length=i:=by simp;omega
 have:=bJ.of (w:=w) (base:=base) (g:=g) (c:=c) (l:=l.take i) (cur:=cur) h1 (by omega) h3 h4 h5 (by
  rw[hl,jE,<-h6,List.take_take]
  congr 1
  omega)
 rw[hl] at this;exact this
theorem bJ.put {l:List En}(h:bJ w base (.slice (some ⟨g,0,none⟩) n c) l)(hi:i<l.length)(x:En):∃cur,w.heap[g]?=some (.cells cur 34 (0,0))/\i*3+3<=cur.size/\bJ (w.setRow g (cur.toList.take (i*3)++dh x++cur.toList.drop (i*3+3)).toArray) base (.slice (some ⟨g,0,none⟩) n c) (l.set i x):=by
 obtain⟨rfl,h1,h2,h3,cur,h4,h5,h6⟩:=h.full;refine⟨cur,h4,by omega,?_⟩;have a1:cur.toList.length=c*3:=by simpa using h5
 have a0:bk (l.set i x)=bk (l.take i)++dh x++bk (l.drop (i+1)):=by
  rw[List.set_eq_take_append_cons_drop,if_pos hi,qf];simp[bk]
 have hl:(l.set i x).length=l.length:=by simp
 have:=bJ.of (w:=w.setRow g (cur.toList.take (i*3)++dh x++cur.toList.drop (i*3+3)).toArray) (base:=base) (g:=g) (c:=c) (l:=l.set i x) h1 (by omega) h3 (setRow_heap w g cur _ _ _ h4) (by simp[dh];omega) (by
  rw[a0,hl];have e1:(bk (l.take i)).length=i*3:=by rw[eL,List.length_take];omega
  have e2:cur.toList.take (i*3)=bk (l.take i):=by rw[jE,<-h6,List.take_take];congr 1;omega
  have e3:bk (l.drop (i+1))= (cur.toList.take (l.length*3)).drop (i*3+3):=by
   rw[h6,show i*3+3= (i+1)*3 by omega,wR l (i+1) (by omega)]
  have e4:(bk (l.take i)++dh x).length=i*3+3:=by rw[List.length_append,e1];rfl
  rw[e2,e3]
  show((bk (l.take i)++dh x++cur.toList.drop (i*3+3)).take (l.length*3))=_
  rw[List.take_append,e4,List.drop_take,List.take_of_length_le (l:=bk (l.take i)++dh x) (by omega)])
 rw[hl] at this;exact this
theorem Cc:∀w,(zeroValue 34).run Tryz.prog w =.ok (.agg #[.string ⟨#[]⟩,.string ⟨#[]⟩,.string ⟨#[]⟩]) w:=fun w=>Tryz.zeroValue34 w
theorem zF {l:List En}(h:bJ w base (.slice (some ⟨g,0,none⟩) n c) l)(hi:i<l.length):∃w',(∀ty,(Builtin.clear_ #[22] ty #[.slice (some ⟨g,i*3,none⟩) (n - i) (c - i)]).run Tryz.prog w =.ok (.tuple #[]) w')/\bJ w' base (.slice (some ⟨g,0,none⟩) i c) (l.take i)/\w.grownBy w' (some g):=by
 obtain⟨rfl,h1,h2,h3,cur,h4,h5,h6⟩:=h.full;obtain⟨vs,a0⟩:∃vs,(Builtin.zeroCells #[.string ⟨#[]⟩,.string ⟨#[]⟩,.string ⟨#[]⟩] (l.length - i)).toList=vs:=⟨_,rfl⟩;have a3:vs.length= (l.length - i)*3:=by rw[<-a0];simp[Builtin.zeroCells]
 have a2:∀v∈vs,v.oneCell'=true:=by
  intro v hv;rw[<-a0] at hv;simp only[Builtin.zeroCells,Array.toList_map,List.mem_map] at hv;obtain⟨k,-,rfl⟩:=hv;have:k % (#[Value.string ⟨#[]⟩,.string ⟨#[]⟩,.string ⟨#[]⟩]:Array Value).size<3:=Nat.mod_lt _ (by decide);generalize k % (#[Value.string ⟨#[]⟩,.string ⟨#[]⟩,.string ⟨#[]⟩]:Array Value).size=m at *;rcases(by omega:m=0\/m=1\/m=2) with rfl|rfl|rfl <;> rfl
 have a1:=run_storeCells_at (P:=Tryz.prog) g (i*3) 34 vs 0 cur w h4 (by omega) a2;rw[Nat.add_zero] at a1;refine⟨w.setRow g (cur.toList.take (i*3)++vs++cur.toList.drop (i*3+vs.length)).toArray,fun ty=>?_,?_,aD w g _⟩
 rotate_left
 ·have hl:(l.take i).length=i:=by simp;omega
  have:=bJ.of (w:=w.setRow g (cur.toList.take (i*3)++vs++cur.toList.drop (i*3+vs.length)).toArray) (base:=base) (g:=g) (c:=c) (l:=l.take i) h1 (by omega) h3 (setRow_heap w g cur _ _ _ h4) (by
   have:cur.toList.length=c*3:=by simpa using h5
   simp;omega) (by
   rw[hl,jE,<-h6,List.take_take];have:cur.toList.length=c*3:=by simpa using h5
   rw[List.toList_toArray,List.append_assoc,List.take_append_of_le_length (by simp;omega),List.take_take]
   congr 1
   omega)
  rw[hl] at this;exact this
 ·have hz:=Cc;have hu:=run_underlying (P:=Tryz.prog) Tryz.underlying22;obtain⟨m,hm⟩:∃m,l.length - i=m+1:=⟨l.length - i - 1,by omega⟩;rw[hm] at a0 ⊢;simp[Builtin.clear_,hu,hz,Value.cells,a0,a1]
theorem mP (hg:w.grownBy w' (some g))(h:base<=g)(hlt:g<w.heap.size):Below base w w':=
 ⟨hg.os,hg.tape,hg.output,hg.size,fun k hk=>hg.block k (by omega) (fun e=>by injection e with e;omega)⟩
theorem bJ.drawn {l:List En}(h:bJ w base v l)(q:Nat):bJ (w.drewN q) base v l:=h
def FU (w:World)(base:Nat)(s:List En)(e:Ending)(w':World):Prop:= ∃v,e =.returned v/\bJ w' base v (nQ s)/\Below base w w'
theorem re {s:List En}(h:bJ w base (.slice (some ⟨g,0,none⟩) n c) s)(hl:s.length<=1000000):Calls Tryz.prog 47 #[.slice (some ⟨g,0,none⟩) n c] w (FU w base s):=by
 obtain⟨rfl,d6,hc,d4,cur0,a1,-⟩:=h.full;have a4:=ah a1;have H:=H8 h;have c9:=H8 d6;have d0:=H8 a4;have f8:=H8 d4;clear h d6 a1 a4 d4
 by_cases h2:s.length<2
 ·have e3:(s.length:Int)<2:=by omega
  have Hs:=H8 (show nQ s=s by
   match s,h2 with
   | [],_=>rfl
   | [x],_=>rfl)
  go_enter Tryz.func47,Tryz.ntmps47;go_wp2_with fail;go_ret;exact⟨_,rfl,by rw[Hs.out];exact H.out,Ze _ _⟩
 ·have e3:¬ (s.length:Int)<2:=by omega
  have Hc1:=H8 (Ez s (by omega));have H2:=H8 h2;clear h2;go_enter Tryz.func47,Tryz.ntmps47;go_wp2_with fail
  go_loopg [3] s.length (fun m s3 wr=> ∃k q:Nat,m+k=s.length+1/\1<=k/\k<=s.length/\s3 =.int .i64 k/\Hid (cu s k=s.take k)/\wr=w.drewN q)
  case atStart=>exact⟨1,0,rfl,Zb _,by have:=H2.out;omega,rfl,Hc1,rfl⟩
  case round=>
   obtain⟨k,q,hm,e6,hkl,rfl,a9,rfl⟩:=hrel;have Hm:=H8 (And.intro hm hkl);clear hm hkl Hc1
   by_cases hlt:k<s.length
   ·have a0:(k:Int)<s.length:=by omega
    obtain⟨x,hx⟩:∃x,s[k]?=some x:=⟨_,Zd hlt⟩;obtain⟨y,hy⟩:∃y,s[k - 1]?=some y:=⟨_,Zd (by omega)⟩;obtain⟨c1,c2,c3⟩:=H.out.rd hx;obtain⟨d1,d2,d3⟩:=H.out.rd hy;have a2:=vl (s:=s) (n:=k - 1) (x:=x) (y:=y) (by rw[show k - 1+1=k by omega];exact hx) hy;rw[show k - 1+2=k+1 by omega,show k - 1+1=k by omega] at a2;have a3:=H8 a2;have Hx:=H8 hx;have b0:(1:Int)<=k:=by omega
    have f6:=H8 e6;clear a2 hx hy
    by_cases hdup:x=y
    ·have heq:∀W,(binOp .eql 34 (.agg #[.string x.eAt,.string x.eSch,.string x.eKw]) (.agg #[.string y.eAt,.string y.eSch,.string y.eKw])).run Tryz.prog W =.ok (.bool true) W:=fun W=>by rw[show(true:Bool)=decide (x=y) from(decide_eq_true hdup).symm];exact yK x y W
     have Hcu2:=H8 (show cu s (k+1)=s.take k by rw[a3.out,if_pos hdup.symm,List.append_nil,a9.out]);clear hdup;go_wp2_with fail;go_quiet (fail);go_wp2_with fail;clear heq c1 c2 c3 d1 d2 d3;have Hb0:=H8 (show Below base w (w.drewN (q+nq)) from ap (Ze _ _) _);have HE0:=H8 (H.out.drawn (q+nq));have Hcu1:=H8 (And.intro a9.out Hcu2.out);clear a3 Hx a9 Hcu2 a0 b0;generalize w.drewN (q+nq)=w1 at *
     go_loopg [3,5] (s.length - k) (fun m s3 s5 wr=> ∃ (i k2:Nat) (M:List En),m+ (k+k2)=s.length+1/\1<=k2/\k+k2<=s.length/\s3 =.int .i64 i/\s5 =.int .i64 k2/\Hid (bJ wr base (.slice (some ⟨g,0,none⟩) s.length c) M/\M.length=s.length/\M.take i=cu s (k+k2)/\i<k+k2/\(∀j,k+k2<=j+1->M[j]?=s[j]?)/\Below base w wr))
     case atStart=>exact⟨k,1,s,by omega,Zb _,by omega,rfl,rfl,H8 ⟨HE0.out,rfl,Hcu1.out.2.symm,by omega,fun _ _=>rfl,Hb0.out⟩⟩
     case round=>
      obtain⟨i,k2,M,hm,f9,b4,rfl,rfl,HI⟩:=hrel;clear HE0 Hb0;have Hm2:=H8 (And.intro hm b4);obtain⟨hE,c6,c0,c4,c8,b9⟩:=HI.out;have b5:i<M.length:=by omega
      have f5:(i:Int)<s.length:=by omega
      have f7:(i:Int)<=s.length:=by omega
      have f3:i<=s.length:=by omega
      have f2:(i:Int)<=c:=by omega
      have f1:i<=c:=by omega
      have HE:=H8 hE;have HR:=H8 (And.intro c6 (And.intro c0 (And.intro c4 (And.intro c8 b9))));have d9:=H8 (And.intro c4 b5);clear HI hE c6 c0 c8 b9
      by_cases hlt2:k+k2<s.length
      ·obtain⟨u,hu⟩:∃u,s[k+k2]?=some u:=⟨_,Zd hlt2⟩;obtain⟨v,hv⟩:∃v,s[k+k2 - 1]?=some v:=⟨_,Zd (by omega)⟩;obtain⟨c1,c2,c3⟩:=HE.out.rd (show M[k+k2]?=some u by rw[HR.out.2.2.2.1 _ (by omega)];exact hu);obtain⟨d1,d2,d3⟩:=HE.out.rd (show M[k+k2 - 1]?=some v by rw[HR.out.2.2.2.1 _ (by omega)];exact hv);rw[show(k+k2)*3=k*3+k2*3 by omega] at c1 c2 c3;rw[show(k+k2 - 1)*3=k*3+ (k2 - 1)*3 by omega] at d1 d2 d3;have a2:=vl (s:=s) (n:=k+k2 - 1) (x:=u) (y:=v) (by rw[show k+k2 - 1+1=k+k2 by omega];exact hu) hv;rw[show k+k2 - 1+2=k+ (k2+1) by omega,show k+k2 - 1+1=k+k2 by omega] at a2;have a3:=H8 a2;have a0:(k2:Int)< ((s.length - k:Nat):Int):=by omega
       have e4:(1:Int)<=k2:=by omega
       have g0:=aj (HE.out.full.2.2.2.2.choose_spec.1);clear a2 hu hv hm b4
       by_cases hdup:u=v
       ·have heq:∀W,(binOp .neq 34 (.agg #[.string u.eAt,.string u.eSch,.string u.eKw]) (.agg #[.string v.eAt,.string v.eSch,.string v.eKw])).run Tryz.prog W =.ok (.bool false) W:=fun W=>by rw[show(false:Bool)= !decide (u=v) by rw[decide_eq_true hdup];rfl];exact Bu u v W
        have Hcu2:=H8 (show M.take i=cu s (k+ (k2+1)) by rw[a3.out,if_pos hdup.symm,List.append_nil];exact HR.out.2.1);clear hdup;go_wp2_with fail;go_quiet (fail);go_wp2_with fail;go_roundg (s.length - (k+k2))
        case measure=>have:=Hm2.out;omega
        case rel=>
         have h5:=HR.out;exact⟨i,k2+1,M,by omega,by omega,by omega,rfl,by go_num,H8 ⟨HE.out.drawn _,h5.1,Hcu2.out,by omega,fun j hj=>h5.2.2.2.1 j (by omega),ap h5.2.2.2.2 _⟩⟩
       ·have heq:∀W,(binOp .neq 34 (.agg #[.string u.eAt,.string u.eSch,.string u.eKw]) (.agg #[.string v.eAt,.string v.eSch,.string v.eKw])).run Tryz.prog W =.ok (.bool true) W:=fun W=>by rw[show(true:Bool)= !decide (u=v) by rw[decide_eq_false hdup];rfl];exact Bu u v W
        have Hcu2:=H8 (show M.take i ++ [u]=cu s (k+ (k2+1)) by rw[a3.out,if_neg (fun e=>hdup e.symm),<-HR.out.2.1]);clear hdup;go_wp2_with fail;go_quiet (fail);obtain⟨cur,b3,e5,a5⟩:=(HE.out.drawn nq).put b5 u;have b2:=H8 a5;have b1:=H8 b3;clear a5;go_wp2_with (refine jl b1.out ?_ e5);have f0:=H8 (aD (wr.drewN nq) g (cur.toList.take (i*3)++dh u++cur.toList.drop (i*3+3)).toArray);go_roundg (s.length - (k+k2))
        case measure=>have:=Hm2.out;omega
        case rel=>
         have h5:=HR.out;have e0:=h5.2.2.2.2.size;have ew:∀A B:List Value,A++Value.string u.eAt::Value.string u.eSch::Value.string u.eKw::B=A++dh u++B:=fun A B=>by simp[dh]
         simp only[ew];refine⟨i+1,k2+1,M.set i u,by omega,by omega,by omega,by go_num,by go_num,H8 ⟨b2.out,by simpa using h5.1,?_,by omega,fun j hj=>?_,(ap h5.2.2.2.2 nq).trans (mP f0.out c9.out (by have:=d0.out;exact Nat.lt_of_lt_of_le this e0))⟩⟩
         ·rw[<-Hcu2.out,List.take_succ_eq_append_getElem (by simpa using d9.out.2),List.getElem_set_self,List.take_set_of_le (Zb _)]
         ·rw[List.getElem?_set_ne (by omega)];exact h5.2.2.2.1 j (by omega)
      ·have a0:¬ (k2:Int)< ((s.length - k:Nat):Int):=by omega
       have d5:k+k2=s.length:=by omega
       obtain⟨wz,f4,c5,c7⟩:=zF HE.out b5;have Hz:=H8 (And.intro c5 (HR.out.2.2.2.2.trans ((mP c7 c9.out (by have:=HR.out.2.2.2.2.size;have:=d0.out;omega)).mono (Zb _))));have b8:=H8 (show M.take i=nQ s by rw[HR.out.2.1,d5,AA]);clear c5 c7 hm b4 d5;go_wp2_with fail;go_ret;exact⟨_,rfl,by rw[<-b8.out];exact Hz.out.1,Hz.out.2⟩
    ·have heq:∀W,(binOp .eql 34 (.agg #[.string x.eAt,.string x.eSch,.string x.eKw]) (.agg #[.string y.eAt,.string y.eSch,.string y.eKw])).run Tryz.prog W =.ok (.bool false) W:=fun W=>by rw[show(false:Bool)=decide (x=y) from(decide_eq_false hdup).symm];exact yK x y W
     have Hcu2:=H8 (show cu s (k+1)=s.take (k+1) by
      obtain⟨h1,h3⟩:=List.getElem?_eq_some_iff.1 Hx.out;rw[a3.out,if_neg (fun e=>hdup e.symm),a9.out,List.take_succ_eq_append_getElem h1,h3])
     clear hdup;go_wp2_with fail;go_quiet (fail);go_wp2_with fail;go_roundg (s.length - k)
     case measure=>have:=Hm.out;omega
     case rel=>exact⟨k+1,_,by omega,by omega,by omega,by go_num,Hcu2,rfl⟩
   ·have a0:¬ (k:Int)<s.length:=by omega
    have Hs:=H8 (show nQ s=s by
     have e1:=AA s;have e2:=a9.out;rw[List.take_of_length_le (by omega)] at e2;rw[<-e1];have hle:s.length=k:=by have:=Hm.out;omega
     rw[hle];exact e2)
    go_wp2_with fail;go_ret;exact⟨_,rfl,by rw[Hs.out];exact H.out.drawn _,ap (Ze _ _) _⟩
