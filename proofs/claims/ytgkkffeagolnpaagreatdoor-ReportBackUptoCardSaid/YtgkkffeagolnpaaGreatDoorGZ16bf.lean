import Derived.Test.YtgkkffeagolnpaaGreatDoorGZ16be
set_option linter.unusedVariables false
set_option linter.unusedSimpArgs false
set_option maxHeartbeats 64000000
set_option maxRecDepth 100000
namespace Go.Proofs.YtgkkffeagolnpaaGreatDoor
open Go.RowKit Go.Shelf
variable {cells cur old:Array Value}{base c g i n p:Nat}{A:Option Addr}{e ty:TypeId}{v:Value}{w w':World}
section
variable {Q:Nat->Array Value->Prop}{B g:Nat}{w:World}{bs:List Nat}{frs:List Fr}{a aU aE:Addr}{v:Value}{j j0:JV}{P:Nat->Prop}
theorem B6 (h:lm B Q w g frs none bs)(ht:wJ frs none=true)(hv:VW (Pb B bs) w v j)(hP:ek w)(hG:cD w aU aE)(tx:Tx j)(sz:Sz j)(hx:(JV.txt j).length<=140737488355328)(hB:B<=w.heap.size)(hl:frs.length<=1000000000)(hi:∀f∈frs,EA f) :
  Calls Tryz.prog 37 #[.pointer (some ⟨g,0,none⟩),v] w fun e w'=>Gh B Q g (bD frs j).frs (bD frs j).done w e w':=by
 have H1:=Qa (nV hv hP hG tx sz hx);have H2:=Qa (fun w1 (hw:Below w.heap.size w w1)=>ji (h.below hw) hl);have H3:=Qa (fun w1 (hw:Below w.heap.size w w1)=>gW (h.below hw) ht (hv.later hw) (Zc hB hw.size) hl hi);rw[ht] at H2;have HB:=Qa hB;generalize JV.txt j=tl at *;obtain⟨t,x,rfl⟩:=hv.iface;clear h ht hv hP hG tx sz hx hB hl hi;go_enter Tryz.func37,Tryz.ntmps37;go_wp2_with fail;refine Za H1 ?_;rintro e w1 ⟨u,rfl,ho,a0⟩;obtain⟨A,q,rfl,-⟩:=ag ho;have a3:=Qa a0;have b0:=Qa (H2.out w1 a0);clear ho a0;go_wp2_with fail;refine Za b0 ?_;rintro e w2 ⟨rfl,a4⟩;have a2:=Qa (a3.out.trans (a4.mono a3.out.size));have a5:=Qa (H3.out w2 a2.out);clear a4;go_wp2_with fail;refine Za a5 ?_;rintro e w3 ⟨rfl,a1,bs',hs⟩;have a9:=Qa a1;have Hs:=Qa hs;clear a1 hs;go_wp2_with fail;go_ret;exact⟨rfl,(rv.new a2.out HB.out).trans a9.out,bs',Hs.out⟩
theorem tL (h:lm B Q w g [] (some j) bs)(hP:ek w)(hG:cD w aU aE)(tx:Tx j)(sz:Sz j)(hx:(JV.txt j).length<=140737488355328):Calls Tryz.prog 39 #[.pointer (some ⟨g,0,none⟩)] w (Ea (JV.txt j) w):=by
 obtain⟨A,c,dv,us,h⟩:=h;obtain⟨rfl,rfl⟩:=h.empty;have hr:=h.row;have hd:VW (Pb B []) w dv j:=h.done;have H1:=Qa (nV hd hP hG tx sz hx);obtain⟨t,x,rfl⟩:=hd.iface;have c0:=ac hr (j:=0) (u:=.slice A 0 c) rfl;have c1:=ac hr (j:=1) (u:=.iface t x) rfl;generalize JV.txt j=tl at *;clear h hr hd hP hG tx sz hx;go_enter Tryz.func39,Tryz.ntmps39;go_wp2_with fail;refine Za H1 ?_;rintro e w1 ⟨u,rfl,ho,a0⟩;obtain⟨A2,q,rfl,-⟩:=ag ho;have a1:=Qa a0;have Ho:=Qa ho;clear ho a0;go_wp2_with fail;go_ret2;exact⟨_,rfl,Ho.out,a1.out⟩
end
section
variable {Q:Nat->Array Value->Prop}{B g:Nat}{w:World}{bs:List Nat}{fs:List Fr}{its:List JV}{ms:List (ByteArray×JV)}
theorem bO.freshW {k:Nat}{xs:List Value}(h:bO (w.heap.size<= ·) w' e k A n c xs)(hB:B<=w.heap.size)(a0:∀g∈bs,g<w.heap.size):bO (Pb B bs) w' e k A n c xs:=
 h.stay fun g o hp hg _ _=>⟨⟨Zc hB hp,fun hb=>by have:=a0 g hb;omega⟩,hg⟩
theorem uK (h:lm B Q w g (⟨false,its, [],none⟩::fs) none bs)(ht:wJ fs none=true)(hB:B<=w.heap.size)(hl:fs.length<1000000000)(hi:∀f∈fs,EA f)(hn:its.length<=1000000000) :
  Calls Tryz.prog 38 #[.pointer (some ⟨g,0,none⟩)] w fun e w'=>Gh B Q g (bD fs (cJ its)).frs (bD fs (cJ its)).done w e w':=by
 obtain⟨A,c,dv,us,hA⟩:=h;obtain⟨u,m,us,rfl,hw,d1⟩:=hA.innermost;have hin:=Qa (hA.in_top hl);have HA:=Qa hA;have HB:=Qa hB;have hlt:=hA.lt
 cases hw with
 |row gt At ct xs its h1 h2 h3 h4=>
 have d4:xs.length=its.length:=h4.1;have HE:=Qa (fun k=>vy (w:=w.drewN k) (K:=fun gl w1=>Below w.heap.size w w1/\VW (Pb B bs) w1 (.iface 104 (.pointer (some ⟨gl,0,none⟩))) (cJ its)) h2 ((lj (w:=w.drewN k) (Sl.of_own h3) (fun v hv=>by
   obtain⟨i,hi,rfl⟩:=List.getElem_of_mem hv;exact(h4.2 i xs[i] (its[i]'(by omega)) (Zd hi) (Zd _)).iface) (by omega)).mono (by
  rintro e w1 ⟨gl,A1,c1,rfl,d0,b0,c8,d3⟩;have hb:Below w.heap.size w w1:=(ap (Ze _ _) k).trans d0;have b0:w.heap.size<=gl:=b0;exact⟨gl,rfl,hb,wP c8 (d3.freshW hB hlt) ⟨Zc hB b0,fun hk=>by have:=hlt gl hk;omega⟩ (h4.mono fun _ _ h=>h.later hb)⟩)))
 have Ht:=Qa ht;have Hi:=Qa hi;have Hl:=Qa hl;obtain⟨n,b1⟩:∃n,us.length=n:=⟨_,rfl⟩;have d6:n<1000000000:=by omega
 have d2:n+1<=c:=by
  obtain⟨_,_,e,hc,_⟩:=ag hA.own;obtain⟨-,-,rfl⟩:=Value.slice.inj e;rw[List.length_cons,b1] at hc;exact hc
 obtain⟨go,c9⟩:∃go,A=some ⟨go,0,none⟩:=by
  obtain⟨_,_,e,_,_,hA⟩:=ag hA.own;obtain⟨rfl,-,-⟩:=Value.slice.inj e;exact hA (by simp)
 subst c9;have c2:=Qa b1;clear hA ht hB hi hn h1 h2 h3 h4 hlt d4 d1 b1 hl;go_enter Tryz.func38,Tryz.ntmps38;go_wp2_with fail;refine Za hin ?_;rintro e w1 ⟨rfl,k,rfl⟩;have b8:=Qa (HE.out k);go_wp2_with fail;refine Za b8 ?_;rintro e w2 ⟨gl,rfl,w3,m3,⟨b2,c6⟩,rfl⟩;have a5:Below w.heap.size w (w3.drewN m3):=ap b2 m3;have Hv:=Qa (c6.drewN m3);obtain⟨w4,b4⟩:∃w4,w3.drewN m3=w4:=⟨_,rfl⟩;rw[b4] at a5 Hv ⊢;have b3:=Qa a5;have a3:=Qa (HA.out.below a5);clear b2 c6 b4 a5 HE b8;have a1:=a3.out.row;rw[List.length_cons,c2.out] at a1;have c0:=ac a1 (j:=0) (u:=.slice (some ⟨go,0,none⟩) (n+1) c) rfl;have s1:IntKind.i64.wrap ((n:Int)+1 - 1)=n:=by rw[IntWalk.i64_in _ (by omega)];omega
 have s2:IntKind.i64.wrap (n:Int)=n:=IntWalk.i64_in _ (by omega);have s3:(((n+1:Nat):Int))= (n:Int)+1:=by omega
 have s4:(n:Int)<=c:=by omega
 have c0d:w4.drew.cell? ⟨g,0,none⟩=some (.slice (some ⟨go,0,none⟩) (n+1) c):=c0;have f0d:w4.drew.frozen? ⟨g,0,none⟩=false:=al a1 0;clear a1 c0;go_wp2_with fail;refine cC (fun w'=>w'.cell? ⟨g,0,none⟩=some (.slice (some ⟨go,0,none⟩) (n+1) c)) 14 (c0d) fun a0=>?_
 refine tZ 0 a0 ?_;refine tZ 1 a0 ?_;refine tZ 2 a0 ?_;refine tZ 3 a0 ?_;refine tZ 4 a0 ?_;refine tZ 5 a0 ?_
 try simp only[Act.put,jP,jQ,jR]
 refine tZ 6 a0 ?_;refine tZ 7 a0 ?_;refine tZ 8 a0 ?_;refine tZ 9 a0 ?_;refine tZ 10 a0 ?_;refine tZ 11 a0 ?_
 try simp only[Act.put,jP,jQ,jR]
 refine rZ 12 fun K hK=>?_
 go_simp;refine hK.out _ _ (fun _=>a0) (fun a0=>?_);clear hK K;have a0:=a0 (by decide)
 try simp only[Act.put,jP,jQ,jR]
 refine tZ 13 a0 ?_
 try simp only[Act.put,jP,jQ,jR]
 refine rZ 14 fun K hK=>?_
 go_simp;refine hK.out _ _ (fun h=>absurd rfl h) (fun _=>?_);clear hK K
 try simp only[Act.put,jP,jQ,jR]
 refine aK (by kernel_rfl) (NoPanic.normal ?_) _;obtain⟨w5,a4⟩:∃w5,(w4.setCell ⟨g,0,none⟩ (.slice (some ⟨go,0,none⟩) n c)).drew=w5:=⟨_,rfl⟩;have c5:iI B Q w4.drew g _ none _ c dv _ bs:=a3.out.below (Ze _ _).drew;have a2:=c5.pop;rw[c2.out] at a2;have a2:iI B Q w5 g fs none (some ⟨go,0,none⟩) c dv us (us.flatMap fun u=>cI u.2):=by rw[<-a4];exact a2
 have a9:aP (fun k=>k=g) w4 w5:=by rw[<-a4];exact(aP.of_below (Ze _ _).drew).trans (aP.set g 0 (.slice (some ⟨go,0,none⟩) n c)) fun i h=>.inl h
 have hm:Mw [] w4 w5:=Mw.of_chg a9 fun k hk _=>.inr (by subst hk;exact⟨_,_,_,a3.out.row,eu⟩)
 have c4:=Hv.out.move (bs':=us.flatMap fun u=>cI u.2) hm.mv (by simp) (fun k hk=>.inl (by rw[<-a3.out.blocks];exact List.mem_append_right _ hk));have c3:=Qa ((rv.new b3.out HB.out).trans (.chg a9 (Zc HB.out b3.out.size) fun i e=>by subst e;exact⟨a3.out.low,_,_,_,a3.out.row,.inr (.inl rfl)⟩));have b5:=gW ⟨_,_,_,_,a2⟩ Ht.out c4 (Zc HB.out c3.out.b.size) (by have:=Hl.out;omega) Hi.out;rw[a4];have c7:=Qa b5;clear c5 a9 hm c4 b5 a4 c0d f0d a0;go_wp2_with fail;refine Za c7 ?_;rintro e w6 ⟨rfl,b9,bs',hs⟩;have d5:=Qa b9;have Hs:=Qa hs;clear b9 hs;go_wp2_with fail;go_ret;exact⟨rfl,c3.out.trans d5.out,bs',Hs.out⟩
theorem pe (h:lm B Q w g (⟨true, [],ms,none⟩::fs) none bs)(ht:wJ fs none=true)(hB:B<=w.heap.size)(hl:fs.length<1000000000)(hi:∀f∈fs,EA f)(hn:ms.length<=1000000000)(c9:∀s∈ms.map Prod.fst,dd s)(b2:(ms.map Prod.fst).Nodup) :
  Calls Tryz.prog 38 #[.pointer (some ⟨g,0,none⟩)] w fun e w'=>Gh B Q g (bD fs (fV (cW ms))).frs (bD fs (fV (cW ms))).done w e w':=by
 obtain⟨A,c,dv,us,hA⟩:=h;obtain⟨u,m,us,rfl,hw,d4⟩:=hA.innermost;have hin:=Qa (hA.in_top hl);have HA:=Qa hA;have HB:=Qa hB;have hlt:=hA.lt
 cases hw with
 |table gt At ct L ms s0 nm h1 h2 h3 h4 h5 h6=>
 have d9:L.length=ms.length:=by have:=congrArg List.length h4;simpa using this
 have HE:=Qa (fun k=>qh (w:=w.drewN k) (K:=fun gl w1=>Below w.heap.size w w1/\VW (Pb B bs) w1 (.iface 95 (.pointer (some ⟨gl,0,none⟩))) (fV (cW ms))) h2 rfl ((iM (w:=w.drewN k) (yz.of_own h3) (fun p hp=>by
   obtain⟨i,hi,rfl⟩:=List.getElem_of_mem hp;exact⟨c9 _ (by rw[<-h4];exact List.mem_map.2 ⟨_,List.getElem_mem hi,rfl⟩),(h5.2 i L[i].2 ((ms[i]'(by omega)).2) (by rw[List.getElem?_map,Zd hi];rfl) (by rw[List.getElem?_map,Zd (by omega)];rfl)).iface⟩) (by rw[h4];exact b2) (by omega)).mono (by
  rintro e w1 ⟨gl,A1,c1,S,rfl,d3,b0,d1,d6,hp,hs⟩;have hb:Below w.heap.size w w1:=(ap (Ze _ _) k).trans d3;have b0:w.heap.size<=gl:=b0;have c5:S.length=L.length:=hp.length_eq;exact⟨gl,rfl,hb,Cb (by rw[c5];exact d1) (by rw[c5];exact d6.freshW hB hlt) ⟨Zc hB b0,fun hk=>by have:=hlt gl hk;omega⟩ hp hs h4 (h5.mono fun _ _ h=>h.later hb)⟩)))
 have Ht:=Qa ht;have Hi:=Qa hi;have Hl:=Qa hl;obtain⟨n,b1⟩:∃n,us.length=n:=⟨_,rfl⟩;have e1:n<1000000000:=by omega
 have d5:n+1<=c:=by
  obtain⟨_,_,e,hc,_⟩:=ag hA.own;obtain⟨-,-,rfl⟩:=Value.slice.inj e;rw[List.length_cons,b1] at hc;exact hc
 obtain⟨go,d2⟩:∃go,A=some ⟨go,0,none⟩:=by
  obtain⟨_,_,e,_,_,hA⟩:=ag hA.own;obtain⟨rfl,-,-⟩:=Value.slice.inj e;exact hA (by simp)
 subst d2;have c3:=Qa b1;clear hA ht hB hi hn h1 h2 h3 h4 h5 h6 c9 b2 hlt d9 d4 b1 hl;go_enter Tryz.func38,Tryz.ntmps38;go_wp2_with fail;refine Za hin ?_;rintro e w1 ⟨rfl,k,rfl⟩;have b9:=Qa (HE.out k);go_wp2_with fail;refine Za b9 ?_;rintro e w2 ⟨gl,rfl,w3,m3,⟨b3,c8⟩,rfl⟩;have a5:Below w.heap.size w (w3.drewN m3):=ap b3 m3;have Hv:=Qa (c8.drewN m3);obtain⟨w4,b5⟩:∃w4,w3.drewN m3=w4:=⟨_,rfl⟩;rw[b5] at a5 Hv ⊢;have b4:=Qa a5;have a3:=Qa (HA.out.below a5);clear b3 c8 b5 a5 HE b9;have a1:=a3.out.row;rw[List.length_cons,c3.out] at a1;have c0:=ac a1 (j:=0) (u:=.slice (some ⟨go,0,none⟩) (n+1) c) rfl;have s1:IntKind.i64.wrap ((n:Int)+1 - 1)=n:=by rw[IntWalk.i64_in _ (by omega)];omega
 have s2:IntKind.i64.wrap (n:Int)=n:=IntWalk.i64_in _ (by omega);have s3:(((n+1:Nat):Int))= (n:Int)+1:=by omega
 have s4:(n:Int)<=c:=by omega
 have c0d:w4.drew.cell? ⟨g,0,none⟩=some (.slice (some ⟨go,0,none⟩) (n+1) c):=c0;have f0d:w4.drew.frozen? ⟨g,0,none⟩=false:=al a1 0;clear a1 c0;go_wp2_with fail;refine cC (fun w'=>w'.cell? ⟨g,0,none⟩=some (.slice (some ⟨go,0,none⟩) (n+1) c)) 14 (c0d) fun a0=>?_
 refine tZ 0 a0 ?_;refine tZ 1 a0 ?_;refine tZ 2 a0 ?_;refine tZ 3 a0 ?_;refine tZ 4 a0 ?_;refine tZ 5 a0 ?_
 try simp only[Act.put,jP,jQ,jR]
 refine tZ 6 a0 ?_;refine tZ 7 a0 ?_;refine tZ 8 a0 ?_;refine tZ 9 a0 ?_;refine tZ 10 a0 ?_;refine tZ 11 a0 ?_
 try simp only[Act.put,jP,jQ,jR]
 refine rZ 12 fun K hK=>?_
 go_simp;refine hK.out _ _ (fun _=>a0) (fun a0=>?_);clear hK K;have a0:=a0 (by decide)
 try simp only[Act.put,jP,jQ,jR]
 refine tZ 13 a0 ?_
 try simp only[Act.put,jP,jQ,jR]
 refine rZ 14 fun K hK=>?_
 go_simp;refine hK.out _ _ (fun h=>absurd rfl h) (fun _=>?_);clear hK K
 try simp only[Act.put,jP,jQ,jR]
 refine aK (by kernel_rfl) (NoPanic.normal ?_) _;obtain⟨w5,a4⟩:∃w5,(w4.setCell ⟨g,0,none⟩ (.slice (some ⟨go,0,none⟩) n c)).drew=w5:=⟨_,rfl⟩;have c7:iI B Q w4.drew g _ none _ c dv _ bs:=a3.out.below (Ze _ _).drew;have a2:=c7.pop;rw[c3.out] at a2;have a2:iI B Q w5 g fs none (some ⟨go,0,none⟩) c dv us (us.flatMap fun u=>cI u.2):=by rw[<-a4];exact a2
 have a9:aP (fun k=>k=g) w4 w5:=by rw[<-a4];exact(aP.of_below (Ze _ _).drew).trans (aP.set g 0 (.slice (some ⟨go,0,none⟩) n c)) fun i h=>.inl h
 have hm:Mw [] w4 w5:=Mw.of_chg a9 fun k hk _=>.inr (by subst hk;exact⟨_,_,_,a3.out.row,eu⟩)
 have c6:=Hv.out.move (bs':=us.flatMap fun u=>cI u.2) hm.mv (by simp) (fun k hk=>.inl (by rw[<-a3.out.blocks];exact List.mem_append_right _ hk));have c4:=Qa ((rv.new b4.out HB.out).trans (.chg a9 (Zc HB.out b4.out.size) fun i e=>by subst e;exact⟨a3.out.low,_,_,_,a3.out.row,.inr (.inl rfl)⟩));have b8:=gW ⟨_,_,_,_,a2⟩ Ht.out c6 (Zc HB.out c4.out.b.size) (by have:=Hl.out;omega) Hi.out;rw[a4];have d0:=Qa b8;clear c7 a9 hm c6 b8 a4 c0d f0d a0;go_wp2_with fail;refine Za d0 ?_;rintro e w6 ⟨rfl,c2,bs',hs⟩;have e0:=Qa c2;have Hs:=Qa hs;clear c2 hs;go_wp2_with fail;go_ret;exact⟨rfl,c4.out.trans e0.out,bs',Hs.out⟩
end
section
variable {Q:Nat->Array Value->Prop}{B g c:Nat}{w:World}{bs:List Nat}{A:Option Addr}{dv u:Value}{f:Fr}{frs:List Fr}{us:List (Value×Nat×Value)}
theorem tm (h:lm B Q w g frs none bs)(ht:wJ frs none=true)(hB:B<=w.heap.size)(hl:frs.length<=1000000000):Calls Tryz.prog 35 #[.pointer (some ⟨g,0,none⟩),.int .u8 123] w (Gh B Q g (⟨true, [], [],none⟩::frs) none w):=by
 have HT:=Qa (ji h hl);rw[ht] at HT;have Hl:=Qa hl;have H:=Qa h;clear h ht hl;go_enter Tryz.func35,Tryz.ntmps35;go_wp2_with fail;refine Za HT ?_;rintro e w1 ⟨rfl,a1⟩;obtain⟨A,c,dv,us,hA⟩:=H.out.below a1;have b3:us.length=frs.length:=hA.frames.1;obtain⟨n,hn⟩:∃n,us.length=n:=⟨_,rfl⟩;have b4:n<=1000000000:=by have:=Hl.out;omega
 have hh:=hA.row;have ho:=hA.own;rw[hn] at hh ho;have c0:=ac hh (j:=0) (u:=.slice A n c) rfl;have a0:Below w1.heap.size w1 ((w1.alloc (.cells #[.slice none 0 0,.string ⟨#[]⟩,.bool false] 135)).alloc (.cells #[Eb w1.heap.size] 138)):=((Ze _ _).alloc (Zb _) _).alloc (by simp) _;have a2:=Qa (ai ho a0 (Zb _));have a9:=Qa (av (w1.alloc (.cells #[.slice none 0 0,.string ⟨#[]⟩,.bool false] 135)) [Eb w1.heap.size] 138);have a4:=Qa (ah hh a0);have b0:=Qa (aL a2.out a4.out (by decide));have a3:=Qa ((Below.heap_alloc (w1.alloc (.cells #[.slice none 0 0,.string ⟨#[]⟩,.bool false] 135)) (.cells #[Eb w1.heap.size] 138) w1.heap.size (by simp)).trans (Zf w1 (.cells #[.slice none 0 0,.string ⟨#[]⟩,.bool false] 135)));have HA:=Qa hA;have b2:=Qa a1;have a5:=Qa a0;have HB:=Qa (Zc hB a1.size);have b1:=Qa hB;have Hn:=Qa hn;clear hA a1 a0 hh ho b3 hn H hB;go_wp2_with (at_builtin;refine j3 CZ a2.out (by have:=a9.out;rw[World.size_alloc] at this;exact this) (Zc HB.out a5.out.size) ?_;intro v' w5 p1 p2 p3;obtain⟨A5,q5,rfl,-,-,-⟩:=ag p1;have g5:=ay a4.out p2 b0.out;have f5:=al g5 0;have c5:=ac g5 (j:=0) (u:=.slice A n c) rfl;have HK:=Qa p1;have HG:=Qa p2;clear p1 p2 p3 g5);go_ret;obtain rfl:=Hn.out;obtain⟨r1,r2⟩:=HA.out.push (f:=⟨true, [], [],none⟩) HB.out a5.out (Zb _) (ak a3.out) HG.out HK.out (fun P w' e=>.table w1.heap.size none 0 [] [] ⟨#[]⟩ none HB.out (e.trans a3.out) ⟨rfl,.inl ⟨rfl,rfl⟩⟩ rfl (ch.nil _) (fun t e=>by cases e));exact⟨rfl,(rv.new b2.out b1.out).trans r1,_,_,_,_,_,r2⟩
end
theorem Dy (d:Nat)(a b:En)(W:World):(Op.equalIn (d+3) 45 (Io a) (Io b)).run Tryz.prog W =.ok (decide (a=b)) W:=by
 rw[show decide (a=b)= ((a.eAt.toList==b.eAt.toList)&& (a.eSch.toList==b.eSch.toList)&& (a.eKw.toList==b.eKw.toList)) by
  rw[eo,eo,eo,Bool.eq_iff_iff]
  cases a;cases b;simp[and_assoc]]
 obtain⟨a1,a2,a3⟩:=a;obtain⟨b1,b2,b3⟩:=b;rw[run_equalIn_agg W (d+2) 45 _ _ (by kernel_rfl) (by kernel_rfl)];have hf:((Tryz.prog.fieldsOf 45).toList.map fun f=>(decide (f.name = "_"),f.type,f.offset)) = [(false,9,0),(false,9,1),(false,9,2)]:=by kernel_rfl
 obtain⟨f1,f2,f3,h1,h2,h3,h4,h5,h6,h7,h8,h9,a0⟩:∃f1 f2 f3,(Tryz.prog.fieldsOf 45).toList = [f1,f2,f3]/\¬f1.name = "_" /\¬f2.name = "_" /\¬f3.name = "_" /\f1.type=9/\f2.type=9/\f3.type=9/\f1.offset=0/\f2.offset=1/\f3.offset=2:=by
  generalize (Tryz.prog.fieldsOf 45).toList=fs at hf
  cases fs with
  |nil=>simp at hf
  |cons f1 r=>cases r with
   |nil=>simp at hf
   |cons f2 r2=>cases r2 with
    |nil=>simp at hf
    |cons f3 r3=>cases r3 with
     |cons f4 r4=>simp at hf
     |nil=>
      simp only[List.map_cons,List.map_nil,List.cons.injEq,Prod.mk.injEq,decide_eq_false_iff_not,and_true] at hf;exact⟨f1,f2,f3,rfl,hf.1.1,hf.2.1.1,hf.2.2.1,hf.1.2.1,hf.2.1.2.1,hf.2.2.2.1,hf.1.2.2,hf.2.1.2.2,hf.2.2.2.2⟩
 have p1:∀ (a b c:Value) (w:World),(part 9 #[a,b,c] 0).run Tryz.prog w =.ok a w:=fun a b c w=>by kernel_rfl
 have p2:∀ (a b c:Value) (w:World),(part 9 #[a,b,c] 1).run Tryz.prog w =.ok b w:=fun a b c w=>by kernel_rfl
 have p3:∀ (a b c:Value) (w:World),(part 9 #[a,b,c] 2).run Tryz.prog w =.ok c w:=fun a b c w=>by kernel_rfl
 rw[h1];have hs:=fun s t=>run_equalIn_string (P:=Tryz.prog) W (d+1) 9 s t Tryz.underlying9
 have q1:=hs a1 b1;have q2:=hs a2 b2;have q3:=hs a3 b3;clear hs
 dsimp only
 generalize (a1.toList==b1.toList)=u at q1 ⊢;generalize (a2.toList==b2.toList)=v at q2 ⊢;generalize (a3.toList==b3.toList)=z at q3 ⊢
 cases u <;> cases v <;> cases z <;> simp[Op.eqFields,h2,h3,h4,h5,h6,h7,h8,h9,a0,p1,p2,p3,q1,q2,q3]
theorem zW (a b:En)(W:World):(binOp .eql 45 (Io a) (Io b)).run Tryz.prog W =.ok (.bool (decide (a=b))) W:=by
 simp only[binOp];simp[Op.equal,Op.maxDepth,Dy 9997 a b W]
theorem An (a b:En)(W:World):(binOp .neq 45 (Io a) (Io b)).run Tryz.prog W =.ok (.bool (!decide (a=b))) W:=by
 simp only[binOp];simp[Op.equal,Op.maxDepth,Dy 9997 a b W]
def CH:Option En->List En->List En
 |_, []=> []
 |p,x::t=>if p=some x then CH (some x) t else x::CH (some x) t
theorem D7 (t:List En):∀x:En,qk (x::t)=x::CH (some x) t:=by
 induction t with
 |nil=>intro x;rfl
 |cons y t ih0=>
  intro x;have ih:=ih0 y;rw[qk,CH,ih]
  by_cases e:x=y
  ·subst e;rw[if_pos rfl,if_pos rfl]
  ·rw[if_neg e,if_neg (fun h=>e (Zi h))]
theorem GE (s:List En):qk s=CH none s:=by
 cases s with
 |nil=>rfl
 |cons x t=>rw[D7];rfl
theorem AM (x y:En)(l:List En):∀p:Option En,CH p (l ++ [y] ++ [x])=CH p (l ++ [y])++if y=x then [] else [x]:=by
 induction l with
 |nil=>
  intro p
  by_cases e:y=x
  ·by_cases h:p=some y <;> simp[CH,e,h]
  ·by_cases h:p=some y <;> simp[CH,e,h]
 |cons z l ih=>
  intro p;simp only[List.cons_append,CH];rw[ih]
  split <;> rfl
def cu (s:List En)(n:Nat):List En:=CH none (s.take n)
theorem xc {s:List En}{x y:En}(hx:s[n+1]?=some x)(hy:s[n]?=some y):cu s (n+2)=cu s (n+1)++if y=x then [] else [x]:=by
 obtain⟨h1,rfl⟩:=List.getElem?_eq_some_iff.1 hx;obtain⟨h2,rfl⟩:=List.getElem?_eq_some_iff.1 hy;unfold cu;rw[List.take_succ_eq_append_getElem h1,List.take_succ_eq_append_getElem h2,AM]
theorem Ik (s:List En)(h:1<=s.length):cu s 1=s.take 1:=by
 cases s with
 |nil=>simp at h
 |cons x t=>rfl
theorem AT (s:List En):cu s s.length=qk s:=by unfold cu;rw[List.take_length,GE]
theorem zj {t:TypeId}(hg:w.heap[g]?=some (.cells old t (0,0)))(hi:(Tryz.prog.info? ty).map (·.size)=some cells.size)(a0:p+cells.size<=old.size)(h1:∀v∈cells.toList,v.oneCell'=true) :
  (storeVar ty ⟨g,p,none⟩ (.agg cells)).run Tryz.prog w =.ok () (w.setRow g (old.toList.take p++cells.toList++old.toList.drop (p+cells.size)).toArray):=by
 have:=run_storeCells_at (P:=Tryz.prog) g p t cells.toList 0 old w hg (by simpa using a0) h1;rw[Nat.add_zero] at this
 cases hq:Tryz.prog.info? ty with
 |none=>simp[hq] at hi
 |some i=>
  have hs:cells.size=i.size:=by simp[hq] at hi;omega
  simp[storeVar,sizeOf,typeInfo,hq,Value.cells,hs] at this ⊢;exact this
theorem kb {ops:Array Oper}{rest:List Oper}{o:Oper}{a:Act}{Q:Exit->Act->World->Prop}{t:TypeId}{x y:Operand}(hg:w.heap[g]?=some (.cells old t (0,0)))
  (h:wpList Tryz.prog ops Q rest a (w.setRow g (old.toList.take p++cells.toList++old.toList.drop (p+cells.size)).toArray)) (a0:p+cells.size<=old.size)
  (ho:o.op =.store ty x y:=by exact rfl) (hx:a.eval x =.pointer (some ⟨g,p,none⟩):=by exact rfl) (hy:a.eval y =.agg cells:=by exact rfl) (a1:o.guard=none:=by exact rfl) (hd:o.dst=none:=by exact rfl)
  (hi:(Tryz.prog.info? ty).map (·.size)=some cells.size:=by kernel_rfl) (h1:∀v∈cells.toList,v.oneCell'=true:=by simp[Value.oneCell']):wpList Tryz.prog ops Q (o::rest) a w:=by
 have a2:=zj (w:=w) (ty:=ty) hg hi a0 h1;refine wpList_plain a1 fun _ hK=>?_
 unfold Oper.wp execOp;simp only[ho,hx,hy,Instr.storeAt,Instr.sureAddr,Sem.run_bind,Sem.run_pure,Result.andThen_ok,a2];refine hK _ _ ?_;rw[hd];exact h
theorem bG.full {l:List En}(h:bG w base (.slice (some ⟨g,0,none⟩) n c) l):n=l.length/\base<=g/\l.length<=c/\c<=maxLen/\∃cur,w.heap[g]?=some (.cells cur 45 (0,0))/\cur.size=c*3/\cur.toList.take (l.length*3)=bJ l:=by
 obtain⟨_,⟨e,_⟩|⟨g',cap,cur,e,h1,h2,h3,h4,h5,h6⟩⟩:=h
 ·cases e
 ·injection e with e1 e2 e3
  injection e1 with e1
  injection e1 with e1 _ _
  subst e1 e2 e3;exact⟨rfl,h1,h3,h4,cur,h2,h5,h6⟩
theorem bG.of {l:List En}(h1:base<=g)(h2:l.length<=c)(h3:c<=maxLen)(h4:w.heap[g]?=some (.cells cur 45 (0,0)))(h5:cur.size=c*3)(h6:cur.toList.take (l.length*3)=bJ l):bG w base (.slice (some ⟨g,0,none⟩) l.length c) l:=
 ⟨fE l,.inr ⟨g,c,cur,rfl,h1,h4,h2,h3,h5,h6⟩⟩
theorem bG.rd {l:List En}(h:bG w base (.slice (some ⟨g,0,none⟩) n c) l){p:En}(hp:l[i]?=some p):w.cell? ⟨g,i*3,none⟩=some (.string p.eAt)/\w.cell? ⟨g,i*3+1,none⟩=some (.string p.eSch)/\w.cell? ⟨g,i*3+2,none⟩=some (.string p.eKw):=by
 obtain⟨rfl,-⟩:=h.full;have hlt:=(List.getElem?_eq_some_iff.1 hp).1;obtain⟨f1,f2,f3⟩:=it l i p hp;refine⟨?_,?_,?_⟩
 ·rw[aH h rfl (i*3) (by omega),f1]
 ·rw[aH h rfl (i*3+1) (by omega),f2]
 ·rw[aH h rfl (i*3+2) (by omega),f3]
theorem qM (l m:List En):bJ (l++m)=bJ l++bJ m:=by simp[bJ]
theorem rL (l:List En)(i:Nat)(h:i<=l.length):bJ l=bJ (l.take i)++bJ (l.drop i)/\(bJ (l.take i)).length=i*3:=by
 refine⟨by rw[<-qM,List.take_append_drop],?_⟩;rw[fE,List.length_take];omega
theorem j8 (l:List En)(i:Nat):bJ (l.take i)= (bJ l).take (i*3):=by
 by_cases h:i<=l.length
 ·obtain⟨e,hl⟩:=rL l i h;have:=congrArg (List.take (i*3)) e;rw[this,List.take_append_of_le_length (by omega)];exact(List.take_of_length_le (by omega)).symm
 ·rw[List.take_of_length_le (by omega)];exact(List.take_of_length_le (by rw[fE];omega)).symm
theorem yd (l:List En)(i:Nat)(h:i<=l.length):bJ (l.drop i)= (bJ l).drop (i*3):=by
 obtain⟨e,hl⟩:=rL l i h;have:=congrArg (List.drop (i*3)) e;rw[this,<-hl,List.drop_left]
theorem bG.cut {l:List En}(h:bG w base (.slice (some ⟨g,0,none⟩) n c) l)(i:Nat)(hi:i<=l.length):bG w base (.slice (some ⟨g,0,none⟩) i c) (l.take i):=by
 obtain⟨rfl,h1,h2,h3,cur,h4,h5,h6⟩:=h.full;have hl:(l.take i).length=i:=by simp;omega
 have:=bG.of (w:=w) (base:=base) (g:=g) (c:=c) (l:=l.take i) (cur:=cur) h1 (by omega) h3 h4 h5 (by
  rw[hl,j8,<-h6,List.take_take]
  congr 1
  omega)
 rw[hl] at this;exact this
theorem bG.put {l:List En}(h:bG w base (.slice (some ⟨g,0,none⟩) n c) l)(hi:i<l.length)(x:En):∃cur,w.heap[g]?=some (.cells cur 45 (0,0))/\i*3+3<=cur.size/\bG (w.setRow g (cur.toList.take (i*3)++dW x++cur.toList.drop (i*3+3)).toArray) base (.slice (some ⟨g,0,none⟩) n c) (l.set i x):=by
 obtain⟨rfl,h1,h2,h3,cur,h4,h5,h6⟩:=h.full;refine⟨cur,h4,by omega,?_⟩;have a1:cur.toList.length=c*3:=by simpa using h5
 have a0:bJ (l.set i x)=bJ (l.take i)++dW x++bJ (l.drop (i+1)):=by
  rw[List.set_eq_take_append_cons_drop,if_pos hi,qM];simp[bJ]
 have hl:(l.set i x).length=l.length:=by simp
 have:=bG.of (w:=w.setRow g (cur.toList.take (i*3)++dW x++cur.toList.drop (i*3+3)).toArray) (base:=base) (g:=g) (c:=c) (l:=l.set i x) h1 (by omega) h3 (setRow_heap w g cur _ _ _ h4) (by simp[dW];omega) (by
  rw[a0,hl];have e1:(bJ (l.take i)).length=i*3:=by rw[fE,List.length_take];omega
  have e2:cur.toList.take (i*3)=bJ (l.take i):=by rw[j8,<-h6,List.take_take];congr 1;omega
  have e3:bJ (l.drop (i+1))= (cur.toList.take (l.length*3)).drop (i*3+3):=by
   rw[h6,show i*3+3= (i+1)*3 by omega,yd l (i+1) (by omega)]
  have e4:(bJ (l.take i)++dW x).length=i*3+3:=by rw[List.length_append,e1];rfl
  rw[e2,e3]
  show((bJ (l.take i)++dW x++cur.toList.drop (i*3+3)).take (l.length*3))=_
  rw[List.take_append,e4,List.drop_take,List.take_of_length_le (l:=bJ (l.take i)++dW x) (by omega)])
 rw[hl] at this;exact this
theorem EF:∀w,(zeroValue 45).run Tryz.prog w =.ok (.agg #[.string ⟨#[]⟩,.string ⟨#[]⟩,.string ⟨#[]⟩]) w:=fun w=>Tryz.zeroValue45 w
theorem zX {l:List En}(h:bG w base (.slice (some ⟨g,0,none⟩) n c) l)(hi:i<l.length):∃w',(∀ty,(Builtin.clear_ #[22] ty #[.slice (some ⟨g,i*3,none⟩) (n - i) (c - i)]).run Tryz.prog w =.ok (.tuple #[]) w')/\bG w' base (.slice (some ⟨g,0,none⟩) i c) (l.take i)/\w.grownBy w' (some g):=by
 obtain⟨rfl,h1,h2,h3,cur,h4,h5,h6⟩:=h.full;obtain⟨vs,a0⟩:∃vs,(Builtin.zeroCells #[.string ⟨#[]⟩,.string ⟨#[]⟩,.string ⟨#[]⟩] (l.length - i)).toList=vs:=⟨_,rfl⟩;have a3:vs.length= (l.length - i)*3:=by rw[<-a0];simp[Builtin.zeroCells]
 have a2:∀v∈vs,v.oneCell'=true:=by
  intro v hv;rw[<-a0] at hv;simp only[Builtin.zeroCells,Array.toList_map,List.mem_map] at hv;obtain⟨k,-,rfl⟩:=hv;have:k % (#[Value.string ⟨#[]⟩,.string ⟨#[]⟩,.string ⟨#[]⟩]:Array Value).size<3:=Nat.mod_lt _ (by decide);generalize k % (#[Value.string ⟨#[]⟩,.string ⟨#[]⟩,.string ⟨#[]⟩]:Array Value).size=m at *;rcases(by omega:m=0\/m=1\/m=2) with rfl|rfl|rfl <;> rfl
 have a1:=run_storeCells_at (P:=Tryz.prog) g (i*3) 45 vs 0 cur w h4 (by omega) a2;rw[Nat.add_zero] at a1;refine⟨w.setRow g (cur.toList.take (i*3)++vs++cur.toList.drop (i*3+vs.length)).toArray,fun ty=>?_,?_,aD w g _⟩
 rotate_left
 ·have hl:(l.take i).length=i:=by simp;omega
  have:=bG.of (w:=w.setRow g (cur.toList.take (i*3)++vs++cur.toList.drop (i*3+vs.length)).toArray) (base:=base) (g:=g) (c:=c) (l:=l.take i) h1 (by omega) h3 (setRow_heap w g cur _ _ _ h4) (by
   have:cur.toList.length=c*3:=by simpa using h5
   simp;omega) (by
   rw[hl,j8,<-h6,List.take_take];have:cur.toList.length=c*3:=by simpa using h5
   rw[List.toList_toArray,List.append_assoc,List.take_append_of_le_length (by simp;omega),List.take_take]
   congr 1
   omega)
  rw[hl] at this;exact this
 ·have hz:=EF;have hu:=run_underlying (P:=Tryz.prog) Tryz.underlying22;obtain⟨m,hm⟩:∃m,l.length - i=m+1:=⟨l.length - i - 1,by omega⟩;rw[hm] at a0 ⊢;simp[Builtin.clear_,hu,hz,Value.cells,a0,a1]
theorem nW (hg:w.grownBy w' (some g))(h:base<=g)(hlt:g<w.heap.size):Below base w w':=
 ⟨hg.os,hg.tape,hg.output,hg.size,fun k hk=>hg.block k (by omega) (fun e=>by injection e with e;omega)⟩
theorem bG.drawn {l:List En}(h:bG w base v l)(q:Nat):bG (w.drewN q) base v l:=h
def ID (w:World)(base:Nat)(s:List En)(e:Ending)(w':World):Prop:= ∃v,e =.returned v/\bG w' base v (qk s)/\Below base w w'
theorem rM {s:List En}(h:bG w base (.slice (some ⟨g,0,none⟩) n c) s)(hl:s.length<=1000000):Calls Tryz.prog 47 #[.slice (some ⟨g,0,none⟩) n c] w (ID w base s):=by
 obtain⟨rfl,d0,hc,c6,cur0,a1,-⟩:=h.full;have a5:=ak a1;have H:=Qa h;have c4:=Qa d0;have c8:=Qa a5;have f3:=Qa c6;clear h d0 a1 a5 c6
 by_cases h2:s.length<2
 ·have e3:(s.length:Int)<2:=by omega
  have Hs:=Qa (show qk s=s by
   match s,h2 with
   | [],_=>rfl
   | [x],_=>rfl)
  go_enter Tryz.func47,Tryz.ntmps47;go_wp2_with fail;go_ret;exact⟨_,rfl,by rw[Hs.out];exact H.out,Ze _ _⟩
 ·have e3:¬ (s.length:Int)<2:=by omega
  have Hc1:=Qa (Ik s (by omega));have H2:=Qa h2;clear h2;go_enter Tryz.func47,Tryz.ntmps47;go_wp2_with fail
  go_loopg [3] s.length (fun m s3 wr=> ∃k q:Nat,m+k=s.length+1/\1<=k/\k<=s.length/\s3 =.int .i64 k/\Hid (cu s k=s.take k)/\wr=w.drewN q)
  case atStart=>exact⟨1,0,rfl,Zb _,by have:=H2.out;omega,rfl,Hc1,rfl⟩
  case round=>
   obtain⟨k,q,hm,e4,hkl,rfl,a9,rfl⟩:=hrel;have Hm:=Qa (And.intro hm hkl);clear hm hkl Hc1
   by_cases hlt:k<s.length
   ·have a0:(k:Int)<s.length:=by omega
    obtain⟨x,hx⟩:∃x,s[k]?=some x:=⟨_,Zd hlt⟩;obtain⟨y,hy⟩:∃y,s[k - 1]?=some y:=⟨_,Zd (by omega)⟩;obtain⟨c1,c2,c3⟩:=H.out.rd hx;obtain⟨d1,d2,d3⟩:=H.out.rd hy;have a2:=xc (s:=s) (n:=k - 1) (x:=x) (y:=y) (by rw[show k - 1+1=k by omega];exact hx) hy;rw[show k - 1+2=k+1 by omega,show k - 1+1=k by omega] at a2;have a3:=Qa a2;have Hx:=Qa hx;have b4:(1:Int)<=k:=by omega
    have f9:=Qa e4;clear a2 hx hy
    by_cases hdup:x=y
    ·have heq:∀W,(binOp .eql 45 (.agg #[.string x.eAt,.string x.eSch,.string x.eKw]) (.agg #[.string y.eAt,.string y.eSch,.string y.eKw])).run Tryz.prog W =.ok (.bool true) W:=fun W=>by rw[show(true:Bool)=decide (x=y) from(decide_eq_true hdup).symm];exact zW x y W
     have Hcu2:=Qa (show cu s (k+1)=s.take k by rw[a3.out,if_pos hdup.symm,List.append_nil,a9.out]);clear hdup;go_wp2_with fail;go_quiet (fail);go_wp2_with fail;clear heq c1 c2 c3 d1 d2 d3;have Hb0:=Qa (show Below base w (w.drewN (q+nq)) from ap (Ze _ _) _);have HE0:=Qa (H.out.drawn (q+nq));have Hcu1:=Qa (And.intro a9.out Hcu2.out);clear a3 Hx a9 Hcu2 a0 b4;generalize w.drewN (q+nq)=w1 at *
     go_loopg [3,5] (s.length - k) (fun m s3 s5 wr=> ∃ (i k2:Nat) (M:List En),m+ (k+k2)=s.length+1/\1<=k2/\k+k2<=s.length/\s3 =.int .i64 i/\s5 =.int .i64 k2/\Hid (bG wr base (.slice (some ⟨g,0,none⟩) s.length c) M/\M.length=s.length/\M.take i=cu s (k+k2)/\i<k+k2/\(∀j,k+k2<=j+1->M[j]?=s[j]?)/\Below base w wr))
     case atStart=>exact⟨k,1,s,by omega,Zb _,by omega,rfl,rfl,Qa ⟨HE0.out,rfl,Hcu1.out.2.symm,by omega,fun _ _=>rfl,Hb0.out⟩⟩
     case round=>
      obtain⟨i,k2,M,hm,f4,b5,rfl,rfl,HI⟩:=hrel;clear HE0 Hb0;have Hm2:=Qa (And.intro hm b5);obtain⟨hE,c5,d6,c9,d4,d5⟩:=HI.out;have b8:i<M.length:=by omega
      have f7:(i:Int)<s.length:=by omega
      have f1:(i:Int)<=s.length:=by omega
      have f5:i<=s.length:=by omega
      have f6:(i:Int)<=c:=by omega
      have f8:i<=c:=by omega
      have HE:=Qa hE;have HR:=Qa (And.intro c5 (And.intro d6 (And.intro c9 (And.intro d4 d5))));have e5:=Qa (And.intro c9 b8);clear HI hE c5 d6 d4 d5
      by_cases hlt2:k+k2<s.length
      ·obtain⟨u,hu⟩:∃u,s[k+k2]?=some u:=⟨_,Zd hlt2⟩;obtain⟨v,hv⟩:∃v,s[k+k2 - 1]?=some v:=⟨_,Zd (by omega)⟩;obtain⟨c1,c2,c3⟩:=HE.out.rd (show M[k+k2]?=some u by rw[HR.out.2.2.2.1 _ (by omega)];exact hu);obtain⟨d1,d2,d3⟩:=HE.out.rd (show M[k+k2 - 1]?=some v by rw[HR.out.2.2.2.1 _ (by omega)];exact hv);rw[show(k+k2)*3=k*3+k2*3 by omega] at c1 c2 c3;rw[show(k+k2 - 1)*3=k*3+ (k2 - 1)*3 by omega] at d1 d2 d3;have a2:=xc (s:=s) (n:=k+k2 - 1) (x:=u) (y:=v) (by rw[show k+k2 - 1+1=k+k2 by omega];exact hu) hv;rw[show k+k2 - 1+2=k+ (k2+1) by omega,show k+k2 - 1+1=k+k2 by omega] at a2;have a3:=Qa a2;have a0:(k2:Int)< ((s.length - k:Nat):Int):=by omega
       have f0:(1:Int)<=k2:=by omega
       have g0:=al (HE.out.full.2.2.2.2.choose_spec.1);clear a2 hu hv hm b5
       by_cases hdup:u=v
       ·have heq:∀W,(binOp .neq 45 (.agg #[.string u.eAt,.string u.eSch,.string u.eKw]) (.agg #[.string v.eAt,.string v.eSch,.string v.eKw])).run Tryz.prog W =.ok (.bool false) W:=fun W=>by rw[show(false:Bool)= !decide (u=v) by rw[decide_eq_true hdup];rfl];exact An u v W
        have Hcu2:=Qa (show M.take i=cu s (k+ (k2+1)) by rw[a3.out,if_pos hdup.symm,List.append_nil];exact HR.out.2.1);clear hdup;go_wp2_with fail;go_quiet (fail);go_wp2_with fail;go_roundg (s.length - (k+k2))
        case measure=>have:=Hm2.out;omega
        case rel=>
         have h5:=HR.out;exact⟨i,k2+1,M,by omega,by omega,by omega,rfl,by go_num,Qa ⟨HE.out.drawn _,h5.1,Hcu2.out,by omega,fun j hj=>h5.2.2.2.1 j (by omega),ap h5.2.2.2.2 _⟩⟩
       ·have heq:∀W,(binOp .neq 45 (.agg #[.string u.eAt,.string u.eSch,.string u.eKw]) (.agg #[.string v.eAt,.string v.eSch,.string v.eKw])).run Tryz.prog W =.ok (.bool true) W:=fun W=>by rw[show(true:Bool)= !decide (u=v) by rw[decide_eq_false hdup];rfl];exact An u v W
        have Hcu2:=Qa (show M.take i ++ [u]=cu s (k+ (k2+1)) by rw[a3.out,if_neg (fun e=>hdup e.symm),<-HR.out.2.1]);clear hdup;go_wp2_with fail;go_quiet (fail);obtain⟨cur,b2,e6,a4⟩:=(HE.out.drawn nq).put b8 u;have b0:=Qa a4;have b3:=Qa b2;clear a4;go_wp2_with (refine kb b3.out ?_ e6);have d9:=Qa (aD (wr.drewN nq) g (cur.toList.take (i*3)++dW u++cur.toList.drop (i*3+3)).toArray);go_roundg (s.length - (k+k2))
        case measure=>have:=Hm2.out;omega
        case rel=>
         have h5:=HR.out;have e0:=h5.2.2.2.2.size;have ew:∀A B:List Value,A++Value.string u.eAt::Value.string u.eSch::Value.string u.eKw::B=A++dW u++B:=fun A B=>by simp[dW]
         simp only[ew];refine⟨i+1,k2+1,M.set i u,by omega,by omega,by omega,by go_num,by go_num,Qa ⟨b0.out,by simpa using h5.1,?_,by omega,fun j hj=>?_,(ap h5.2.2.2.2 nq).trans (nW d9.out c4.out (by have:=c8.out;exact Nat.lt_of_lt_of_le this e0))⟩⟩
         ·rw[<-Hcu2.out,List.take_succ_eq_append_getElem (by simpa using e5.out.2),List.getElem_set_self,List.take_set_of_le (Zb _)]
         ·rw[List.getElem?_set_ne (by omega)];exact h5.2.2.2.1 j (by omega)
      ·have a0:¬ (k2:Int)< ((s.length - k:Nat):Int):=by omega
       have c0:k+k2=s.length:=by omega
       obtain⟨wz,f2,b9,c7⟩:=zX HE.out b8;have Hz:=Qa (And.intro b9 (HR.out.2.2.2.2.trans ((nW c7 c4.out (by have:=HR.out.2.2.2.2.size;have:=c8.out;omega)).mono (Zb _))));have b1:=Qa (show M.take i=qk s by rw[HR.out.2.1,c0,AT]);clear b9 c7 hm b5 c0;go_wp2_with fail;go_ret;exact⟨_,rfl,by rw[<-b1.out];exact Hz.out.1,Hz.out.2⟩
    ·have heq:∀W,(binOp .eql 45 (.agg #[.string x.eAt,.string x.eSch,.string x.eKw]) (.agg #[.string y.eAt,.string y.eSch,.string y.eKw])).run Tryz.prog W =.ok (.bool false) W:=fun W=>by rw[show(false:Bool)=decide (x=y) from(decide_eq_false hdup).symm];exact zW x y W
     have Hcu2:=Qa (show cu s (k+1)=s.take (k+1) by
      obtain⟨h1,h3⟩:=List.getElem?_eq_some_iff.1 Hx.out;rw[a3.out,if_neg (fun e=>hdup e.symm),a9.out,List.take_succ_eq_append_getElem h1,h3])
     clear hdup;go_wp2_with fail;go_quiet (fail);go_wp2_with fail;go_roundg (s.length - k)
     case measure=>have:=Hm.out;omega
     case rel=>exact⟨k+1,_,by omega,by omega,by omega,by go_num,Hcu2,rfl⟩
   ·have a0:¬ (k:Int)<s.length:=by omega
    have Hs:=Qa (show qk s=s by
     have e1:=AT s;have e2:=a9.out;rw[List.take_of_length_le (by omega)] at e2;rw[<-e1];have hle:s.length=k:=by have:=Hm.out;omega
     rw[hle];exact e2)
    go_wp2_with fail;go_ret;exact⟨_,rfl,by rw[Hs.out];exact H.out.drawn _,ap (Ze _ _) _⟩
