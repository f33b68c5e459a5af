import Derived.Test.YtafobflehfecpaaGreatDoorGZ15be
set_option linter.unusedVariables false
set_option linter.unusedSimpArgs false
set_option maxHeartbeats 64000000
set_option maxRecDepth 100000
namespace Go.Proofs.YtafobflehfecpaaGreatDoor
open Go.RowKit Go.Shelf
variable {cells cur old:Array Value}{base c g i n:Nat}{A:Option Addr}{e ty:TypeId}{w w':World}
theorem Ah (x:Value)(W:World):(Instr.typeAssert (.iface 149 x) 154 149 true).run Tryz.prog W =.ok (.tuple #[x,.bool true]) W:=by kernel_rfl
section
variable {Q:Nat->Array Value->Prop}{B g:Nat}{w:World}{bs:List Nat}{fs:List Fr}{ms:List (ByteArray×JV)}{s:ByteArray}{a aU aE:Addr}
def FF (B:Nat)(Q:Nat->Array Value->Prop)(g:Nat)(fs:List Fr)(ms:List (ByteArray×JV))(s:ByteArray)(er:Value)(w:World)(e:Ending)(w':World):Prop:=(s∈ms.map Prod.fst/\e =.returned er/\Below w.heap.size w w')\/(s∉ms.map Prod.fst/\EU B Q g (⟨true, [],ms,some s⟩::fs) none w e w')
theorem xZ (h:kf B Q w g (⟨true, [],ms,none⟩::fs) none bs)(hs:bf s)(hG:cf w aU aE)(b5:s.size<=1000000000)(hT:w.cell? ⟨8,0,none⟩=some (bt a))(hB:B<=w.heap.size)(hl:fs.length<1000000000)(c5:ms.length<=1000000000) :
  Calls Tryz.prog 42 #[.pointer (some ⟨g,0,none⟩),.string s] w (FF B Q g fs ms s (bt a) w):=by
 obtain⟨A,c,dv,us,hA⟩:=h;obtain⟨u,m,us,rfl,hw,-⟩:=hA.innermost;have hin:=Qa (hA.in_top hl);have HA:=Qa hA;have HB:=Qa hB;have HQ:=Qa (fun w1 (hw:Below w.heap.size w w1)=>nI hs (hG.below hw) b5);have HT:=Qa hT;clear hs hG b5 hA hT hB
 cases hw with
 |table gt At ct L ms s0 nm h1 h2 h3 h4 h5 h6=>
 have H1:=Qa h1;have H2:=Qa h2;have H3:=Qa h3;have H4:=Qa h4;have H5:=Qa h5;have d2:L.length<=1000000000:=by have:=congrArg List.length h4;simp at this;omega
 have d3:=Ah;clear h1 h2 h3 h4 h5 h6 c5;go_enter Tryz.func42,Tryz.ntmps42;go_wp2_with fail;refine Za hin ?_;rintro e w1 ⟨rfl,k,rfl⟩;obtain⟨wk,a1⟩:∃wk,w.drewN k=wk:=⟨_,rfl⟩;have a2:Below w.heap.size w wk:=by rw[<-a1];exact ap (Ze _ _) k
 have c2:=aa (ah H2.out a2) (j:=2) (u:=.bool false) rfl;have a5:=Qa a2;rw[a1];clear a1 a2;have b9:=Qa (HQ.out wk a5.out);go_wp2_with fail;refine Za b9 ?_;rintro e w2 ⟨v,rfl,b3,b1⟩;have b0:=Qa (a5.out.trans (b1.mono a5.out.size));obtain⟨Aq,qq,rfl,-⟩:=af b3;have c0:=aa (ah H2.out b0.out) (j:=0) (u:=.slice At L.length ct) rfl;clear b3 b1 c2;go_wp2_with fail
 go_loopg [10,39] L.length (fun k _ s39 wr=> ∃i:Nat,k+i=L.length/\s39 =.int .i64 i/\Below w2.heap.size w2 wr/\∀ (j:Nat) (p:ByteArray×Value),j<i->L[j]?=some p->p.1≠s)
 case atStart=>exact⟨0,rfl,rfl,Ze _ _,fun j p h=>by omega⟩
 case round=>
  obtain⟨i,hk,rfl,hb,b4⟩:=hrel;have Hb:=Qa (b0.out.trans (hb.mono b0.out.size));have c6:=Qa hb;have b2:=Qa b4;have Hk:=Qa hk;clear b4 hb hk c0
  by_cases hlt:i<L.length
  ·obtain⟨p,hp⟩:∃p,L[i]?=some p:=⟨_,Zd hlt⟩;obtain⟨gm,rfl,q0,q1⟩:=(sR.rm H3.out).2.below Hb.out i p hp;obtain⟨tv,xv,hx⟩:∃t x,p.2 =.iface t x:=by
    have c7:=H5.out.1;obtain⟨b,hb⟩:∃b,(ms.map Prod.snd)[i]?=some b:=⟨_,Zd (by rw[<-c7];simpa using hlt)⟩;exact(H5.out.2 i p.2 b (by rw[List.getElem?_map,hp];rfl) hb).iface
   rw[hx] at q1;have a3:(i:Int)<L.length:=by omega
   have Hp:=Qa hp
   by_cases he:p.1=s
   ·have c1:(p.1.toList==s.toList)=true:=by rw[he];simp
    have a9:=ac wr (.cells #[.string p.1,.iface tv xv] 88);have cT:=Zg (Hb.out.trans (a9.mono Hb.out.size)) HT.out;have c8:=Qa (Hb.out.trans (a9.mono Hb.out.size));have He:=Qa he;clear hp hx he a9;go_wp2_with fail;go_ret;exact .inl ⟨by rw[<-H4.out];exact List.mem_map.2 ⟨p,Zk Hp.out,He.out⟩,rfl,c8.out⟩
   ·have c1:(p.1.toList==s.toList)=false:=by rw[dK];simpa using he
    have He:=Qa he;clear hp hx he;go_wp2_with fail;go_roundg (L.length - (i+1))
    case measure=>have:=Hk.out;omega
    case rel=>
     refine⟨i+1,by omega,by go_num,ak c6.out (ac _ _),fun j q hj hq=>?_⟩
     by_cases e:j=i
     ·subst e;rw[Hp.out] at hq;rw[<-Zi hq];exact He.out
     ·exact b2.out j q (by omega) hq
  ·obtain rfl:i=L.length:=by have:=Hk.out;omega
   have a3:¬ (L.length:Int)<L.length:=by omega
   have hr:=ah H2.out Hb.out;have k1:=aa hr (j:=1) (u:=.string s0) rfl;have f1:=aj hr 1;have a0:=ar hr 1 (.string s);have k2:=aa a0 (j:=2) (u:=.bool false) rfl;have f2:=aj a0 2;have Hr:=Qa a0;have d1:=Qa hlt;clear hr a0 hlt;go_wp2_with fail;go_ret;have c9:=HA.out.below Hb.out;have hc:aM (fun k=>k=gt) wr ((wr.setCell ⟨gt,1,none⟩ (.string s)).setCell ⟨gt,2,none⟩ (.bool true)):=(aM.set gt 1 _).trans (aM.set gt 2 _) fun i hi=>.inl hi
   have b8:sR wr B (.slice At L.length ct) L:=ai H3.out Hb.out (Zb _);have hne:=aD H3.out H2.out (by decide);have c3:s∉ms.map Prod.fst:=fun hm=>by
    rw[<-H4.out] at hm;obtain⟨p,hp,d0⟩:=List.mem_map.1 hm;obtain⟨j,hj,rfl⟩:=List.getElem_of_mem hp;exact b2.out j _ hj (Zd hj) d0
   obtain⟨bs',hs⟩:=c9.swap (m':=(gt,.slice At L.length ct)) (f':=⟨true, [],ms,some s⟩) hc (fun k hk=>by subst hk;simp[cq]) (fun k hk=>.inl hk) (by
     refine List.nodup_cons.2 ⟨fun hk=>hne (by simpa using hk),?_⟩
     cases (Value.slice At L.length ct).ownBlock <;> simp) (fun bs2 hm c4 a4=>.table gt At ct L ms s (some s) H1.out (ar Hr.out 2 _) (a8 b8 fun b hb=>hc.block b (ag (al b8 hb).2.choose_spec) fun e=>hne (by rw[hb,e])) H4.out ((H5.out.mono fun _ _ h=>h.later Hb.out).mono fun _ _ h=>h.move hm.mv a4 c4) (fun t e=>Zi e))
   exact .inr ⟨c3,rfl,(rJ.new Hb.out HB.out).trans (.chg hc (Zc HB.out Hb.out.size) fun i e=>by subst e;exact⟨H1.out,_,_,_,ah H2.out Hb.out,.inl (.inr (.inr rfl))⟩),bs',_,_,_,_,hs⟩
end
section
variable {Q:Nat->Array Value->Prop}{B g:Nat}{w:World}{bs:List Nat}{frs:List Fr}{a aU aE:Addr}{v:Value}{j j0:JV}{P:Nat->Prop}
theorem zu (h:kf B Q w g frs none bs)(ht:vC frs none=true)(hv:VW (Pb B bs) w v j)(hP:dE w)(hG:cf w aU aE)(tx:Tx j)(sz:Sz j)(hx:(JV.txt j).length<=140737488355328)(hB:B<=w.heap.size)(hl:frs.length<=1000000000)(hi:∀f∈frs,CG f) :
  Calls Tryz.prog 43 #[.pointer (some ⟨g,0,none⟩),v] w fun e w'=>EU B Q g (bu frs j).frs (bu frs j).done w e w':=by
 have H1:=Qa (jk hv hP hG tx sz hx);have H2:=Qa (fun w1 (hw:Below w.heap.size w w1)=>iB (h.below hw) hl);have H3:=Qa (fun w1 (hw:Below w.heap.size w w1)=>fM (h.below hw) ht (hv.later hw) (Zc hB hw.size) hl hi);rw[ht] at H2;have HB:=Qa hB;generalize JV.txt j=tl at *;obtain⟨t,x,rfl⟩:=hv.iface;clear h ht hv hP hG tx sz hx hB hl hi;go_enter Tryz.func43,Tryz.ntmps43;go_wp2_with fail;refine Za H1 ?_;rintro e w1 ⟨u,rfl,ho,a0⟩;obtain⟨A,q,rfl,-⟩:=af ho;have a4:=Qa a0;have b0:=Qa (H2.out w1 a0);clear ho a0;go_wp2_with fail;refine Za b0 ?_;rintro e w2 ⟨rfl,a2⟩;have a3:=Qa (a4.out.trans (a2.mono a4.out.size));have a9:=Qa (H3.out w2 a3.out);clear a2;go_wp2_with fail;refine Za a9 ?_;rintro e w3 ⟨rfl,a1,bs',hs⟩;have a5:=Qa a1;have Hs:=Qa hs;clear a1 hs;go_wp2_with fail;go_ret;exact⟨rfl,(rJ.new a3.out HB.out).trans a5.out,bs',Hs.out⟩
theorem rU (h:kf B Q w g [] (some j) bs)(hP:dE w)(hG:cf w aU aE)(tx:Tx j)(sz:Sz j)(hx:(JV.txt j).length<=140737488355328):Calls Tryz.prog 45 #[.pointer (some ⟨g,0,none⟩)] w (yD (JV.txt j) w):=by
 obtain⟨A,c,dv,us,h⟩:=h;obtain⟨rfl,rfl⟩:=h.empty;have hr:=h.row;have hd:VW (Pb B []) w dv j:=h.done;have H1:=Qa (jk hd hP hG tx sz hx);obtain⟨t,x,rfl⟩:=hd.iface;have c0:=aa hr (j:=0) (u:=.slice A 0 c) rfl;have c1:=aa hr (j:=1) (u:=.iface t x) rfl;generalize JV.txt j=tl at *;clear h hr hd hP hG tx sz hx;go_enter Tryz.func45,Tryz.ntmps45;go_wp2_with fail;refine Za H1 ?_;rintro e w1 ⟨u,rfl,ho,a0⟩;obtain⟨A2,q,rfl,-⟩:=af ho;have a1:=Qa a0;have Ho:=Qa ho;clear ho a0;go_wp2_with fail;go_ret2;exact⟨_,rfl,Ho.out,a1.out⟩
end
section
variable {Q:Nat->Array Value->Prop}{B g:Nat}{w:World}{bs:List Nat}{fs:List Fr}{its:List JV}{ms:List (ByteArray×JV)}
theorem bF.freshW {k:Nat}{xs:List Value}(h:bF (w.heap.size<= ·) w' e k A n c xs)(hB:B<=w.heap.size)(a0:∀g∈bs,g<w.heap.size):bF (Pb B bs) w' e k A n c xs:=
 h.stay fun g o hp hg _ _=>⟨⟨Zc hB hp,fun hb=>by have:=a0 g hb;omega⟩,hg⟩
theorem uq (h:kf B Q w g (⟨false,its, [],none⟩::fs) none bs)(ht:vC fs none=true)(hB:B<=w.heap.size)(hl:fs.length<1000000000)(hi:∀f∈fs,CG f)(hn:its.length<=1000000000) :
  Calls Tryz.prog 44 #[.pointer (some ⟨g,0,none⟩)] w fun e w'=>EU B Q g (bu fs (cD its)).frs (bu fs (cD its)).done w e w':=by
 obtain⟨A,c,dv,us,hA⟩:=h;obtain⟨u,m,us,rfl,hw,d1⟩:=hA.innermost;have hin:=Qa (hA.in_top hl);have HA:=Qa hA;have HB:=Qa hB;have hlt:=hA.lt
 cases hw with
 |row gt At ct xs its h1 h2 h3 h4=>
 have c9:xs.length=its.length:=h4.1;have HE:=Qa (fun k=>tK (w:=w.drewN k) (K:=fun gl w1=>Below w.heap.size w w1/\VW (Pb B bs) w1 (.iface 106 (.pointer (some ⟨gl,0,none⟩))) (cD its)) h2 ((j6 (w:=w.drewN k) (Sl.of_own h3) (fun v hv=>by
   obtain⟨i,hi,rfl⟩:=List.getElem_of_mem hv;exact(h4.2 i xs[i] (its[i]'(by omega)) (Zd hi) (Zd _)).iface) (by omega)).mono (by
  rintro e w1 ⟨gl,A1,c1,rfl,c8,b0,d4,d5⟩;have hb:Below w.heap.size w w1:=(ap (Ze _ _) k).trans c8;have b0:w.heap.size<=gl:=b0;exact⟨gl,rfl,hb,vG d4 (d5.freshW hB hlt) ⟨Zc hB b0,fun hk=>by have:=hlt gl hk;omega⟩ (h4.mono fun _ _ h=>h.later hb)⟩)))
 have Ht:=Qa ht;have Hi:=Qa hi;have Hl:=Qa hl;obtain⟨n,b1⟩:∃n,us.length=n:=⟨_,rfl⟩;have d6:n<1000000000:=by omega
 have d0:n+1<=c:=by
  obtain⟨_,_,e,hc,_⟩:=af hA.own;obtain⟨-,-,rfl⟩:=Value.slice.inj e;rw[List.length_cons,b1] at hc;exact hc
 obtain⟨go,d3⟩:∃go,A=some ⟨go,0,none⟩:=by
  obtain⟨_,_,e,_,_,hA⟩:=af hA.own;obtain⟨rfl,-,-⟩:=Value.slice.inj e;exact hA (by simp)
 subst d3;have c5:=Qa b1;clear hA ht hB hi hn h1 h2 h3 h4 hlt c9 d1 b1 hl;go_enter Tryz.func44,Tryz.ntmps44;go_wp2_with fail;refine Za hin ?_;rintro e w1 ⟨rfl,k,rfl⟩;have c2:=Qa (HE.out k);go_wp2_with fail;refine Za c2 ?_;rintro e w2 ⟨gl,rfl,w3,m3,⟨b8,b9⟩,rfl⟩;have a4:Below w.heap.size w (w3.drewN m3):=ap b8 m3;have Hv:=Qa (b9.drewN m3);obtain⟨w4,c4⟩:∃w4,w3.drewN m3=w4:=⟨_,rfl⟩;rw[c4] at a4 Hv ⊢;have c3:=Qa a4;have a3:=Qa (HA.out.below a4);clear b8 b9 c4 a4 HE c2;have a1:=a3.out.row;rw[List.length_cons,c5.out] at a1;have c0:=aa a1 (j:=0) (u:=.slice (some ⟨go,0,none⟩) (n+1) c) rfl;have s1:IntKind.i64.wrap ((n:Int)+1 - 1)=n:=by rw[IntWalk.i64_in _ (by omega)];omega
 have s2:IntKind.i64.wrap (n:Int)=n:=IntWalk.i64_in _ (by omega);have s3:(((n+1:Nat):Int))= (n:Int)+1:=by omega
 have s4:(n:Int)<=c:=by omega
 have c0d:w4.drew.cell? ⟨g,0,none⟩=some (.slice (some ⟨go,0,none⟩) (n+1) c):=c0;have f0d:w4.drew.frozen? ⟨g,0,none⟩=false:=aj a1 0;clear a1 c0;go_wp2_with fail;refine ch (fun w'=>w'.cell? ⟨g,0,none⟩=some (.slice (some ⟨go,0,none⟩) (n+1) c)) 14 (c0d) fun a0=>?_
 refine tZ 0 a0 ?_;refine tZ 1 a0 ?_;refine tZ 2 a0 ?_;refine tZ 3 a0 ?_;refine tZ 4 a0 ?_;refine tZ 5 a0 ?_
 try simp only[Act.put,jP,jQ,jR]
 refine tZ 6 a0 ?_;refine tZ 7 a0 ?_;refine tZ 8 a0 ?_;refine tZ 9 a0 ?_;refine tZ 10 a0 ?_;refine tZ 11 a0 ?_
 try simp only[Act.put,jP,jQ,jR]
 refine rZ 12 fun K hK=>?_
 go_simp;refine hK.out _ _ (fun _=>a0) (fun a0=>?_);clear hK K;have a0:=a0 (by decide)
 try simp only[Act.put,jP,jQ,jR]
 refine tZ 13 a0 ?_
 try simp only[Act.put,jP,jQ,jR]
 refine rZ 14 fun K hK=>?_
 go_simp;refine hK.out _ _ (fun h=>absurd rfl h) (fun _=>?_);clear hK K
 try simp only[Act.put,jP,jQ,jR]
 refine aH (by kernel_rfl) (NoPanic.normal ?_) _;obtain⟨w5,a5⟩:∃w5,(w4.setCell ⟨g,0,none⟩ (.slice (some ⟨go,0,none⟩) n c)).drew=w5:=⟨_,rfl⟩;have b3:gT B Q w4.drew g _ none _ c dv _ bs:=a3.out.below (Ze _ _).drew;have a2:=b3.pop;rw[c5.out] at a2;have a2:gT B Q w5 g fs none (some ⟨go,0,none⟩) c dv us (us.flatMap fun u=>cq u.2):=by rw[<-a5];exact a2
 have a9:aM (fun k=>k=g) w4 w5:=by rw[<-a5];exact(aM.of_below (Ze _ _).drew).trans (aM.set g 0 (.slice (some ⟨go,0,none⟩) n c)) fun i h=>.inl h
 have hm:Mw [] w4 w5:=Mw.of_chg a9 fun k hk _=>.inr (by subst hk;exact⟨_,_,_,a3.out.row,dQ⟩)
 have b5:=Hv.out.move (bs':=us.flatMap fun u=>cq u.2) hm.mv (by simp) (fun k hk=>.inl (by rw[<-a3.out.blocks];exact List.mem_append_right _ hk));have b2:=Qa ((rJ.new c3.out HB.out).trans (.chg a9 (Zc HB.out c3.out.size) fun i e=>by subst e;exact⟨a3.out.low,_,_,_,a3.out.row,.inr (.inl rfl)⟩));have c6:=fM ⟨_,_,_,_,a2⟩ Ht.out b5 (Zc HB.out b2.out.b.size) (by have:=Hl.out;omega) Hi.out;rw[a5];have c7:=Qa c6;clear b3 a9 hm b5 c6 a5 c0d f0d a0;go_wp2_with fail;refine Za c7 ?_;rintro e w6 ⟨rfl,b4,bs',hs⟩;have d2:=Qa b4;have Hs:=Qa hs;clear b4 hs;go_wp2_with fail;go_ret;exact⟨rfl,b2.out.trans d2.out,bs',Hs.out⟩
theorem oX (h:kf B Q w g (⟨true, [],ms,none⟩::fs) none bs)(ht:vC fs none=true)(hB:B<=w.heap.size)(hl:fs.length<1000000000)(hi:∀f∈fs,CG f)(hn:ms.length<=1000000000)(b4:∀s∈ms.map Prod.fst,eC s)(b2:(ms.map Prod.fst).Nodup) :
  Calls Tryz.prog 44 #[.pointer (some ⟨g,0,none⟩)] w fun e w'=>EU B Q g (bu fs (fU (cF ms))).frs (bu fs (fU (cF ms))).done w e w':=by
 obtain⟨A,c,dv,us,hA⟩:=h;obtain⟨u,m,us,rfl,hw,d4⟩:=hA.innermost;have hin:=Qa (hA.in_top hl);have HA:=Qa hA;have HB:=Qa hB;have hlt:=hA.lt
 cases hw with
 |table gt At ct L ms s0 nm h1 h2 h3 h4 h5 h6=>
 have d2:L.length=ms.length:=by have:=congrArg List.length h4;simpa using this
 have HE:=Qa (fun k=>nQ (w:=w.drewN k) (K:=fun gl w1=>Below w.heap.size w w1/\VW (Pb B bs) w1 (.iface 97 (.pointer (some ⟨gl,0,none⟩))) (fU (cF ms))) h2 rfl ((gW (w:=w.drewN k) (yB.of_own h3) (fun p hp=>by
   obtain⟨i,hi,rfl⟩:=List.getElem_of_mem hp;exact⟨b4 _ (by rw[<-h4];exact List.mem_map.2 ⟨_,List.getElem_mem hi,rfl⟩),(h5.2 i L[i].2 ((ms[i]'(by omega)).2) (by rw[List.getElem?_map,Zd hi];rfl) (by rw[List.getElem?_map,Zd (by omega)];rfl)).iface⟩) (by rw[h4];exact b2) (by omega)).mono (by
  rintro e w1 ⟨gl,A1,c1,S,rfl,d1,b0,d9,e0,hp,hs⟩;have hb:Below w.heap.size w w1:=(ap (Ze _ _) k).trans d1;have b0:w.heap.size<=gl:=b0;have b8:S.length=L.length:=hp.length_eq;exact⟨gl,rfl,hb,yQ (by rw[b8];exact d9) (by rw[b8];exact e0.freshW hB hlt) ⟨Zc hB b0,fun hk=>by have:=hlt gl hk;omega⟩ hp hs h4 (h5.mono fun _ _ h=>h.later hb)⟩)))
 have Ht:=Qa ht;have Hi:=Qa hi;have Hl:=Qa hl;obtain⟨n,b1⟩:∃n,us.length=n:=⟨_,rfl⟩;have e1:n<1000000000:=by omega
 have d3:n+1<=c:=by
  obtain⟨_,_,e,hc,_⟩:=af hA.own;obtain⟨-,-,rfl⟩:=Value.slice.inj e;rw[List.length_cons,b1] at hc;exact hc
 obtain⟨go,d6⟩:∃go,A=some ⟨go,0,none⟩:=by
  obtain⟨_,_,e,_,_,hA⟩:=af hA.own;obtain⟨rfl,-,-⟩:=Value.slice.inj e;exact hA (by simp)
 subst d6;have c8:=Qa b1;clear hA ht hB hi hn h1 h2 h3 h4 h5 h6 b4 b2 hlt d2 d4 b1 hl;go_enter Tryz.func44,Tryz.ntmps44;go_wp2_with fail;refine Za hin ?_;rintro e w1 ⟨rfl,k,rfl⟩;have c5:=Qa (HE.out k);go_wp2_with fail;refine Za c5 ?_;rintro e w2 ⟨gl,rfl,w3,m3,⟨c3,c4⟩,rfl⟩;have a4:Below w.heap.size w (w3.drewN m3):=ap c3 m3;have Hv:=Qa (c4.drewN m3);obtain⟨w4,c7⟩:∃w4,w3.drewN m3=w4:=⟨_,rfl⟩;rw[c7] at a4 Hv ⊢;have c6:=Qa a4;have a3:=Qa (HA.out.below a4);clear c3 c4 c7 a4 HE c5;have a1:=a3.out.row;rw[List.length_cons,c8.out] at a1;have c0:=aa a1 (j:=0) (u:=.slice (some ⟨go,0,none⟩) (n+1) c) rfl;have s1:IntKind.i64.wrap ((n:Int)+1 - 1)=n:=by rw[IntWalk.i64_in _ (by omega)];omega
 have s2:IntKind.i64.wrap (n:Int)=n:=IntWalk.i64_in _ (by omega);have s3:(((n+1:Nat):Int))= (n:Int)+1:=by omega
 have s4:(n:Int)<=c:=by omega
 have c0d:w4.drew.cell? ⟨g,0,none⟩=some (.slice (some ⟨go,0,none⟩) (n+1) c):=c0;have f0d:w4.drew.frozen? ⟨g,0,none⟩=false:=aj a1 0;clear a1 c0;go_wp2_with fail;refine ch (fun w'=>w'.cell? ⟨g,0,none⟩=some (.slice (some ⟨go,0,none⟩) (n+1) c)) 14 (c0d) fun a0=>?_
 refine tZ 0 a0 ?_;refine tZ 1 a0 ?_;refine tZ 2 a0 ?_;refine tZ 3 a0 ?_;refine tZ 4 a0 ?_;refine tZ 5 a0 ?_
 try simp only[Act.put,jP,jQ,jR]
 refine tZ 6 a0 ?_;refine tZ 7 a0 ?_;refine tZ 8 a0 ?_;refine tZ 9 a0 ?_;refine tZ 10 a0 ?_;refine tZ 11 a0 ?_
 try simp only[Act.put,jP,jQ,jR]
 refine rZ 12 fun K hK=>?_
 go_simp;refine hK.out _ _ (fun _=>a0) (fun a0=>?_);clear hK K;have a0:=a0 (by decide)
 try simp only[Act.put,jP,jQ,jR]
 refine tZ 13 a0 ?_
 try simp only[Act.put,jP,jQ,jR]
 refine rZ 14 fun K hK=>?_
 go_simp;refine hK.out _ _ (fun h=>absurd rfl h) (fun _=>?_);clear hK K
 try simp only[Act.put,jP,jQ,jR]
 refine aH (by kernel_rfl) (NoPanic.normal ?_) _;obtain⟨w5,a5⟩:∃w5,(w4.setCell ⟨g,0,none⟩ (.slice (some ⟨go,0,none⟩) n c)).drew=w5:=⟨_,rfl⟩;have b5:gT B Q w4.drew g _ none _ c dv _ bs:=a3.out.below (Ze _ _).drew;have a2:=b5.pop;rw[c8.out] at a2;have a2:gT B Q w5 g fs none (some ⟨go,0,none⟩) c dv us (us.flatMap fun u=>cq u.2):=by rw[<-a5];exact a2
 have a9:aM (fun k=>k=g) w4 w5:=by rw[<-a5];exact(aM.of_below (Ze _ _).drew).trans (aM.set g 0 (.slice (some ⟨go,0,none⟩) n c)) fun i h=>.inl h
 have hm:Mw [] w4 w5:=Mw.of_chg a9 fun k hk _=>.inr (by subst hk;exact⟨_,_,_,a3.out.row,dQ⟩)
 have c2:=Hv.out.move (bs':=us.flatMap fun u=>cq u.2) hm.mv (by simp) (fun k hk=>.inl (by rw[<-a3.out.blocks];exact List.mem_append_right _ hk));have b3:=Qa ((rJ.new c6.out HB.out).trans (.chg a9 (Zc HB.out c6.out.size) fun i e=>by subst e;exact⟨a3.out.low,_,_,_,a3.out.row,.inr (.inl rfl)⟩));have c9:=fM ⟨_,_,_,_,a2⟩ Ht.out c2 (Zc HB.out b3.out.b.size) (by have:=Hl.out;omega) Hi.out;rw[a5];have d0:=Qa c9;clear b5 a9 hm c2 c9 a5 c0d f0d a0;go_wp2_with fail;refine Za d0 ?_;rintro e w6 ⟨rfl,b9,bs',hs⟩;have d5:=Qa b9;have Hs:=Qa hs;clear b9 hs;go_wp2_with fail;go_ret;exact⟨rfl,b3.out.trans d5.out,bs',Hs.out⟩
end
section
variable {Q:Nat->Array Value->Prop}{B g c:Nat}{w:World}{bs:List Nat}{A:Option Addr}{dv u:Value}{f:Fr}{frs:List Fr}{us:List (Value×Nat×Value)}
theorem sk (h:kf B Q w g frs none bs)(ht:vC frs none=true)(hB:B<=w.heap.size)(hl:frs.length<=1000000000):Calls Tryz.prog 41 #[.pointer (some ⟨g,0,none⟩),.int .u8 123] w (EU B Q g (⟨true, [], [],none⟩::frs) none w):=by
 have HT:=Qa (iB h hl);rw[ht] at HT;have Hl:=Qa hl;have H:=Qa h;clear h ht hl;go_enter Tryz.func41,Tryz.ntmps41;go_wp2_with fail;refine Za HT ?_;rintro e w1 ⟨rfl,a0⟩;obtain⟨A,c,dv,us,hA⟩:=H.out.below a0;have a9:us.length=frs.length:=hA.frames.1;obtain⟨n,hn⟩:∃n,us.length=n:=⟨_,rfl⟩;have b4:n<=1000000000:=by have:=Hl.out;omega
 have hh:=hA.row;have ho:=hA.own;rw[hn] at hh ho;have c0:=aa hh (j:=0) (u:=.slice A n c) rfl;have a1:Below w1.heap.size w1 ((w1.alloc (.cells #[.slice none 0 0,.string ⟨#[]⟩,.bool false] 151)).alloc (.cells #[DB w1.heap.size] 154)):=((Ze _ _).alloc (Zb _) _).alloc (by simp) _;have a3:=Qa (ai ho a1 (Zb _));have b2:=Qa (av (w1.alloc (.cells #[.slice none 0 0,.string ⟨#[]⟩,.bool false] 151)) [DB w1.heap.size] 154);have a4:=Qa (ah hh a1);have b0:=Qa (aD a3.out a4.out (by decide));have a5:=Qa ((Below.heap_alloc (w1.alloc (.cells #[.slice none 0 0,.string ⟨#[]⟩,.bool false] 151)) (.cells #[DB w1.heap.size] 154) w1.heap.size (by simp)).trans (Zf w1 (.cells #[.slice none 0 0,.string ⟨#[]⟩,.bool false] 151)));have HA:=Qa hA;have b3:=Qa a0;have a2:=Qa a1;have HB:=Qa (Zc hB a0.size);have b1:=Qa hB;have Hn:=Qa hn;clear hA a0 a1 hh ho a9 hn H hB;go_wp2_with (at_builtin;refine kC zh a3.out (by have:=b2.out;rw[World.size_alloc] at this;exact this) (Zc HB.out a2.out.size) ?_;intro v' w5 p1 p2 p3;obtain⟨A5,q5,rfl,-,-,-⟩:=af p1;have g5:=ay a4.out p2 b0.out;have f5:=aj g5 0;have c5:=aa g5 (j:=0) (u:=.slice A n c) rfl;have HK:=Qa p1;have HG:=Qa p2;clear p1 p2 p3 g5);go_ret;obtain rfl:=Hn.out;obtain⟨r1,r2⟩:=HA.out.push (f:=⟨true, [], [],none⟩) HB.out a2.out (Zb _) (ag a5.out) HG.out HK.out (fun P w' e=>.table w1.heap.size none 0 [] [] ⟨#[]⟩ none HB.out (e.trans a5.out) ⟨rfl,.inl ⟨rfl,rfl⟩⟩ rfl (cd.nil _) (fun t e=>by cases e));exact⟨rfl,(rJ.new b3.out b1.out).trans r1,_,_,_,_,_,r2⟩
end
theorem zk (d:Nat)(a b:En)(W:World):(Op.equalIn (d+3) 40 (Fl a) (Fl b)).run Tryz.prog W =.ok (decide (a=b)) W:=by
 rw[show decide (a=b)= ((a.eAt.toList==b.eAt.toList)&& (a.eSch.toList==b.eSch.toList)&& (a.eKw.toList==b.eKw.toList)) by
  rw[dK,dK,dK,Bool.eq_iff_iff]
  cases a;cases b;simp[and_assoc]]
 obtain⟨a1,a2,a3⟩:=a;obtain⟨b1,b2,b3⟩:=b;rw[run_equalIn_agg W (d+2) 40 _ _ (by kernel_rfl) (by kernel_rfl)];have hf:((Tryz.prog.fieldsOf 40).toList.map fun f=>(decide (f.name = "_"),f.type,f.offset)) = [(false,9,0),(false,9,1),(false,9,2)]:=by kernel_rfl
 obtain⟨f1,f2,f3,h1,h2,h3,h4,h5,h6,h7,h8,h9,a0⟩:∃f1 f2 f3,(Tryz.prog.fieldsOf 40).toList = [f1,f2,f3]/\¬f1.name = "_" /\¬f2.name = "_" /\¬f3.name = "_" /\f1.type=9/\f2.type=9/\f3.type=9/\f1.offset=0/\f2.offset=1/\f3.offset=2:=by
  generalize (Tryz.prog.fieldsOf 40).toList=fs at hf
  cases fs with
  |nil=>simp at hf
  |cons f1 r=>cases r with
   |nil=>simp at hf
   |cons f2 r2=>cases r2 with
    |nil=>simp at hf
    |cons f3 r3=>cases r3 with
     |cons f4 r4=>simp at hf
     |nil=>
      simp only[List.map_cons,List.map_nil,List.cons.injEq,Prod.mk.injEq,decide_eq_false_iff_not,and_true] at hf;exact⟨f1,f2,f3,rfl,hf.1.1,hf.2.1.1,hf.2.2.1,hf.1.2.1,hf.2.1.2.1,hf.2.2.2.1,hf.1.2.2,hf.2.1.2.2,hf.2.2.2.2⟩
 have p1:∀ (a b c:Value) (w:World),(part 9 #[a,b,c] 0).run Tryz.prog w =.ok a w:=fun a b c w=>by kernel_rfl
 have p2:∀ (a b c:Value) (w:World),(part 9 #[a,b,c] 1).run Tryz.prog w =.ok b w:=fun a b c w=>by kernel_rfl
 have p3:∀ (a b c:Value) (w:World),(part 9 #[a,b,c] 2).run Tryz.prog w =.ok c w:=fun a b c w=>by kernel_rfl
 rw[h1];have hs:=fun s t=>run_equalIn_string (P:=Tryz.prog) W (d+1) 9 s t Tryz.underlying9
 have q1:=hs a1 b1;have q2:=hs a2 b2;have q3:=hs a3 b3;clear hs
 dsimp only
 generalize (a1.toList==b1.toList)=u at q1 ⊢;generalize (a2.toList==b2.toList)=v at q2 ⊢;generalize (a3.toList==b3.toList)=z at q3 ⊢
 cases u <;> cases v <;> cases z <;> simp[Op.eqFields,h2,h3,h4,h5,h6,h7,h8,h9,a0,p1,p2,p3,q1,q2,q3]
theorem tG (a b:En)(W:World):(binOp .eql 40 (Fl a) (Fl b)).run Tryz.prog W =.ok (.bool (decide (a=b))) W:=by
 simp only[binOp];simp[Op.equal,Op.maxDepth,zk 9997 a b W]
theorem Bw (a b:En)(W:World):(binOp .neq 40 (Fl a) (Fl b)).run Tryz.prog W =.ok (.bool (!decide (a=b))) W:=by
 simp only[binOp];simp[Op.equal,Op.maxDepth,zk 9997 a b W]
def yT:Option En->List En->List En
 |_, []=> []
 |p,x::t=>if p=some x then yT (some x) t else x::yT (some x) t
theorem Cp (t:List En):∀x:En,nU (x::t)=x::yT (some x) t:=by
 induction t with
 |nil=>intro x;rfl
 |cons y t ih0=>
  intro x;have ih:=ih0 y;rw[nU,yT,ih]
  by_cases e:x=y
  ·subst e;rw[if_pos rfl,if_pos rfl]
  ·rw[if_neg e,if_neg (fun h=>e (Zi h))]
theorem E8 (s:List En):nU s=yT none s:=by
 cases s with
 |nil=>rfl
 |cons x t=>rw[Cp];rfl
theorem BM (x y:En)(l:List En):∀p:Option En,yT p (l ++ [y] ++ [x])=yT p (l ++ [y])++if y=x then [] else [x]:=by
 induction l with
 |nil=>
  intro p
  by_cases e:y=x
  ·by_cases h:p=some y <;> simp[yT,e,h]
  ·by_cases h:p=some y <;> simp[yT,e,h]
 |cons z l ih=>
  intro p;simp only[List.cons_append,yT];rw[ih]
  split <;> rfl
def cu (s:List En)(n:Nat):List En:=yT none (s.take n)
theorem vI {s:List En}{x y:En}(hx:s[n+1]?=some x)(hy:s[n]?=some y):cu s (n+2)=cu s (n+1)++if y=x then [] else [x]:=by
 obtain⟨h1,rfl⟩:=List.getElem?_eq_some_iff.1 hx;obtain⟨h2,rfl⟩:=List.getElem?_eq_some_iff.1 hy;unfold cu;rw[List.take_succ_eq_append_getElem h1,List.take_succ_eq_append_getElem h2,BM]
theorem Ed (s:List En)(h:1<=s.length):cu s 1=s.take 1:=by
 cases s with
 |nil=>simp at h
 |cons x t=>rfl
theorem zV (s:List En):cu s s.length=nU s:=by unfold cu;rw[List.take_length,E8]
theorem xM {t:TypeId}{p:Nat}(hg:w.heap[g]?=some (.cells old t (0,0)))(hi:(Tryz.prog.info? ty).map (·.size)=some cells.size)(a0:p+cells.size<=old.size)(h1:∀v∈cells.toList,v.oneCell'=true) :
  (storeVar ty ⟨g,p,none⟩ (.agg cells)).run Tryz.prog w =.ok () (w.setRow g (old.toList.take p++cells.toList++old.toList.drop (p+cells.size)).toArray):=by
 have:=run_storeCells_at (P:=Tryz.prog) g p t cells.toList 0 old w hg (by simpa using a0) h1;rw[Nat.add_zero] at this
 cases hq:Tryz.prog.info? ty with
 |none=>simp[hq] at hi
 |some i=>
  have hs:cells.size=i.size:=by simp[hq] at hi;omega
  simp[storeVar,sizeOf,typeInfo,hq,Value.cells,hs] at this ⊢;exact this
theorem jX {ops:Array Oper}{rest:List Oper}{o:Oper}{a:Act}{Q:Exit->Act->World->Prop}{t:TypeId}{x y:Operand}{p:Nat}(hg:w.heap[g]?=some (.cells old t (0,0)))
  (h:wpList Tryz.prog ops Q rest a (w.setRow g (old.toList.take p++cells.toList++old.toList.drop (p+cells.size)).toArray)) (a0:p+cells.size<=old.size)
  (ho:o.op =.store ty x y:=by exact rfl) (hx:a.eval x =.pointer (some ⟨g,p,none⟩):=by exact rfl) (hy:a.eval y =.agg cells:=by exact rfl) (a1:o.guard=none:=by exact rfl) (hd:o.dst=none:=by exact rfl)
  (hi:(Tryz.prog.info? ty).map (·.size)=some cells.size:=by kernel_rfl) (h1:∀v∈cells.toList,v.oneCell'=true:=by simp[Value.oneCell']):wpList Tryz.prog ops Q (o::rest) a w:=by
 have a2:=xM (w:=w) (ty:=ty) hg hi a0 h1;refine wpList_plain a1 fun _ hK=>?_
 unfold Oper.wp execOp;simp only[ho,hx,hy,Instr.storeAt,Instr.sureAddr,Sem.run_bind,Sem.run_pure,Result.andThen_ok,a2];refine hK _ _ ?_;rw[hd];exact h
theorem bS.full {l:List En}(h:bS w base (.slice (some ⟨g,0,none⟩) n c) l):n=l.length/\base<=g/\l.length<=c/\c<=maxLen/\∃cur,w.heap[g]?=some (.cells cur 40 (0,0))/\cur.size=c*3/\cur.toList.take (l.length*3)=bw l:=by
 obtain⟨_,⟨e,_⟩|⟨g',cap,cur,e,h1,h2,h3,h4,h5,h6⟩⟩:=h
 ·cases e
 ·injection e with e1 e2 e3
  injection e1 with e1
  injection e1 with e1 _ _
  subst e1 e2 e3;exact⟨rfl,h1,h3,h4,cur,h2,h5,h6⟩
theorem bS.of {l:List En}(h1:base<=g)(h2:l.length<=c)(h3:c<=maxLen)(h4:w.heap[g]?=some (.cells cur 40 (0,0)))(h5:cur.size=c*3)(h6:cur.toList.take (l.length*3)=bw l):bS w base (.slice (some ⟨g,0,none⟩) l.length c) l:=
 ⟨eD l,.inr ⟨g,c,cur,rfl,h1,h4,h2,h3,h5,h6⟩⟩
theorem bS.rd {l:List En}(h:bS w base (.slice (some ⟨g,0,none⟩) n c) l){p:En}(hp:l[i]?=some p):w.cell? ⟨g,i*3,none⟩=some (.string p.eAt)/\w.cell? ⟨g,i*3+1,none⟩=some (.string p.eSch)/\w.cell? ⟨g,i*3+2,none⟩=some (.string p.eKw):=by
 obtain⟨rfl,-⟩:=h.full;have hlt:=(List.getElem?_eq_some_iff.1 hp).1;obtain⟨f1,f2,f3⟩:=gq l i p hp;refine⟨?_,?_,?_⟩
 ·rw[aK h rfl (i*3) (by omega),f1]
 ·rw[aK h rfl (i*3+1) (by omega),f2]
 ·rw[aK h rfl (i*3+2) (by omega),f3]
theorem pH (l m:List En):bw (l++m)=bw l++bw m:=by simp[bw]
theorem pO (l:List En)(i:Nat)(h:i<=l.length):bw l=bw (l.take i)++bw (l.drop i)/\(bw (l.take i)).length=i*3:=by
 refine⟨by rw[<-pH,List.take_append_drop],?_⟩;rw[eD,List.length_take];omega
theorem ju (l:List En)(i:Nat):bw (l.take i)= (bw l).take (i*3):=by
 by_cases h:i<=l.length
 ·obtain⟨e,hl⟩:=pO l i h;have:=congrArg (List.take (i*3)) e;rw[this,List.take_append_of_le_length (by omega)];exact(List.take_of_length_le (by omega)).symm
 ·rw[List.take_of_length_le (by omega)];exact(List.take_of_length_le (by rw[eD];omega)).symm
theorem yi (l:List En)(i:Nat)(h:i<=l.length):bw (l.drop i)= (bw l).drop (i*3):=by
 obtain⟨e,hl⟩:=pO l i h;have:=congrArg (List.drop (i*3)) e;rw[this,<-hl,List.drop_left]
theorem bS.cut {l:List En}(h:bS w base (.slice (some ⟨g,0,none⟩) n c) l)(i:Nat)(hi:i<=l.length):bS w base (.slice (some ⟨g,0,none⟩) i c) (l.take i):=by
 obtain⟨rfl,h1,h2,h3,cur,h4,h5,h6⟩:=h.full;have hl:(l.take i).length=i:=by simp;omega
 have:=bS.of (w:=w) (base:=base) (g:=g) (c:=c) (l:=l.take i) (cur:=cur) h1 (by omega) h3 h4 h5 (by
  rw[hl,ju,<-h6,List.take_take]
  congr 1
  omega)
 rw[hl] at this;exact this
theorem bS.put {l:List En}(h:bS w base (.slice (some ⟨g,0,none⟩) n c) l)(hi:i<l.length)(x:En):∃cur,w.heap[g]?=some (.cells cur 40 (0,0))/\i*3+3<=cur.size/\bS (w.setRow g (cur.toList.take (i*3)++d7 x++cur.toList.drop (i*3+3)).toArray) base (.slice (some ⟨g,0,none⟩) n c) (l.set i x):=by
 obtain⟨rfl,h1,h2,h3,cur,h4,h5,h6⟩:=h.full;refine⟨cur,h4,by omega,?_⟩;have a1:cur.toList.length=c*3:=by simpa using h5
 have a0:bw (l.set i x)=bw (l.take i)++d7 x++bw (l.drop (i+1)):=by
  rw[List.set_eq_take_append_cons_drop,if_pos hi,pH];simp[bw]
 have hl:(l.set i x).length=l.length:=by simp
 have:=bS.of (w:=w.setRow g (cur.toList.take (i*3)++d7 x++cur.toList.drop (i*3+3)).toArray) (base:=base) (g:=g) (c:=c) (l:=l.set i x) h1 (by omega) h3 (setRow_heap w g cur _ _ _ h4) (by simp[d7];omega) (by
  rw[a0,hl];have e1:(bw (l.take i)).length=i*3:=by rw[eD,List.length_take];omega
  have e2:cur.toList.take (i*3)=bw (l.take i):=by rw[ju,<-h6,List.take_take];congr 1;omega
  have e3:bw (l.drop (i+1))= (cur.toList.take (l.length*3)).drop (i*3+3):=by
   rw[h6,show i*3+3= (i+1)*3 by omega,yi l (i+1) (by omega)]
  have e4:(bw (l.take i)++d7 x).length=i*3+3:=by rw[List.length_append,e1];rfl
  rw[e2,e3]
  show((bw (l.take i)++d7 x++cur.toList.drop (i*3+3)).take (l.length*3))=_
  rw[List.take_append,e4,List.drop_take,List.take_of_length_le (l:=bw (l.take i)++d7 x) (by omega)])
 rw[hl] at this;exact this
theorem CH:∀w,(zeroValue 40).run Tryz.prog w =.ok (.agg #[.string ⟨#[]⟩,.string ⟨#[]⟩,.string ⟨#[]⟩]) w:=fun w=>Tryz.zeroValue40 w
theorem zU {l:List En}(h:bS w base (.slice (some ⟨g,0,none⟩) n c) l)(hi:i<l.length):∃w',(∀ty,(Builtin.clear_ #[22] ty #[.slice (some ⟨g,i*3,none⟩) (n - i) (c - i)]).run Tryz.prog w =.ok (.tuple #[]) w')/\bS w' base (.slice (some ⟨g,0,none⟩) i c) (l.take i)/\w.grownBy w' (some g):=by
 obtain⟨rfl,h1,h2,h3,cur,h4,h5,h6⟩:=h.full;obtain⟨vs,a0⟩:∃vs,(Builtin.zeroCells #[.string ⟨#[]⟩,.string ⟨#[]⟩,.string ⟨#[]⟩] (l.length - i)).toList=vs:=⟨_,rfl⟩;have a3:vs.length= (l.length - i)*3:=by rw[<-a0];simp[Builtin.zeroCells]
 have a2:∀v∈vs,v.oneCell'=true:=by
  intro v hv;rw[<-a0] at hv;simp only[Builtin.zeroCells,Array.toList_map,List.mem_map] at hv;obtain⟨k,-,rfl⟩:=hv;have:k % (#[Value.string ⟨#[]⟩,.string ⟨#[]⟩,.string ⟨#[]⟩]:Array Value).size<3:=Nat.mod_lt _ (by decide);generalize k % (#[Value.string ⟨#[]⟩,.string ⟨#[]⟩,.string ⟨#[]⟩]:Array Value).size=m at *;rcases(by omega:m=0\/m=1\/m=2) with rfl|rfl|rfl <;> rfl
 have a1:=run_storeCells_at (P:=Tryz.prog) g (i*3) 40 vs 0 cur w h4 (by omega) a2;rw[Nat.add_zero] at a1;refine⟨w.setRow g (cur.toList.take (i*3)++vs++cur.toList.drop (i*3+vs.length)).toArray,fun ty=>?_,?_,aB w g _⟩
 rotate_left
 ·have hl:(l.take i).length=i:=by simp;omega
  have:=bS.of (w:=w.setRow g (cur.toList.take (i*3)++vs++cur.toList.drop (i*3+vs.length)).toArray) (base:=base) (g:=g) (c:=c) (l:=l.take i) h1 (by omega) h3 (setRow_heap w g cur _ _ _ h4) (by
   have:cur.toList.length=c*3:=by simpa using h5
   simp;omega) (by
   rw[hl,ju,<-h6,List.take_take];have:cur.toList.length=c*3:=by simpa using h5
   rw[List.toList_toArray,List.append_assoc,List.take_append_of_le_length (by simp;omega),List.take_take]
   congr 1
   omega)
  rw[hl] at this;exact this
 ·have hz:=CH;have hu:=run_underlying (P:=Tryz.prog) Tryz.underlying22;obtain⟨m,hm⟩:∃m,l.length - i=m+1:=⟨l.length - i - 1,by omega⟩;rw[hm] at a0 ⊢;simp[Builtin.clear_,hu,hz,Value.cells,a0,a1]
