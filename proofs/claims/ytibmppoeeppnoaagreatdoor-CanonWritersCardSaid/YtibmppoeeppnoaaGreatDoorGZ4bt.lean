import Derived.Test.YtibmppoeeppnoaaGreatDoorGZ4bs
set_option linter.unusedVariables false
set_option linter.unusedSimpArgs false
set_option maxHeartbeats 64000000
set_option maxRecDepth 100000
namespace Go.Proofs.YtibmppoeeppnoaaGreatDoor
open Go.RowKit Go.Shelf
variable {aE aS aU:Addr}{d:Dc}{j j0:JV}{frs:List Fr}{ks:List JV}{bs ps:List Nat}{hs xs:List UInt8}{B N a c cap ch ck cn g gt k n nh nn:Nat}{A Ah Ak An:Option Addr}{e:TypeId}{u:Value}{w w' w0:World}
theorem Bk (x:Value)(W:World):(Instr.typeAssert (.iface 89 x) 95 89 true).run Tryz.prog W =.ok (.tuple #[x,.bool true]) W:=by kernel_rfl
section
variable {B g:Nat}{w:World}{bs:List Nat}{fs:List Fr}{ms:List (ByteArray×JV)}{s:ByteArray}{a aU aE:Addr}
def Gz (B g:Nat)(fs:List Fr)(ms:List (ByteArray×JV))(s:ByteArray)(er:Value)(w:World)(e:Ending)(w':World):Prop:=(s∈ms.map Prod.fst/\e =.returned er/\Below w.heap.size w w')\/(s∉ms.map Prod.fst/\Gd B g (⟨true, [],ms,some s⟩::fs) none w e w')
theorem lE (h:jw B w g (⟨true, [],ms,none⟩::fs) none bs)(hs:dq s)(hG:co w aU aE)(b1:s.size<=1000000000)(hT:w.cell? ⟨2,0,none⟩=some (bl a))(hB:B<=w.heap.size)(hl:fs.length<1000000000)(b5:ms.length<=1000000000) :
  Calls Tryz.prog 18 #[.pointer (some ⟨g,0,none⟩),.string s] w (Gz B g fs ms s (bl a) w):=by
 obtain⟨A,c,dv,us,hA⟩:=h;obtain⟨u,m,us,rfl,hw,-⟩:=hA.innermost;have hin:=Qa (hA.in_top hl);have HA:=Qa hA;have HB:=Qa hB;have HQ:=Qa (fun w1 (hw:Below w.heap.size w w1)=>pf hs (hG.below hw) b1);have HT:=Qa hT;clear hs hG b1 hA hT hB
 cases hw with
 |table gt At ct L ms s0 nm h1 h2 h3 h4 h5 h6=>
 have H1:=Qa h1;have H2:=Qa h2;have H3:=Qa h3;have H4:=Qa h4;have H5:=Qa h5;have c8:L.length<=1000000000:=by have:=congrArg List.length h4;simp at this;omega
 have hkt:=Bk;clear h1 h2 h3 h4 h5 h6 b5;go_enter Tryz.func18,Tryz.ntmps18;go_wp2_with fail;(with_reducible refine hin.out.mono ?_);rintro e w1 ⟨rfl,k,rfl⟩;obtain⟨wk,a5⟩:∃wk,w.drewN k=wk:=⟨_,rfl⟩;have a2:Below w.heap.size w wk:=by rw[<-a5];exact av (Zd _ _) k
 have c2:=aa (ai H2.out a2) (j:=2) (u:=.bool false) rfl;have a4:=Qa a2;rw[a5];clear a5 a2;have c3:=Qa (HQ.out wk a4.out);go_wp2_with fail;(with_reducible refine c3.out.mono ?_);rintro e w2 ⟨v,rfl,b0,b4⟩;have a3:=Qa (a4.out.trans (b4.mono a4.out.size));obtain⟨Aq,qq,rfl,-⟩:=ag b0;have c0:=aa (ai H2.out a3.out) (j:=0) (u:=.slice At L.length ct) rfl;clear b0 b4 c2;go_wp2_with fail
 go_loopg [10,39] L.length (fun k _ s39 wr=> ∃i:Nat,k+i=L.length/\s39 =.int .i64 i/\Below w2.heap.size w2 wr/\∀ (j:Nat) (p:ByteArray×Value),j<i->L[j]?=some p->p.1≠s)
 case atStart=>exact⟨0,rfl,rfl,Zd _ _,fun j p h=>by omega⟩
 case round=>
  obtain⟨i,hk,rfl,hb,b2⟩:=hrel;have Hb:=Qa (a3.out.trans (hb.mono a3.out.size));have b7:=Qa hb;have a9:=Qa b2;have Hk:=Qa hk;clear b2 hb hk c0
  by_cases hlt:i<L.length
  ·obtain⟨p,hp⟩:∃p,L[i]?=some p:=⟨_,Zc hlt⟩;obtain⟨gm,rfl,q0,q1⟩:=(xg.rm H3.out).2.below Hb.out i p hp;obtain⟨tv,xv,hx⟩:∃t x,p.2 =.iface t x:=by
    have c4:=H5.out.1;obtain⟨b,hb⟩:∃b,(ms.map Prod.snd)[i]?=some b:=⟨_,Zc (by rw[<-c4];simpa using hlt)⟩;exact(H5.out.2 i p.2 b (by rw[List.getElem?_map,hp];rfl) hb).iface
   rw[hx] at q1;have a7:(i:Int)<L.length:=by omega
   have Hp:=Qa hp
   by_cases he:p.1=s
   ·have b9:(p.1.toList==s.toList)=true:=by rw[he];simp
    have a1:=ac wr (.cells #[.string p.1,.iface tv xv] 99);have cT:=Zf (Hb.out.trans (a1.mono Hb.out.size)) HT.out;have c1:=Qa (Hb.out.trans (a1.mono Hb.out.size));have He:=Qa he;clear hp hx he a1;go_wp2_with fail;go_ret;exact .inl ⟨by rw[<-H4.out];exact List.mem_map.2 ⟨p,Zk Hp.out,He.out⟩,rfl,c1.out⟩
   ·have b9:(p.1.toList==s.toList)=false:=by rw[jh];simpa using he
    have He:=Qa he;clear hp hx he;go_wp2_with fail;go_roundg (L.length - (i+1))
    case measure=>have:=Hk.out;omega
    case rel=>
     refine⟨i+1,by omega,by go_num,bt b7.out (ac _ _),fun j q hj hq=>?_⟩
     by_cases e:j=i
     ·subst e;rw[Hp.out] at hq;rw[<-Zh hq];exact He.out
     ·exact a9.out j q (by omega) hq
  ·obtain rfl:i=L.length:=by have:=Hk.out;omega
   have a7:¬ (L.length:Int)<L.length:=by omega
   have hr:=ai H2.out Hb.out;have k1:=aa hr (j:=1) (u:=.string s0) rfl;have f1:=aj hr 1;have a0:=au hr 1 (.string s);have k2:=aa a0 (j:=2) (u:=.bool false) rfl;have f2:=aj a0 2;have Hr:=Qa a0;have c7:=Qa hlt;clear hr a0 hlt;go_wp2_with fail;go_ret;have c6:=HA.out.below Hb.out;have hc:a8 (fun k=>k=gt) wr ((wr.setCell ⟨gt,1,none⟩ (.string s)).setCell ⟨gt,2,none⟩ (.bool true)):=(a8.set gt 1 _).trans (a8.set gt 2 _) fun i hi=>.inl hi
   have b3:xg wr B (.slice At L.length ct) L:=ao H3.out Hb.out (Za _);have hne:=aI H3.out H2.out (by decide);have b8:s∉ms.map Prod.fst:=fun hm=>by
    rw[<-H4.out] at hm;obtain⟨p,hp,b6⟩:=List.mem_map.1 hm;obtain⟨j,hj,rfl⟩:=List.getElem_of_mem hp;exact a9.out j _ hj (Zc hj) b6
   obtain⟨bs',hs⟩:=c6.swap (m':=(gt,.slice At L.length ct)) (f':=⟨true, [],ms,some s⟩) hc (fun k hk=>by subst hk;simp[dk]) (fun k hk=>.inl hk) (by
     refine List.nodup_cons.2 ⟨fun hk=>hne (by simpa using hk),?_⟩
     cases (Value.slice At L.length ct).ownBlock <;> simp) (fun bs2 hm c5 a6=>.table gt At ct L ms s (some s) H1.out (au Hr.out 2 _) (bz b3 fun b hb=>hc.block b (ae (ak b3 hb).2.choose_spec) fun e=>hne (by rw[hb,e])) H4.out ((H5.out.mono fun _ _ h=>h.later Hb.out).mono fun _ _ h=>h.move hm.mv a6 c5) (fun t e=>Zh e))
   exact .inr ⟨b8,rfl,(mi.new Hb.out HB.out).trans (.chg hc (Zb HB.out Hb.out.size) fun i e=>by subst e;exact⟨H1.out,_,_,_,ai H2.out Hb.out,.inl (.inr (.inr rfl))⟩),bs',_,_,_,_,hs⟩
end
section
variable {B g:Nat}{w:World}{bs:List Nat}{frs:List Fr}{a aU aE:Addr}{v:Value}{j j0:JV}{P:Nat->Prop}
theorem tX (h:jw B w g frs none bs)(ht:yr frs none=true)(hv:VW (Pb B bs) w v j)(hP:cW w)(hG:co w aU aE)(tx:Tx j)(sz:Sz j)(hx:(JV.txt j).length<=140737488355328)(hB:B<=w.heap.size)(hl:frs.length<=1000000000)(hi:∀f∈frs,Es f) :
  Calls Tryz.prog 12 #[.pointer (some ⟨g,0,none⟩),v] w fun e w'=>Gd B g (bX frs j).frs (bX frs j).done w e w':=by
 have H1:=Qa (fc hv hP hG tx sz hx);have H2:=Qa (fun w1 (hw:Below w.heap.size w w1)=>ig (h.below hw) hl);have H3:=Qa (fun w1 (hw:Below w.heap.size w w1)=>iG (h.below hw) ht (hv.later hw) (Zb hB hw.size) hl hi);rw[ht] at H2;have HB:=Qa hB;generalize JV.txt j=tl at *;obtain⟨t,x,rfl⟩:=hv.iface;clear h ht hv hP hG tx sz hx hB hl hi;go_enter Tryz.func12,Tryz.ntmps12;go_wp2_with fail;(with_reducible refine H1.out.mono ?_);rintro e w1 ⟨u,rfl,ho,a0⟩;obtain⟨A,q,rfl,-⟩:=ag ho;have a3:=Qa a0;have a5:=Qa (H2.out w1 a0);clear ho a0;go_wp2_with fail;(with_reducible refine a5.out.mono ?_);rintro e w2 ⟨rfl,a2⟩;have a1:=Qa (a3.out.trans (a2.mono a3.out.size));have a7:=Qa (H3.out w2 a1.out);clear a2;go_wp2_with fail;(with_reducible refine a7.out.mono ?_);rintro e w3 ⟨rfl,a4,bs',hs⟩;have a6:=Qa a4;have Hs:=Qa hs;clear a4 hs;go_wp2_with fail;go_ret;exact⟨rfl,(mi.new a1.out HB.out).trans a6.out,bs',Hs.out⟩
theorem Ao (h:jw B w g [] (some j0) bs)(hv:VW P w v j)(hP:cW w)(hG:co w aU aE)(tx:Tx j)(sz:Sz j)(hx:(JV.txt j).length<=140737488355328)(hS:w.cell? ⟨3,0,none⟩=some (bl a)) :
  Calls Tryz.prog 12 #[.pointer (some ⟨g,0,none⟩),v] w fun e w'=>e =.returned (bl a)/\Below w.heap.size w w':=by
 have H1:=Qa (fc hv hP hG tx sz hx);have H2:=Qa (fun w1 (hw:Below w.heap.size w w1)=>ig (h.below hw) (Zj _));have HS:=Qa hS;generalize JV.txt j=tl at *;obtain⟨t,x,rfl⟩:=hv.iface;clear h hv hP hG tx sz hx hS;go_enter Tryz.func12,Tryz.ntmps12;go_wp2_with fail;(with_reducible refine H1.out.mono ?_);rintro e w1 ⟨u,rfl,ho,a0⟩;obtain⟨A,q,rfl,-⟩:=ag ho;have a3:=Qa a0;have a4:=Qa (H2.out w1 a0);clear ho a0;go_wp2_with fail;(with_reducible refine a4.out.mono ?_);rintro e w2 ⟨rfl,a2⟩;have a1:=Qa (a3.out.trans (a2.mono a3.out.size));have cS:=Zf a1.out HS.out;have a5:yr [] (some j0)=false:=rfl;clear a2;go_wp2_with fail;go_ret;exact⟨rfl,a1.out⟩
theorem mc (h:jw B w g frs none bs)(hS:w.cell? ⟨3,0,none⟩=some (bl a)):Calls Tryz.prog 9 #[.pointer (some ⟨g,0,none⟩)] w fun e w'=>e =.returned (.tuple #[.slice none 0 0,bl a])/\Below w.heap.size w w':=by
 obtain⟨A,c,dv,us,h⟩:=h;have hr:=h.row;rw[show dv =.nilIface from h.done] at hr;have c1:=aa hr (j:=1) (u:=.nilIface) rfl;clear h hr;go_enter Tryz.func9,Tryz.ntmps9;go_wp2_with fail;go_quiet (fail);go_wp2_with fail;go_ret2;exact⟨rfl,av (Zd _ _) _⟩
theorem lU (h:jw B w g [] (some j) bs)(hP:cW w)(hG:co w aU aE)(tx:Tx j)(sz:Sz j)(hx:(JV.txt j).length<=140737488355328):Calls Tryz.prog 9 #[.pointer (some ⟨g,0,none⟩)] w (BX (JV.txt j) w):=by
 obtain⟨A,c,dv,us,h⟩:=h;obtain⟨rfl,rfl⟩:=h.empty;have hr:=h.row;have hd:VW (Pb B []) w dv j:=h.done;have H1:=Qa (fc hd hP hG tx sz hx);obtain⟨t,x,rfl⟩:=hd.iface;have c0:=aa hr (j:=0) (u:=.slice A 0 c) rfl;have c1:=aa hr (j:=1) (u:=.iface t x) rfl;generalize JV.txt j=tl at *;clear h hr hd hP hG tx sz hx;go_enter Tryz.func9,Tryz.ntmps9;go_wp2_with fail;(with_reducible refine H1.out.mono ?_);rintro e w1 ⟨u,rfl,ho,a0⟩;obtain⟨A2,q,rfl,-⟩:=ag ho;have a1:=Qa a0;have Ho:=Qa ho;clear ho a0;go_wp2_with fail;go_ret2;exact⟨_,rfl,Ho.out,a1.out⟩
end
section
variable {B g:Nat}{w:World}{bs:List Nat}{fs:List Fr}{its:List JV}{ms:List (ByteArray×JV)}
theorem ce.freshW {xs:List Value}(h:ce (w.heap.size<= ·) w' e k A n c xs)(hB:B<=w.heap.size)(a0:∀g∈bs,g<w.heap.size):ce (Pb B bs) w' e k A n c xs:=
 h.stay fun g o hp hg _ _=>⟨⟨Zb hB hp,fun hb=>by have:=a0 g hb;omega⟩,hg⟩
theorem wh (h:jw B w g (⟨false,its, [],none⟩::fs) none bs)(ht:yr fs none=true)(hB:B<=w.heap.size)(hl:fs.length<1000000000)(hi:∀f∈fs,Es f)(hn:its.length<=1000000000) :
  Calls Tryz.prog 19 #[.pointer (some ⟨g,0,none⟩)] w fun e w'=>Gd B g (bX fs (cR its)).frs (bX fs (cR its)).done w e w':=by
 obtain⟨A,c,dv,us,hA⟩:=h;obtain⟨u,m,us,rfl,hw,d1⟩:=hA.innermost;have hin:=Qa (hA.in_top hl);have HA:=Qa hA;have HB:=Qa hB;have hlt:=hA.lt
 cases hw with
 |row gt At ct xs its h1 h2 h3 h4=>
 have c4:xs.length=its.length:=h4.1;have HE:=Qa (fun k=>vX (w:=w.drewN k) (K:=fun gl w1=>Below w.heap.size w w1/\VW (Pb B bs) w1 (.iface 52 (.pointer (some ⟨gl,0,none⟩))) (cR its)) h2 ((i1 (w:=w.drewN k) (Sl.of_own h3) (fun v hv=>by
   obtain⟨i,hi,rfl⟩:=List.getElem_of_mem hv;exact(h4.2 i xs[i] (its[i]'(by omega)) (Zc hi) (Zc _)).iface) (by omega)).mono (by
  rintro e w1 ⟨gl,A1,c1,rfl,c6,a9,c8,c9⟩;have hb:Below w.heap.size w w1:=(av (Zd _ _) k).trans c6;have a9:w.heap.size<=gl:=a9;exact⟨gl,rfl,hb,p9 c8 (c9.freshW hB hlt) ⟨Zb hB a9,fun hk=>by have:=hlt gl hk;omega⟩ (h4.mono fun _ _ h=>h.later hb)⟩)))
 have Ht:=Qa ht;have Hi:=Qa hi;have Hl:=Qa hl;obtain⟨n,a6⟩:∃n,us.length=n:=⟨_,rfl⟩;have d2:n<1000000000:=by omega
 have c7:n+1<=c:=by
  obtain⟨_,_,e,hc,_⟩:=ag hA.own;obtain⟨-,-,rfl⟩:=Value.slice.inj e;rw[List.length_cons,a6] at hc;exact hc
 obtain⟨go,c5⟩:∃go,A=some ⟨go,0,none⟩:=by
  obtain⟨_,_,e,_,_,hA⟩:=ag hA.own;obtain⟨rfl,-,-⟩:=Value.slice.inj e;exact hA (by simp)
 subst c5;have b0:=Qa a6;clear hA ht hB hi hn h1 h2 h3 h4 hlt c4 d1 a6 hl;go_enter Tryz.func19,Tryz.ntmps19;go_wp2_with fail;(with_reducible refine hin.out.mono ?_);rintro e w1 ⟨rfl,k,rfl⟩;have b6:=Qa (HE.out k);go_wp2_with fail;(with_reducible refine b6.out.mono ?_);rintro e w2 ⟨gl,rfl,w3,m3,⟨c2,b9⟩,rfl⟩;have a4:Below w.heap.size w (w3.drewN m3):=av c2 m3;have Hv:=Qa (b9.drewN m3);obtain⟨w4,b5⟩:∃w4,w3.drewN m3=w4:=⟨_,rfl⟩;rw[b5] at a4 Hv ⊢;have b4:=Qa a4;have a3:=Qa (HA.out.below a4);clear c2 b9 b5 a4 HE b6;have a1:=a3.out.row;rw[List.length_cons,b0.out] at a1;have c0:=aa a1 (j:=0) (u:=.slice (some ⟨go,0,none⟩) (n+1) c) rfl;have s1:IntKind.i64.wrap ((n:Int)+1 - 1)=n:=by rw[IntWalk.i64_in _ (by omega)];omega
 have s2:IntKind.i64.wrap (n:Int)=n:=IntWalk.i64_in _ (by omega);have s3:(((n+1:Nat):Int))= (n:Int)+1:=by omega
 have s4:(n:Int)<=c:=by omega
 have c0d:w4.drew.cell? ⟨g,0,none⟩=some (.slice (some ⟨go,0,none⟩) (n+1) c):=c0;have f0d:w4.drew.frozen? ⟨g,0,none⟩=false:=aj a1 0;clear a1 c0;go_wp2_with fail;refine cP (fun w'=>w'.cell? ⟨g,0,none⟩=some (.slice (some ⟨go,0,none⟩) (n+1) c)) 14 (c0d) fun a0=>?_
 refine tZ 0 a0 ?_;refine tZ 1 a0 ?_;refine tZ 2 a0 ?_;refine tZ 3 a0 ?_;refine tZ 4 a0 ?_;refine tZ 5 a0 ?_
 try simp only[Act.put,jP,jQ,jR]
 refine tZ 6 a0 ?_;refine tZ 7 a0 ?_;refine tZ 8 a0 ?_;refine tZ 9 a0 ?_;refine tZ 10 a0 ?_;refine tZ 11 a0 ?_
 try simp only[Act.put,jP,jQ,jR]
 refine rZ 12 fun K hK=>?_
 go_simp;refine hK.out _ _ (fun _=>a0) (fun a0=>?_);clear hK K;have a0:=a0 (by decide)
 try simp only[Act.put,jP,jQ,jR]
 refine tZ 13 a0 ?_
 try simp only[Act.put,jP,jQ,jR]
 refine rZ 14 fun K hK=>?_
 go_simp;refine hK.out _ _ (fun h=>absurd rfl h) (fun _=>?_);clear hK K
 try simp only[Act.put,jP,jQ,jR]
 refine aV (by kernel_rfl) (NoPanic.normal ?_) _;obtain⟨w5,a5⟩:∃w5,(w4.setCell ⟨g,0,none⟩ (.slice (some ⟨go,0,none⟩) n c)).drew=w5:=⟨_,rfl⟩;have b1:jI B w4.drew g _ none _ c dv _ bs:=a3.out.below (Zd _ _).drew;have a2:=b1.pop;rw[b0.out] at a2;have a2:jI B w5 g fs none (some ⟨go,0,none⟩) c dv us (us.flatMap fun u=>dk u.2):=by rw[<-a5];exact a2
 have a7:a8 (fun k=>k=g) w4 w5:=by rw[<-a5];exact(a8.of_below (Zd _ _).drew).trans (a8.set g 0 (.slice (some ⟨go,0,none⟩) n c)) fun i h=>.inl h
 have hm:Mw [] w4 w5:=Mw.of_chg a7 fun k hk _=>.inr (by subst hk;exact⟨_,_,_,a3.out.row,fi⟩)
 have b2:=Hv.out.move (bs':=us.flatMap fun u=>dk u.2) hm.mv (by simp) (fun k hk=>.inl (by rw[<-a3.out.blocks];exact List.mem_append_right _ hk));have b7:=Qa ((mi.new b4.out HB.out).trans (.chg a7 (Zb HB.out b4.out.size) fun i e=>by subst e;exact⟨a3.out.low,_,_,_,a3.out.row,.inr (.inl rfl)⟩));have b3:=iG ⟨_,_,_,_,a2⟩ Ht.out b2 (Zb HB.out b7.out.b.size) (by have:=Hl.out;omega) Hi.out;rw[a5];have c3:=Qa b3;clear b1 a7 hm b2 b3 a5 c0d f0d a0;go_wp2_with fail;(with_reducible refine c3.out.mono ?_);rintro e w6 ⟨rfl,b8,bs',hs⟩;have d0:=Qa b8;have Hs:=Qa hs;clear b8 hs;go_wp2_with fail;go_ret;exact⟨rfl,b7.out.trans d0.out,bs',Hs.out⟩
theorem ky (h:jw B w g (⟨true, [],ms,none⟩::fs) none bs)(ht:yr fs none=true)(hB:B<=w.heap.size)(hl:fs.length<1000000000)(hi:∀f∈fs,Es f)(hn:ms.length<=1000000000)(b5:∀s∈ms.map Prod.fst,jr s)(c5:(ms.map Prod.fst).Nodup) :
  Calls Tryz.prog 19 #[.pointer (some ⟨g,0,none⟩)] w fun e w'=>Gd B g (bX fs (kq (fp ms))).frs (bX fs (kq (fp ms))).done w e w':=by
 obtain⟨A,c,dv,us,hA⟩:=h;obtain⟨u,m,us,rfl,hw,d4⟩:=hA.innermost;have hin:=Qa (hA.in_top hl);have HA:=Qa hA;have HB:=Qa hB;have hlt:=hA.lt
 cases hw with
 |table gt At ct L ms s0 nm h1 h2 h3 h4 h5 h6=>
 have c7:L.length=ms.length:=by have:=congrArg List.length h4;simpa using this
 have HE:=Qa (fun k=>qJ (w:=w.drewN k) (K:=fun gl w1=>Below w.heap.size w w1/\VW (Pb B bs) w1 (.iface 124 (.pointer (some ⟨gl,0,none⟩))) (kq (fp ms))) h2 rfl ((gc (w:=w.drewN k) (yO.of_own h3) (fun p hp=>by
   obtain⟨i,hi,rfl⟩:=List.getElem_of_mem hp;exact⟨b5 _ (by rw[<-h4];exact List.mem_map.2 ⟨_,List.getElem_mem hi,rfl⟩),(h5.2 i L[i].2 ((ms[i]'(by omega)).2) (by rw[List.getElem?_map,Zc hi];rfl) (by rw[List.getElem?_map,Zc (by omega)];rfl)).iface⟩) (by rw[h4];exact c5) (by omega)).mono (by
  rintro e w1 ⟨gl,A1,c1,S,rfl,c9,a9,d1,d2,hp,hs⟩;have hb:Below w.heap.size w w1:=(av (Zd _ _) k).trans c9;have a9:w.heap.size<=gl:=a9;have c4:S.length=L.length:=hp.length_eq;exact⟨gl,rfl,hb,vD (by rw[c4];exact d1) (by rw[c4];exact d2.freshW hB hlt) ⟨Zb hB a9,fun hk=>by have:=hlt gl hk;omega⟩ hp hs h4 (h5.mono fun _ _ h=>h.later hb)⟩)))
 have Ht:=Qa ht;have Hi:=Qa hi;have Hl:=Qa hl;obtain⟨n,a6⟩:∃n,us.length=n:=⟨_,rfl⟩;have d5:n<1000000000:=by omega
 have d0:n+1<=c:=by
  obtain⟨_,_,e,hc,_⟩:=ag hA.own;obtain⟨-,-,rfl⟩:=Value.slice.inj e;rw[List.length_cons,a6] at hc;exact hc
 obtain⟨go,c8⟩:∃go,A=some ⟨go,0,none⟩:=by
  obtain⟨_,_,e,_,_,hA⟩:=ag hA.own;obtain⟨rfl,-,-⟩:=Value.slice.inj e;exact hA (by simp)
 subst c8;have b0:=Qa a6;clear hA ht hB hi hn h1 h2 h3 h4 h5 h6 b5 c5 hlt c7 d4 a6 hl;go_enter Tryz.func19,Tryz.ntmps19;go_wp2_with fail;(with_reducible refine hin.out.mono ?_);rintro e w1 ⟨rfl,k,rfl⟩;have b7:=Qa (HE.out k);go_wp2_with fail;(with_reducible refine b7.out.mono ?_);rintro e w2 ⟨gl,rfl,w3,m3,⟨c3,c2⟩,rfl⟩;have a4:Below w.heap.size w (w3.drewN m3):=av c3 m3;have Hv:=Qa (c2.drewN m3);obtain⟨w4,b6⟩:∃w4,w3.drewN m3=w4:=⟨_,rfl⟩;rw[b6] at a4 Hv ⊢;have b4:=Qa a4;have a3:=Qa (HA.out.below a4);clear c3 c2 b6 a4 HE b7;have a1:=a3.out.row;rw[List.length_cons,b0.out] at a1;have c0:=aa a1 (j:=0) (u:=.slice (some ⟨go,0,none⟩) (n+1) c) rfl;have s1:IntKind.i64.wrap ((n:Int)+1 - 1)=n:=by rw[IntWalk.i64_in _ (by omega)];omega
 have s2:IntKind.i64.wrap (n:Int)=n:=IntWalk.i64_in _ (by omega);have s3:(((n+1:Nat):Int))= (n:Int)+1:=by omega
 have s4:(n:Int)<=c:=by omega
 have c0d:w4.drew.cell? ⟨g,0,none⟩=some (.slice (some ⟨go,0,none⟩) (n+1) c):=c0;have f0d:w4.drew.frozen? ⟨g,0,none⟩=false:=aj a1 0;clear a1 c0;go_wp2_with fail;refine cP (fun w'=>w'.cell? ⟨g,0,none⟩=some (.slice (some ⟨go,0,none⟩) (n+1) c)) 14 (c0d) fun a0=>?_
 refine tZ 0 a0 ?_;refine tZ 1 a0 ?_;refine tZ 2 a0 ?_;refine tZ 3 a0 ?_;refine tZ 4 a0 ?_;refine tZ 5 a0 ?_
 try simp only[Act.put,jP,jQ,jR]
 refine tZ 6 a0 ?_;refine tZ 7 a0 ?_;refine tZ 8 a0 ?_;refine tZ 9 a0 ?_;refine tZ 10 a0 ?_;refine tZ 11 a0 ?_
 try simp only[Act.put,jP,jQ,jR]
 refine rZ 12 fun K hK=>?_
 go_simp;refine hK.out _ _ (fun _=>a0) (fun a0=>?_);clear hK K;have a0:=a0 (by decide)
 try simp only[Act.put,jP,jQ,jR]
 refine tZ 13 a0 ?_
 try simp only[Act.put,jP,jQ,jR]
 refine rZ 14 fun K hK=>?_
 go_simp;refine hK.out _ _ (fun h=>absurd rfl h) (fun _=>?_);clear hK K
 try simp only[Act.put,jP,jQ,jR]
 refine aV (by kernel_rfl) (NoPanic.normal ?_) _;obtain⟨w5,a5⟩:∃w5,(w4.setCell ⟨g,0,none⟩ (.slice (some ⟨go,0,none⟩) n c)).drew=w5:=⟨_,rfl⟩;have b1:jI B w4.drew g _ none _ c dv _ bs:=a3.out.below (Zd _ _).drew;have a2:=b1.pop;rw[b0.out] at a2;have a2:jI B w5 g fs none (some ⟨go,0,none⟩) c dv us (us.flatMap fun u=>dk u.2):=by rw[<-a5];exact a2
 have a7:a8 (fun k=>k=g) w4 w5:=by rw[<-a5];exact(a8.of_below (Zd _ _).drew).trans (a8.set g 0 (.slice (some ⟨go,0,none⟩) n c)) fun i h=>.inl h
 have hm:Mw [] w4 w5:=Mw.of_chg a7 fun k hk _=>.inr (by subst hk;exact⟨_,_,_,a3.out.row,fi⟩)
 have b2:=Hv.out.move (bs':=us.flatMap fun u=>dk u.2) hm.mv (by simp) (fun k hk=>.inl (by rw[<-a3.out.blocks];exact List.mem_append_right _ hk));have b8:=Qa ((mi.new b4.out HB.out).trans (.chg a7 (Zb HB.out b4.out.size) fun i e=>by subst e;exact⟨a3.out.low,_,_,_,a3.out.row,.inr (.inl rfl)⟩));have b3:=iG ⟨_,_,_,_,a2⟩ Ht.out b2 (Zb HB.out b8.out.b.size) (by have:=Hl.out;omega) Hi.out;rw[a5];have c6:=Qa b3;clear b1 a7 hm b2 b3 a5 c0d f0d a0;go_wp2_with fail;(with_reducible refine c6.out.mono ?_);rintro e w6 ⟨rfl,b9,bs',hs⟩;have d3:=Qa b9;have Hs:=Qa hs;clear b9 hs;go_wp2_with fail;go_ret;exact⟨rfl,b8.out.trans d3.out,bs',Hs.out⟩
end
def EL (B g:Nat)(C:de)(w:World)(e:Ending)(w':World):Prop:=e =.returned (.bool true)/\mi B w w'/\∃bs',jw B w' g C.frs C.done bs'
theorem VW.pb (h:VW (w.heap.size<= ·) w' u j)(hB:B<=w.heap.size)(a0:∀b∈bs,b<w.heap.size):VW (Pb B bs) w' u j:=
 h.imp fun g hg _=>⟨Zb hB hg,fun hm=>Nat.lt_irrefl _ (Nat.lt_of_lt_of_le (a0 g hm) hg)⟩
theorem fX {T:ByteArray->Prop}{k:Int}{t:Bool}{x:ByteArray}(hf:dA w 0 (.slice (some ⟨gt,0,none⟩) j0.size cap) (j0.flat 0))(hs:eo j0 0 a (.mk k t x d [] []))(b7:j0.size<=1000000)(hc:fa w gt a k t x d (.slice An 0 cn) (.slice Ak 0 ck))(a3:cI w 0 (.slice An 0 cn) [])(b9:(k !=5)=true)(d0:(k !=6)=true)(a7:Ok True T (.mk k t x d [] []))(tx:Tx (.mk k t x d [] []))(sz:Sz (.mk k t x d [] []))(hx:(JV.txt (.mk k t x d [] [])).length<=140737488355328)
  (hW:jw B w g frs none bs) (ht:yr frs none=true) (hP:cW w) (hG:co w aU aE) (hB:B<=w.heap.size) (hl:frs.length<=1000000000) (hi:∀f∈frs,Es f) :
  Calls Tryz.prog 8 #[.pointer (some ⟨g,0,none⟩),.slice (some ⟨gt,0,none⟩) j0.size cap,.int .i64 (a:Int),.slice Ah nh ch] w fun e w'=>EL B g (bX frs (.mk k t x d [] [])) w e w':=by
 have c0:=hc 0 _ rfl;rw[Nat.add_zero] at c0;have c1:=hc 1 _ rfl;have c2:=hc 2 _ rfl;have c3:=hc 3 _ rfl;have c4:=hc 4 _ rfl;have c5:=hc 5 _ rfl;have c6:=hc 6 _ rfl;have c7:=hc 7 _ rfl;have hz:(JV.mk k t x d [] []).size=1:=by simp[JV.size,JV.sizes]
 have b8:=hs.bd;rw[hz] at b8;have c9:(a:Int)<j0.size:=by omega
 have a5:=ac w (.cells #[.int .i64 k,.bool t,.string x,.bool d.neg,.string d.digits,.int .i64 d.exp,.slice An 0 cn,.slice Ak 0 ck] 69);have HS:=Qa (fun w1 (hb:Below w.heap.size w w1)=>Bq (hf.below hb (Za _)) hs b7 (fun j u hu=>Zf hb (hc j u hu)) (a3.below hb (Za _)));have HM:=Qa (fun w1 v (h:dA w1 0 v [⟨k,t,x,d, [], []⟩])=>ux (j:=.mk k t x d [] []) (by simpa [JV.flat,aP,JV.flats] using h) (by rw[hz];omega) a7);have a4:=Qa (fun w1 u (hb:Below w.heap.size w w1) (hv:VW (Pb B bs) w1 u (.mk k t x d [] []))=>tX (hW.below hb) ht hv (hP.below hb) (hG.below hb) tx sz hx (Zb hB hb.size) hl hi);have a0:=Qa a5;have HW:=Qa (And.intro hB (And.intro (fun b hb=>hW.lt b hb) (fun (w1:World) (hb:Below w.heap.size w w1)=>mi.new hb hB)));clear hf hs hc a3 a7 tx sz hx hW ht hP hG hB hl hi a5;have a2:=Qa (HS.out _ a0.out);go_enter Tryz.func8,Tryz.ntmps8;go_wp2_with fail;obtain⟨w1,b6⟩:∃w1,w.alloc (.cells #[.int .i64 k,.bool t,.string x,.bool d.neg,.string d.digits,.int .i64 d.exp,.slice An 0 cn,.slice Ak 0 ck] 69)=w1:=⟨_,rfl⟩;rw[b6] at a0 a2 ⊢;clear b6 c0 c1 c2 c3 c4 c5 c6 c7 HS;(with_reducible refine a2.out.mono ?_);rintro e w2 ⟨v2,rfl,b2,b3⟩;have b1:=Qa (HM.out w2 v2 b3);have a1:=Qa (a0.out.trans (b2.mono a0.out.size));clear b2 b3 HM a2;go_wp2_with fail;(with_reducible refine b1.out.mono ?_);rintro e w3 ⟨u,rfl,b5,hu⟩;have a9:=Qa (a1.out.trans (b5.mono a1.out.size));have a6:=Qa (a4.out w3 u a9.out (hu.imp fun q hq _=>⟨Zb (Zb HW.out.1 a1.out.size) hq,fun hm=>by have h1:=HW.out.2.1 q hm;have h2:=a1.out.size;have c8:w2.heap.size<=q:=hq;omega⟩));obtain⟨tv,xv,rfl⟩:=hu.iface;clear b5 hu b1 a4;go_wp2_with fail;(with_reducible refine a6.out.mono ?_);rintro e w4 ⟨rfl,b0,bs4,b4⟩;have H4:=Qa (And.intro b0 b4);clear b0 b4 a6;go_wp2_with fail;go_ret;exact⟨rfl,(HW.out.2.2 _ a9.out).trans H4.out.1,bs4,H4.out.2⟩
theorem eM:¬TW 69:=by rintro(((h|h|h|h)|h|h)|h|h) <;> exact absurd h (by decide)
theorem Bs.at (h:Bs w (.slice A n c) xs)(h0:0<xs.length):∃b o,A=some ⟨b,o,none⟩/\∀i,i<xs.length->w.cell? ⟨b,o+i,none⟩=some (.int .u8 (am xs i)):=by
 obtain⟨-,A',c',e,-,h3⟩:=h;obtain⟨rfl,-,-⟩:=Value.slice.inj e;exact h3 h0
def IL (B g:Nat)(frs:List Fr)(ks:List JV)(w2:World)(s14:Value)(wr:World):Prop:= ∃ (i:Nat) (bs:List Nat),s14 =.int .i64 i/\i<=ks.length/\mi B w2 wr/\jw B wr g (⟨false,ks.take i, [],none⟩::frs) none bs
theorem ur {t:Bool}{x:ByteArray}
  (hb:Below w0.heap.size w0 w) (d2:w0.heap.size<=B) (hB:B<=w.heap.size) (hc:fa w0 gt a 5 t x d (.slice An nn cn) (.slice Ak ks.length ck)) (hk:bQ w0 0 (.slice Ak ks.length ck) ps) (d4:ps.length=ks.length) (ha:a<N) (hN:N<=1000000) (hl:ks.length<=1000000) (hh:Bs w0 (.slice Ah nh ch) hs) (hS:w0.cell? ⟨3,0,none⟩=some (bl aS))
  (hW:jw B w g frs none bs) (ht:yr frs none=true) (c9:frs.length<1000000000) (hi:∀f∈frs,Es f)
  (a9:∀ (i:Nat) (u:JV) (p:Nat),ks[i]?=some u->ps[i]?=some p->∀ (w2:World) (b2:List Nat),Below w0.heap.size w0 w2->B<=w2.heap.size->jw B w2 g (⟨false,ks.take i, [],none⟩::frs) none b2->Calls Tryz.prog 8 #[.pointer (some ⟨g,0,none⟩),.slice (some ⟨gt,0,none⟩) N cap,.int .i64 (p:Int),.slice Ah nh ch] w2 fun e w'=>EL B g ⟨⟨false,ks.take i ++ [u], [],none⟩::frs,5,none⟩ w2 e w') :
  Calls Tryz.prog 8 #[.pointer (some ⟨g,0,none⟩),.slice (some ⟨gt,0,none⟩) N cap,.int .i64 (a:Int),.slice Ah nh ch] w fun e w'=>EL B g (bX frs (cR ks)) w e w':=by
 have c0:=Zf hb (hc 0 _ rfl);rw[Nat.add_zero] at c0;have c1:=Zf hb (hc 1 _ rfl);have c2:=Zf hb (hc 2 _ rfl);have c3:=Zf hb (hc 3 _ rfl);have c4:=Zf hb (hc 4 _ rfl);have c5:=Zf hb (hc 5 _ rfl);have c6:=Zf hb (hc 6 _ rfl);have c7:=Zf hb (hc 7 _ rfl);have g0:(a:Int)<N:=by omega
 have a1:=Qa (Ze w (.cells #[.int .i64 5,.bool t,.string x,.bool d.neg,.string d.digits,.int .i64 d.exp,.slice An nn cn,.slice Ak ks.length ck] 69));have a3:=ac w (.cells #[.int .i64 5,.bool t,.string x,.bool d.neg,.string d.digits,.int .i64 d.exp,.slice An nn cn,.slice Ak ks.length ck] 69);have Hb:=Qa (hb.trans (a3.mono hb.size));have b8:=Qa (Zb hB a3.size);have HX:=Qa (mi.new a3 hB);have d9:=Qa d2;have Hh:=Qa (hh.below (hb.trans (a3.mono hb.size)));obtain⟨hm,Ah',ch',eh,f2,-⟩:=id hh;obtain⟨rfl,rfl,rfl⟩:=Value.slice.inj eh;have HO:=Qa (zK (hW.below a3) ht (Zb hB a3.size) (by omega));have b3:=Qa (And.intro ht (And.intro c9 hi));have HS:=Qa hS;have Hk:=Qa hk;have e5:=Qa d4;have HH:=Qa a9;clear hc hk d4 d2 hB hh hS hW ht c9 hi a9 hb a3 hm f2 eh;go_enter Tryz.func8,Tryz.ntmps8;go_upto_if 44 with fail
 obtain⟨w1,d6⟩:∃w1,w.alloc (.cells #[.int .i64 5,.bool t,.string x,.bool d.neg,.string d.digits,.int .i64 d.exp,.slice An nn cn,.slice Ak ks.length ck] 69)=w1:=⟨_,rfl⟩;rw[d6] at a1 Hb b8 HX Hh HO ⊢;clear d6 c0 c1 c2 c3 c4 c5 c6 c7;go_cut [11] (fun s11 wx=>(∃X:Nat,X<=1000000/\s11 =.int .i64 X)/\w1=wx)
 case first=>
  by_cases h0:0<hs.length
  ·have e8:(0:Int)<hs.length:=by omega
   obtain⟨bh,oh,rfl,a2⟩:=Hh.out.at h0;have hq:a % hs.length<hs.length:=Nat.mod_lt _ h0;have cb:=a2 _ hq;have f9:=aB hs (a % hs.length);have f1:((a:Int).tmod hs.length)= ((a % hs.length:Nat):Int):=by rw[Int.ofNat_tmod]
   generalize a % hs.length=q at *;have f8:(q:Int)<hs.length:=by omega
   have hz:((hs.length:Int)==0)=false:=by simp only[beq_eq_false_iff_ne];omega
   clear a2;generalize am hs q=y at *;go_wp2_with fail;go_meet
   case rel=>exact⟨⟨y,by omega,by go_num⟩,rfl⟩
  ·have e8:¬ (0:Int)<hs.length:=by omega
   go_wp2_with fail;go_meet
   case rel=>exact⟨⟨a,by omega,rfl⟩,rfl⟩
 case rest=>
  obtain⟨⟨X,hX,rfl⟩,rfl⟩:=hcut;have c0:=aa a1.out (j:=0) (u:=.int .i64 5) rfl;go_wp2_with fail;(with_reducible refine HO.out.mono ?_);rintro e w2 ⟨rfl,a4,bs2,c8⟩;have f4:=Qa (HX.out.trans a4);have b4:=Qa (a4.keep.2 _ _ _ _ a1.out eM);have e7:=Qa (Hb.out.trans (a4.b.mono d9.out));have f6:=Qa (Zb b8.out a4.b.size);have Hs2:=Qa c8;clear a4 c8 HO c0 a1 Hb b8 HX;go_wp2_with fail
  go_loopw [14,15,16,17,18,19] (fun s14 _ _ _ _ _ wr=>IL B g frs ks w2 s14 wr) (fun v _ _ _ _ _ _=>ks.length - (intOf v).toNat)
  case atStart=>exact⟨0,bs2,rfl,Zj _,⟨Zd _ _,aG.refl _ _⟩,Hs2.out⟩
  case round=>
   obtain⟨i,bs3,rfl,hi,a7,e0⟩:=hrel;have b5:=a7.keep.2 _ _ _ _ b4.out eM;have c0:=aa b5 (j:=0) (u:=.int .i64 5) rfl;have c7:=aa b5 (j:=7) (u:=.slice Ak ks.length ck) rfl;have e2:=Qa a7;have a6:=Qa (e7.out.trans (a7.b.mono d9.out));have b0:=Qa (Zb f6.out a7.b.size);have b7:=Qa e0;have f0:=Qa (Zf a6.out HS.out);clear b5 a7 e0
   by_cases hlt:i<ks.length
   ·obtain⟨u,b6⟩:∃k,ks[i]?=some k:=⟨_,Zc hlt⟩;obtain⟨p,b1⟩:∃p,ps[i]?=some p:=⟨_,Zc (by rw[e5.out];exact hlt)⟩;have d5:=Qa (mc b7.out f0.out);have HK:=Qa (fun (w4:World) (h4:Below wr.heap.size wr w4)=>HH.out i u p b6 b1 w4 bs3 (a6.out.trans (h4.mono a6.out.size)) (Zb b0.out h4.size) (b7.out.below h4));have f3:=Qa b6;have b9:(i:Int)<ks.length:=by omega
    have f5:=Qa b1;clear b6 b1 HH;go_wp2_with fail;(with_reducible refine d5.out.mono ?_);rintro e w4 ⟨rfl,a0⟩;have d3:=Qa (HK.out w4 a0);have a5:=Hk.out.below (a6.out.trans (a0.mono a6.out.size)) (Za _);unfold bQ at a5;rw[e5.out] at a5;obtain⟨_,_,e,_,_,hA⟩:=ag a5;obtain⟨gk,rfl⟩:=hA (by omega);obtain⟨e1,-,-⟩:=Value.slice.inj e;subst e1;have ck0:=aD a5 rfl i (by omega);rw[List.getElem?_map,f5.out] at ck0;simp only[Option.map_some,df] at ck0;have d7:=Zf a0 c7;have d0:=Zf a0 c0;have H4:=Qa (e2.out.trans (mi.new a0 b0.out));clear a5 e hA a0 d5 HK c0 c7;go_wp2_with fail;(with_reducible refine d3.out.mono ?_);rintro e w5 ⟨rfl,d1,bs5,e3⟩;have H5:=Qa (H4.out.trans d1);have e6:=Qa e3;clear d1 e3 d3 ck0 d0 d7;go_wp2_with fail;refine⟨⟨i+1,bs5,by go_num,by omega,H5.out,?_⟩,by simp[intOf];omega⟩;rw[bU f3.out];exact e6.out
   ·obtain rfl:i=ks.length:=by omega
    have b9:¬ (ks.length:Int)<ks.length:=by omega
    have HC:=Qa (wh (by have:=b7.out;rw[List.take_length] at this;exact this) b3.out.1 b0.out b3.out.2.1 b3.out.2.2 (by omega));clear hlt HH;go_wp2_with fail;(with_reducible refine HC.out.mono ?_);rintro e w4 ⟨rfl,a0,bs4,e4⟩;have H4:=Qa (And.intro ((f4.out.trans e2.out).trans a0) e4);clear a0 e4 HC c0 c7;go_wp2_with fail;go_ret;exact⟨rfl,H4.out.1,bs4,H4.out.2⟩
