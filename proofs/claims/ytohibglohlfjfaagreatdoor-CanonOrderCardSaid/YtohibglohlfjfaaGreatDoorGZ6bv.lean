import Derived.Test.YtohibglohlfjfaaGreatDoorGZ6bu
import Derived.Lib.SmallJoins
set_option linter.unusedVariables false
set_option linter.unusedSimpArgs false
set_option maxHeartbeats 64000000
set_option maxRecDepth 100000
namespace Go.Proofs.YtohibglohlfjfaaGreatDoor
open Go.RowKit Go.Shelf
variable {d:Dc}{j:JV}{c g n:Nat}{A:Option Addr}{e:TypeId}{v:Value}{w w' w10 w8:World}
theorem DR (x:Value)(W:World):(Instr.typeAssert (.iface 87 x) 93 87 true).run Tryz.prog W =.ok (.tuple #[x,.bool true]) W:=by kernel_rfl
section
variable {B g:Nat}{w:World}{bs:List Nat}{fs:List Fr}{ms:List (ByteArray×JV)}{s:ByteArray}{a aU aE:Addr}
def II (B g:Nat)(fs:List Fr)(ms:List (ByteArray×JV))(s:ByteArray)(er:Value)(w:World)(e:Ending)(w':World):Prop:=(s∈ms.map Prod.fst/\e =.returned er/\Below w.heap.size w w')\/(s∉ms.map Prod.fst/\Jt B g (⟨true, [],ms,some s⟩::fs) none w e w')
theorem pB (h:uc B w g (⟨true, [],ms,none⟩::fs) none bs)(hs:du s)(hG:ce w aU aE)(hsz:s.size<=1000000000)(hT:w.cell? ⟨2,0,none⟩=some (bG a))(hB:B<=w.heap.size)(hl:fs.length<1000000000)(c1:ms.length<=1000000000) :
  Calls Tryz.prog 15 #[.pointer (some ⟨g,0,none⟩),.string s] w (II B g fs ms s (bG a) w):=by
 obtain⟨A,c,dv,us,hA⟩:=h;obtain⟨u,m,us,rfl,hw,-⟩:=hA.innermost;have hin:=Qa (hA.in_top hl);have HA:=Qa hA;have HB:=Qa hB;have HQ:=Qa (fun w1 (hw:Below w.heap.size w w1)=>p6 hs (hG.below hw) hsz);have HT:=Qa hT;clear hs hG hsz hA hT hB
 cases hw with
 |table gt At ct L ms s0 nm h1 h2 h3 h4 h5 h6=>
 have H1:=Qa h1;have H2:=Qa h2;have H3:=Qa h3;have H4:=Qa h4;have H5:=Qa h5;have c7:L.length<=1000000000:=by have:=congrArg List.length h4;simp at this;omega
 have hkt:=DR;clear h1 h2 h3 h4 h5 h6 c1;go_enter Tryz.func15,Tryz.ntmps15;go_wp2_with fail;refine Za hin ?_;rintro e w1 ⟨rfl,k,rfl⟩;obtain⟨wk,a1⟩:∃wk,w.drewN k=wk:=⟨_,rfl⟩;have a6:Below w.heap.size w wk:=by rw[<-a1];exact av (Ze _ _) k
 have c2:=aa (ai H2.out a6) (j:=2) (u:=.bool false) rfl;have a7:=Qa a6;rw[a1];clear a1 a6;have b4:=Qa (HQ.out wk a7.out);go_wp2_with fail;refine Za b4 ?_;rintro e w2 ⟨v,rfl,b0,a9⟩;have a4:=Qa (a7.out.trans (a9.mono a7.out.size));obtain⟨Aq,qq,rfl,-⟩:=ag b0;have c0:=aa (ai H2.out a4.out) (j:=0) (u:=.slice At L.length ct) rfl;clear b0 a9 c2;go_wp2_with fail
 go_loopg [10,39] L.length (fun k _ s39 wr=> ∃i:Nat,k+i=L.length/\s39 =.int .i64 i/\Below w2.heap.size w2 wr/\∀ (j:Nat) (p:ByteArray×Value),j<i->L[j]?=some p->p.1≠s)
 case atStart=>exact⟨0,rfl,rfl,Ze _ _,fun j p h=>by omega⟩
 case round=>
  obtain⟨i,hk,rfl,hb,b3⟩:=hrel;have Hb:=Qa (a4.out.trans (hb.mono a4.out.size));have b8:=Qa hb;have b1:=Qa b3;have Hk:=Qa hk;clear b3 hb hk c0
  by_cases hlt:i<L.length
  ·obtain⟨p,hp⟩:∃p,L[i]?=some p:=⟨_,Zd hlt⟩;obtain⟨gm,rfl,q0,q1⟩:=(vD.rm H3.out).2.below Hb.out i p hp;obtain⟨tv,xv,hx⟩:∃t x,p.2 =.iface t x:=by
    have b9:=H5.out.1;obtain⟨b,hb⟩:∃b,(ms.map Prod.snd)[i]?=some b:=⟨_,Zd (by rw[<-b9];simpa using hlt)⟩;exact(H5.out.2 i p.2 b (by rw[List.getElem?_map,hp];rfl) hb).iface
   rw[hx] at q1;have a5:(i:Int)<L.length:=by omega
   have Hp:=Qa hp
   by_cases he:p.1=s
   ·have b6:(p.1.toList==s.toList)=true:=by rw[he];simp
    have a3:=ac wr (.cells #[.string p.1,.iface tv xv] 97);have cT:=Zg (Hb.out.trans (a3.mono Hb.out.size)) HT.out;have c4:=Qa (Hb.out.trans (a3.mono Hb.out.size));have He:=Qa he;clear hp hx he a3;go_wp2_with fail;go_ret;exact .inl ⟨by rw[<-H4.out];exact List.mem_map.2 ⟨p,Zl Hp.out,He.out⟩,rfl,c4.out⟩
   ·have b6:(p.1.toList==s.toList)=false:=by rw[jg];simpa using he
    have He:=Qa he;clear hp hx he;go_wp2_with fail;go_roundg (L.length - (i+1))
    case measure=>have:=Hk.out;omega
    case rel=>
     refine⟨i+1,by omega,by go_num,bu b8.out (ac _ _),fun j q hj hq=>?_⟩
     by_cases e:j=i
     ·subst e;rw[Hp.out] at hq;rw[<-Zi hq];exact He.out
     ·exact b1.out j q (by omega) hq
  ·obtain rfl:i=L.length:=by have:=Hk.out;omega
   have a5:¬ (L.length:Int)<L.length:=by omega
   have hr:=ai H2.out Hb.out;have k1:=aa hr (j:=1) (u:=.string s0) rfl;have f1:=ak hr 1;have a0:=au hr 1 (.string s);have k2:=aa a0 (j:=2) (u:=.bool false) rfl;have f2:=ak a0 2;have Hr:=Qa a0;have c6:=Qa hlt;clear hr a0 hlt;go_wp2_with fail;go_ret;have b5:=HA.out.below Hb.out;have hc:aZ (fun k=>k=gt) wr ((wr.setCell ⟨gt,1,none⟩ (.string s)).setCell ⟨gt,2,none⟩ (.bool true)):=(aZ.set gt 1 _).trans (aZ.set gt 2 _) fun i hi=>.inl hi
   have b2:vD wr B (.slice At L.length ct) L:=ao H3.out Hb.out (Zb _);have hne:=aK H3.out H2.out (by decide);have c5:s∉ms.map Prod.fst:=fun hm=>by
    rw[<-H4.out] at hm;obtain⟨p,hp,c3⟩:=List.mem_map.1 hm;obtain⟨j,hj,rfl⟩:=List.getElem_of_mem hp;exact b1.out j _ hj (Zd hj) c3
   obtain⟨bs',hs⟩:=b5.swap (m':=(gt,.slice At L.length ct)) (f':=⟨true, [],ms,some s⟩) hc (fun k hk=>by subst hk;simp[dD]) (fun k hk=>.inl hk) (by
     refine List.nodup_cons.2 ⟨fun hk=>hne (by simpa using hk),?_⟩
     cases (Value.slice At L.length ct).ownBlock <;> simp) (fun bs2 hm b7 a2=>.table gt At ct L ms s (some s) H1.out (au Hr.out 2 _) (bw b2 fun b hb=>hc.block b (ae (aj b2 hb).2.choose_spec) fun e=>hne (by rw[hb,e])) H4.out ((H5.out.mono fun _ _ h=>h.later Hb.out).mono fun _ _ h=>h.move hm.mv a2 b7) (fun t e=>Zi e))
   exact .inr ⟨c5,rfl,(wW.new Hb.out HB.out).trans (.chg hc (Zc HB.out Hb.out.size) fun i e=>by subst e;exact⟨H1.out,_,_,_,ai H2.out Hb.out,.inl (.inr (.inr rfl))⟩),bs',_,_,_,_,hs⟩
end
section
variable {B g:Nat}{w:World}{bs:List Nat}{frs:List Fr}{a aU aE:Addr}{v:Value}{j j0:JV}{P:Nat->Prop}
theorem B0 (h:uc B w g frs none bs)(ht:Iu frs none=true)(hv:VW (Pb B bs) w v j)(hP:cG w)(hG:ce w aU aE)(tx:Tx j)(sz:Sz j)(hx:(JV.txt j).length<=140737488355328)(hB:B<=w.heap.size)(hl:frs.length<=1000000000)(hi:∀f∈frs,JJ f) :
  Calls Tryz.prog 16 #[.pointer (some ⟨g,0,none⟩),v] w fun e w'=>Jt B g (cV frs j).frs (cV frs j).done w e w':=by
 have H1:=Qa (ji hv hP hG tx sz hx);have H2:=Qa (fun w1 (hw:Below w.heap.size w w1)=>nE (h.below hw) hl);have H3:=Qa (fun w1 (hw:Below w.heap.size w w1)=>lP (h.below hw) ht (hv.later hw) (Zc hB hw.size) hl hi);rw[ht] at H2;have HB:=Qa hB;generalize JV.txt j=tl at *;obtain⟨t,x,rfl⟩:=hv.iface;clear h ht hv hP hG tx sz hx hB hl hi;go_enter Tryz.func16,Tryz.ntmps16;go_wp2_with fail;refine Za H1 ?_;rintro e w1 ⟨u,rfl,ho,a0⟩;obtain⟨A,q,rfl,-⟩:=ag ho;have a3:=Qa a0;have a5:=Qa (H2.out w1 a0);clear ho a0;go_wp2_with fail;refine Za a5 ?_;rintro e w2 ⟨rfl,a2⟩;have a4:=Qa (a3.out.trans (a2.mono a3.out.size));have a6:=Qa (H3.out w2 a4.out);clear a2;go_wp2_with fail;refine Za a6 ?_;rintro e w3 ⟨rfl,a1,bs',hs⟩;have a7:=Qa a1;have Hs:=Qa hs;clear a1 hs;go_wp2_with fail;go_ret;exact⟨rfl,(wW.new a4.out HB.out).trans a7.out,bs',Hs.out⟩
theorem sZ (h:uc B w g [] (some j) bs)(hP:cG w)(hG:ce w aU aE)(tx:Tx j)(sz:Sz j)(hx:(JV.txt j).length<=140737488355328):Calls Tryz.prog 18 #[.pointer (some ⟨g,0,none⟩)] w (GG (JV.txt j) w):=by
 obtain⟨A,c,dv,us,h⟩:=h;obtain⟨rfl,rfl⟩:=h.empty;have hr:=h.row;have hd:VW (Pb B []) w dv j:=h.done;have H1:=Qa (ji hd hP hG tx sz hx);obtain⟨t,x,rfl⟩:=hd.iface;have c0:=aa hr (j:=0) (u:=.slice A 0 c) rfl;have c1:=aa hr (j:=1) (u:=.iface t x) rfl;generalize JV.txt j=tl at *;clear h hr hd hP hG tx sz hx;go_enter Tryz.func18,Tryz.ntmps18;go_wp2_with fail;refine Za H1 ?_;rintro e w1 ⟨u,rfl,ho,a0⟩;obtain⟨A2,q,rfl,-⟩:=ag ho;have a1:=Qa a0;have Ho:=Qa ho;clear ho a0;go_wp2_with fail;go_ret2;exact⟨_,rfl,Ho.out,a1.out⟩
end
section
variable {B g:Nat}{w:World}{bs:List Nat}{fs:List Fr}{its:List JV}{ms:List (ByteArray×JV)}
theorem cA.freshW {k:Nat}{xs:List Value}(h:cA (w.heap.size<= ·) w' e k A n c xs)(hB:B<=w.heap.size)(a0:∀g∈bs,g<w.heap.size):cA (Pb B bs) w' e k A n c xs:=
 h.stay fun g o hp hg _ _=>⟨⟨Zc hB hp,fun hb=>by have:=a0 g hb;omega⟩,hg⟩
theorem rO (h:uc B w g (⟨true, [],ms,none⟩::fs) none bs)(ht:Iu fs none=true)(hB:B<=w.heap.size)(hl:fs.length<1000000000)(hi:∀f∈fs,JJ f)(hn:ms.length<=1000000000)(c5:∀s∈ms.map Prod.fst,jB s)(b0:(ms.map Prod.fst).Nodup) :
  Calls Tryz.prog 17 #[.pointer (some ⟨g,0,none⟩)] w fun e w'=>Jt B g (cV fs (mn (fU ms))).frs (cV fs (mn (fU ms))).done w e w':=by
 obtain⟨A,c,dv,us,hA⟩:=h;obtain⟨u,m,us,rfl,hw,d1⟩:=hA.innermost;have hin:=Qa (hA.in_top hl);have HA:=Qa hA;have HB:=Qa hB;have hlt:=hA.lt
 cases hw with
 |table gt At ct L ms s0 nm h1 h2 h3 h4 h5 h6=>
 have c6:L.length=ms.length:=by have:=congrArg List.length h4;simpa using this
 have HE:=Qa (fun k=>qU (w:=w.drewN k) (K:=fun gl w1=>Below w.heap.size w w1/\VW (Pb B bs) w1 (.iface 116 (.pointer (some ⟨gl,0,none⟩))) (mn (fU ms))) h2 rfl ((gd (w:=w.drewN k) (yX.of_own h3) (fun p hp=>by
   obtain⟨i,hi,rfl⟩:=List.getElem_of_mem hp;exact⟨c5 _ (by rw[<-h4];exact List.mem_map.2 ⟨_,List.getElem_mem hi,rfl⟩),(h5.2 i L[i].2 ((ms[i]'(by omega)).2) (by rw[List.getElem?_map,Zd hi];rfl) (by rw[List.getElem?_map,Zd (by omega)];rfl)).iface⟩) (by rw[h4];exact b0) (by omega)).mono (by
  rintro e w1 ⟨gl,A1,c1,S,rfl,c9,a6,d0,d3,hp,hs⟩;have hb:Below w.heap.size w w1:=(av (Ze _ _) k).trans c9;have a6:w.heap.size<=gl:=a6;have b9:S.length=L.length:=hp.length_eq;exact⟨gl,rfl,hb,wR (by rw[b9];exact d0) (by rw[b9];exact d3.freshW hB hlt) ⟨Zc hB a6,fun hk=>by have:=hlt gl hk;omega⟩ hp hs h4 (h5.mono fun _ _ h=>h.later hb)⟩)))
 have Ht:=Qa ht;have Hi:=Qa hi;have Hl:=Qa hl;obtain⟨n,a7⟩:∃n,us.length=n:=⟨_,rfl⟩;have d5:n<1000000000:=by omega
 have c8:n+1<=c:=by
  obtain⟨_,_,e,hc,_⟩:=ag hA.own;obtain⟨-,-,rfl⟩:=Value.slice.inj e;rw[List.length_cons,a7] at hc;exact hc
 obtain⟨go,c7⟩:∃go,A=some ⟨go,0,none⟩:=by
  obtain⟨_,_,e,_,_,hA⟩:=ag hA.own;obtain⟨rfl,-,-⟩:=Value.slice.inj e;exact hA (by simp)
 subst c7;have c4:=Qa a7;clear hA ht hB hi hn h1 h2 h3 h4 h5 h6 c5 b0 hlt c6 d1 a7 hl;go_enter Tryz.func17,Tryz.ntmps17;go_wp2_with fail;refine Za hin ?_;rintro e w1 ⟨rfl,k,rfl⟩;have b6:=Qa (HE.out k);go_wp2_with fail;refine Za b6 ?_;rintro e w2 ⟨gl,rfl,w3,m3,⟨b1,c2⟩,rfl⟩;have a5:Below w.heap.size w (w3.drewN m3):=av b1 m3;have Hv:=Qa (c2.drewN m3);obtain⟨w4,b8⟩:∃w4,w3.drewN m3=w4:=⟨_,rfl⟩;rw[b8] at a5 Hv ⊢;have b5:=Qa a5;have a3:=Qa (HA.out.below a5);clear b1 c2 b8 a5 HE b6;have a1:=a3.out.row;rw[List.length_cons,c4.out] at a1;have c0:=aa a1 (j:=0) (u:=.slice (some ⟨go,0,none⟩) (n+1) c) rfl;have s1:IntKind.i64.wrap ((n:Int)+1 - 1)=n:=by rw[IntWalk.i64_in _ (by omega)];omega
 have s2:IntKind.i64.wrap (n:Int)=n:=IntWalk.i64_in _ (by omega);have s3:(((n+1:Nat):Int))= (n:Int)+1:=by omega
 have s4:(n:Int)<=c:=by omega
 have c0d:w4.drew.cell? ⟨g,0,none⟩=some (.slice (some ⟨go,0,none⟩) (n+1) c):=c0;have f0d:w4.drew.frozen? ⟨g,0,none⟩=false:=ak a1 0;clear a1 c0;go_wp2_with fail;refine cP (fun w'=>w'.cell? ⟨g,0,none⟩=some (.slice (some ⟨go,0,none⟩) (n+1) c)) 14 (c0d) fun a0=>?_
 refine tZ 0 a0 ?_;refine tZ 1 a0 ?_;refine tZ 2 a0 ?_;refine tZ 3 a0 ?_;refine tZ 4 a0 ?_;refine tZ 5 a0 ?_
 try simp only[Act.put,jP,jQ,jR]
 refine tZ 6 a0 ?_;refine tZ 7 a0 ?_;refine tZ 8 a0 ?_;refine tZ 9 a0 ?_;refine tZ 10 a0 ?_;refine tZ 11 a0 ?_
 try simp only[Act.put,jP,jQ,jR]
 refine rZ 12 fun K hK=>?_
 go_simp;refine hK.out _ _ (fun _=>a0) (fun a0=>?_);clear hK K;have a0:=a0 (by decide)
 try simp only[Act.put,jP,jQ,jR]
 refine tZ 13 a0 ?_
 try simp only[Act.put,jP,jQ,jR]
 refine rZ 14 fun K hK=>?_
 go_simp;refine hK.out _ _ (fun h=>absurd rfl h) (fun _=>?_);clear hK K
 try simp only[Act.put,jP,jQ,jR]
 refine aW (by kernel_rfl) (NoPanic.normal ?_) _;obtain⟨w5,a4⟩:∃w5,(w4.setCell ⟨g,0,none⟩ (.slice (some ⟨go,0,none⟩) n c)).drew=w5:=⟨_,rfl⟩;have b3:kn B w4.drew g _ none _ c dv _ bs:=a3.out.below (Ze _ _).drew;have a2:=b3.pop;rw[c4.out] at a2;have a2:kn B w5 g fs none (some ⟨go,0,none⟩) c dv us (us.flatMap fun u=>dD u.2):=by rw[<-a4];exact a2
 have a9:aZ (fun k=>k=g) w4 w5:=by rw[<-a4];exact(aZ.of_below (Ze _ _).drew).trans (aZ.set g 0 (.slice (some ⟨go,0,none⟩) n c)) fun i h=>.inl h
 have hm:Mw [] w4 w5:=Mw.of_chg a9 fun k hk _=>.inr (by subst hk;exact⟨_,_,_,a3.out.row,gS⟩)
 have b7:=Hv.out.move (bs':=us.flatMap fun u=>dD u.2) hm.mv (by simp) (fun k hk=>.inl (by rw[<-a3.out.blocks];exact List.mem_append_right _ hk));have b2:=Qa ((wW.new b5.out HB.out).trans (.chg a9 (Zc HB.out b5.out.size) fun i e=>by subst e;exact⟨a3.out.low,_,_,_,a3.out.row,.inr (.inl rfl)⟩));have b4:=lP ⟨_,_,_,_,a2⟩ Ht.out b7 (Zc HB.out b2.out.b.size) (by have:=Hl.out;omega) Hi.out;rw[a4];have d4:=Qa b4;clear b3 a9 hm b7 b4 a4 c0d f0d a0;go_wp2_with fail;refine Za d4 ?_;rintro e w6 ⟨rfl,c3,bs',hs⟩;have d2:=Qa c3;have Hs:=Qa hs;clear c3 hs;go_wp2_with fail;go_ret;exact⟨rfl,b2.out.trans d2.out,bs',Hs.out⟩
end
section
variable {B g c:Nat}{w:World}{bs:List Nat}{A:Option Addr}{dv u:Value}{f:Fr}{frs:List Fr}{us:List (Value×Nat×Value)}
theorem tI (h:uc B w g frs none bs)(ht:Iu frs none=true)(hB:B<=w.heap.size)(hl:frs.length<=1000000000):Calls Tryz.prog 14 #[.pointer (some ⟨g,0,none⟩),.int .u8 123] w (Jt B g (⟨true, [], [],none⟩::frs) none w):=by
 have HT:=Qa (nE h hl);rw[ht] at HT;have Hl:=Qa hl;have H:=Qa h;clear h ht hl;go_enter Tryz.func14,Tryz.ntmps14;go_wp2_with fail;refine Za HT ?_;rintro e w1 ⟨rfl,a1⟩;obtain⟨A,c,dv,us,hA⟩:=H.out.below a1;have a6:us.length=frs.length:=hA.frames.1;obtain⟨n,hn⟩:∃n,us.length=n:=⟨_,rfl⟩;have b2:n<=1000000000:=by have:=Hl.out;omega
 have hh:=hA.row;have ho:=hA.own;rw[hn] at hh ho;have c0:=aa hh (j:=0) (u:=.slice A n c) rfl;have a0:Below w1.heap.size w1 ((w1.alloc (.cells #[.slice none 0 0,.string ⟨#[]⟩,.bool false] 90)).alloc (.cells #[ES w1.heap.size] 93)):=((Ze _ _).alloc (Zb _) _).alloc (by simp) _;have a4:=Qa (ao ho a0 (Zb _));have b0:=Qa (ap (w1.alloc (.cells #[.slice none 0 0,.string ⟨#[]⟩,.bool false] 90)) [ES w1.heap.size] 93);have a3:=Qa (ai hh a0);have a9:=Qa (aK a4.out a3.out (by decide));have a2:=Qa ((Below.heap_alloc (w1.alloc (.cells #[.slice none 0 0,.string ⟨#[]⟩,.bool false] 90)) (.cells #[ES w1.heap.size] 93) w1.heap.size (by simp)).trans (Zf w1 (.cells #[.slice none 0 0,.string ⟨#[]⟩,.bool false] 90)));have HA:=Qa hA;have a7:=Qa a1;have a5:=Qa a0;have HB:=Qa (Zc hB a1.size);have b1:=Qa hB;have Hn:=Qa hn;clear hA a1 a0 hh ho a6 hn H hB;go_wp2_with (at_builtin;refine km It a4.out (by have:=b0.out;rw[World.size_alloc] at this;exact this) (Zc HB.out a5.out.size) ?_;intro v' w5 p1 p2 p3;obtain⟨A5,q5,rfl,-,-,-⟩:=ag p1;have g5:=aB a3.out p2 a9.out;have f5:=ak g5 0;have c5:=aa g5 (j:=0) (u:=.slice A n c) rfl;have HK:=Qa p1;have HG:=Qa p2;clear p1 p2 p3 g5);go_ret;obtain rfl:=Hn.out;obtain⟨r1,r2⟩:=HA.out.push (f:=⟨true, [], [],none⟩) HB.out a5.out (Zb _) (ae a2.out) HG.out HK.out (fun P w' e=>.table w1.heap.size none 0 [] [] ⟨#[]⟩ none HB.out (e.trans a2.out) ⟨rfl,.inl ⟨rfl,rfl⟩⟩ rfl (bo.nil _) (fun t e=>by cases e));exact⟨rfl,(wW.new a7.out b1.out).trans r1,_,_,_,_,_,r2⟩
end
structure xI (w:World):Prop where
 env:∃aU aE,qG w aU aE
 may:kB w
 pow:cG w
 eNil:br w 0
 eTwice:br w 2
 eHidden:br w 1
 eSyntax:br w 3
theorem xI.below (h:xI w)(hb:Below w.heap.size w w'):xI w':=by
 obtain⟨⟨aU,aE,h1⟩,h2,h3,h4,h5,h6,h7⟩:=h;exact⟨⟨aU,aE,h1.below hb⟩,h2.below hb,h3.below hb,h4.below hb,h5.below hb,h6.below hb,h7.below hb⟩
theorem qF (a:Addr)(W:World):(binOp .neq 40 (bG a) (bG a)).run Tryz.prog W =.ok (.bool false) W:=by
 obtain⟨i,hi,hc⟩:=Option.map_eq_some_iff.1 D4;obtain⟨j,hj,hs⟩:=Option.map_eq_some_iff.1 BY;simp only[binOp];simp[Op.equal,Op.maxDepth,run_equalIn_iface_ptr_same W 9998 a Tryz.underlying40 Tryz.underlying409 hi hc hj]
theorem i6 (w:World)(xs:List UInt8)(hm:xs.length<=9223372036854775807):Bs (w.alloc (.cells (gj xs).toArray 5 (xs.length,xs.length+1))) (.slice (some ⟨w.heap.size,0,none⟩) xs.length xs.length) xs:=rg xs hm (Zb _) (Zf w _)
theorem fS:CR ⟨false,⟨#[]⟩,0⟩:=⟨by decide,by decide,by decide⟩
theorem eP {k:Int}{t:Bool}{x:ByteArray}:x.size<=1000000000->d.digits.size<=1000000000->Sz (.mk k t x d [] []):=fun h1 h2=>.mk _ _ _ _ _ _ h1 h2 (by simp) (by simp)
theorem GT:Sz Iv:=by
 refine .mk _ _ _ _ _ _ (by decide) (by decide) (by simp;decide) (fun u hu=>?_);simp only[List.mem_cons,List.mem_nil_iff,or_false] at hu;rcases hu with rfl|rfl
 ·exact eP (by decide) (by decide)
 ·refine .mk _ _ _ _ _ _ (by decide) (by decide) (by simp) (fun u hu=>?_);simp only[List.mem_cons,List.mem_nil_iff,or_false] at hu;rcases hu with rfl|rfl <;> exact eP (by decide) (by decide)
theorem Ei:Tx (dJ [dW ⟨false,⟨#[49]⟩,0⟩,dW ⟨false,⟨#[50]⟩,0⟩]):=by
 refine .list _ fun u hu=>?_
 simp only[List.mem_cons,List.mem_nil_iff,or_false] at hu;rcases hu with rfl|rfl
 ·exact .num _ (.inr ⟨⟨by decide,by decide,by decide,by decide⟩,by decide,by decide⟩)
 ·exact .num _ (.inr ⟨⟨by decide,by decide,by decide,by decide⟩,by decide,by decide⟩)
theorem Df:Sz (dJ [dW ⟨false,⟨#[49]⟩,0⟩,dW ⟨false,⟨#[50]⟩,0⟩]):=by
 refine .mk _ _ _ _ _ _ (by decide) (by decide) (by simp) (fun u hu=>?_);simp only[List.mem_cons,List.mem_nil_iff,or_false] at hu;rcases hu with rfl|rfl <;> exact eP (by decide) (by decide)
def bS:ByteArray:=⟨#[98]⟩
theorem qN:du bS:=⟨[98],by decide,by decide⟩
def bJ:JV:=mn [(bS,fm true)]
theorem Db:bJ.txt = [123,34,98,34,58,116,114,117,101,125]:=by rfl
theorem IY:Tx bJ:=.obj [bS] [fm true] rfl (fun s hs=>by rw[List.mem_singleton.1 hs];exact qN) (List.pairwise_singleton _ _) (fun u hu=>by rw[List.mem_singleton.1 hu];exact .bool true)
theorem Jo:Sz bJ:=.mk _ _ _ _ _ _ (by decide) (by decide) (fun s hs=>by rw[List.mem_singleton.1 hs];decide) (fun u hu=>by rw[List.mem_singleton.1 hu];exact eP (by decide) (by decide))
theorem GQ (h:w'.heap[w.heap.size]?=some (.cells #[.slice none 0 0,.nilIface] 83 (0,0))):uc w.heap.size w' w.heap.size [] none []:=
 ⟨none,0,.nilIface, [],h,Zb _,⟨rfl,.inl ⟨rfl,rfl⟩⟩,bo.nil _,rfl,List.nodup_nil,rfl⟩
theorem mg {w12:World}{a:Addr}(h:w10.cell? ⟨g,0,none⟩=some (bG a))(h1:Below w8.heap.size w8 w10)(h2:Below w8.heap.size w8 w12)(he:br w8 g):w12.cell? ⟨g,0,none⟩=some (bG a):=by
 obtain⟨b,hb⟩:=he;have e:=Zg h1 hb;rw[h] at e;rw[Zi e];exact Zg h2 hb
theorem xD {a:Addr}(h:w10.cell? ⟨g,0,none⟩=some (bG a))(h1:Below w8.heap.size w8 w10)(he:br w8 g):w8.cell? ⟨g,0,none⟩=some (bG a):=mg h h1 (Ze _ _) he
def JE (w:World)(e:Ending)(w':World):Prop:=e =.returned (.bool true)/\Below w.heap.size w w'
theorem AH (hL:xI w):Calls Tryz.prog 4 #[] w (JE w):=by
 have b1:=ac w (.cells #[.int .u8 123,.int .u8 32,.int .u8 34,.int .u8 98,.int .u8 34,.int .u8 32,.int .u8 58,.int .u8 32,.int .u8 91,.int .u8 49,.int .u8 46,.int .u8 53,.int .u8 48,.int .u8 44,.int .u8 32,.int .u8 49,.int .u8 101,.int .u8 50,.int .u8 93,.int .u8 44,.int .u8 32,.int .u8 34,.int .u8 97,.int .u8 92,.int .u8 117,.int .u8 48,.int .u8 48,.int .u8 54,.int .u8 50,.int .u8 34,.int .u8 32,.int .u8 58,.int .u8 32,.int .u8 110,.int .u8 117,.int .u8 108,.int .u8 108,.int .u8 32,.int .u8 125] 5 (39,40));have g2:=Qa b1;have H1:=Qa (show Calls Tryz.prog 10 #[.slice (some ⟨w.heap.size,0,none⟩) 39 39] (w.alloc (.cells #[.int .u8 123,.int .u8 32,.int .u8 34,.int .u8 98,.int .u8 34,.int .u8 32,.int .u8 58,.int .u8 32,.int .u8 91,.int .u8 49,.int .u8 46,.int .u8 53,.int .u8 48,.int .u8 44,.int .u8 32,.int .u8 49,.int .u8 101,.int .u8 50,.int .u8 93,.int .u8 44,.int .u8 32,.int .u8 34,.int .u8 97,.int .u8 92,.int .u8 117,.int .u8 48,.int .u8 48,.int .u8 54,.int .u8 50,.int .u8 34,.int .u8 32,.int .u8 58,.int .u8 32,.int .u8 110,.int .u8 117,.int .u8 108,.int .u8 108,.int .u8 32,.int .u8 125] 5 (39,40))) _ from by
  obtain⟨⟨aU,aE,hE⟩,hM,hP,-⟩:=hL.below b1;exact vv (v:=.slice (some ⟨w.heap.size,0,none⟩) 39 39) (xs:=JC) (j:=Iv) hE hM hP (i6 w JC (by decide)) (by decide) (by decide) CA Ip GT (by rw[B8];decide))
 rw[B8] at H1;have HL:=Qa hL;clear hL b1;have q0:=fun (w:World) (C:Array Value) (n c:Nat)=>Lib.run_convert_bytes_const (P:=Tryz.prog) w 22 5 C n c Tryz.underlying22 Tryz.underlying5
 go_enter Tryz.func4,Tryz.ntmps4;go_wp2_with fail;refine Za H1 ?_;rintro e w1 ⟨u1,rfl,f9,g5⟩;have e5:=Qa (g2.out.trans (g5.mono g2.out.size));have a1:=Qa (aq.bs f9);obtain⟨A1,q1,rfl,-⟩:=ag f9;clear f9 g5 H1 g2;obtain⟨aN,hN⟩:=(HL.out.below e5.out).eNil;have HN:=Qa hN;have H2:=Qa (z7 hN);clear hN;go_wp2_with fail;refine Za H2 ?_;rintro e w2 ⟨rfl,f2⟩;have e6:=Qa (e5.out.trans (f2.mono e5.out.size));replace a1:=Qa (a1.out.below f2);replace HN:=Qa (Zg f2 HN.out);obtain⟨aH,hH⟩:=(HL.out.below e6.out).eHidden;have HH:=Qa hH;have H3:=Qa (yk hH);clear hH f2 H2 e5;go_wp2_with fail;refine Za H3 ?_;rintro e w3 ⟨rfl,c0⟩;have g3:=Qa (e6.out.trans (c0.mono e6.out.size));replace a1:=Qa (a1.out.below c0);replace HN:=Qa (Zg c0 HN.out);replace HH:=Qa (Zg c0 HH.out);clear c0 H3 e6;have g4:=ac w3 (.cells #[.int .u8 49] 5 (1,2));have f5:=ac (w3.alloc (.cells #[.int .u8 49] 5 (1,2))) (.cells #[.int .u8 49,.int .u8 46,.int .u8 48] 5 (3,4));have d2:=g4.trans (f5.mono g4.size);have a3:=Qa (g3.out.trans (d2.mono g3.out.size));have H4:=Qa (show Calls Tryz.prog 12 #[.slice (some ⟨w3.heap.size,0,none⟩) 1 1,.slice (some ⟨w3.heap.size+1,0,none⟩) 3 3] ((w3.alloc (.cells #[.int .u8 49] 5 (1,2))).alloc (.cells #[.int .u8 49,.int .u8 46,.int .u8 48] 5 (3,4))) _ from by
  obtain⟨⟨aU,aE,hE⟩,hM,hP,-⟩:=HL.out.below a3.out;have b2:=i6 (w3.alloc (.cells #[.int .u8 49] 5 (1,2))) [49,46,48] (by decide);rw[World.size_alloc] at b2;exact Cc (v:=.slice (some ⟨w3.heap.size,0,none⟩) 1 1) (v':=.slice (some ⟨w3.heap.size+1,0,none⟩) 3 3) (xs:= [49]) (xs':= [49,46,48]) (j:=dW ⟨false,⟨#[49]⟩,0⟩) (j':=dW ⟨false,⟨#[49]⟩,0⟩) hE hM hP ((i6 w3 [49] (by decide)).below f5) (by decide) (by decide) AC b2 (by decide) (by decide) wM)
 rw[cX.2 rfl] at H4;have q4:=Joins.run_convert_bytes_const_at (P:=Tryz.prog) (w3.alloc (.cells #[.int .u8 49] 5 (1,2))) 22 5 #[.int .u8 49,.int .u8 46,.int .u8 48] 3 3 (w3.heap.size+1) (by simp) Tryz.underlying22 Tryz.underlying5;replace a1:=Qa (a1.out.below d2);replace HN:=Qa (Zg d2 HN.out);replace HH:=Qa (Zg d2 HH.out);clear g4 f5 d2 g3;go_wp2_with fail;refine Za H4 ?_;rintro e w4 ⟨rfl,c4⟩;have e8:=Qa (a3.out.trans (c4.mono a3.out.size));replace a1:=Qa (a1.out.below c4);replace HN:=Qa (Zg c4 HN.out);replace HH:=Qa (Zg c4 HH.out);clear c4 H4 a3;have H5:=Qa (show Calls Tryz.prog 11 #[.iface 48 (.pointer none)] w4 _ from by
  obtain⟨⟨aU,aE,hE⟩,hM,hP,-⟩:=HL.out.below e8.out;exact ji (P:=fun _=>True) (j:=dJ []) .bare hP hE.glob (.list [] (by simp)) (eP (by decide) (by decide)) (by decide))
 rw[show(dJ []).txt = [91,93] from rfl] at H5;go_wp2_with fail;refine Za H5 ?_;rintro e w5 ⟨u5,rfl,g0,c9⟩;have f3:=Qa (e8.out.trans (c9.mono e8.out.size));replace a1:=Qa (a1.out.below c9);replace HN:=Qa (Zg c9 HN.out);replace HH:=Qa (Zg c9 HH.out);have a6:=Qa (aq.bs g0);obtain⟨A5,q5,rfl,-⟩:=ag g0;clear g0 c9 H5 e8;have C1:=Qa (show Calls Tryz.prog 7 #[.iface 49 (.agg #[]),.iface 50 (.bool false)] w5 _ from by
  obtain⟨⟨aU,aE,hE⟩,hM,hP,-⟩:=HL.out.below f3.out;exact fP (P:=fun _=>True) (Q:=fun _=>True) (a:=some jK) (b:=some (fm false)) .null (.bool false) hP hE.glob (fun j e=>by cases e;exact Tx.jb .null (eP (by decide) (by decide))) (fun j e=>by cases e;exact Tx.jb (.bool _) (eP (by decide) (by decide))))
 rw[show bY (some jK) (some (fm false)) = -1 from rfl] at C1;go_wp2_with fail;refine Za C1 ?_;rintro e w6 ⟨rfl,b5⟩;have f0:=Qa (f3.out.trans (b5.mono f3.out.size));replace a1:=Qa (a1.out.below b5);replace a6:=Qa (a6.out.below b5);replace HN:=Qa (Zg b5 HN.out);replace HH:=Qa (Zg b5 HH.out);clear b5 C1 f3;have C2:=Qa (show Calls Tryz.prog 7 #[.iface 51 (.string ⟨#[98]⟩),.iface 51 (.string ⟨#[97,98]⟩)] w6 _ from by
  obtain⟨⟨aU,aE,hE⟩,hM,hP,-⟩:=HL.out.below f0.out;exact fP (P:=fun _=>True) (Q:=fun _=>True) (a:=some (eQ ⟨#[98]⟩)) (b:=some (eQ ⟨#[97,98]⟩)) (.text _) (.text _) hP hE.glob (fun j e=>by cases e;exact .mk _ _ _ _ _ _ (by decide) fS (by simp) (by simp)) (fun j e=>by cases e;exact .mk _ _ _ _ _ _ (by decide) fS (by simp) (by simp)))
 rw[show bY (some (eQ ⟨#[98]⟩)) (some (eQ ⟨#[97,98]⟩))=1 from rfl] at C2;go_wp2_with fail;refine Za C2 ?_;rintro e w7 ⟨rfl,b7⟩;have e4:=Qa (f0.out.trans (b7.mono f0.out.size));replace a1:=Qa (a1.out.below b7);replace a6:=Qa (a6.out.below b7);replace HN:=Qa (Zg b7 HN.out);replace HH:=Qa (Zg b7 HH.out);clear b7 C2 f0;have C3:=Qa (show Calls Tryz.prog 7 #[.nilIface,.nilIface] w7 _ from by
  obtain⟨⟨aU,aE,hE⟩,hM,hP,-⟩:=HL.out.below e4.out;exact fP (P:=fun _=>True) (Q:=fun _=>True) (a:=none) (b:=none) rfl rfl hP hE.glob (fun j e=>by cases e) (fun j e=>by cases e))
 rw[show bY none none=0 from rfl] at C3;go_wp2_with fail;refine Za C3 ?_;rintro e w8 ⟨rfl,b4⟩;have a2:=Qa (e4.out.trans (b4.mono e4.out.size));replace a1:=Qa (a1.out.below b4);replace a6:=Qa (a6.out.below b4);replace HN:=Qa (Zg b4 HN.out);replace HH:=Qa (Zg b4 HH.out);clear b4 C3 e4;go_wp2_with fail;refine oX.mono ?_;rintro e w9 ⟨rfl,g6,g8⟩;have H9:=Qa g8;have g7:=Qa (GQ g6);clear g6 g8;have O1:=Qa (tI g7.out rfl H9.out.size (Zk _));go_wp2_with fail;refine Za O1 ?_;rintro e w10 ⟨rfl,d4,bs10,d5⟩;have b6:=Qa (H9.out.trans d4.b);have e1:=Qa d5;clear d4 d5 O1 g7 H9;obtain⟨aT,hT⟩:=(HL.out.below (a2.out.trans (b6.out.mono a2.out.size))).eTwice;have c1:=Qa hT;have N1:=Qa (show Calls Tryz.prog 15 #[.pointer (some ⟨w8.heap.size,0,none⟩),.string ⟨#[98]⟩] w10 _ from by
  obtain⟨⟨aU,aE,hE⟩,-⟩:=HL.out.below (a2.out.trans (b6.out.mono a2.out.size));exact pB e1.out qN hE.glob (by decide) hT b6.out.size (by decide) (by decide))
 clear hT;go_wp2_with fail;refine Za N1 ?_;rintro e w11 (⟨hx,-⟩|⟨-,rfl,d0,bs11,c7⟩)
 ·exact absurd hx (by simp)
 have f1:=Qa (b6.out.trans d0.b);have c8:=Qa c7;clear d0 c7 N1 e1;have P1:=Qa (show Calls Tryz.prog 16 #[.pointer (some ⟨w8.heap.size,0,none⟩),.iface 50 (.bool true)] w11 _ from by
  obtain⟨⟨aU,aE,hE⟩,hM,hP,-⟩:=HL.out.below (a2.out.trans (f1.out.mono a2.out.size));exact B0 c8.out rfl (.bool true) hP hE.glob (.bool true) (eP (by decide) (by decide)) (by decide) f1.out.size (by decide) (fun f hf=>by rw[List.mem_singleton.1 hf];exact⟨by decide,by decide⟩))
 go_wp2_with fail;refine Za P1 ?_;rintro e w12 ⟨rfl,c6,bs12,b9⟩;have b3:=Qa (f1.out.trans c6.b);have a5:=Qa (show uc w8.heap.size w12 w8.heap.size (⟨true, [], [(bS,fm true)],none⟩:: []) none bs12 from b9);clear c6 b9 P1 c8 f1;have N2:=Qa (show Calls Tryz.prog 15 #[.pointer (some ⟨w8.heap.size,0,none⟩),.string ⟨#[98]⟩] w12 _ from by
  obtain⟨⟨aU,aE,hE⟩,-⟩:=HL.out.below (a2.out.trans (b3.out.mono a2.out.size));exact pB (s:=⟨#[98]⟩) a5.out qN hE.glob (by decide) (mg c1.out b6.out b3.out (HL.out.below a2.out).eTwice) b3.out.size (by decide) (by decide))
 go_wp2_with fail;refine Za N2 ?_;rintro e w13 (⟨-,rfl,b0⟩|⟨hx,-⟩)
 case inr=>exact absurd (List.mem_singleton.2 rfl) hx
 have g1:=Qa (b3.out.trans (b0.mono b3.out.size));have c2:=Qa (a5.out.below b0);clear b0 N2 a5 b3;have K1:=Qa (rO c2.out rfl g1.out.size (by decide) (fun f hf=>by cases hf) (by decide) (fun s hs=>by rw[List.mem_singleton.1 hs];exact⟨qN,by decide⟩) (List.pairwise_singleton _ _));go_wp2_with fail;refine Za K1 ?_;rintro e w14 ⟨rfl,d3,bs14,d1⟩;have f4:=Qa (g1.out.trans d3.b);have f6:=Qa (show uc w8.heap.size w14 w8.heap.size [] (some bJ) bs14 from d1);clear d3 d1 K1 c2 g1;have B1:=Qa (show Calls Tryz.prog 18 #[.pointer (some ⟨w8.heap.size,0,none⟩)] w14 _ from by
  obtain⟨⟨aU,aE,hE⟩,hM,hP,-⟩:=HL.out.below (a2.out.trans (f4.out.mono a2.out.size));exact sZ f6.out hP hE.glob IY Jo (by rw[Db];decide))
 rw[Db] at B1;go_wp2_with fail;refine Za B1 ?_;rintro e w15 ⟨u15,rfl,a9,d9⟩;have a0:=f4.out.trans (d9.mono f4.out.size);have cN:=Zg a0 HN.out;have cH:=Zg a0 HH.out;have cT:=Zg a0 (xD c1.out b6.out (HL.out.below a2.out).eTwice);have s1:(convert 22 9 (.slice A1 27 q1)).run Tryz.prog w15 =.ok (.string ⟨#[123,34,97,98,34,58,110,117,108,108,44,34,98,34,58,91,49,53,101,45,49,44,49,101,50,93,125]⟩) w15:=aO (a1.out.below a0);have s5:(convert 22 9 (.slice A5 2 q5)).run Tryz.prog w15 =.ok (.string ⟨#[91,93]⟩) w15:=aO (a6.out.below a0);have e3:=aq.bs a9;have b8:=Qa (a2.out.trans (a0.mono a2.out.size));obtain⟨A15,q15,rfl,-⟩:=ag a9;have s15:(convert 22 9 (.slice A15 10 q15)).run Tryz.prog w15 =.ok (.string ⟨#[123,34,98,34,58,116,114,117,101,125]⟩) w15:=aO e3;have qe:=qF;have e2:=ac w15 (.cells #[.int .u8 91,.int .u8 49,.int .u8 44,.int .u8 50,.int .u8 93] 5 (5,6));have a7:=Qa (b8.out.trans (e2.mono b8.out.size));have I1:=Qa (show Calls Tryz.prog 19 #[.slice (some ⟨w15.heap.size,0,none⟩) 5 5] (w15.alloc (.cells #[.int .u8 91,.int .u8 49,.int .u8 44,.int .u8 50,.int .u8 93] 5 (5,6))) _ from by
  obtain⟨⟨aU,aE,hE⟩,hM,hP,-⟩:=HL.out.below a7.out;exact Da (v:=.slice (some ⟨w15.heap.size,0,none⟩) 5 5) (xs:= [91,49,44,50,93]) hE hM hP (i6 w15 [91,49,44,50,93] (by decide)) (by decide) (by decide) AL Ei Df (by rw[mN];decide))
 rw[mN,decide_eq_true rfl] at I1;clear a9 d9 a0 B1 e2 e3;go_wp2_with fail;refine Za I1 ?_;rintro e w17 ⟨rfl,d6⟩;have c3:=Qa (a7.out.trans (d6.mono a7.out.size));have c5:=ac w17 (.cells #[.int .u8 91,.int .u8 49,.int .u8 44,.int .u8 32,.int .u8 50,.int .u8 93] 5 (6,7));have a4:=Qa (c3.out.trans (c5.mono c3.out.size));have I2:=Qa (show Calls Tryz.prog 19 #[.slice (some ⟨w17.heap.size,0,none⟩) 6 6] (w17.alloc (.cells #[.int .u8 91,.int .u8 49,.int .u8 44,.int .u8 32,.int .u8 50,.int .u8 93] 5 (6,7))) _ from by
  obtain⟨⟨aU,aE,hE⟩,hM,hP,-⟩:=HL.out.below a4.out;exact Da (v:=.slice (some ⟨w17.heap.size,0,none⟩) 6 6) (xs:= [91,49,44,32,50,93]) hE hM hP (i6 w17 [91,49,44,32,50,93] (by decide)) (by decide) (by decide) AX Ei Df (by rw[mN];decide))
 rw[mN,decide_eq_false (by decide)] at I2;clear d6 c5 I1;go_wp2_with fail;refine Za I2 ?_;rintro e w19 ⟨rfl,e0⟩;have f8:=Qa (a4.out.trans (e0.mono a4.out.size));clear e0 I2;go_wp2_with fail;go_ret;exact⟨rfl,f8.out⟩
theorem wZ (hd:d.digits.size<=6000+1)(hn:up d):Tx (.mk 3 false es d [] [])/\Sz (.mk 3 false es d [] []):=⟨.num d (D5 hn),.mk _ _ _ _ _ _ (by decide) (by omega) (by simp) (by simp)⟩
theorem IU {b:Nat}(hb:b<=9223372036854775807)(g:Ok True (Et b) j):JB j:=by
 induction g with
 |null=>exact .mk _ _ _ _ _ _ (by decide) fS (by simp) (by simp)
 |bool b=>exact .mk _ _ _ _ _ _ (by decide) fS (by simp) (by simp)
 |num d hd hn=>exact(wZ hd hn).1.jb (wZ hd hn).2
 |text s hs=>exact .mk _ _ _ _ _ _ (by unfold Et at hs;omega) fS (by simp) (by simp)
 |hole e=>exact .mk _ _ _ _ _ _ (by decide) fS (by simp) (by simp)
 |list ks _ ih=>exact .mk _ _ _ _ _ _ (by decide) fS (by simp) ih
 |obj ns ks h1 h2 h3 _ ih=>exact .mk _ _ _ _ _ _ (by decide) fS (fun s hs=>by have:=(h2 s hs).2;omega) ih
theorem Jl {T:ByteArray->Prop}(g:Ok True T j):Vl j:=by
 induction g with
 |null=>exact .null
 |bool b=>exact .bool b
 |num d hd hn=>exact(wZ hd hn).1.vl
 |text s hs=>exact .text s
 |hole e=>exact .hole
 |list ks _ ih=>exact .list ks ih
 |obj ns ks h1 h2 h3 _ ih=>exact .obj ns ks h1 ih
def IG (o:Option JV):Prop:= ∀j,o=some j->JB j/\Vl j
theorem OT.ok {o:Option JV}(h:OT w v o):IG o:=fun j e=>by
 subst e;exact⟨IU (by decide) h.2.1,Jl h.2.1⟩
def Ks (w:World)(o:Option JV)(e:Ending)(w':World):Prop:= ∃u,e =.returned u/\Below w.heap.size w w'/\OV (w.heap.size<= ·) w' u o
theorem oD {o:Option JV}(h:OT w v o):Calls Tryz.prog 6 #[v] w (Ks w o):=by
 cases o with
 |some j=>exact(El h.1 (by have:=h.2.2;omega) h.2.1).mono fun e w' ⟨u,he,hb,hv⟩=>⟨u,he,hb,hv⟩
 |none=>
  obtain⟨A,q,rfl⟩:=h;go_enter Tryz.func6,Tryz.ntmps6;go_wp2_with fail;go_ret;exact⟨_,rfl,Ze _ _,rfl⟩
theorem lj (a b:Option JV):bY b a = - bY a b:=ly _ _
theorem Bl (a:Option JV):bY a a=0:=ei _
theorem FV (a b:Option JV): -1<=bY a b/\bY a b<=1:=yH _ _
