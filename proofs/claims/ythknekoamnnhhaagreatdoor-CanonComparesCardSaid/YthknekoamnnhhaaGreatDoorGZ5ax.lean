import Derived.Test.YthknekoamnnhhaaGreatDoorGZ5aw
set_option linter.unusedVariables false
set_option linter.unusedSimpArgs false
set_option maxHeartbeats 64000000
set_option maxRecDepth 100000
namespace Go.Proofs.YthknekoamnnhhaaGreatDoor
open Go.RowKit Go.Shelf
variable {aE aU:Addr}{bt r:Bool}{ax bx:ByteArray}{ad d:Dc}{ak:Int}{j j' j0:JV}{ns ns':List ByteArray}{ks ks':List JV}{ps qs:List Nat}{xs xs' ys:List UInt8}{us us':List Value}{M N a0 acap ack acn ag ank ann b0 base bcap bck bcn bg bnk bnn c g gr gt n:Nat}{P Q:Nat->Prop}{A aAk aAn bAk bAn:Option Addr}{u v v' x:Value}{W w w1:World}
theorem By {bk:Int}{at_:Bool}{bd:Dc}(hc:bN w ag a0 ak at_ ax ad (.slice aAn ann acn) (.slice aAk ank ack))(a2:bN w bg b0 bk bt bx bd (.slice bAn bnn bcn) (.slice bAk bnk bck))(ha:a0<N)(hb:b0<M)(hN:N<=1000000)(hM:M<=1000000)(hk:ak≠bk) :
  Calls Tryz.prog 31 #[.slice (some ⟨ag,0,none⟩) N acap,.int .i64 (a0:Int),.slice (some ⟨bg,0,none⟩) M bcap,.int .i64 (b0:Int)] w (dL (sg ak bk) w):=by
 have a4:(a0:Int)<N:=by omega
 have a3:(b0:Int)<M:=by omega
 obtain⟨H9,a5,Hw,a1⟩:=fB w (og ak at_ ax ad (.slice aAn ann acn) (.slice aAk ank ack)) (og bk bt bx bd (.slice bAn bnn bcn) (.slice bAk bnk bck));obtain⟨c0,c1,c2,c3,c4,c5,c6,c7⟩:=hc.all;obtain⟨e0,e1,e2,e3,e4,e5,e6,e7⟩:=(a2.later a1.out).all;clear hc a2 a1;have hne:(ak !=bk)=true:=by simp[hk]
 go_enter Tryz.func31,Tryz.ntmps31;go_wp2_with fail;(with_reducible refine cL.mono ?_);rintro e w3 ⟨rfl,rfl⟩;go_wp2_with fail;go_ret;exact⟨rfl,Hw.out⟩
theorem Ao {at_:Bool}{bd:Dc}(hc:bN w ag a0 2 at_ ax ad (.slice aAn ann acn) (.slice aAk ank ack))(a1:bN w bg b0 2 bt bx bd (.slice bAn bnn bcn) (.slice bAk bnk bck))(ha:a0<N)(hb:b0<M)(hN:N<=1000000)(hM:M<=1000000) :
  Calls Tryz.prog 31 #[.slice (some ⟨ag,0,none⟩) N acap,.int .i64 (a0:Int),.slice (some ⟨bg,0,none⟩) M bcap,.int .i64 (b0:Int)] w fun e w'=>dL (if at_=bt then 0 else if at_ then 1 else -1) w e w':=by
 have a4:(a0:Int)<N:=by omega
 have a3:(b0:Int)<M:=by omega
 obtain⟨H9,a5,Hw,a2⟩:=fB w (og 2 at_ ax ad (.slice aAn ann acn) (.slice aAk ank ack)) (og 2 bt bx bd (.slice bAn bnn bcn) (.slice bAk bnk bck));obtain⟨c0,c1,c2,c3,c4,c5,c6,c7⟩:=hc.all;obtain⟨e0,e1,e2,e3,e4,e5,e6,e7⟩:=(a1.later a2.out).all;clear hc a1 a2
 cases at_ <;> cases bt
 all_goals
  go_enter Tryz.func31,Tryz.ntmps31;go_wp2_with fail;go_ret;exact⟨rfl,Hw.out⟩
theorem Ds {at_:Bool}{bd:Dc}(hc:bN w ag a0 3 at_ ax ad (.slice aAn ann acn) (.slice aAk ank ack))(a3:bN w bg b0 3 bt bx bd (.slice bAn bnn bcn) (.slice bAk bnk bck))(ha:a0<N)(hb:b0<M)(hN:N<=1000000)(hM:M<=1000000)(ja:sZ ad)(jb:sZ bd)(na:jS ad)(nb:jS bd) :
  Calls Tryz.prog 31 #[.slice (some ⟨ag,0,none⟩) N acap,.int .i64 (a0:Int),.slice (some ⟨bg,0,none⟩) M bcap,.int .i64 (b0:Int)] w fun e w'=>dL (ay (ey ad) (ey bd)) w e w':=by
 have a6:(a0:Int)<N:=by omega
 have a5:(b0:Int)<M:=by omega
 obtain⟨H9,a7,Hw,a1⟩:=fB w (og 3 at_ ax ad (.slice aAn ann acn) (.slice aAk ank ack)) (og 3 bt bx bd (.slice bAn bnn bcn) (.slice bAk bnk bck));obtain⟨c0,c1,c2,c3,c4,c5,c6,c7⟩:=hc.all;obtain⟨e0,e1,e2,e3,e4,e5,e6,e7⟩:=(a3.later a1.out).all;clear hc a3 a1;have HC:=Qa (fun w1=>AP (w:=w1) ja jb na nb);clear ja jb na nb;go_enter Tryz.func31,Tryz.ntmps31;go_wp2_with fail;(with_reducible refine(HC.out _).mono ?_);rintro e w3 ⟨rfl,a2⟩;have a4:=Qa (Hw.out.trans (a2.mono Hw.out.size));clear a2;go_wp2_with fail;go_ret;exact⟨rfl,a4.out⟩
theorem AH {at_:Bool}{bd:Dc}(hc:bN w ag a0 4 at_ ax ad (.slice aAn ann acn) (.slice aAk ank ack))(a3:bN w bg b0 4 bt bx bd (.slice bAn bnn bcn) (.slice bAk bnk bck))(ha:a0<N)(hb:b0<M)(hN:N<=1000000)(hM:M<=1000000)(ja:ax.size<=4000000)(jb:bx.size<=4000000) :
  Calls Tryz.prog 31 #[.slice (some ⟨ag,0,none⟩) N acap,.int .i64 (a0:Int),.slice (some ⟨bg,0,none⟩) M bcap,.int .i64 (b0:Int)] w fun e w'=>dL (ay (nm ax) (nm bx)) w e w':=by
 have a6:(a0:Int)<N:=by omega
 have a5:(b0:Int)<M:=by omega
 obtain⟨H9,a7,Hw,a1⟩:=fB w (og 4 at_ ax ad (.slice aAn ann acn) (.slice aAk ank ack)) (og 4 bt bx bd (.slice bAn bnn bcn) (.slice bAk bnk bck));obtain⟨c0,c1,c2,c3,c4,c5,c6,c7⟩:=hc.all;obtain⟨e0,e1,e2,e3,e4,e5,e6,e7⟩:=(a3.later a1.out).all;clear hc a3 a1;have HC:=Qa (fun w1=>nK w1 ax bx ja jb);clear ja jb;go_enter Tryz.func31,Tryz.ntmps31;go_wp2_with fail;(with_reducible refine(HC.out _).mono ?_);rintro e w3 ⟨rfl,a2⟩;have a4:=Qa (Hw.out.trans (a2.mono Hw.out.size));clear a2;go_wp2_with fail;go_ret;exact⟨rfl,a4.out⟩
theorem Am {at_:Bool}{bd:Dc}(hc:bN w ag a0 ak at_ ax ad (.slice aAn ann acn) (.slice aAk ank ack))(c9:bN w bg b0 ak bt bx bd (.slice bAn bnn bcn) (.slice bAk bnk bck))(ha:a0<N)(hb:b0<M)(hN:N<=1000000)(hM:M<=1000000)(d0:bK w 0 (.slice aAk ank ack) ps)(a9:bK w 0 (.slice bAk bnk bck) qs)(y1:ank=ks.length)(y2:bnk=ks'.length)(l1:ps.length=ks.length)(l2:qs.length=ks'.length)(z1:ks.length<=1000000)(z2:ks'.length<=1000000)(q2:ak≠2)(q3:ak≠3)(q4:ak≠4)(q6:ak≠6)(H:∀ (i:Nat) (u z:JV) (p q:Nat),ks[i]?=some u->ks'[i]?=some z->ps[i]?=some p->qs[i]?=some q->∀w1,Below w.heap.size w w1->Calls Tryz.prog 31 #[.slice (some ⟨ag,0,none⟩) N acap,.int .i64 (p:Int),.slice (some ⟨bg,0,none⟩) M bcap,.int .i64 (q:Int)] w1 (dL (cX u z) w1)) :
  Calls Tryz.prog 31 #[.slice (some ⟨ag,0,none⟩) N acap,.int .i64 (a0:Int),.slice (some ⟨bg,0,none⟩) M bcap,.int .i64 (b0:Int)] w fun e w'=>dL (ay (JV.keys false [] ks) (JV.keys false [] ks')) w e w':=by
 subst y1 y2;have HH:=Qa H;have d2:=Qa d0;have d4:=Qa a9;have L1:=Qa l1;have L2:=Qa l2;have q2i:(ak==2)=false:=by simpa using q2
 have q3i:(ak==3)=false:=by simpa using q3
 have q4i:(ak==4)=false:=by simpa using q4
 have q6i:(ak==6)=false:=by simpa using q6
 clear q2 q3 q4 q6;clear H d0 a9 l1 l2;have e8:(a0:Int)<N:=by omega
 have d5:(b0:Int)<M:=by omega
 obtain⟨H9,a6,Hw,b1⟩:=fB w (og ak at_ ax ad (.slice aAn ann acn) (.slice aAk ks.length ack)) (og ak bt bx bd (.slice bAn bnn bcn) (.slice bAk ks'.length bck));obtain⟨c0,c1,c2,c3,c4,c5,c6,c7⟩:=hc.all;obtain⟨e0,e1,e2,e3,e4,e5,e6,e7⟩:=(c9.later b1.out).all;clear hc c9 b1;have hne:(ak !=ak)=false:=by simp
 have d3:=Qa Hw;clear d3;go_enter Tryz.func31,Tryz.ntmps31;go_wp2_with fail;obtain⟨w2,b3⟩:∃w2,(w.alloc (og ak at_ ax ad (.slice aAn ann acn) (.slice aAk ks.length ack))).alloc (og ak bt bx bd (.slice bAn bnn bcn) (.slice bAk ks'.length bck))=w2:=⟨_,rfl⟩;rw[b3] at H9 a6 Hw ⊢;clear b3 c0 c1 c2 c3 c4 c5 c6 c7 e0 e1 e2 e3 e4 e5 e6 e7;obtain⟨g9,b8⟩:∃g9,g9=w.heap.size:=⟨_,rfl⟩;rw[<-b8] at H9 a6 ⊢;obtain⟨g10,a5⟩:∃g10,g10=g9+1:=⟨_,rfl⟩;rw[<-a5] at a6 ⊢;clear b8 a5
 go_loopw [11,12,13] (fun s11 _ _ wr=>nf w2 false [] [] ks ks' s11 wr) (fun i _ _ _=>ks.length - (intOf i).toNat)
 case atStart=>exact⟨0,rfl,Zj _,Zj _,rfl,Zd _ _⟩
 case round=>
  obtain⟨i,rfl,d9,d6,he,a3⟩:=hrel;have b9:=aj H9.out a3;have b10:=aj a6.out a3;have c0:=aa b9 (j:=0) (u:=.int .i64 ak) rfl;have c7:=aa b9 (j:=7) (u:=.slice aAk ks.length ack) rfl;have e0:=aa b10 (j:=0) (u:=.int .i64 ak) rfl;have e7:=aa b10 (j:=7) (u:=.slice bAk ks'.length bck) rfl;have a2:=Qa (Hw.out.trans (a3.mono Hw.out.size));have b4:=Qa a3;have He:=Qa he;have B9:=Qa b9;have B10:=Qa b10;clear he a3 b9 b10
  by_cases h1:i<ks.length
  ·by_cases h2:i<ks'.length
   ·have b2:(i:Int)<ks.length:=by omega
    have d1:(i:Int)<ks'.length:=by omega
    obtain⟨u,hu⟩:∃u,ks[i]?=some u:=⟨_,Zc h1⟩;obtain⟨z,hz⟩:∃u,ks'[i]?=some u:=⟨_,Zc h2⟩;obtain⟨p,hp⟩:∃u,ps[i]?=some u:=⟨_,Zc (by rw[L1.out];exact h1)⟩;obtain⟨q,hq⟩:∃u,qs[i]?=some u:=⟨_,Zc (by rw[L2.out];exact h2)⟩;have hr:=d2.out.below a2.out (Za _);unfold bK at hr;rw[L1.out] at hr;obtain⟨_,_,e,_,_,hA⟩:=ah hr;obtain⟨gk1,rfl⟩:=hA (by omega);obtain⟨ee,-,-⟩:=Value.slice.inj e;subst ee;have ck:=aA hr rfl i (by omega);rw[List.getElem?_map,hp] at ck;simp only[Option.map_some,cI] at ck;clear hr e hA;have hr:=d4.out.below a2.out (Za _);unfold bK at hr;rw[L2.out] at hr;obtain⟨_,_,e,_,_,hA⟩:=ah hr;obtain⟨gk2,rfl⟩:=hA (by omega);obtain⟨ee,-,-⟩:=Value.slice.inj e;subst ee;have ek:=aA hr rfl i (by omega);rw[List.getElem?_map,hq] at ek;simp only[Option.map_some,cI] at ek;clear hr e hA;have HK:=Qa (fun w1 (hb:Below wr.heap.size wr w1)=>HH.out i u z p q hu hz hp hq w1 (a2.out.trans (hb.mono a2.out.size)));have a4:=Qa (show ay (JV.keys false [] ks) (JV.keys false [] ks')=if cX u z=0 then ay (JV.keys false [] (ks.drop (i+1))) (JV.keys false [] (ks'.drop (i+1))) else cX u z by
     rw[He.out,List.drop_eq_getElem_cons h1,List.drop_eq_getElem_cons h2,pQ,(List.getElem?_eq_some_iff.1 hu).2,(List.getElem?_eq_some_iff.1 hz).2];simp)
    clear hu hz hp hq HH;obtain⟨c,b7⟩:∃c,cX u z=c:=⟨_,rfl⟩;rw[b7] at HK a4;clear b7;go_wp2_with fail;refine aR (fun w'=>w'.cell? ⟨g9,7,none⟩=some (.slice (some ⟨gk1,0,none⟩) ks.length ack)/\w'.cell? ⟨gk1,i,none⟩=some (.int .i64 p)/\w'.cell? ⟨g10,7,none⟩=some (.slice (some ⟨gk2,0,none⟩) ks'.length bck)/\w'.cell? ⟨gk2,i,none⟩=some (.int .i64 q)) (⟨c7,ck,e7,ek⟩) fun a1=>?_
    refine tH 0 a1 ?_;refine tH 1 a1 ?_;refine tH 2 a1 ?_;refine tH 3 a1 ?_;refine tH 4 a1 ?_;refine tH 5 a1 ?_
    try simp only[Act.put,jP,jQ,jR]
    refine tH 6 a1 ?_;refine tH 7 a1 ?_;refine tH 8 a1 ?_;refine tH 9 a1 ?_;refine tH 10 a1 ?_;refine tH 11 a1 ?_
    try simp only[Act.put,jP,jQ,jR]
    refine rH 12 fun K hK=>?_
    go_simp;(with_reducible refine(HK.out _ (Zd _ _).drew).mono ?_);rintro e wz ⟨rfl,hz⟩;have Hz:=Qa hz;refine hK.out _ _ (⟨Zf hz a1.1,Zf hz a1.2.1,Zf hz a1.2.2.1,Zf hz a1.2.2.2⟩) (fun a1=>?_);clear hK K
    try simp only[Act.put,jP,jQ,jR]
    refine tH 13 a1 ?_
    try simp only[Act.put,jP,jQ,jR]
    refine wpAnyH_done (by kernel_rfl) (NoPanic.normal ?_) _;have b5:Below wr.heap.size wr wz:=(Zd _ _).drew.trans Hz.out;have c8:Below wr.heap.size wr wz:=b5;have b6:=Qa c8;clear Hz b5 c8 a1
    by_cases hc0:c=0
    ·have a7:(c !=0)=false:=by simp[hc0]
     have Hv:=Qa (a4.out.trans (if_pos hc0));clear a4 hc0;go_wp2_with fail;exact⟨⟨i+1,by go_num,by omega,by omega,by simpa using Hv.out,b4.out.trans (b6.out.mono b4.out.size)⟩,by simp[intOf];omega⟩
    ·have a7:(c !=0)=true:=by simp[hc0]
     have Hv:=Qa (a4.out.trans (if_neg hc0));clear a4 hc0;go_wp2_with fail;go_ret;rw[Hv.out];exact⟨rfl,a2.out.trans (b6.out.mono a2.out.size)⟩
   ·have b2:(i:Int)<ks.length:=by omega
    have d1:¬ (i:Int)<ks'.length:=by omega
    have Hv:=Qa (show ay (JV.keys false [] ks) (JV.keys false [] ks')=sg (ks.length:Int) (ks'.length:Int) by
     rw[He.out,ig _ _ _ _ _ (.inr (List.drop_eq_nil_of_le (by omega)))];rw[List.length_drop,List.length_drop];unfold sg
     (repeat' split) <;> omega)
    go_wp2_with fail;(with_reducible refine cL.mono ?_);rintro e w3 ⟨rfl,rfl⟩;go_wp2_with fail;go_ret;rw[Hv.out];exact⟨rfl,a2.out⟩
  ·have b2:¬ (i:Int)<ks.length:=by omega
   have Hv:=Qa (show ay (JV.keys false [] ks) (JV.keys false [] ks')=sg (ks.length:Int) (ks'.length:Int) by
    rw[He.out,ig _ _ _ _ _ (.inl (List.drop_eq_nil_of_le (by omega)))];rw[List.length_drop,List.length_drop];unfold sg
    (repeat' split) <;> omega)
   go_wp2_with fail;(with_reducible refine cL.mono ?_);rintro e w3 ⟨rfl,rfl⟩;go_wp2_with fail;go_ret;rw[Hv.out];exact⟨rfl,a2.out⟩
theorem Ec {at_:Bool}{bd:Dc}(hc:bN w ag a0 6 at_ ax ad (.slice aAn ann acn) (.slice aAk ank ack))(b6:bN w bg b0 6 bt bx bd (.slice bAn bnn bcn) (.slice bAk bnk bck))(ha:a0<N)(hb:b0<M)(hN:N<=1000000)(hM:M<=1000000)(b7:bK w 0 (.slice aAk ank ack) ps)(b8:bK w 0 (.slice bAk bnk bck) qs)(y1:ank=ks.length)(y2:bnk=ks'.length)(l1:ps.length=ks.length)(l2:qs.length=ks'.length)(z1:ks.length<=1000000)(z2:ks'.length<=1000000)(d2:cJ w 0 (.slice aAn ann acn) ns)(d0:cJ w 0 (.slice bAn bnn bcn) ns')(f1:ann=ks.length)(f2:bnn=ks'.length)(m1:ns.length=ks.length)(m2:ns'.length=ks'.length)(t1:∀s∈ns,s.size<=4000000)(t2:∀s∈ns',s.size<=4000000)(H:∀ (i:Nat) (u z:JV) (p q:Nat),ks[i]?=some u->ks'[i]?=some z->ps[i]?=some p->qs[i]?=some q->∀w1,Below w.heap.size w w1->Calls Tryz.prog 31 #[.slice (some ⟨ag,0,none⟩) N acap,.int .i64 (p:Int),.slice (some ⟨bg,0,none⟩) M bcap,.int .i64 (q:Int)] w1 (dL (cX u z) w1)) :
  Calls Tryz.prog 31 #[.slice (some ⟨ag,0,none⟩) N acap,.int .i64 (a0:Int),.slice (some ⟨bg,0,none⟩) M bcap,.int .i64 (b0:Int)] w fun e w'=>dL (ay (JV.keys true ns ks) (JV.keys true ns' ks')) w e w':=by
 subst y1 y2 f1 f2;have HH:=Qa H;have d9:=Qa b7;have f0:=Qa b8;have L1:=Qa l1;have L2:=Qa l2;have f4:=Qa d2;have d6:=Qa d0;have M1:=Qa m1;have M2:=Qa m2;have T1:=Qa t1;have T2:=Qa t2;clear d2 d0 m1 m2 t1 t2;clear H b7 b8 l1 l2;have f6:(a0:Int)<N:=by omega
 have f8:(b0:Int)<M:=by omega
 obtain⟨H9,a7,Hw,b2⟩:=fB w (og 6 at_ ax ad (.slice aAn ks.length acn) (.slice aAk ks.length ack)) (og 6 bt bx bd (.slice bAn ks'.length bcn) (.slice bAk ks'.length bck));obtain⟨c0,c1,c2,c3,c4,c5,c6,c7⟩:=hc.all;obtain⟨e0,e1,e2,e3,e4,e5,e6,e7⟩:=(b6.later b2.out).all;clear hc b6 b2;have e8:=Qa Hw;clear e8;go_enter Tryz.func31,Tryz.ntmps31;go_wp2_with fail;obtain⟨w2,b3⟩:∃w2,(w.alloc (og 6 at_ ax ad (.slice aAn ks.length acn) (.slice aAk ks.length ack))).alloc (og 6 bt bx bd (.slice bAn ks'.length bcn) (.slice bAk ks'.length bck))=w2:=⟨_,rfl⟩;rw[b3] at H9 a7 Hw ⊢;clear b3 c0 c1 c2 c3 c4 c5 c6 c7 e0 e1 e2 e3 e4 e5 e6 e7;obtain⟨g9,d4⟩:∃g9,g9=w.heap.size:=⟨_,rfl⟩;rw[<-d4] at H9 a7 ⊢;obtain⟨g10,a5⟩:∃g10,g10=g9+1:=⟨_,rfl⟩;rw[<-a5] at a7 ⊢;clear d4 a5
 go_loopw [11,12,13] (fun s11 _ _ wr=>nf w2 true ns ns' ks ks' s11 wr) (fun i _ _ _=>ks.length - (intOf i).toNat)
 case atStart=>exact⟨0,rfl,Zj _,Zj _,rfl,Zd _ _⟩
 case round=>
  obtain⟨i,rfl,f9,f5,he,a3⟩:=hrel;have b9:=aj H9.out a3;have b10:=aj a7.out a3;have c0:=aa b9 (j:=0) (u:=.int .i64 6) rfl;have c6:=aa b9 (j:=6) (u:=.slice aAn ks.length acn) rfl;have c7:=aa b9 (j:=7) (u:=.slice aAk ks.length ack) rfl;have e0:=aa b10 (j:=0) (u:=.int .i64 6) rfl;have e6:=aa b10 (j:=6) (u:=.slice bAn ks'.length bcn) rfl;have e7:=aa b10 (j:=7) (u:=.slice bAk ks'.length bck) rfl;have a2:=Qa (Hw.out.trans (a3.mono Hw.out.size));have d1:=Qa a3;have He:=Qa he;have B9:=Qa b9;have B10:=Qa b10;clear he a3 b9 b10
  by_cases h1:i<ks.length
  ·by_cases h2:i<ks'.length
   ·have c8:(i:Int)<ks.length:=by omega
    have f3:(i:Int)<ks'.length:=by omega
    obtain⟨u,hu⟩:∃u,ks[i]?=some u:=⟨_,Zc h1⟩;obtain⟨z,hz⟩:∃u,ks'[i]?=some u:=⟨_,Zc h2⟩;obtain⟨p,hp⟩:∃u,ps[i]?=some u:=⟨_,Zc (by rw[L1.out];exact h1)⟩;obtain⟨q,hq⟩:∃u,qs[i]?=some u:=⟨_,Zc (by rw[L2.out];exact h2)⟩;have hr:=d9.out.below a2.out (Za _);unfold bK at hr;rw[L1.out] at hr;obtain⟨_,_,e,_,_,hA⟩:=ah hr;obtain⟨gk1,rfl⟩:=hA (by omega);obtain⟨ee,-,-⟩:=Value.slice.inj e;subst ee;have ck:=aA hr rfl i (by omega);rw[List.getElem?_map,hp] at ck;simp only[Option.map_some,cI] at ck;clear hr e hA;have hr:=f0.out.below a2.out (Za _);unfold bK at hr;rw[L2.out] at hr;obtain⟨_,_,e,_,_,hA⟩:=ah hr;obtain⟨gk2,rfl⟩:=hA (by omega);obtain⟨ee,-,-⟩:=Value.slice.inj e;subst ee;have ek:=aA hr rfl i (by omega);rw[List.getElem?_map,hq] at ek;simp only[Option.map_some,cI] at ek;clear hr e hA;obtain⟨s,hs⟩:∃u,ns[i]?=some u:=⟨_,Zc (by rw[M1.out];exact h1)⟩;obtain⟨t,ht⟩:∃u,ns'[i]?=some u:=⟨_,Zc (by rw[M2.out];exact h2)⟩;have hr:=f4.out.below a2.out (Za _);unfold cJ at hr;rw[M1.out] at hr;obtain⟨_,_,e,_,_,hA⟩:=ah hr;obtain⟨gn1,rfl⟩:=hA (by omega);obtain⟨ee,-,-⟩:=Value.slice.inj e;subst ee;have cs:=aA hr rfl i (by omega);rw[List.getElem?_map,hs] at cs;simp only[Option.map_some,dR] at cs;clear hr e hA;have hr:=d6.out.below a2.out (Za _);unfold cJ at hr;rw[M2.out] at hr;obtain⟨_,_,e,_,_,hA⟩:=ah hr;obtain⟨gn2,rfl⟩:=hA (by omega);obtain⟨ee,-,-⟩:=Value.slice.inj e;subst ee;have es:=aA hr rfl i (by omega);rw[List.getElem?_map,ht] at es;simp only[Option.map_some,dR] at es;clear hr e hA;have HT:=Qa (fun w1=>nK w1 s t (T1.out s (Zk hs)) (T2.out t (Zk ht)));have HK:=Qa (fun w1 (hb:Below wr.heap.size wr w1)=>HH.out i u z p q hu hz hp hq w1 (a2.out.trans (hb.mono a2.out.size)));have a4:=Qa (show ay (JV.keys true ns ks) (JV.keys true ns' ks')=if ay (nm s) (nm t)=0 then(if cX u z=0 then ay (JV.keys true (ns.drop (i+1)) (ks.drop (i+1))) (JV.keys true (ns'.drop (i+1)) (ks'.drop (i+1))) else cX u z) else ay (nm s) (nm t) by
     rw[He.out,List.drop_eq_getElem_cons h1,List.drop_eq_getElem_cons h2,List.drop_eq_getElem_cons (l:=ns) (by rw[M1.out];exact h1),List.drop_eq_getElem_cons (l:=ns') (by rw[M2.out];exact h2),ur,(List.getElem?_eq_some_iff.1 hu).2,(List.getElem?_eq_some_iff.1 hz).2,(List.getElem?_eq_some_iff.1 hs).2,(List.getElem?_eq_some_iff.1 ht).2])
    clear hu hz hp hq hs ht HH;obtain⟨d,hd⟩:∃d,ay (nm s) (nm t)=d:=⟨_,rfl⟩;rw[hd] at HT a4;clear hd;go_wp2_with fail;refine aR (fun w'=>w'.cell? ⟨g9,6,none⟩=some (.slice (some ⟨gn1,0,none⟩) ks.length acn)/\w'.cell? ⟨gn1,i,none⟩=some (.string s)/\w'.cell? ⟨g10,6,none⟩=some (.slice (some ⟨gn2,0,none⟩) ks'.length bcn)/\w'.cell? ⟨gn2,i,none⟩=some (.string t)) (⟨c6,cs,e6,es⟩) fun a1=>?_
    refine tH 0 a1 ?_;refine tH 1 a1 ?_;refine tH 2 a1 ?_;refine tH 3 a1 ?_;refine tH 4 a1 ?_;refine tH 5 a1 ?_
    try simp only[Act.put,jP,jQ,jR]
    refine tH 6 a1 ?_;refine tH 7 a1 ?_;refine tH 8 a1 ?_;refine tH 9 a1 ?_
    try simp only[Act.put,jP,jQ,jR]
    refine rH 10 fun K hK=>?_
    go_simp;(with_reducible refine(HT.out _).mono ?_);rintro e wy ⟨rfl,hy⟩;have Hy:=Qa hy;refine hK.out _ _ (⟨Zf hy a1.1,Zf hy a1.2.1,Zf hy a1.2.2.1,Zf hy a1.2.2.2⟩) (fun a1=>?_);clear hK K
    try simp only[Act.put,jP,jQ,jR]
    refine tH 11 a1 ?_
    try simp only[Act.put,jP,jQ,jR]
    refine wpAnyH_done (by kernel_rfl) (NoPanic.normal ?_) _;have hby:Below wr.heap.size wr wy:=(Zd _ _).drew.trans Hy.out;have c7:=Zf hby c7;have e7:=Zf hby e7;have ck:=Zf hby ck;have ek:=Zf hby ek;have a6:=Qa hby;clear c0 c6 e0 e6 cs es Hy HT hby a1
    by_cases hd0:d=0
    rotate_left
    ·have b1:(d !=0)=true:=by simp[hd0]
     have Hv:=Qa (a4.out.trans (if_neg hd0));clear a4 hd0;go_wp2_with fail;go_ret;rw[Hv.out];exact⟨rfl,a2.out.trans (a6.out.mono a2.out.size)⟩
    have b1:(d !=0)=false:=by simp[hd0]
    replace a4:=Qa (a4.out.trans (if_pos hd0));clear hd0;have c9:=Qa (fun w1 (hb:Below wy.heap.size wy w1)=>HK.out w1 (a6.out.trans (hb.mono a6.out.size)));obtain⟨c,d3⟩:∃c,cX u z=c:=⟨_,rfl⟩;rw[d3] at c9 a4;clear d3;go_wp2_with fail;refine aR (fun w'=>w'.cell? ⟨g9,7,none⟩=some (.slice (some ⟨gk1,0,none⟩) ks.length ack)/\w'.cell? ⟨gk1,i,none⟩=some (.int .i64 p)/\w'.cell? ⟨g10,7,none⟩=some (.slice (some ⟨gk2,0,none⟩) ks'.length bck)/\w'.cell? ⟨gk2,i,none⟩=some (.int .i64 q)) (⟨c7,ck,e7,ek⟩) fun a1=>?_
    refine tH 0 a1 ?_;refine tH 1 a1 ?_;refine tH 2 a1 ?_;refine tH 3 a1 ?_;refine tH 4 a1 ?_;refine tH 5 a1 ?_
    try simp only[Act.put,jP,jQ,jR]
    refine tH 6 a1 ?_;refine tH 7 a1 ?_;refine tH 8 a1 ?_;refine tH 9 a1 ?_;refine tH 10 a1 ?_;refine tH 11 a1 ?_
    try simp only[Act.put,jP,jQ,jR]
    refine rH 12 fun K hK=>?_
    go_simp;(with_reducible refine(c9.out _ (Zd _ _).drew).mono ?_);rintro e wz ⟨rfl,hz⟩;have Hz:=Qa hz;refine hK.out _ _ (⟨Zf hz a1.1,Zf hz a1.2.1,Zf hz a1.2.2.1,Zf hz a1.2.2.2⟩) (fun a1=>?_);clear hK K
    try simp only[Act.put,jP,jQ,jR]
    refine tH 13 a1 ?_
    try simp only[Act.put,jP,jQ,jR]
    refine wpAnyH_done (by kernel_rfl) (NoPanic.normal ?_) _;have b4:Below wy.heap.size wy wz:=(Zd _ _).drew.trans Hz.out;have d5:Below wr.heap.size wr wz:=(a6.out.trans (b4.mono a6.out.size));have b5:=Qa d5;clear Hz b4 d5 a1
    by_cases hc0:c=0
    ·have a9:(c !=0)=false:=by simp[hc0]
     have Hv:=Qa (a4.out.trans (if_pos hc0));clear a4 hc0;go_wp2_with fail;exact⟨⟨i+1,by go_num,by omega,by omega,Hv.out,d1.out.trans (b5.out.mono d1.out.size)⟩,by simp[intOf];omega⟩
    ·have a9:(c !=0)=true:=by simp[hc0]
     have Hv:=Qa (a4.out.trans (if_neg hc0));clear a4 hc0;go_wp2_with fail;go_ret;rw[Hv.out];exact⟨rfl,a2.out.trans (b5.out.mono a2.out.size)⟩
   ·have c8:(i:Int)<ks.length:=by omega
    have f3:¬ (i:Int)<ks'.length:=by omega
    have Hv:=Qa (show ay (JV.keys true ns ks) (JV.keys true ns' ks')=sg (ks.length:Int) (ks'.length:Int) by
     rw[He.out,ig _ _ _ _ _ (.inr (List.drop_eq_nil_of_le (by omega)))];rw[List.length_drop,List.length_drop];unfold sg
     (repeat' split) <;> omega)
    go_wp2_with fail;(with_reducible refine cL.mono ?_);rintro e w3 ⟨rfl,rfl⟩;go_wp2_with fail;go_ret;rw[Hv.out];exact⟨rfl,a2.out⟩
  ·have c8:¬ (i:Int)<ks.length:=by omega
   have Hv:=Qa (show ay (JV.keys true ns ks) (JV.keys true ns' ks')=sg (ks.length:Int) (ks'.length:Int) by
    rw[He.out,ig _ _ _ _ _ (.inl (List.drop_eq_nil_of_le (by omega)))];rw[List.length_drop,List.length_drop];unfold sg
    (repeat' split) <;> omega)
   go_wp2_with fail;(with_reducible refine cL.mono ?_);rintro e w3 ⟨rfl,rfl⟩;go_wp2_with fail;go_ret;rw[Hv.out];exact⟨rfl,a2.out⟩
theorem tQ {a:Nat}{k:Int}{t:Bool}{x:ByteArray}{n:Dc}(hs:dm j0 0 a (.mk k t x n ns ks)):∀ (i:Nat) (u:JV) (p:Nat),ks[i]?=some u->(aV (a+1) ks)[i]?=some p->dm j0 0 p u/\u∈ks:=fun i u p hu hp=>by
 have hi:=(List.getElem?_eq_some_iff.1 hu).1;have e:ks=ks.take i++u::ks.drop (i+1):=by
  have h:=(List.take_append_drop i ks).symm;rw[List.drop_eq_getElem_cons hi] at h;rw[(List.getElem?_eq_some_iff.1 hu).2] at h;exact h
 have a0:p=a+1+JV.sizes (ks.take i):=by
  rw[e,dh,List.getElem?_append_right (by rw[bh,List.length_take];omega),bh,List.length_take,Nat.min_eq_left (by omega),Nat.sub_self] at hp;simpa [aV] using hp.symm
 refine⟨?_,Zk hu⟩;rw[a0];rw[e] at hs;exact hs.kid
theorem CF (hd:d.digits.size<=6000+1)(hn:jS d):sZ d:=by
 rcases ox hn with rfl|⟨-,h1,h2⟩
 ·exact⟨by decide,by decide,by decide⟩
 ·exact⟨by omega,by omega,by omega⟩
theorem qK {j1 j2:JV}(hf:dI w 0 v (j1.flat 0))(b0:dI w 0 v' (j2.flat 0))(z1:j1.size<=1000000)(z2:j2.size<=1000000):∀ (u:JV) (a:Nat) (z:JV) (b:Nat) (w1:World),Below w.heap.size w w1->dm j1 0 a u->dm j2 0 b z->Ok True (sY 4000000) u->Ok True (sY 4000000) z->Calls Tryz.prog 31 #[v,.int .i64 (a:Int),v',.int .i64 (b:Int)] w1 (dL (cX u z) w1):=by
 obtain⟨A,cap,rfl,b2,hm,hA⟩:=hf.form;have hn:=j1.size_pos;obtain⟨gt,rfl⟩:=hA (by rw[JV.flat_len];omega);rw[JV.flat_len] at b2 hm hf ⊢;obtain⟨A',cap',rfl,a7,c2,c0⟩:=b0.form;have b3:=j2.size_pos;obtain⟨gt',rfl⟩:=c0 (by rw[JV.flat_len];omega);rw[JV.flat_len] at a7 c2 b0 ⊢;refine JV.ind (P:=fun u=> ∀ (a:Nat) (z:JV) (b:Nat) (w1:World),Below w.heap.size w w1->dm j1 0 a u->dm j2 0 b z->Ok True (sY 4000000) u->Ok True (sY 4000000) z->Calls Tryz.prog 31 #[.slice (some ⟨gt,0,none⟩) j1.size cap,.int .i64 (a:Int),.slice (some ⟨gt',0,none⟩) j2.size cap',.int .i64 (b:Int)] w1 (dL (cX u z) w1)) (fun k t x n ns ks ih a z b w1 hb hs hs' hu hz=>?_);obtain⟨k',t',x',n',ns',ks'⟩:=z;have a1:=hs.node;rw[Nat.sub_zero] at a1;obtain⟨vn,vk,h1,h2,h3⟩:=(hf.below hb (Za _)).node a1;have hc:=(show bN w1 gt a k t x n vn vk from fun j u hu=>h3 j u hu);have a0:=hs'.node;rw[Nat.sub_zero] at a0;obtain⟨vn',vk',b6,b4,c1⟩:=(b0.below hb (Za _)).node a0;have a2:=(show bN w1 gt' b k' t' x' n' vn' vk' from fun j u hu=>c1 j u hu);have c4:=hs.bd;have b9:=hs'.bd;have c3:(JV.mk k t x n ns ks).size=1+JV.sizes ks:=by simp[JV.size]
 have b7:(JV.mk k' t' x' n' ns' ks').size=1+JV.sizes ks':=by simp[JV.size]
 have ha:a<j1.size:=by omega
 have a3:b<j2.size:=by omega
 obtain⟨Ak,ck,rfl,-,-,-⟩:=ah h2;obtain⟨An,cn,rfl,-,-,-⟩:=ah h1;obtain⟨Ak',ck',rfl,-,-,-⟩:=ah b4;obtain⟨An',cn',rfl,-,-,-⟩:=ah b6;have hkl:ks.length<=1000000:=by have:=bP ks;omega
 have a5:ks'.length<=1000000:=by have:=bP ks';omega
 have b5:bK w1 0 (.slice Ak ks.length ck) (aV (a+1) ks):=by
  simp only[bh] at h2;exact h2
 have a4:bK w1 0 (.slice Ak' ks'.length ck') (aV (b+1) ks'):=by
  simp only[bh] at b4;exact b4
 simp only[bh] at hc a2;have K:=tQ hs;have K':=tQ hs'
 by_cases hkk:k=k'
 rotate_left
 ·rw[qh hkk];rw[show(if k<k' then(-1:Int) else 1)=sg k k' by unfold sg;(repeat' split) <;> omega];exact By hc a2 ha a3 z1 z2 hkk
 subst hkk;have lst:k≠2->k≠3->k≠4->k≠6->(∀y∈ks,Ok True (sY 4000000) y)->(∀y∈ks',Ok True (sY 4000000) y)->Calls Tryz.prog 31 #[.slice (some ⟨gt,0,none⟩) j1.size cap,.int .i64 (a:Int),.slice (some ⟨gt',0,none⟩) j2.size cap',.int .i64 (b:Int)] w1 fun e w'=>dL (ay (JV.keys false [] ks) (JV.keys false [] ks')) w1 e w':=fun q2 q3 q4 q6 o1 o2=>
  Am hc a2 ha a3 z1 z2 b5 a4 rfl rfl (bh _ _) (bh _ _) hkl a5 q2 q3 q4 q6 fun i y y' p q hy a6 hp hq w2 b1=>ih y (K i y p hy hp).2 p y' q w2 (hb.trans (b1.mono hb.size)) (K i y p hy hp).1 (K' i y' q a6 hq).1 (o1 y (K i y p hy hp).2) (o2 y' (K' i y' q a6 hq).2)
 cases hu with
 |null=>cases hz with|null=>rw[eH (by decide) (by decide) (by decide)];exact lst (by decide) (by decide) (by decide) (by decide) (by simp) (by simp)
 |bool b=>cases hz with|bool b'=>rw[pO];exact Ao hc a2 ha a3 z1 z2
 |num d hd hn=>cases hz with|num d' hd' b3=>rw[uV];exact Ds hc a2 ha a3 z1 z2 (CF hd hn) (CF hd' b3) hn b3
 |text s h8=>cases hz with|text s' h8'=>rw[qw];exact AH hc a2 ha a3 z1 z2 h8 h8'
 |hole h=>cases hz with|hole h'=>rw[eH (by decide) (by decide) (by decide)];exact lst (by decide) (by decide) (by decide) (by decide) (by simp) (by simp)
 |list ks hks=>cases hz with|list ks' hks'=>rw[eH (by decide) (by decide) (by decide)];exact lst (by decide) (by decide) (by decide) (by decide) hks hks'
 |obj ns ks hnl h8 hr hks=>
  cases hz with
  |obj ns' ks' hnl' h8' hr' hks'=>
   rw[eH (by decide) (by decide) (by decide)];have b8:cJ w1 0 (.slice An ks.length cn) ns:=by have:=h1;rw[hnl] at this;exact this
   have a9:cJ w1 0 (.slice An' ks'.length cn') ns':=by have:=b6;rw[hnl'] at this;exact this
   rw[hnl] at hc;rw[hnl'] at a2;exact Ec hc a2 ha a3 z1 z2 b5 a4 rfl rfl (bh _ _) (bh _ _) hkl a5 b8 a9 rfl rfl hnl hnl' (fun s hs=>by have:=(h8 s hs).2;omega) (fun s hs=>by have:=(h8' s hs).2;omega) fun i y y' p q hy a6 hp hq w2 b1=>ih y (K i y p hy hp).2 p y' q w2 (hb.trans (b1.mono hb.size)) (K i y p hy hp).1 (K' i y' q a6 hq).1 (hks y (K i y p hy hp).2) (hks' y' (K' i y' q a6 hq).2)
theorem oh {o o':Option JV}(h:OT w v o)(h':OT w v' o'):Calls Tryz.prog 9 #[v,v'] w (dL (iU o o') w):=by
 cases o with
 |none=>
  obtain⟨A,q,rfl⟩:=h
  cases o' with
  |none=>
   obtain⟨A',q',rfl⟩:=h';go_enter Tryz.func9,Tryz.ntmps9;go_wp2_with fail;(with_reducible refine cL.mono ?_);rintro e w3 ⟨rfl,rfl⟩;go_wp2_with fail;go_ret;exact⟨rfl,Zd _ _⟩
  |some j=>
   obtain⟨A',cap',rfl,-⟩:=h'.1.form;have hp:=j.size_pos;rw[JV.flat_len];have Hv:=Qa (show sg 0 (j.size:Int)=iU none (some j) by
    unfold sg;rw[if_pos (by omega)]
    show(-1:Int)=ay [0] j.key
    obtain⟨t,ht⟩:=kX j;have:=h'.2.1;have hk:0<j.kindOf:=by cases this <;> simp[JV.kindOf]
    rw[ht,aZ,if_pos hk])
   clear h';go_enter Tryz.func9,Tryz.ntmps9;go_wp2_with fail;(with_reducible refine cL.mono ?_);rintro e w3 ⟨rfl,rfl⟩;go_wp2_with fail;go_ret;rw[<-Hv.out];exact⟨rfl,Zd _ _⟩
 |some j=>
  cases o' with
  |none=>
   obtain⟨A',q',rfl⟩:=h';obtain⟨A,cap,rfl,-⟩:=h.1.form;have hp:=j.size_pos;rw[JV.flat_len];have Hv:=Qa (show sg (j.size:Int) 0=iU (some j) none by
    unfold sg;rw[if_neg (by omega),if_pos (by omega)]
    show(1:Int)=ay j.key [0]
    obtain⟨t,ht⟩:=kX j;have:=h.2.1;have hk:0<j.kindOf:=by cases this <;> simp[JV.kindOf]
    rw[ht,aZ,if_neg (by omega),if_pos hk])
   have hne:((j.size:Int)==0)=false:=by simp only[beq_eq_false_iff_ne];omega
   clear h hp;go_enter Tryz.func9,Tryz.ntmps9;go_wp2_with fail;(with_reducible refine cL.mono ?_);rintro e w3 ⟨rfl,rfl⟩;go_wp2_with fail;go_ret;rw[<-Hv.out];exact⟨rfl,Zd _ _⟩
  |some j'=>
   have HC:=Qa (show Calls Tryz.prog 31 #[v,.int .i64 0,v',.int .i64 0] w (fun e w'=>dL (iU (some j) (some j')) w e w') from qK h.1 h'.1 (by have:=h.2.2;omega) (by have:=h'.2.2;omega) j 0 j' 0 w (Zd _ _) (.here _ _) (.here _ _) (h.2.1.imp fun s hs=>by unfold sY at *;omega) (h'.2.1.imp fun s hs=>by unfold sY at *;omega));obtain⟨A,cap,rfl,-⟩:=h.1.form;obtain⟨A',cap',rfl,-⟩:=h'.1.form;rw[JV.flat_len,JV.flat_len] at HC ⊢;have hp:=j.size_pos;have a2:=j'.size_pos;have hne:((j.size:Int)==0)=false:=by simp only[beq_eq_false_iff_ne];omega
   have a3:((j'.size:Int)==0)=false:=by simp only[beq_eq_false_iff_ne];omega
   clear h h' hp a2;go_enter Tryz.func9,Tryz.ntmps9;go_wp2_with fail;(with_reducible refine HC.out.mono ?_);rintro e w3 ⟨rfl,a0⟩;have a1:=Qa a0;clear a0;go_wp2_with fail;go_ret;exact⟨rfl,a1.out⟩
theorem uP {t:TypeId}{y:Value}{i:TypeInfo}(hi:Tryz.prog.info? t=some i)(hc:i.comparable=true)(h:(Op.equalIn (9997+2) t x y).run Tryz.prog W =.ok r W):(binOp .eql 32 (.iface t x) (.iface t y)).run Tryz.prog W =.ok (.bool r) W:=by
 have h:(Op.equalIn (9996+4) 32 (.iface t x) (.iface t y)).run Tryz.prog W =.ok r W:=by
  rw[Op.equalIn];simp only[Sem.run_bind,run_underlying Tryz.underlying32,Result.andThen_ok];simp[typeInfo,hi,hc,h]
 simp only[binOp];simp[Op.equal,Op.maxDepth,h]
theorem kI {t:TypeId}(h:(Tryz.prog.info? t).map (·.comparable)=some true):∃i,Tryz.prog.info? t=some i/\i.comparable=true:=by
 obtain⟨i,h1,h2⟩:=Option.map_eq_some_iff.1 h;exact⟨i,h1,h2⟩
theorem E3 (W:World):(binOp .eql 32 (.iface 58 (.agg #[])) (.iface 58 (.agg #[]))).run Tryz.prog W =.ok (.bool true) W:=by
 obtain⟨i,h1,h2⟩:=kI (t:=58) (by kernel_rfl);exact uP h1 h2 (by kernel_rfl)
theorem EU (W:World):(binOp .eql 32 (.iface 54 (.agg #[])) (.iface 54 (.agg #[]))).run Tryz.prog W =.ok (.bool true) W:=by
 obtain⟨i,h1,h2⟩:=kI (t:=54) (by kernel_rfl);exact uP h1 h2 (by kernel_rfl)
theorem Fo (a b:Bool)(W:World):(binOp .eql 32 (.iface 59 (.bool a)) (.iface 59 (.bool b))).run Tryz.prog W =.ok (.bool (a==b)) W:=by
 obtain⟨i,h1,h2⟩:=kI (t:=59) (by kernel_rfl);exact uP h1 h2 (by kernel_rfl)
theorem EG (a b:ByteArray)(W:World):(binOp .eql 32 (.iface 40 (.string a)) (.iface 40 (.string b))).run Tryz.prog W =.ok (.bool (a.toList==b.toList)) W:=by
 obtain⟨i,h1,h2⟩:=kI (t:=40) (by kernel_rfl);exact uP h1 h2 (run_equalIn_string W 9998 40 a b Tryz.underlying40)
theorem EW (d:Nat)(a b:Bool)(s t:ByteArray)(x y:Int)(W:World):(Op.equalIn (d+3) 124 (.agg #[.bool a,.string s,.int .i64 x]) (.agg #[.bool b,.string t,.int .i64 y])).run Tryz.prog W =.ok ((a==b)&& (s.toList==t.toList)&& (x==y)) W:=by
 rw[run_equalIn_agg W (d+2) 124 _ _ (by kernel_rfl) (by kernel_rfl)];have hf:((Tryz.prog.fieldsOf 124).toList.map fun f=>(decide (f.name = "_"),f.type,f.offset)) = [(false,4,0),(false,9,1),(false,3,2)]:=by kernel_rfl
 obtain⟨f1,f2,f3,h1,h2,h3,h4,h5,h6,h7,h8,h9,a0⟩:∃f1 f2 f3,(Tryz.prog.fieldsOf 124).toList = [f1,f2,f3]/\¬f1.name = "_" /\¬f2.name = "_" /\¬f3.name = "_" /\f1.type=4/\f2.type=9/\f3.type=3/\f1.offset=0/\f2.offset=1/\f3.offset=2:=by
  generalize (Tryz.prog.fieldsOf 124).toList=fs at hf
  cases fs with
  |nil=>simp at hf
  |cons f1 r=>cases r with
   |nil=>simp at hf
   |cons f2 r2=>cases r2 with
    |nil=>simp at hf
    |cons f3 r3=>cases r3 with
     |cons f4 r4=>simp at hf
     |nil=>
      simp only[List.map_cons,List.map_nil,List.cons.injEq,Prod.mk.injEq,decide_eq_false_iff_not,and_true] at hf;exact⟨f1,f2,f3,rfl,hf.1.1,hf.2.1.1,hf.2.2.1,hf.1.2.1,hf.2.1.2.1,hf.2.2.2.1,hf.1.2.2,hf.2.1.2.2,hf.2.2.2.2⟩
 have p1:∀ (a b c:Value) (w:World),(part 4 #[a,b,c] 0).run Tryz.prog w =.ok a w:=fun a b c w=>by kernel_rfl
 have p2:∀ (a b c:Value) (w:World),(part 9 #[a,b,c] 1).run Tryz.prog w =.ok b w:=fun a b c w=>by kernel_rfl
 have p3:∀ (a b c:Value) (w:World),(part 3 #[a,b,c] 2).run Tryz.prog w =.ok c w:=fun a b c w=>by kernel_rfl
 rw[h1];have hs:=run_equalIn_string W (d+1) 9 s t Tryz.underlying9;have hq:(Op.equalIn (d+1+1) 4 (.bool a) (.bool b)).run Tryz.prog W =.ok (a==b) W:=by kernel_rfl
 have hi:=run_equalIn_int W (d+1) 3 .i64 .i64 x y Tryz.underlying3;generalize (s.toList==t.toList)=v at hs ⊢;generalize (a==b)=u at hq ⊢;generalize (x==y)=z at hi ⊢
 cases u <;> cases v <;> cases z <;> simp[Op.eqFields,h2,h3,h4,h5,h6,h7,h8,h9,a0,p1,p2,p3,hi,hs,hq]
theorem El (d:Nat)(a b:Bool)(s t:ByteArray)(x y:Int)(W:World):(Op.equalIn (d+4) 127 (.agg #[.bool a,.string s,.int .i64 x]) (.agg #[.bool b,.string t,.int .i64 y])).run Tryz.prog W =.ok ((a==b)&& (s.toList==t.toList)&& (x==y)) W:=by
 rw[run_equalIn_agg W (d+3) 127 _ _ (by kernel_rfl) (by kernel_rfl)];have hf:((Tryz.prog.fieldsOf 127).toList.map fun f=>(decide (f.name = "_"),f.type,f.offset)) = [(false,124,0)]:=by kernel_rfl
 obtain⟨f1,h1,h2,h3,h4⟩:∃f1,(Tryz.prog.fieldsOf 127).toList = [f1]/\¬f1.name = "_" /\f1.type=124/\f1.offset=0:=by
  generalize (Tryz.prog.fieldsOf 127).toList=fs at hf
  cases fs with
  |nil=>simp at hf
  |cons f1 r=>cases r with
   |cons f2 r2=>simp at hf
   |nil=>
    simp only[List.map_cons,List.map_nil,List.cons.injEq,Prod.mk.injEq,decide_eq_false_iff_not,and_true] at hf;exact⟨f1,rfl,hf.1,hf.2.1,hf.2.2⟩
 have p1:∀ (a b c:Value) (w:World),(part 124 #[a,b,c] 0).run Tryz.prog w =.ok (.agg #[a,b,c]) w:=fun a b c w=>by kernel_rfl
 rw[h1];have hs:=EW d a b s t x y W;generalize ((a==b)&& (s.toList==t.toList)&& (x==y))=v at hs ⊢
 cases v <;> simp[Op.eqFields,h2,h3,h4,p1,hs]
theorem Ge (a b:Dc)(W:World):(binOp .eql 32 (.iface 127 (.agg #[.bool a.neg,.string a.digits,.int .i64 a.exp])) (.iface 127 (.agg #[.bool b.neg,.string b.digits,.int .i64 b.exp]))).run Tryz.prog W =.ok (.bool ((a.neg==b.neg)&& (a.digits.toList==b.digits.toList)&& (a.exp==b.exp))) W:=by
 obtain⟨i,h1,h2⟩:=kI (t:=127) (by kernel_rfl);exact uP h1 h2 (El 9995 _ _ _ _ _ _ W)
theorem DB (a b:ByteArray):(a.toList==b.toList)=decide (a=b):=by
 rw[FX]
 congr 1
 rw[ByteArray.toList_eq]
theorem tF {B:Option Addr}(ha:dl P w A us ks)(hb:dl Q w B us' ks')(hT:du w)(h1:Below w.heap.size w w1)(hr:r=true↔ks=ks')
  (H:∀ (i:Nat) u u' k k',us[i]?=some u->ks[i]?=some k->us'[i]?=some u'->ks'[i]?=some k'->∀w1,Below w.heap.size w w1->Calls Tryz.prog 40 #[u,u'] w1 fun e w'=>e =.returned (.bool (wM k k'))/\Below w1.heap.size w1 w') :
  Calls Tryz.prog 40 #[.iface 57 (.pointer A),.iface 57 (.pointer B)] w1 fun e w'=>e =.returned (.bool r)/\Below w1.heap.size w1 w':=by
 refine Fa fun w2 h2=>?_
 have h3:=h1.trans (h2.mono h1.size);refine qY (ha.below h3) (hb.below h3) (hT.below h3) hr fun i u u' k k' e1 e2 e3 e4 w4 h4=>?_
 exact H i u u' k k' e1 e2 e3 e4 w4 (h3.trans (h4.mono h3.size))
theorem Fq {B:Option Addr}(ha:fa P w A us ns ks)(hb:fa Q w B us' ns' ks')(h1:Below w.heap.size w w1)(hr:r=true↔ns=ns'/\ks=ks')
  (H:∀ (i:Nat) u u' k k',us[i]?=some u->ks[i]?=some k->us'[i]?=some u'->ks'[i]?=some k'->∀w1,Below w.heap.size w w1->Calls Tryz.prog 40 #[u,u'] w1 fun e w'=>e =.returned (.bool (wM k k'))/\Below w1.heap.size w1 w') :
  Calls Tryz.prog 40 #[.iface 130 (.pointer A),.iface 130 (.pointer B)] w1 fun e w'=>e =.returned (.bool r)/\Below w1.heap.size w1 w':=by
 refine GZ fun w2 h2=>?_
 have h3:=h1.trans (h2.mono h1.size);refine tg (ha.below h3) (hb.below h3) hr fun i u u' k k' e1 e2 e3 e4 w4 h4=>?_
 exact H i u u' k k' e1 e2 e3 e4 w4 (h3.trans (h4.mono h3.size))
theorem fd {a b:JV}(h:a.kindOf≠b.kindOf):wM a b=false:=lK.2 fun e=>h (by rw[e])
theorem zO {a:JV}(ha:VW P w v a)(hT:du w):∀ {Q:Nat->Prop} {v':Value} {b:JV},VW Q w v' b->∀w1,Below w.heap.size w w1->Calls Tryz.prog 40 #[v,v'] w1 fun e w'=>e =.returned (.bool (wM a b))/\Below w1.heap.size w1 w':=by
 induction ha with
 |null=>
  intro Q v' b hb w1 h1
  by_cases hk:b.kindOf=1
  ·cases hb with
   |null=>rw[dy.2 rfl];exact FG E3
   |bool|num|text|hole|bare|list|obj=>simp[JV.kindOf] at hk
  ·rw[fd (fun e=>hk e.symm)];exact gE (P:=P) (Q:=Q) .null (hb.later h1) (fun e=>hk e.symm)
 |hole=>
  intro Q v' b hb w1 h1
  by_cases hk:b.kindOf=7
  ·cases hb with
   |hole=>rw[dy.2 rfl];exact EX EU
   |bool|num|text|null|bare|list|obj=>simp[JV.kindOf] at hk
  ·rw[fd (fun e=>hk e.symm)];exact gE (P:=P) (Q:=Q) .hole (hb.later h1) (fun e=>hk e.symm)
 |bool x=>
  intro Q v' b hb w1 h1
  by_cases hk:b.kindOf=2
  ·cases hb with
   |bool y=>
    have e:wM (.mk 2 x es ⟨false,es,0⟩ [] []) (.mk 2 y es ⟨false,es,0⟩ [] [])= (x==y):=by
     rw[Bool.eq_iff_iff,dy];simp
    rw[e];exact Em x y (Fo x y)
   |hole|num|text|null|bare|list|obj=>simp[JV.kindOf] at hk
  ·rw[fd (fun e=>hk e.symm)];exact gE (P:=P) (Q:=Q) (.bool x) (hb.later h1) (fun e=>hk e.symm)
 |num d=>
  intro Q v' b hb w1 h1
  by_cases hk:b.kindOf=3
  ·cases hb with
   |num y=>
    have e:wM (.mk 3 false es d [] []) (.mk 3 false es y [] [])= ((d.neg==y.neg)&& (d.digits.toList==y.digits.toList)&& (d.exp==y.exp)):=by
     rw[Bool.eq_iff_iff,dy,DB];obtain⟨d1,d2,d3⟩:=d;obtain⟨y1,y2,y3⟩:=y;simp[and_assoc]
    rw[e];exact GU d y (Ge d y)
   |hole|bool|text|null|bare|list|obj=>simp[JV.kindOf] at hk
  ·rw[fd (fun e=>hk e.symm)];exact gE (P:=P) (Q:=Q) (.num d) (hb.later h1) (fun e=>hk e.symm)
 |text s=>
  intro Q v' b hb w1 h1
  by_cases hk:b.kindOf=4
  ·cases hb with
   |text y=>
    have e:wM (.mk 4 false s ⟨false,es,0⟩ [] []) (.mk 4 false y ⟨false,es,0⟩ [] [])= (s.toList==y.toList):=by
     rw[Bool.eq_iff_iff,dy,DB];simp
    rw[e];exact Ew s y (EG s y)
   |hole|bool|num|null|bare|list|obj=>simp[JV.kindOf] at hk
  ·rw[fd (fun e=>hk e.symm)];exact gE (P:=P) (Q:=Q) (.text s) (hb.later h1) (fun e=>hk e.symm)
 |bare=>
  intro Q v' b hb w1 h1
  by_cases hk:b.kindOf=5
  ·have a0:=hb;obtain⟨ks',rfl⟩:∃ks',b =.mk 5 false es ⟨false,es,0⟩ [] ks':=by cases hb <;> first|exact⟨_,rfl⟩|simp[JV.kindOf] at hk
   obtain⟨B,us',rfl,hL,hK⟩:=a0.asList;refine tF (P:=P) (us:= []) (.inl ⟨rfl,rfl,rfl⟩) hL hT h1 (dy.trans (by simp)) fun i u u' k k' e1=>?_
   simp at e1
  ·rw[fd (fun e=>hk e.symm)];exact gE (P:=P) (Q:=Q) .bare (hb.later h1) (fun e=>hk e.symm)
 |list g A c us ks hp hg hr hl hks ih=>
  intro Q v' b hb w1 h1
  by_cases hk:b.kindOf=5
  ·have a0:=hb;obtain⟨ks',rfl⟩:∃ks',b =.mk 5 false es ⟨false,es,0⟩ [] ks':=by cases hb <;> first|exact⟨_,rfl⟩|simp[JV.kindOf] at hk
   obtain⟨B,us',rfl,hL,hK⟩:=a0.asList;refine tF (P:=P) (.inr ⟨g,A,c,rfl,hg,hr,hl⟩) hL hT h1 (dy.trans (by simp)) fun i u u' k k' e1 e2 e3 e4 w2 h2=>?_
   exact ih i u k e1 e2 (hK i u' k' e3 e4) w2 h2
  ·rw[fd (fun e=>hk e.symm)];exact gE (P:=P) (Q:=Q) ((VW.list g A c us ks hp hg hr hl hks).later h1) (hb.later h1) (fun e=>hk e.symm)
 |obj g A c us ns ks hp hg hr hl hn hks ih=>
  intro Q v' b hb w1 h1
  by_cases hk:b.kindOf=6
  ·have a0:=hb;obtain⟨ns',ks',rfl⟩:∃ns' ks',b =.mk 6 false es ⟨false,es,0⟩ ns' ks':=by cases hb <;> first|exact⟨_,_,rfl⟩|simp[JV.kindOf] at hk
   obtain⟨B,us',rfl,hL,hK⟩:=a0.asObj;refine Fq (P:=P) ⟨g,A,c,rfl,hg,hr,hl,hn⟩ hL h1 (dy.trans (by simp)) fun i u u' k k' e1 e2 e3 e4 w2 h2=>?_
   exact ih i u k e1 e2 (hK i u' k' e3 e4) w2 h2
  ·rw[fd (fun e=>hk e.symm)];exact gE (P:=P) (Q:=Q) ((VW.obj g A c us ns ks hp hg hr hl hn hks).later h1) (hb.later h1) (fun e=>hk e.symm)
theorem zR {a b:JV}(ha:VW P w v a)(hb:VW Q w v' b)(hT:du w):Calls Tryz.prog 15 #[v,v'] w fun e w'=>e =.returned (.bool (wM a b))/\Below w.heap.size w w':=by
 have H:=Qa (zO ha hT hb w (Zd _ _));obtain⟨t1,x1,rfl⟩:=ha.iface;obtain⟨t2,x2,rfl⟩:=hb.iface;clear ha hb hT;generalize wM a b=c at *;go_enter Tryz.func15,Tryz.ntmps15;go_wp2_with fail;(with_reducible refine H.out.mono ?_);rintro e w2 ⟨rfl,a0⟩;go_wp2_with fail;go_ret;exact⟨rfl,a0⟩
theorem uf (hE:qJ w aU aE)(hM:kR w)(hT:du w)(hb:Bs w v xs)(h0:0<xs.length)(hl:xs.length<=1000000000)(hp:fp xs=some j)(tx:Tx j)(sz:Sz j)(hx:(JV.txt j).length<=140737488355328) :
  Calls Tryz.prog 16 #[v] w (Gt (JV.txt j) w):=by
 have H:=Qa (kz hE hM hb h0 hl hp);have HB:=Qa (fun u w1 (hw:Below w.heap.size w w1) (hv:VW (w.heap.size<= ·) w1 u j)=>jN hv (hT.below hw) (hE.glob.below hw) tx sz hx);clear hE hM hT hb h0 hl hp tx sz hx;generalize JV.txt j=tl at *;go_enter Tryz.func16,Tryz.ntmps16;go_wp2_with fail;(with_reducible refine H.out.mono ?_);rintro e w1 ⟨u,rfl,a0,hv⟩;have a1:=Qa a0;have a3:=Qa (HB.out u w1 a0 hv);obtain⟨t1,x1,rfl⟩:=hv.iface;clear a0 hv HB;go_wp2_with fail;(with_reducible refine a3.out.mono ?_);rintro e w2 ⟨u2,rfl,ho,a2⟩;have a4:=Qa (a1.out.trans (a2.mono a1.out.size));have Ho:=Qa (bV ho a1.out.size);obtain⟨A,q,rfl,-⟩:=ah ho;clear ho a2;go_wp2_with fail;go_ret2;exact⟨_,rfl,Ho.out,a4.out⟩
theorem Ce (hE:qJ w aU aE)(hM:kR w)(hT:du w)(hb:Bs w v xs)(h0:0<xs.length)(hl:xs.length<=1000000000)(hp:fp xs=some j)(a9:Bs w v' xs')(a7:0<xs'.length)(a5:xs'.length<=1000000000)(a4:fp xs'=some j') :
  Calls Tryz.prog 18 #[v,v'] w fun e w'=>e =.returned (.tuple #[.bool (wM j j'),.nilIface])/\Below w.heap.size w w':=by
 have H:=Qa (kz hE hM hb h0 hl hp);have H2:=Qa (fun w1 (hw:Below w.heap.size w w1)=>kz (hE.below hw) (hM.below hw) (a9.below hw) a7 a5 a4);have HT:=Qa hT;clear hE hM hT hb h0 hl hp a9 a7 a5 a4;go_enter Tryz.func18,Tryz.ntmps18;go_wp2_with fail;(with_reducible refine H.out.mono ?_);rintro e w1 ⟨u,rfl,a0,hv⟩;have b0:=Qa a0;have Hv:=Qa hv;have b2:=Qa (H2.out w1 a0);obtain⟨t1,x1,rfl⟩:=hv.iface;clear a0 hv;go_wp2_with fail;(with_reducible refine b2.out.mono ?_);rintro e w2 ⟨u2,rfl,a2,a1⟩;have a3:=Qa (b0.out.trans (a2.mono b0.out.size));have HQ:=Qa (zR (Hv.out.later a2) a1 (HT.out.below a3.out));obtain⟨t2,x2,rfl⟩:=a1.iface;clear a2 a1;go_wp2_with fail;(with_reducible refine HQ.out.mono ?_);rintro e w3 ⟨rfl,a6⟩;have b1:=Qa (a3.out.trans (a6.mono a3.out.size));clear a6;go_wp2_with fail;go_ret2;exact⟨rfl,b1.out⟩
theorem oL (h:Bs w v xs)(h':Bs w v' ys):Calls Tryz.prog 49 #[v,v'] w fun e w'=>e =.returned (.bool (decide (xs=ys)))/\w=w':=by
 have c1:=aW h;have c2:=aW h';have He:Hid (((⟨xs.toArray⟩:ByteArray).toList== (⟨ys.toArray⟩:ByteArray).toList)=decide (xs=ys)):=Qa (by
  rw[rK,rK,Bool.eq_iff_iff];simp)
 clear h h';generalize (⟨xs.toArray⟩:ByteArray)=a at *;generalize (⟨ys.toArray⟩:ByteArray)=b at *;go_enter Tryz.func49,Tryz.ntmps49;go_wp2_with fail;go_ret;rw[<-He.out];exact⟨rfl,rfl⟩
theorem Dw (hE:qJ w aU aE)(hM:kR w)(hT:du w)(hb:Bs w v xs)(h0:0<xs.length)(hl:xs.length<=1000000000)(hp:fp xs=some j)(tx:Tx j)(sz:Sz j)(hx:(JV.txt j).length<=140737488355328) :
  Calls Tryz.prog 25 #[v] w fun e w'=>e =.returned (.bool (decide (xs=JV.txt j)))/\Below w.heap.size w w':=by
 have H:=Qa (uf hE hM hT hb h0 hl hp tx sz hx);have HE:=Qa (fun w1 u (hw:Below w.heap.size w w1) (ho:au w1 w.heap.size u (JV.txt j))=>oL (hb.below hw) (au.bs ho));clear hE hM hT hb h0 hl hp tx sz hx;go_enter Tryz.func25,Tryz.ntmps25;go_wp2_with fail;(with_reducible refine H.out.mono ?_);rintro e w1 ⟨u,rfl,ho,a0⟩;have a1:=Qa a0;have HQ:=Qa (HE.out w1 u a0 ho);obtain⟨A,q,rfl,-⟩:=ah ho;clear ho a0;go_wp2_with fail;(with_reducible refine HQ.out.mono ?_);rintro e w2 ⟨rfl,rfl⟩;go_wp2_with fail;go_ret;exact⟨rfl,a1.out⟩
def JT (x:Value)(w:World)(e:Ending)(w':World):Prop:=e =.returned (.tuple #[.slice none 0 0,x])/\Below w.heap.size w w'
theorem AI {a:Addr}(hN:w.cell? ⟨0,0,none⟩=some (bL a)):Calls Tryz.prog 17 #[.nilIface] w (JT (bL a) w):=by
 have a1:Below w.heap.size w ((w.alloc (.cells #[.slice none 0 0] 22)).alloc (.cells #[.nilIface] 49)):=((Zd _ _).alloc (Za _) _).alloc (by simp) _;have h0:((w.alloc (.cells #[.slice none 0 0] 22)).alloc (.cells #[.nilIface] 49)).heap[w.heap.size]?=some (.cells #[.slice none 0 0] 22 (0,0)):=(Below.heap_alloc _ _ _ (by simp)).trans (Ze w _);have h1:((w.alloc (.cells #[.slice none 0 0] 22)).alloc (.cells #[.nilIface] 49)).heap[w.heap.size+1]?=some (.cells #[.nilIface] 49 (0,0)):=by
  have:=Ze (w.alloc (.cells #[.slice none 0 0] 22)) (.cells #[.nilIface] 49)
  rwa[World.size_alloc] at this
 have cN:=Zf a1 hN;have a5:0<w.heap.size:=World.block_lt_of_cell? w _ hN;have a4:=Qa a1;have H0:=Qa h0;have H1:=Qa h1;clear a1 h0 h1 hN;go_enter_defers Tryz.func17,Tryz.ntmps17;go_wp2_with fail;generalize (w.alloc (.cells #[.slice none 0 0] 22)).alloc (.cells #[.nilIface] 49)=w1 at *;have c0:=aa H0.out (j:=0) (u:=.slice none 0 0) rfl;have f0:=am H0.out 0;have c1:=aa H1.out (j:=0) (u:=.nilIface) rfl;have f1:=am H1.out 0;refine aR (fun w'=>w'.cell? ⟨0,0,none⟩=some (bL a)/\(w'.heap[w.heap.size]?=some (.cells #[.slice none 0 0] 22 (0,0)))/\(∃z,w'.heap[w.heap.size+1]?=some (.cells #[z] 49 (0,0)))) (⟨cN,H0.out,_,H1.out⟩) fun a0=>?_
 refine tH 0 a0 ?_
 try simp only[Act.put,jP,jQ,jR]
 refine rH 1 fun K hK=>?_
 go_simp;refine hK.out _ _ ((by obtain⟨q1,q2,z,q3⟩:=a0;exact⟨(World.cell?_of_block (Below.heap_setCell _ ⟨w.heap.size,0,none⟩ _ 0 (by show _≠w.heap.size;omega))).trans q1,aw q2 0 (.slice none 0 0),z,av _ (w.heap.size+1) w.heap.size 0 (.slice none 0 0) _ _ (by omega) q3⟩)) (fun a0=>?_);clear hK K
 try simp only[Act.put,jP,jQ,jR]
 refine rH 2 fun K hK=>?_
 go_simp;refine hK.out _ _ ((by obtain⟨q1,q2,z,q3⟩:=a0;exact⟨(World.cell?_of_block (Below.heap_setCell _ ⟨w.heap.size+1,0,none⟩ _ 0 (by show _≠w.heap.size+1;omega))).trans q1,av _ w.heap.size (w.heap.size+1) 0 (bL a) _ _ (by omega) q2,_,aw q3 0 (bL a)⟩)) (fun a0=>?_);clear hK K
 try simp only[Act.put,jP,jQ,jR]
 refine wpAnyH_done (by kernel_rfl) (NoPanic.normal ?_) _;obtain⟨a2,d0,d1⟩:=sC H0.out H1.out a4.out (.slice none 0 0) (bL a);rw[show(Value.iface 427 (.pointer (some a)))=bL a from rfl];have a3:=a2.drew;have e0:((w1.setCell ⟨w.heap.size,0,none⟩ (.slice none 0 0)).setCell ⟨w.heap.size+1,0,none⟩ (bL a)).drew.cell? ⟨w.heap.size,0,none⟩=some (.slice none 0 0):=d0;have e1:((w1.setCell ⟨w.heap.size,0,none⟩ (.slice none 0 0)).setCell ⟨w.heap.size+1,0,none⟩ (bL a)).drew.cell? ⟨w.heap.size+1,0,none⟩=some (bL a):=d1;clear d0 d1 a2 c0 c1 f0 f1 a0;generalize ((w1.setCell ⟨w.heap.size,0,none⟩ (.slice none 0 0)).setCell ⟨w.heap.size+1,0,none⟩ (bL a)).drew=w4 at *;go_wp2_with fail;simp[bodyPostD,Leaves,settle,results,Tryz.results17,go_sem,e0,e1];exact⟨rfl,a3⟩
theorem wZ:Calls Tryz.prog 42 #[.iface 54 (.agg #[])] w fun e w'=>e =.returned (.bool true)/\Below w.heap.size w w':=by
 have a2:=Qa (show Below w.heap.size w (w.alloc (.cells #[.bool false] 4)) from(Zd _ _).alloc (Za _) _);have Hk:=Qa (Bx.new w 4 (.bool false));go_enter Tryz.func42,Tryz.ntmps42;go_wp2_with fail;(with_reducible refine io.mono ?_);rintro e w1 ⟨rfl,a1⟩;have a4:=Qa (a2.out.trans (a1.mono a2.out.size));have a0:=Hk.out.later a1;have a7:=a0.cell;have a6:=a0.frozen;have a3:=Qa (a0.set (.bool true)).cell;clear a1 a0;go_wp2_with fail;refine Zg (v:=.bool true) ?_ rfl ⟨rfl,a4.out.setCell (p:=⟨w.heap.size,0,none⟩) (Za _) _⟩;have a5:=a3.out;simp[results,Tryz.results42,go_sem,a5]
theorem yT {a:Addr}(hN:w.cell? ⟨1,0,none⟩=some (bL a)):Calls Tryz.prog 17 #[.iface 54 (.agg #[])] w (JT (bL a) w):=by
 have a3:Below w.heap.size w ((w.alloc (.cells #[.slice none 0 0] 22)).alloc (.cells #[.nilIface] 49)):=((Zd _ _).alloc (Za _) _).alloc (by simp) _;have h0:((w.alloc (.cells #[.slice none 0 0] 22)).alloc (.cells #[.nilIface] 49)).heap[w.heap.size]?=some (.cells #[.slice none 0 0] 22 (0,0)):=(Below.heap_alloc _ _ _ (by simp)).trans (Ze w _);have h1:((w.alloc (.cells #[.slice none 0 0] 22)).alloc (.cells #[.nilIface] 49)).heap[w.heap.size+1]?=some (.cells #[.nilIface] 49 (0,0)):=by
  have:=Ze (w.alloc (.cells #[.slice none 0 0] 22)) (.cells #[.nilIface] 49)
  rwa[World.size_alloc] at this
 have cN:=Zf a3 hN;have a6:1<w.heap.size:=World.block_lt_of_cell? w _ hN;have a2:=Qa a3;have H0:=Qa h0;have H1:=Qa h1;clear a3 h0 h1 hN;go_enter_defers Tryz.func17,Tryz.ntmps17;go_wp2_with fail;generalize (w.alloc (.cells #[.slice none 0 0] 22)).alloc (.cells #[.nilIface] 49)=w1 at *;(with_reducible refine wZ.mono ?_);rintro e w2 ⟨rfl,a1⟩;replace cN:=Zf a1 cN;replace H0:=Qa (aj H0.out a1);replace H1:=Qa (aj H1.out a1);replace a2:=Qa (a2.out.trans (a1.mono a2.out.size));clear a1;go_wp2_with fail;have c0:=aa H0.out (j:=0) (u:=.slice none 0 0) rfl;have f0:=am H0.out 0;have c1:=aa H1.out (j:=0) (u:=.nilIface) rfl;have f1:=am H1.out 0;refine aR (fun w'=>w'.cell? ⟨1,0,none⟩=some (bL a)/\(w'.heap[w.heap.size]?=some (.cells #[.slice none 0 0] 22 (0,0)))/\(∃z,w'.heap[w.heap.size+1]?=some (.cells #[z] 49 (0,0)))) (⟨cN,H0.out,_,H1.out⟩) fun a0=>?_
 refine tH 0 a0 ?_
 try simp only[Act.put,jP,jQ,jR]
 refine rH 1 fun K hK=>?_
 go_simp;refine hK.out _ _ ((by obtain⟨q1,q2,z,q3⟩:=a0;exact⟨(World.cell?_of_block (Below.heap_setCell _ ⟨w.heap.size,0,none⟩ _ 1 (by show _≠w.heap.size;omega))).trans q1,aw q2 0 (.slice none 0 0),z,av _ (w.heap.size+1) w.heap.size 0 (.slice none 0 0) _ _ (by omega) q3⟩)) (fun a0=>?_);clear hK K
 try simp only[Act.put,jP,jQ,jR]
 refine rH 2 fun K hK=>?_
 go_simp;refine hK.out _ _ ((by obtain⟨q1,q2,z,q3⟩:=a0;exact⟨(World.cell?_of_block (Below.heap_setCell _ ⟨w.heap.size+1,0,none⟩ _ 1 (by show _≠w.heap.size+1;omega))).trans q1,av _ w.heap.size (w.heap.size+1) 0 (bL a) _ _ (by omega) q2,_,aw q3 0 (bL a)⟩)) (fun a0=>?_);clear hK K
 try simp only[Act.put,jP,jQ,jR]
 refine wpAnyH_done (by kernel_rfl) (NoPanic.normal ?_) _;obtain⟨a4,d0,d1⟩:=sC H0.out H1.out a2.out (.slice none 0 0) (bL a);rw[show(Value.iface 427 (.pointer (some a)))=bL a from rfl];have a5:=a4.drew;have e0:((w2.setCell ⟨w.heap.size,0,none⟩ (.slice none 0 0)).setCell ⟨w.heap.size+1,0,none⟩ (bL a)).drew.cell? ⟨w.heap.size,0,none⟩=some (.slice none 0 0):=d0;have e1:((w2.setCell ⟨w.heap.size,0,none⟩ (.slice none 0 0)).setCell ⟨w.heap.size+1,0,none⟩ (bL a)).drew.cell? ⟨w.heap.size+1,0,none⟩=some (bL a):=d1;clear d0 d1 a4 c0 c1 f0 f1 a0;generalize ((w2.setCell ⟨w.heap.size,0,none⟩ (.slice none 0 0)).setCell ⟨w.heap.size+1,0,none⟩ (bL a)).drew=w4 at *;go_wp2_with fail;simp[bodyPostD,Leaves,settle,results,Tryz.results17,go_sem,e0,e1];exact⟨rfl,a5⟩
theorem o9:Calls Tryz.prog 19 #[] w fun e w'=>e =.returned (.pointer (some ⟨w.heap.size,0,none⟩))/\w'.heap[w.heap.size]?=some (.cells #[.slice none 0 0,.nilIface] 97 (0,0))/\Below w.heap.size w w':=by
 have h0:=Qa (Ze w (.cells #[.slice none 0 0,.nilIface] 97));have hb:=Qa (ac w (.cells #[.slice none 0 0,.nilIface] 97));go_enter Tryz.func19,Tryz.ntmps19;go_wp2_with fail;go_ret;exact⟨rfl,h0.out,hb.out⟩
theorem oT {d:Value}(h:w.heap[g]?=some (.cells #[.slice A 0 c,d] 97 (0,0))):Calls Tryz.prog 46 #[.pointer (some ⟨g,0,none⟩)] w fun e w'=>e =.returned .nilIface/\w=w':=by
 have c0:=aa h (j:=0) (u:=.slice A 0 c) rfl;clear h;go_enter Tryz.func46,Tryz.ntmps46;go_wp2_with fail;go_ret;exact⟨rfl,rfl⟩
theorem DQ {d:Value}(h:w.heap[g]?=some (.cells #[.slice (some ⟨gr,0,none⟩) (n+1) c,d] 97 (0,0)))(hn:n<1000000000)(hu:w.cell? ⟨gr,n,none⟩=some u):Calls Tryz.prog 46 #[.pointer (some ⟨g,0,none⟩)] w fun e w'=>e =.returned u/\∃m,w'=w.drewN m:=by
 have c0:=aa h (j:=0) (u:=.slice (some ⟨gr,0,none⟩) (n+1) c) rfl;have s1:IntKind.i64.wrap (n:Int)= (n:Int):=IntWalk.i64_in _ (by omega);have s2:(n:Int)< (n:Int)+1:=by omega
 have s3:((n:Int)+1==0)=false:=by simp only[beq_eq_false_iff_ne];omega
 clear h;go_enter Tryz.func46,Tryz.ntmps46;go_wp2_with fail;go_quiet (fail);go_wp2_with fail;go_ret;exact⟨rfl,_,rfl⟩
theorem qN:Calls Tryz.prog 319 #[x] w fun e w'=>e =.returned (.bool true)/\w=w':=by
 go_enter Tryz.func319,Tryz.ntmps319;go_wp2_with fail;go_ret;exact⟨rfl,rfl⟩
theorem ow {m nm:Value}{b:Bool}(h:w.heap[g]?=some (.cells #[m,nm,.bool b] 104 (0,0))):Calls Tryz.prog 322 #[.pointer (some ⟨g,0,none⟩)] w fun e w'=>e =.returned (.bool b)/\w=w':=by
 have c0:=aa h (j:=2) (u:=.bool b) rfl;clear h;go_enter Tryz.func322,Tryz.ntmps322;go_wp2_with fail;go_ret;exact⟨rfl,rfl⟩
theorem uT (h:w.heap[g]?=some (.cells #[.slice A 0 c,.nilIface] 97 (0,0))):Calls Tryz.prog 45 #[.pointer (some ⟨g,0,none⟩)] w fun e w'=>e =.returned (.bool true)/\Below w.heap.size w w':=by
 have c1:=aa h (j:=1) (u:=.nilIface) rfl;have H:=Qa (oT h);clear h;go_enter Tryz.func45,Tryz.ntmps45;go_wp2_with fail;(with_reducible refine H.out.mono ?_);rintro e w1 ⟨rfl,rfl⟩;go_wp2_with fail;go_ret;exact⟨rfl,Zd _ _⟩
theorem ux {t:TypeId}(h:w.heap[g]?=some (.cells #[.slice A 0 c,.iface t x] 97 (0,0))):Calls Tryz.prog 45 #[.pointer (some ⟨g,0,none⟩)] w fun e w'=>e =.returned (.bool false)/\Below w.heap.size w w':=by
 have c1:=aa h (j:=1) (u:=.iface t x) rfl;have H:=Qa (oT h);clear h;go_enter Tryz.func45,Tryz.ntmps45;go_wp2_with fail;(with_reducible refine H.out.mono ?_);rintro e w1 ⟨rfl,rfl⟩;go_wp2_with fail;go_ret;exact⟨rfl,Zd _ _⟩
theorem yr (H:Calls Tryz.prog 46 #[.pointer (some ⟨g,0,none⟩)] w fun e w'=>e =.returned (.iface 98 x)/\Below w.heap.size w w'):Calls Tryz.prog 45 #[.pointer (some ⟨g,0,none⟩)] w fun e w'=>e =.returned (.bool true)/\Below w.heap.size w w':=by
 go_enter Tryz.func45,Tryz.ntmps45;go_wp2_with fail;(with_reducible refine H.mono ?_);rintro e w1 ⟨rfl,hb⟩;go_wp2_with fail;(with_reducible refine qN.mono ?_);rintro e w2 ⟨rfl,rfl⟩;go_wp2_with fail;go_ret;exact⟨rfl,hb⟩
theorem rh {m nm:Value}{b:Bool}(h:w.heap[gt]?=some (.cells #[m,nm,.bool b] 104 (0,0)))(H:Calls Tryz.prog 46 #[.pointer (some ⟨g,0,none⟩)] w fun e w'=>e =.returned (.iface 101 (.pointer (some ⟨gt,0,none⟩)))/\Below w.heap.size w w'):Calls Tryz.prog 45 #[.pointer (some ⟨g,0,none⟩)] w fun e w'=>e =.returned (.bool b)/\Below w.heap.size w w':=by
 have HT:=Qa (fun w1 (hw:Below w.heap.size w w1)=>ow (aj h hw));clear h;go_enter Tryz.func45,Tryz.ntmps45;go_wp2_with fail;(with_reducible refine H.mono ?_);rintro e w1 ⟨rfl,hb⟩;have a0:=Qa (HT.out w1 hb);go_wp2_with fail;(with_reducible refine a0.out.mono ?_);rintro e w2 ⟨rfl,rfl⟩;go_wp2_with fail;go_ret;exact⟨rfl,hb⟩
theorem xH {t:TypeId}(h:w.heap[g]?=some (.cells #[.slice A us.length c] 100 (0,0)))(ho:w.ownsRow base 32 1 (.slice A us.length c) us.length us)(hb:base<=w.heap.size)(hl:us.length<=1000000000)(hn:∀b,(Value.slice A us.length c).ownBlock=some b->b≠g) :
  Calls Tryz.prog 317 #[.pointer (some ⟨g,0,none⟩),.iface t x] w fun e w'=>e =.returned (.tuple #[])/\∃A' q,w'.heap[g]?=some (.cells #[.slice A' (us.length+1) q] 100 (0,0))/\w'.ownsRow base 32 1 (.slice A' (us.length+1) q) (us.length+1) (us ++ [.iface t x])/\br (fun k=>k=g\/(Value.slice A us.length c).ownBlock=some k) w w'/\((Value.slice A' (us.length+1) q).ownBlock= (Value.slice A us.length c).ownBlock\/∃b,(Value.slice A' (us.length+1) q).ownBlock=some b/\w.heap.size<=b):=by
 have c0:=aa h (j:=0) (u:=.slice A us.length c) rfl;have a0:=Qa (ac w (.cells #[.iface t x] 32));have a2:=Qa (ar w [.iface t x] 32);have Ho:=Qa (aq ho a0.out (Za _));have H:=Qa (aj h a0.out);have a3:=Qa (show base<=(w.alloc (.cells #[.iface t x] 32)).heap.size from Zb hb a0.out.size);have Hn:=Qa hn;obtain⟨n,a1⟩:∃n,us.length=n:=⟨_,rfl⟩;have a4:=Qa a1;rw[a1] at Ho H Hn c0 hl ⊢;clear h ho hn a1;go_enter Tryz.func317,Tryz.ntmps317;go_wp2_with (at_builtin;refine ju yZ Ho.out a2.out a3.out ?_;intro v' w5 p1 p2 p3;obtain⟨A5,q5,rfl,-,-,-⟩:=ah p1;have g5:=aF H.out p2 (fun e=>Hn.out g e rfl);have f5:=am g5 0;have c5:=aa g5 (j:=0) (u:=.slice A n c) rfl;have G5:=Qa g5;have HK:=Qa p1;have HG:=Qa p2;have HD:=Qa p3;clear p1 p2 p3 g5);go_end0;have hne:∀b,(Value.slice A5 (n+1) q5).ownBlock=some b->¬b=g:=fun b hb e=>by
  have hg:=ae H.out;rcases HD.out with h|h
  ·exact Hn.out b (h▸hb) e
  ·rw[h] at hb;have:=Zh hb;omega
 refine⟨rfl,⟨A5,q5,aw G5.out 0 _,bH HK.out (fun b hb=>?_),?_,?_⟩⟩
 ·exact(br.set g 0 _).block b (by obtain⟨_,cur,hg⟩:=al HK.out hb;exact ae hg) (hne b hb)
 ·exact((br.of_below a0.out).trans (br.grown HG.out) (fun i h=>.inl (.inr h))).trans (br.set g 0 _) (fun i h=>.inl (.inl h))
 ·rcases HD.out with h|h
  ·exact .inl h
  ·exact .inr ⟨_,h,a0.out.size⟩
theorem qI {d:Value}{t:TypeId}(h:w.heap[g]?=some (.cells #[.slice A 0 c,d] 97 (0,0)))(hd:d.oneCell'=true):Calls Tryz.prog 48 #[.pointer (some ⟨g,0,none⟩),.iface t x] w fun e w'=>e =.returned (.tuple #[])/\w'.heap[g]?=some (.cells #[.slice A 0 c,.iface t x] 97 (0,0))/\br (fun k=>k=g) w w':=by
 have c1:=aa h (j:=1) (u:=d) rfl;have f1:=am h 1;have H:=Qa (oT h);have Hs:=Qa (aw h 1 (.iface t x));clear h;go_enter Tryz.func48,Tryz.ntmps48;go_wp2_with fail;(with_reducible refine H.out.mono ?_);rintro e w1 ⟨rfl,rfl⟩;go_wp2_with fail;go_end0;exact⟨rfl,Hs.out,br.set g 1 _⟩
def CX (w:World)(base gr:Nat)(A:Option Addr)(c:Nat)(us:List Value)(v:Value)(w':World):Prop:= ∃A' q,w'.heap[gr]?=some (.cells #[.slice A' (us.length+1) q] 100 (0,0))/\w'.ownsRow base 32 1 (.slice A' (us.length+1) q) (us.length+1) (us ++ [v])/\br (fun k=>k=gr\/(Value.slice A us.length c).ownBlock=some k) w w'/\((Value.slice A' (us.length+1) q).ownBlock= (Value.slice A us.length c).ownBlock\/∃b,(Value.slice A' (us.length+1) q).ownBlock=some b/\w.heap.size<=b)
theorem uA {t:TypeId}(HI:Calls Tryz.prog 46 #[.pointer (some ⟨g,0,none⟩)] w fun e w'=>e =.returned (.iface 98 (.pointer (some ⟨gr,0,none⟩)))/\∃m,w'=w.drewN m)
  (h:w.heap[gr]?=some (.cells #[.slice A us.length c] 100 (0,0))) (ho:w.ownsRow base 32 1 (.slice A us.length c) us.length us) (hb:base<=w.heap.size) (hl:us.length<=1000000000) (hn:∀b,(Value.slice A us.length c).ownBlock=some b->b≠gr) :
  Calls Tryz.prog 48 #[.pointer (some ⟨g,0,none⟩),.iface t x] w fun e w'=>e =.returned (.tuple #[])/\∃m,CX (w.drewN m) base gr A c us (.iface t x) w':=by
 have HA:=Qa (fun m=>xH (w:=w.drewN m) (t:=t) (x:=x) h ho hb hl hn);clear h ho hb hl hn;go_enter Tryz.func48,Tryz.ntmps48;go_wp2_with fail;(with_reducible refine HI.mono ?_);rintro e w1 ⟨rfl,m,rfl⟩;have a0:=Qa (HA.out m);go_wp2_with fail;(with_reducible refine a0.out.mono ?_);rintro e w2 ⟨rfl,hr⟩;go_wp2_with fail;(try simp only[Exit.inBlock,Exit.then]);refine Zg (results_none rfl ..) rfl ?_;exact⟨rfl,m,hr⟩
