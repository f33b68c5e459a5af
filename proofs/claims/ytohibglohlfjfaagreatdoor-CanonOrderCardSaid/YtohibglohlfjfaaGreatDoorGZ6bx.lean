import Derived.Test.YtohibglohlfjfaaGreatDoorGZ6bw
set_option linter.unusedVariables false
set_option linter.unusedSimpArgs false
set_option maxHeartbeats 64000000
set_option maxRecDepth 100000
namespace Go.Proofs.YtohibglohlfjfaaGreatDoor
open Go.RowKit Go.Shelf
variable {w:World}
def Lp (W:World)(s:Value)(wr:World):Prop:= ∃i:Nat,s =.int .i64 i/\i<=3/\Below W.heap.size W wr
def Kq (W:World)(x:Option JV)(S L:List Vj)(s22 s23 s24:Value)(wr:World):Prop:= ∃i:Nat,s24 =.int .i64 i/\i<=3/\s22 =.int .i64 (ll x (S.take i):Nat)/\s23 =.int .i64 (ll x (L.take i):Nat)/\Below W.heap.size W wr
theorem yz (x:Option JV)(l:List Vj):ll x l<=l.length:=List.countP_le_length
theorem mT {At Ah Ab:Value}{xA:List UInt8}{hA bA:List Int}{Bt Bh Bb:Value}{xB:List UInt8}{hB bB:List Int}{Ct Ch Cb:Value}{xC:List UInt8}{hC bC:List Int}(hL:xI w)(Ae1:Bs w At xA)(Ae2:Sl w Ah (hA.map iV))(Ae3:Sl w Ab (bA.map iV))(Ae4:∀z∈hA,-9223372036854775808<=z/\z<=9223372036854775807)(Ae5:∀z∈bA,-9223372036854775808<=z/\z<=9223372036854775807)(Be1:Bs w Bt xB)(Be2:Sl w Bh (hB.map iV))(Be3:Sl w Bb (bB.map iV))(Be4:∀z∈hB,-9223372036854775808<=z/\z<=9223372036854775807)(Be5:∀z∈bB,-9223372036854775808<=z/\z<=9223372036854775807)(Ce1:Bs w Ct xC)(Ce2:Sl w Ch (hC.map iV))(Ce3:Sl w Cb (bC.map iV))(Ce4:∀z∈hC,-9223372036854775808<=z/\z<=9223372036854775807)(Ce5:∀z∈bC,-9223372036854775808<=z/\z<=9223372036854775807) :
  Calls Tryz.prog 3 #[.agg #[At,Ah,Ab],.agg #[Bt,Bh,Bb],.agg #[Ct,Ch,Cb]] w (JE w):=by
 have p2:=Qa (fun w1 (hb:Below w.heap.size w w1)=>wm (Ae1.below hb) (Ae2.below hb) (Ae3.below hb) Ae4 Ae5);have n8:=Qa (fun w1 (hb:Below w.heap.size w w1)=>wm (Be1.below hb) (Be2.below hb) (Be3.below hb) Be4 Be5);have l3:=Qa (fun w1 (hb:Below w.heap.size w w1)=>wm (Ce1.below hb) (Ce2.below hb) (Ce3.below hb) Ce4 Ce5);obtain⟨-,A1,Ac1,rfl,-⟩:=Ae1;obtain⟨-,A2,Ac2,rfl,-⟩:=Ae2;obtain⟨-,A3,Ac3,rfl,-⟩:=Ae3;generalize (hA.map iV).length=nA2 at *;generalize (bA.map iV).length=nA3 at *;obtain⟨-,B1,Bc1,rfl,-⟩:=Be1;obtain⟨-,B2,Bc2,rfl,-⟩:=Be2;obtain⟨-,B3,Bc3,rfl,-⟩:=Be3;generalize (hB.map iV).length=nB2 at *;generalize (bB.map iV).length=nB3 at *;obtain⟨-,C1,Cc1,rfl,-⟩:=Ce1;obtain⟨-,C2,Cc2,rfl,-⟩:=Ce2;obtain⟨-,C3,Cc3,rfl,-⟩:=Ce3;generalize (hC.map iV).length=nC2 at *;generalize (bC.map iV).length=nC3 at *;obtain⟨X0,X1,X2,Ha⟩:=AD w (.cells #[.slice A1 xA.length Ac1,.slice A2 nA2 Ac2,.slice A3 nA3 Ac3] 25) (.cells #[.slice B1 xB.length Bc1,.slice B2 nB2 Bc2,.slice B3 nB3 Bc3] 25) (.cells #[.slice C1 xC.length Cc1,.slice C2 nC2 Cc2,.slice C3 nC3 Cc3] 25);have HL:=Qa hL;clear hL Ae4 Ae5 Be4 Be5 Ce4 Ce5;go_enter Tryz.func3,Tryz.ntmps3;go_wp2_with fail;obtain⟨w0,j3⟩:∃w0,((w.alloc (.cells #[.slice A1 xA.length Ac1,.slice A2 nA2 Ac2,.slice A3 nA3 Ac3] 25)).alloc (.cells #[.slice B1 xB.length Bc1,.slice B2 nB2 Bc2,.slice B3 nB3 Bc3] 25)).alloc (.cells #[.slice C1 xC.length Cc1,.slice C2 nC2 Cc2,.slice C3 nC3 Cc3] 25)=w0:=⟨_,rfl⟩;rw[j3] at X0 X1 X2 Ha ⊢;clear j3;refine(AH (HL.out.below Ha.out)).mono ?_;rintro e w1 ⟨rfl,d1⟩;have k0:=aa (ai X0.out d1) (j:=0) (u:=.slice A1 xA.length Ac1) rfl;have k1:=aa (ai X0.out d1) (j:=1) (u:=.slice A2 nA2 Ac2) rfl;have k2:=aa (ai X0.out d1) (j:=2) (u:=.slice A3 nA3 Ac3) rfl;have Y1:=Qa (ai X1.out d1);have Y2:=Qa (ai X2.out d1);have f8:=Qa (Ha.out.trans (d1.mono Ha.out.size));have HA:=Qa (p2.out w1 f8.out);clear d1 p2 X0 X1 X2 Ha;go_wp2_with fail;refine Za HA ?_;rintro e w2 ⟨Aa,na,qa,oka,rfl,d5,m4⟩;have k0:=aa (ai Y1.out d5) (j:=0) (u:=.slice B1 xB.length Bc1) rfl;have k1:=aa (ai Y1.out d5) (j:=1) (u:=.slice B2 nB2 Bc2) rfl;have k2:=aa (ai Y1.out d5) (j:=2) (u:=.slice B3 nB3 Bc3) rfl;have Z2:=Qa (ai Y2.out d5);have g3:=Qa (f8.out.trans (d5.mono f8.out.size));have n3:=Qa m4;have HB:=Qa (n8.out w2 g3.out);clear d5 m4 n8 HA f8 Y1 Y2;go_wp2_with fail;refine Za HB ?_;rintro e w3 ⟨Ab,nb,qb,okb,rfl,d6,g5⟩;have k0:=aa (ai Z2.out d6) (j:=0) (u:=.slice C1 xC.length Cc1) rfl;have k1:=aa (ai Z2.out d6) (j:=1) (u:=.slice C2 nC2 Cc2) rfl;have k2:=aa (ai Z2.out d6) (j:=2) (u:=.slice C3 nC3 Cc3) rfl;have g7:=Qa (g3.out.trans (d6.mono g3.out.size));have a5:=Qa d6;have d9:=Qa g5;have HC:=Qa (l3.out w3 g7.out);clear d6 g5 l3 HB g3 Z2;go_wp2_with fail;refine Za HC ?_;rintro e w4 ⟨Ac,nc,qc,okc,rfl,f9,l0⟩;have d4:=Qa (g7.out.trans (f9.mono g7.out.size));have Hb24:=Qa (a5.out.trans (f9.mono a5.out.size));have f5:=Qa f9;have n4:=Qa l0;clear f9 l0 HC g7 k0 k1 k2
 cases oka with
 |false=>
  go_wp2_with fail;go_ret;exact⟨rfl,d4.out⟩
 |true=>
 cases okb with
 |false=>
  go_wp2_with fail;go_ret;exact⟨rfl,d4.out⟩
 |true=>
 cases okc with
 |false=>
  go_wp2_with fail;go_ret;exact⟨rfl,d4.out⟩
 |true=>
 obtain⟨o1,h1⟩:=n3.out rfl;obtain⟨o2,h2⟩:=d9.out rfl;obtain⟨o3,h3⟩:=n4.out rfl;have h1:=h1.below Hb24.out;have h2:=h2.below f5.out;have k1:=Qa h1.ok;have k2:=Qa h2.ok;have k3:=Qa h3.ok;have M1:=Qa (oD h1);have M2:=Qa (fun w5 (hb:Below w4.heap.size w4 w5)=>oD (h2.below hb));have M3:=Qa (fun w5 (hb:Below w4.heap.size w4 w5)=>oD (h3.below hb));clear h1 h2 h3 n3 d9 n4 a5 Hb24 f5;go_wp2_with fail;refine Za M1 ?_;rintro e w5 ⟨v1,rfl,h8,n5⟩;have M2':=Qa (M2.out w5 h8);have V1:=Qa n5;have d2:=Qa h8;clear h8 n5 M1 M2;go_wp2_with fail;refine Za M2' ?_;rintro e w6 ⟨v2,rfl,h7,l4⟩;have b6:=Qa (d2.out.trans (h7.mono d2.out.size));have M3':=Qa (M3.out w6 b6.out);have V2:=Qa l4;have e6:=Qa h7;clear h7 l4 M2' M3;go_wp2_with fail;refine Za M3' ?_;rintro e w7 ⟨v3,rfl,f0,j2⟩;have qb:=GE V1.out.two V2.out.two j2.two w7;have h9:=ac w7 (.cells #[v1,v2,v3] 32);have Hv:=Qa (show m8 (w7.alloc (.cells #[v1,v2,v3] 32)) [(v1,o1),(v2,o2),(v3,o3)] from m8.below (w:=w7) (fun p hp=>by
  simp only[List.mem_cons,List.not_mem_nil,or_false] at hp;rcases hp with rfl|rfl|rfl
  ·exact⟨((V1.out.later e6.out).later f0).any,k1.out⟩
  ·exact⟨(V2.out.later f0).any,k2.out⟩
  ·exact⟨j2.any,k3.out⟩) h9)
 have Hs:=Qa (show Sl (w7.alloc (.cells #[v1,v2,v3] 32)) (.slice (some ⟨w7.heap.size,0,none⟩) 3 3) ([(v1,o1),(v2,o2),(v3,o3)].map Prod.fst) from⟨by simp,_,3,rfl,Zb _,fun _=>⟨w7.heap.size,0,rfl,fun i u hu=>by rw[Nat.zero_add];exact ap w7 [v1,v2,v3] 32 i u hu⟩⟩);have g6:=Qa (d4.out.trans (((b6.out.trans (f0.mono b6.out.size)).trans (h9.mono (Zc b6.out.size f0.size))).mono d4.out.size));clear f0 j2 h9 V1 V2 k1 k2 k3 M3' d2 b6 e6 d4;have Qb:=Qa qb;clear qb;go_upto_block 0 with (refine Km Qb.out ?_)
 obtain⟨W,hW⟩:∃W,w7.alloc (.cells #[v1,v2,v3] 32)=W:=⟨_,rfl⟩;rw[hW] at Hv Hs g6 ⊢;clear hW;obtain⟨T,hT⟩:∃T:List Vj, [(v1,o1),(v2,o2),(v3,o3)]=T:=⟨_,rfl⟩;have h6:T.length=3:=by rw[<-hT];rfl
 rw[hT] at Hv Hs;clear hT;obtain⟨gv,ov,k9,m3⟩:=Hs.out.lies (by rw[List.length_map,h6];decide);obtain⟨rfl,rfl⟩:gv=w7.heap.size/\ov=0:=by injection k9 with e;injection e with e1 e2;exact⟨e1.symm,e2.symm⟩
 have c7:=Qa (show ∀ (i:Nat) (p:Vj),T[i]?=some p->W.cell? ⟨w7.heap.size,i,none⟩=some p.1 from fun i p hp=>by
  have:=m3 i p.1 (by rw[List.getElem?_map,hp];rfl)
  rwa[Nat.zero_add] at this)
 obtain⟨gv,f6⟩:∃gv,w7.heap.size=gv:=⟨_,rfl⟩;rw[f6] at Hs c7 ⊢;clear k9 m3 f6;have b8:=Qa h6;have g2:=Qa (HL.out.below g6.out);have e0:=Qa (fun (w':World) (hb:Below W.heap.size W w') (p q:Vj) (hp:p∈T) (hq:q∈T)=>show Calls Tryz.prog 7 #[p.1,q.1] w' (fun e w''=>gI (bY p.2 q.2) w' e w'') from by
  obtain⟨⟨aU,aE,hE⟩,hM,hP,-⟩:=g2.out.below hb;exact(Hv.out.below hb).cmp hP hE.glob hp hq)
 have n0:=Qa (fun (w':World) (hb:Below W.heap.size W w') (p q:Vj) (hp:p∈T) (hq:q∈T)=>show Calls Tryz.prog 8 #[p.1,q.1] w' (fun e w''=>e =.returned (.bool (Iw p.2 q.2))/\Below w'.heap.size w' w'') from by
  obtain⟨⟨aU,aE,hE⟩,hM,hP,-⟩:=g2.out.below hb;exact(Hv.out.below hb).eq hP hp hq)
 clear h6 HL;go_cut [15,16,17,18] (fun _ _ _ _ wx=>Below W.heap.size W wx)
 case first=>
  as_aux_lemma=>
   go_wp2_with fail
   go_loopw [15,16,17,18] (fun s15 _ _ _ wr=>Lp W s15 wr) (fun v _ _ _ _=>3 - (intOf v).toNat)
   case atStart=>exact⟨0,rfl,by omega,Ze _ _⟩
   case round=>
    obtain⟨i,rfl,hi,hb⟩:=hrel;have Hb:=Qa hb;clear hb
    by_cases hi3:i<3
    rotate_left
    ·have c9:¬ (i:Int)<3:=by omega
     go_wp2_with fail;go_meet
     case rel=>exact Hb.out
    have c9:(i:Int)<3:=by omega
    obtain⟨p,hp⟩:∃p,T[i]?=some p:=⟨_,Zd (by rw[b8.out];exact hi3)⟩;have Hp:=Qa hp;clear hp;go_wp2_with fail
    go_loopw [16,17,18] (fun s16 _ _ wx=>Lp W s16 wx) (fun v _ _ _=>3 - (intOf v).toNat)
    case atStart=>exact⟨0,rfl,by omega,Hb.out⟩
    case round=>
     obtain⟨k,rfl,hk,hb⟩:=hrel;have Hbr:=Qa hb;clear hb
     by_cases hk3:k<3
     rotate_left
     ·have j0:¬ (k:Int)<3:=by omega
      go_wp2_with fail;exact⟨⟨i+1,by go_num,by omega,Hbr.out⟩,by simp[intOf];omega⟩
     have j0:(k:Int)<3:=by omega
     obtain⟨q,hq⟩:∃q,T[k]?=some q:=⟨_,Zd (by rw[b8.out];exact hk3)⟩;have Hq:=Qa hq;have mp:=Zl Hp.out;have mq:=Zl hq;clear hq;have cp:=Zg Hbr.out (c7.out i p Hp.out);have cq:=Zg Hbr.out (c7.out k q Hq.out);have c4:=Qa (fun w' (hb:Below wr.heap.size wr w')=>e0.out w' (Hbr.out.trans (hb.mono Hbr.out.size)) p q mp mq);have b3:=Qa (fun w' (hb:Below wr.heap.size wr w')=>e0.out w' (Hbr.out.trans (hb.mono Hbr.out.size)) q p mq mp);have HE:=Qa (fun w' (hb:Below wr.heap.size wr w')=>n0.out w' (Hbr.out.trans (hb.mono Hbr.out.size)) p q mp mq);have a7:=Hv.out.ways mp mq;have k4:=FV p.2 q.2;have c5:=lj p.2 q.2;obtain⟨z,hz⟩:∃z,bY p.2 q.2=z:=⟨_,rfl⟩;rw[c5] at b3;have Hz:=Qa hz;rw[hz] at c4 b3 a7 k4;clear hz c5;have n9:IntKind.i64.wrap z=z:=IntWalk.i64_in _ (by omega);have i5:IntKind.i64.wrap (- -z)=z:=by rw[Int.neg_neg];exact n9
     have p4:(z !=z)=false:=by simp
     have q9:decide (z < -1)=false:=by simp;omega
     have q4:decide ((1:Int)<z)=false:=by simp;omega
     -- the third place
     have d9:Hid (i≠k->∃j:Nat,j<3/\(3:Int) - i - k= (j:Int)):=Qa fun hne=>⟨3 - i - k,by omega,by omega⟩
     have q6:IntKind.i64.wrap (3 - (i:Int))=3 - (i:Int):=IntWalk.i64_in _ (by omega);obtain⟨J,hJ⟩:∃J:Int,(3:Int) - i - k=J:=⟨_,rfl⟩;have q7:IntKind.i64.wrap (3 - (i:Int) - k)=J:=by rw[IntWalk.i64_in _ (by omega),hJ]
     rw[hJ] at d9;clear hJ;clear k4;obtain⟨pv,po⟩:=p;obtain⟨qv,qo⟩:=q;simp only at cp cq c4 b3 HE a7 Hz;go_wp2_with fail;refine aA (fun w'=>w'.cell? ⟨gv,i,none⟩=some pv/\w'.cell? ⟨gv,k,none⟩=some qv) (⟨cp,cq⟩) fun a0=>?_
     refine tH 0 a0 ?_
     try simp only[Act.put,jP,jQ,jR]
     refine tH 1 a0 ?_
     try simp only[Act.put,jP,jQ,jR]
     refine tH 2 a0 ?_
     try simp only[Act.put,jP,jQ,jR]
     refine tH 3 a0 ?_
     try simp only[Act.put,jP,jQ,jR]
     refine tH 4 a0 ?_
     try simp only[Act.put,jP,jQ,jR]
     refine tH 5 a0 ?_
     try simp only[Act.put,jP,jQ,jR]
     refine tH 6 a0 ?_
     try simp only[Act.put,jP,jQ,jR]
     refine tH 7 a0 ?_
     try simp only[Act.put,jP,jQ,jR]
     refine rH 8 fun K hK=>?_
     go_simp;refine(c4.out _ (Ze _ _).drew).mono ?_;rintro e w9 ⟨rfl,hb⟩;have a9:=Qa ((Ze _ _).drew.trans hb:Below wr.heap.size wr w9);refine hK.out _ _ (⟨Zg hb a0.1,Zg hb a0.2⟩) (fun a0=>?_);clear hK K
     try simp only[Act.put,jP,jQ,jR]
     refine tH 9 a0 ?_
     try simp only[Act.put,jP,jQ,jR]
     refine wpAnyH_done (by kernel_rfl) (NoPanic.normal ?_) _;obtain⟨cp9,cq9⟩:=a0;clear cp cq c4;go_wp2_with fail;go_cut [131] (fun s131 wx=>s131 =.bool false/\Below wr.heap.size wr wx)
     case first=>
      as_aux_lemma=>
       rcases a7 with ⟨he,a3⟩|⟨he,⟨tp,xp,rfl⟩,a3⟩|⟨he,rfl,rfl,a3⟩|⟨he,rfl,⟨tq,xq,rfl⟩,a3⟩
       ·rw[he] at HE;have b4:(z==0)=true:=by simpa using a3
        clear a3 he;refine aA (fun w'=>w'.cell? ⟨gv,i,none⟩=some pv/\w'.cell? ⟨gv,k,none⟩=some qv) (⟨cp9,cq9⟩) fun a0=>?_
        refine tH 0 a0 ?_
        try simp only[Act.put,jP,jQ,jR]
        refine tH 1 a0 ?_
        try simp only[Act.put,jP,jQ,jR]
        refine tH 2 a0 ?_
        try simp only[Act.put,jP,jQ,jR]
        refine tH 3 a0 ?_
        try simp only[Act.put,jP,jQ,jR]
        refine tH 4 a0 ?_
        try simp only[Act.put,jP,jQ,jR]
        refine tH 5 a0 ?_
        try simp only[Act.put,jP,jQ,jR]
        refine tH 6 a0 ?_
        try simp only[Act.put,jP,jQ,jR]
        refine tH 7 a0 ?_
        try simp only[Act.put,jP,jQ,jR]
        refine tH 8 a0 ?_
        try simp only[Act.put,jP,jQ,jR]
        refine rH 9 fun K hK=>?_
        go_simp;refine(b3.out _ ((a9.out.drew))).mono ?_;rintro e w10 ⟨rfl,hb⟩;have a1:=Qa ((a9.out.drew).trans (hb.mono a9.out.size):Below wr.heap.size wr w10);refine hK.out _ _ (⟨Zg hb a0.1,Zg hb a0.2⟩) (fun a0=>?_);clear hK K
        try simp only[Act.put,jP,jQ,jR]
        refine tH 10 a0 ?_
        try simp only[Act.put,jP,jQ,jR]
        refine tH 11 a0 ?_
        try simp only[Act.put,jP,jQ,jR]
        refine tH 12 a0 ?_
        try simp only[Act.put,jP,jQ,jR]
        refine tH 13 a0 ?_
        try simp only[Act.put,jP,jQ,jR]
        refine tH 14 a0 ?_
        try simp only[Act.put,jP,jQ,jR]
        refine tH 15 a0 ?_
        try simp only[Act.put,jP,jQ,jR]
        refine tH 16 a0 ?_
        try simp only[Act.put,jP,jQ,jR]
        refine tH 17 a0 ?_
        try simp only[Act.put,jP,jQ,jR]
        refine tH 18 a0 ?_
        try simp only[Act.put,jP,jQ,jR]
        refine tH 19 a0 ?_
        try simp only[Act.put,jP,jQ,jR]
        refine tH 20 a0 ?_
        try simp only[Act.put,jP,jQ,jR]
        refine tH 21 a0 ?_
        try simp only[Act.put,jP,jQ,jR]
        refine tH 22 a0 ?_
        try simp only[Act.put,jP,jQ,jR]
        refine tH 23 a0 ?_
        try simp only[Act.put,jP,jQ,jR]
        refine tH 24 a0 ?_
        try simp only[Act.put,jP,jQ,jR]
        refine tH 25 a0 ?_
        try simp only[Act.put,jP,jQ,jR]
        refine tH 26 a0 ?_
        try simp only[Act.put,jP,jQ,jR]
        refine tH 27 a0 ?_
        try simp only[Act.put,jP,jQ,jR]
        refine tH 28 a0 ?_
        try simp only[Act.put,jP,jQ,jR]
        refine tH 29 a0 ?_
        try simp only[Act.put,jP,jQ,jR]
        refine tH 30 a0 ?_
        try simp only[Act.put,jP,jQ,jR]
        refine rH 31 fun K hK=>?_
        go_simp;refine(HE.out _ a1.out).mono ?_;rintro e w11 ⟨rfl,hb⟩;have Hb11:=Qa (a1.out.trans (hb.mono a1.out.size):Below wr.heap.size wr w11);refine hK.out _ _ (⟨Zg hb a0.1,Zg hb a0.2⟩) (fun a0=>?_);clear hK K
        try simp only[Act.put,jP,jQ,jR]
        refine tH 32 a0 ?_
        try simp only[Act.put,jP,jQ,jR]
        refine uH 33 a0 ?_
        try simp only[Act.put,jP,jQ,jR]
        refine uH 34 a0 ?_
        try simp only[Act.put,jP,jQ,jR]
        refine uH 35 a0 ?_
        try simp only[Act.put,jP,jQ,jR]
        refine uH 36 a0 ?_
        try simp only[Act.put,jP,jQ,jR]
        refine uH 37 a0 ?_
        try simp only[Act.put,jP,jQ,jR]
        refine uH 38 a0 ?_
        try simp only[Act.put,jP,jQ,jR]
        refine uH 39 a0 ?_
        try simp only[Act.put,jP,jQ,jR]
        refine uH 40 a0 ?_
        try simp only[Act.put,jP,jQ,jR]
        refine uH 41 a0 ?_
        try simp only[Act.put,jP,jQ,jR]
        refine uH 42 a0 ?_
        try simp only[Act.put,jP,jQ,jR]
        refine uH 43 a0 ?_
        try simp only[Act.put,jP,jQ,jR]
        refine uH 44 a0 ?_
        try simp only[Act.put,jP,jQ,jR]
        refine tH 45 a0 ?_
        try simp only[Act.put,jP,jQ,jR]
        refine tH 46 a0 ?_
        try simp only[Act.put,jP,jQ,jR]
        refine tH 47 a0 ?_
        try simp only[Act.put,jP,jQ,jR]
        refine wpAnyH_done (by kernel_rfl) (NoPanic.normal ?_) _;obtain⟨cp9,cq9⟩:=a0;go_wp2_with fail;go_meet
        case rel=>exact⟨rfl,Hb11.out⟩
       ·rw[he] at HE;have b4:(z==0)=false:=by simpa using a3
        clear a3 he;refine aA (fun w'=>w'.cell? ⟨gv,i,none⟩=some (.iface tp xp)/\w'.cell? ⟨gv,k,none⟩=some qv) (⟨cp9,cq9⟩) fun a0=>?_
        refine tH 0 a0 ?_
        try simp only[Act.put,jP,jQ,jR]
        refine tH 1 a0 ?_
        try simp only[Act.put,jP,jQ,jR]
        refine tH 2 a0 ?_
        try simp only[Act.put,jP,jQ,jR]
        refine tH 3 a0 ?_
        try simp only[Act.put,jP,jQ,jR]
        refine tH 4 a0 ?_
        try simp only[Act.put,jP,jQ,jR]
        refine tH 5 a0 ?_
        try simp only[Act.put,jP,jQ,jR]
        refine tH 6 a0 ?_
        try simp only[Act.put,jP,jQ,jR]
        refine tH 7 a0 ?_
        try simp only[Act.put,jP,jQ,jR]
        refine tH 8 a0 ?_
        try simp only[Act.put,jP,jQ,jR]
        refine rH 9 fun K hK=>?_
        go_simp;refine(b3.out _ ((a9.out.drew))).mono ?_;rintro e w10 ⟨rfl,hb⟩;have a1:=Qa ((a9.out.drew).trans (hb.mono a9.out.size):Below wr.heap.size wr w10);refine hK.out _ _ (⟨Zg hb a0.1,Zg hb a0.2⟩) (fun a0=>?_);clear hK K
        try simp only[Act.put,jP,jQ,jR]
        refine tH 10 a0 ?_
        try simp only[Act.put,jP,jQ,jR]
        refine tH 11 a0 ?_
        try simp only[Act.put,jP,jQ,jR]
        refine tH 12 a0 ?_
        try simp only[Act.put,jP,jQ,jR]
        refine tH 13 a0 ?_
        try simp only[Act.put,jP,jQ,jR]
        refine tH 14 a0 ?_
        try simp only[Act.put,jP,jQ,jR]
        refine tH 15 a0 ?_
        try simp only[Act.put,jP,jQ,jR]
        refine tH 16 a0 ?_
        try simp only[Act.put,jP,jQ,jR]
        refine tH 17 a0 ?_
        try simp only[Act.put,jP,jQ,jR]
        refine tH 18 a0 ?_
        try simp only[Act.put,jP,jQ,jR]
        refine tH 19 a0 ?_
        try simp only[Act.put,jP,jQ,jR]
        refine tH 20 a0 ?_
        try simp only[Act.put,jP,jQ,jR]
        refine tH 21 a0 ?_
        try simp only[Act.put,jP,jQ,jR]
        refine tH 22 a0 ?_
        try simp only[Act.put,jP,jQ,jR]
        refine tH 23 a0 ?_
        try simp only[Act.put,jP,jQ,jR]
        refine tH 24 a0 ?_
        try simp only[Act.put,jP,jQ,jR]
        refine tH 25 a0 ?_
        try simp only[Act.put,jP,jQ,jR]
        refine tH 26 a0 ?_
        try simp only[Act.put,jP,jQ,jR]
        refine tH 27 a0 ?_
        try simp only[Act.put,jP,jQ,jR]
        refine tH 28 a0 ?_
        try simp only[Act.put,jP,jQ,jR]
        refine tH 29 a0 ?_
        try simp only[Act.put,jP,jQ,jR]
        refine tH 30 a0 ?_
        try simp only[Act.put,jP,jQ,jR]
        refine rH 31 fun K hK=>?_
        go_simp;refine(HE.out _ a1.out).mono ?_;rintro e w11 ⟨rfl,hb⟩;have Hb11:=Qa (a1.out.trans (hb.mono a1.out.size):Below wr.heap.size wr w11);refine hK.out _ _ (⟨Zg hb a0.1,Zg hb a0.2⟩) (fun a0=>?_);clear hK K
        try simp only[Act.put,jP,jQ,jR]
        refine tH 32 a0 ?_
        try simp only[Act.put,jP,jQ,jR]
        refine tH 33 a0 ?_
        try simp only[Act.put,jP,jQ,jR]
        refine tH 34 a0 ?_
        try simp only[Act.put,jP,jQ,jR]
        refine tH 35 a0 ?_
        try simp only[Act.put,jP,jQ,jR]
        refine tH 36 a0 ?_
        try simp only[Act.put,jP,jQ,jR]
        refine tH 37 a0 ?_
        try simp only[Act.put,jP,jQ,jR]
        refine tH 38 a0 ?_
        try simp only[Act.put,jP,jQ,jR]
        refine uH 39 a0 ?_
        try simp only[Act.put,jP,jQ,jR]
        refine uH 40 a0 ?_
        try simp only[Act.put,jP,jQ,jR]
        refine uH 41 a0 ?_
        try simp only[Act.put,jP,jQ,jR]
        refine uH 42 a0 ?_
        try simp only[Act.put,jP,jQ,jR]
        refine uH 43 a0 ?_
        try simp only[Act.put,jP,jQ,jR]
        refine tH 44 a0 ?_
        try simp only[Act.put,jP,jQ,jR]
        refine tH 45 a0 ?_
        try simp only[Act.put,jP,jQ,jR]
        refine tH 46 a0 ?_
        try simp only[Act.put,jP,jQ,jR]
        refine tH 47 a0 ?_
        try simp only[Act.put,jP,jQ,jR]
        refine wpAnyH_done (by kernel_rfl) (NoPanic.normal ?_) _;obtain⟨cp9,cq9⟩:=a0;go_wp2_with fail;go_meet
        case rel=>exact⟨rfl,Hb11.out⟩
       ·rw[he] at HE;have b4:(z==0)=true:=by simpa using a3
        clear a3 he;refine aA (fun w'=>w'.cell? ⟨gv,i,none⟩=some .nilIface/\w'.cell? ⟨gv,k,none⟩=some .nilIface) (⟨cp9,cq9⟩) fun a0=>?_
        refine tH 0 a0 ?_
        try simp only[Act.put,jP,jQ,jR]
        refine tH 1 a0 ?_
        try simp only[Act.put,jP,jQ,jR]
        refine tH 2 a0 ?_
        try simp only[Act.put,jP,jQ,jR]
        refine tH 3 a0 ?_
        try simp only[Act.put,jP,jQ,jR]
        refine tH 4 a0 ?_
        try simp only[Act.put,jP,jQ,jR]
        refine tH 5 a0 ?_
        try simp only[Act.put,jP,jQ,jR]
        refine tH 6 a0 ?_
        try simp only[Act.put,jP,jQ,jR]
        refine tH 7 a0 ?_
        try simp only[Act.put,jP,jQ,jR]
        refine tH 8 a0 ?_
        try simp only[Act.put,jP,jQ,jR]
        refine rH 9 fun K hK=>?_
        go_simp;refine(b3.out _ ((a9.out.drew))).mono ?_;rintro e w10 ⟨rfl,hb⟩;have a1:=Qa ((a9.out.drew).trans (hb.mono a9.out.size):Below wr.heap.size wr w10);refine hK.out _ _ (⟨Zg hb a0.1,Zg hb a0.2⟩) (fun a0=>?_);clear hK K
        try simp only[Act.put,jP,jQ,jR]
        refine tH 10 a0 ?_
        try simp only[Act.put,jP,jQ,jR]
        refine tH 11 a0 ?_
        try simp only[Act.put,jP,jQ,jR]
        refine tH 12 a0 ?_
        try simp only[Act.put,jP,jQ,jR]
        refine tH 13 a0 ?_
        try simp only[Act.put,jP,jQ,jR]
        refine tH 14 a0 ?_
        try simp only[Act.put,jP,jQ,jR]
        refine tH 15 a0 ?_
        try simp only[Act.put,jP,jQ,jR]
        refine tH 16 a0 ?_
        try simp only[Act.put,jP,jQ,jR]
        refine tH 17 a0 ?_
        try simp only[Act.put,jP,jQ,jR]
        refine tH 18 a0 ?_
        try simp only[Act.put,jP,jQ,jR]
        refine tH 19 a0 ?_
        try simp only[Act.put,jP,jQ,jR]
        refine tH 20 a0 ?_
        try simp only[Act.put,jP,jQ,jR]
        refine tH 21 a0 ?_
        try simp only[Act.put,jP,jQ,jR]
        refine tH 22 a0 ?_
        try simp only[Act.put,jP,jQ,jR]
        refine tH 23 a0 ?_
        try simp only[Act.put,jP,jQ,jR]
        refine tH 24 a0 ?_
        try simp only[Act.put,jP,jQ,jR]
        refine tH 25 a0 ?_
        try simp only[Act.put,jP,jQ,jR]
        refine tH 26 a0 ?_
        try simp only[Act.put,jP,jQ,jR]
        refine tH 27 a0 ?_
        try simp only[Act.put,jP,jQ,jR]
        refine tH 28 a0 ?_
        try simp only[Act.put,jP,jQ,jR]
        refine tH 29 a0 ?_
        try simp only[Act.put,jP,jQ,jR]
        refine tH 30 a0 ?_
        try simp only[Act.put,jP,jQ,jR]
        refine rH 31 fun K hK=>?_
        go_simp;refine(HE.out _ a1.out).mono ?_;rintro e w11 ⟨rfl,hb⟩;have Hb11:=Qa (a1.out.trans (hb.mono a1.out.size):Below wr.heap.size wr w11);refine hK.out _ _ (⟨Zg hb a0.1,Zg hb a0.2⟩) (fun a0=>?_);clear hK K
        try simp only[Act.put,jP,jQ,jR]
        refine tH 32 a0 ?_
        try simp only[Act.put,jP,jQ,jR]
        refine tH 33 a0 ?_
        try simp only[Act.put,jP,jQ,jR]
        refine tH 34 a0 ?_
        try simp only[Act.put,jP,jQ,jR]
        refine tH 35 a0 ?_
        try simp only[Act.put,jP,jQ,jR]
        refine tH 36 a0 ?_
        try simp only[Act.put,jP,jQ,jR]
        refine tH 37 a0 ?_
        try simp only[Act.put,jP,jQ,jR]
        refine tH 38 a0 ?_
        try simp only[Act.put,jP,jQ,jR]
        refine tH 39 a0 ?_
        try simp only[Act.put,jP,jQ,jR]
        refine tH 40 a0 ?_
        try simp only[Act.put,jP,jQ,jR]
        refine tH 41 a0 ?_
        try simp only[Act.put,jP,jQ,jR]
        refine tH 42 a0 ?_
        try simp only[Act.put,jP,jQ,jR]
        refine tH 43 a0 ?_
        try simp only[Act.put,jP,jQ,jR]
        refine tH 44 a0 ?_
        try simp only[Act.put,jP,jQ,jR]
        refine tH 45 a0 ?_
        try simp only[Act.put,jP,jQ,jR]
        refine tH 46 a0 ?_
        try simp only[Act.put,jP,jQ,jR]
        refine tH 47 a0 ?_
        try simp only[Act.put,jP,jQ,jR]
        refine wpAnyH_done (by kernel_rfl) (NoPanic.normal ?_) _;obtain⟨cp9,cq9⟩:=a0;go_wp2_with fail;go_meet
        case rel=>exact⟨rfl,Hb11.out⟩
       ·rw[he] at HE;have b4:(z==0)=false:=by simpa using a3
        clear a3 he;refine aA (fun w'=>w'.cell? ⟨gv,i,none⟩=some .nilIface/\w'.cell? ⟨gv,k,none⟩=some (.iface tq xq)) (⟨cp9,cq9⟩) fun a0=>?_
        refine tH 0 a0 ?_
        try simp only[Act.put,jP,jQ,jR]
        refine tH 1 a0 ?_
        try simp only[Act.put,jP,jQ,jR]
        refine tH 2 a0 ?_
        try simp only[Act.put,jP,jQ,jR]
        refine tH 3 a0 ?_
        try simp only[Act.put,jP,jQ,jR]
        refine tH 4 a0 ?_
        try simp only[Act.put,jP,jQ,jR]
        refine tH 5 a0 ?_
        try simp only[Act.put,jP,jQ,jR]
        refine tH 6 a0 ?_
        try simp only[Act.put,jP,jQ,jR]
        refine tH 7 a0 ?_
        try simp only[Act.put,jP,jQ,jR]
        refine tH 8 a0 ?_
        try simp only[Act.put,jP,jQ,jR]
        refine rH 9 fun K hK=>?_
        go_simp;refine(b3.out _ ((a9.out.drew))).mono ?_;rintro e w10 ⟨rfl,hb⟩;have a1:=Qa ((a9.out.drew).trans (hb.mono a9.out.size):Below wr.heap.size wr w10);refine hK.out _ _ (⟨Zg hb a0.1,Zg hb a0.2⟩) (fun a0=>?_);clear hK K
        try simp only[Act.put,jP,jQ,jR]
        refine tH 10 a0 ?_
        try simp only[Act.put,jP,jQ,jR]
        refine tH 11 a0 ?_
        try simp only[Act.put,jP,jQ,jR]
        refine tH 12 a0 ?_
        try simp only[Act.put,jP,jQ,jR]
        refine tH 13 a0 ?_
        try simp only[Act.put,jP,jQ,jR]
        refine tH 14 a0 ?_
        try simp only[Act.put,jP,jQ,jR]
        refine tH 15 a0 ?_
        try simp only[Act.put,jP,jQ,jR]
        refine tH 16 a0 ?_
        try simp only[Act.put,jP,jQ,jR]
        refine tH 17 a0 ?_
        try simp only[Act.put,jP,jQ,jR]
        refine tH 18 a0 ?_
        try simp only[Act.put,jP,jQ,jR]
        refine tH 19 a0 ?_
        try simp only[Act.put,jP,jQ,jR]
        refine tH 20 a0 ?_
        try simp only[Act.put,jP,jQ,jR]
        refine tH 21 a0 ?_
        try simp only[Act.put,jP,jQ,jR]
        refine tH 22 a0 ?_
        try simp only[Act.put,jP,jQ,jR]
        refine tH 23 a0 ?_
        try simp only[Act.put,jP,jQ,jR]
        refine tH 24 a0 ?_
        try simp only[Act.put,jP,jQ,jR]
        refine tH 25 a0 ?_
        try simp only[Act.put,jP,jQ,jR]
        refine tH 26 a0 ?_
        try simp only[Act.put,jP,jQ,jR]
        refine tH 27 a0 ?_
        try simp only[Act.put,jP,jQ,jR]
        refine tH 28 a0 ?_
        try simp only[Act.put,jP,jQ,jR]
        refine tH 29 a0 ?_
        try simp only[Act.put,jP,jQ,jR]
        refine tH 30 a0 ?_
        try simp only[Act.put,jP,jQ,jR]
        refine rH 31 fun K hK=>?_
        go_simp;refine(HE.out _ a1.out).mono ?_;rintro e w11 ⟨rfl,hb⟩;have Hb11:=Qa (a1.out.trans (hb.mono a1.out.size):Below wr.heap.size wr w11);refine hK.out _ _ (⟨Zg hb a0.1,Zg hb a0.2⟩) (fun a0=>?_);clear hK K
        try simp only[Act.put,jP,jQ,jR]
        refine tH 32 a0 ?_
        try simp only[Act.put,jP,jQ,jR]
        refine tH 33 a0 ?_
        try simp only[Act.put,jP,jQ,jR]
        refine tH 34 a0 ?_
        try simp only[Act.put,jP,jQ,jR]
        refine tH 35 a0 ?_
        try simp only[Act.put,jP,jQ,jR]
        refine tH 36 a0 ?_
        try simp only[Act.put,jP,jQ,jR]
        refine tH 37 a0 ?_
        try simp only[Act.put,jP,jQ,jR]
        refine tH 38 a0 ?_
        try simp only[Act.put,jP,jQ,jR]
        refine tH 39 a0 ?_
        try simp only[Act.put,jP,jQ,jR]
        refine tH 40 a0 ?_
        try simp only[Act.put,jP,jQ,jR]
        refine tH 41 a0 ?_
        try simp only[Act.put,jP,jQ,jR]
        refine tH 42 a0 ?_
        try simp only[Act.put,jP,jQ,jR]
        refine tH 43 a0 ?_
        try simp only[Act.put,jP,jQ,jR]
        refine tH 44 a0 ?_
        try simp only[Act.put,jP,jQ,jR]
        refine tH 45 a0 ?_
        try simp only[Act.put,jP,jQ,jR]
        refine tH 46 a0 ?_
        try simp only[Act.put,jP,jQ,jR]
        refine tH 47 a0 ?_
        try simp only[Act.put,jP,jQ,jR]
        refine wpAnyH_done (by kernel_rfl) (NoPanic.normal ?_) _;obtain⟨cp9,cq9⟩:=a0;go_wp2_with fail;go_meet
        case rel=>exact⟨rfl,Hb11.out⟩
     case rest=>
      obtain⟨rfl,f4⟩:=hcut;obtain⟨w12,rfl⟩:∃w12:World,w12=wc:=⟨_,rfl⟩;have a2:=Qa (Hbr.out.trans (f4.mono Hbr.out.size));clear f4 a7 b3 HE cp9 cq9 a9 n9 i5 p4 q9 q4 q6 q7;go_wp2_with fail;go_cut [162] (fun s162 wx=>s162 =.bool false/\Below w12.heap.size w12 wx)
      case first=>
       as_aux_lemma=>
        by_cases hik:i=k
        ·subst hik;have hne:((i:Int) != (i:Int))=false:=by simp
         refine aA (fun _=>True) (trivial) fun a0=>?_
         refine tH 0 a0 ?_
         try simp only[Act.put,jP,jQ,jR]
         refine tH 1 a0 ?_
         try simp only[Act.put,jP,jQ,jR]
         refine tH 2 a0 ?_
         try simp only[Act.put,jP,jQ,jR]
         refine tH 3 a0 ?_
         try simp only[Act.put,jP,jQ,jR]
         refine uH 4 a0 ?_
         try simp only[Act.put,jP,jQ,jR]
         refine uH 5 a0 ?_
         try simp only[Act.put,jP,jQ,jR]
         refine tH 6 a0 ?_
         try simp only[Act.put,jP,jQ,jR]
         refine tH 7 a0 ?_
         try simp only[Act.put,jP,jQ,jR]
         refine uH 8 a0 ?_
         try simp only[Act.put,jP,jQ,jR]
         refine uH 9 a0 ?_
         try simp only[Act.put,jP,jQ,jR]
         refine uH 10 a0 ?_
         try simp only[Act.put,jP,jQ,jR]
         refine uH 11 a0 ?_
         try simp only[Act.put,jP,jQ,jR]
         refine uH 12 a0 ?_
         try simp only[Act.put,jP,jQ,jR]
         refine uH 13 a0 ?_
         try simp only[Act.put,jP,jQ,jR]
         refine uH 14 a0 ?_
         try simp only[Act.put,jP,jQ,jR]
         refine uH 15 a0 ?_
         try simp only[Act.put,jP,jQ,jR]
         refine rH 16 fun K hK=>?_
         go_simp;refine hK.out _ _ (trivial) (fun a0=>?_);clear hK K
         try simp only[Act.put,jP,jQ,jR]
         refine uH 17 a0 ?_
         try simp only[Act.put,jP,jQ,jR]
         refine tH 18 a0 ?_
         try simp only[Act.put,jP,jQ,jR]
         refine tH 19 a0 ?_
         try simp only[Act.put,jP,jQ,jR]
         refine uH 20 a0 ?_
         try simp only[Act.put,jP,jQ,jR]
         refine uH 21 a0 ?_
         try simp only[Act.put,jP,jQ,jR]
         refine uH 22 a0 ?_
         try simp only[Act.put,jP,jQ,jR]
         refine uH 23 a0 ?_
         try simp only[Act.put,jP,jQ,jR]
         refine uH 24 a0 ?_
         try simp only[Act.put,jP,jQ,jR]
         refine uH 25 a0 ?_
         try simp only[Act.put,jP,jQ,jR]
         refine uH 26 a0 ?_
         try simp only[Act.put,jP,jQ,jR]
         refine uH 27 a0 ?_
         try simp only[Act.put,jP,jQ,jR]
         refine rH 28 fun K hK=>?_
         go_simp;refine hK.out _ _ (trivial) (fun a0=>?_);clear hK K
         try simp only[Act.put,jP,jQ,jR]
         refine uH 29 a0 ?_
         try simp only[Act.put,jP,jQ,jR]
         refine tH 30 a0 ?_
         try simp only[Act.put,jP,jQ,jR]
         refine wpAnyH_done (by kernel_rfl) (NoPanic.normal ?_) _;go_wp2_with fail;go_meet
         case rel=>exact⟨rfl,(Ze _ _).drew⟩
        have hne:((i:Int) != (k:Int))=true:=by simp;omega
        have q5:=d9.out hik;obtain⟨j,g5,p3⟩:=q5;clear d9;subst p3
        by_cases a3:z<=0
        rotate_left
        ·have b4:decide (z<=0)=false:=by simpa using a3
         clear a3;refine aA (fun _=>True) (trivial) fun a0=>?_
         refine tH 0 a0 ?_
         try simp only[Act.put,jP,jQ,jR]
         refine tH 1 a0 ?_
         try simp only[Act.put,jP,jQ,jR]
         refine tH 2 a0 ?_
         try simp only[Act.put,jP,jQ,jR]
         refine tH 3 a0 ?_
         try simp only[Act.put,jP,jQ,jR]
         refine tH 4 a0 ?_
         try simp only[Act.put,jP,jQ,jR]
         refine tH 5 a0 ?_
         try simp only[Act.put,jP,jQ,jR]
         refine tH 6 a0 ?_
         try simp only[Act.put,jP,jQ,jR]
         refine tH 7 a0 ?_
         try simp only[Act.put,jP,jQ,jR]
         refine uH 8 a0 ?_
         try simp only[Act.put,jP,jQ,jR]
         refine uH 9 a0 ?_
         try simp only[Act.put,jP,jQ,jR]
         refine uH 10 a0 ?_
         try simp only[Act.put,jP,jQ,jR]
         refine uH 11 a0 ?_
         try simp only[Act.put,jP,jQ,jR]
         refine uH 12 a0 ?_
         try simp only[Act.put,jP,jQ,jR]
         refine uH 13 a0 ?_
         try simp only[Act.put,jP,jQ,jR]
         refine uH 14 a0 ?_
         try simp only[Act.put,jP,jQ,jR]
         refine uH 15 a0 ?_
         try simp only[Act.put,jP,jQ,jR]
         refine rH 16 fun K hK=>?_
         go_simp;refine hK.out _ _ (trivial) (fun a0=>?_);clear hK K
         try simp only[Act.put,jP,jQ,jR]
         refine uH 17 a0 ?_
         try simp only[Act.put,jP,jQ,jR]
         refine tH 18 a0 ?_
         try simp only[Act.put,jP,jQ,jR]
         refine tH 19 a0 ?_
         try simp only[Act.put,jP,jQ,jR]
         refine uH 20 a0 ?_
         try simp only[Act.put,jP,jQ,jR]
         refine uH 21 a0 ?_
         try simp only[Act.put,jP,jQ,jR]
         refine uH 22 a0 ?_
         try simp only[Act.put,jP,jQ,jR]
         refine uH 23 a0 ?_
         try simp only[Act.put,jP,jQ,jR]
         refine uH 24 a0 ?_
         try simp only[Act.put,jP,jQ,jR]
         refine uH 25 a0 ?_
         try simp only[Act.put,jP,jQ,jR]
         refine uH 26 a0 ?_
         try simp only[Act.put,jP,jQ,jR]
         refine uH 27 a0 ?_
         try simp only[Act.put,jP,jQ,jR]
         refine rH 28 fun K hK=>?_
         go_simp;refine hK.out _ _ (trivial) (fun a0=>?_);clear hK K
         try simp only[Act.put,jP,jQ,jR]
         refine uH 29 a0 ?_
         try simp only[Act.put,jP,jQ,jR]
         refine tH 30 a0 ?_
         try simp only[Act.put,jP,jQ,jR]
         refine wpAnyH_done (by kernel_rfl) (NoPanic.normal ?_) _;go_wp2_with fail;go_meet
         case rel=>exact⟨rfl,(Ze _ _).drew⟩
        have b4:decide (z<=0)=true:=by simpa using a3
        obtain⟨r,hr⟩:∃r,T[j]?=some r:=⟨_,Zd (by rw[b8.out];exact g5)⟩;have mr:=Zl hr;have q2:(j:Int)<3:=by omega
        have cp:=Zg a2.out (c7.out i (pv,po) Hp.out);have cq:=Zg a2.out (c7.out k (qv,qo) Hq.out);have cr:=Zg a2.out (c7.out j r hr);have c4:=Qa (fun w' (hb:Below w12.heap.size w12 w')=>e0.out w' (a2.out.trans (hb.mono a2.out.size)) (qv,qo) r mq mr);have b3:=Qa (fun w' (hb:Below w12.heap.size w12 w')=>e0.out w' (a2.out.trans (hb.mono a2.out.size)) (pv,po) r mp mr);have d3:bY qo r.2<=0->bY po r.2<=0:=fun h=>yG (by rw[Hz.out];exact a3) h
        obtain⟨rv,ro⟩:=r;simp only at cr c4 b3 cp cq d3;obtain⟨c1,m9⟩:∃c,bY qo ro=c:=⟨_,rfl⟩;obtain⟨c2,p0⟩:∃c,bY po ro=c:=⟨_,rfl⟩;rw[m9] at c4 d3;rw[p0] at b3 d3;clear m9 p0 a3 hr
        by_cases hc0:c1<=0
        rotate_left
        ·have i2:decide (c1<=0)=false:=by simpa using hc0
         clear hc0 d3;refine aA (fun w'=>w'.cell? ⟨gv,i,none⟩=some pv/\w'.cell? ⟨gv,k,none⟩=some qv/\w'.cell? ⟨gv,j,none⟩=some rv) (⟨cp,cq,cr⟩) fun a0=>?_
         refine tH 0 a0 ?_
         try simp only[Act.put,jP,jQ,jR]
         refine tH 1 a0 ?_
         try simp only[Act.put,jP,jQ,jR]
         refine tH 2 a0 ?_
         try simp only[Act.put,jP,jQ,jR]
         refine tH 3 a0 ?_
         try simp only[Act.put,jP,jQ,jR]
         refine tH 4 a0 ?_
         try simp only[Act.put,jP,jQ,jR]
         refine tH 5 a0 ?_
         try simp only[Act.put,jP,jQ,jR]
         refine tH 6 a0 ?_
         try simp only[Act.put,jP,jQ,jR]
         refine tH 7 a0 ?_
         try simp only[Act.put,jP,jQ,jR]
         refine tH 8 a0 ?_
         try simp only[Act.put,jP,jQ,jR]
         refine tH 9 a0 ?_
         try simp only[Act.put,jP,jQ,jR]
         refine tH 10 a0 ?_
         try simp only[Act.put,jP,jQ,jR]
         refine tH 11 a0 ?_
         try simp only[Act.put,jP,jQ,jR]
         refine tH 12 a0 ?_
         try simp only[Act.put,jP,jQ,jR]
         refine tH 13 a0 ?_
         try simp only[Act.put,jP,jQ,jR]
         refine tH 14 a0 ?_
         try simp only[Act.put,jP,jQ,jR]
         refine tH 15 a0 ?_
         try simp only[Act.put,jP,jQ,jR]
         refine rH 16 fun K hK=>?_
         go_simp;refine(c4.out _ (Ze _ _).drew).mono ?_;rintro e w13 ⟨rfl,hb⟩;have Hb13:=Qa ((Ze _ _).drew.trans hb:Below w12.heap.size w12 w13);refine hK.out _ _ (⟨Zg hb a0.1,Zg hb a0.2.1,Zg hb a0.2.2⟩) (fun a0=>?_);clear hK K
         try simp only[Act.put,jP,jQ,jR]
         refine tH 17 a0 ?_
         try simp only[Act.put,jP,jQ,jR]
         refine tH 18 a0 ?_
         try simp only[Act.put,jP,jQ,jR]
         refine tH 19 a0 ?_
         try simp only[Act.put,jP,jQ,jR]
         refine uH 20 a0 ?_
         try simp only[Act.put,jP,jQ,jR]
         refine uH 21 a0 ?_
         try simp only[Act.put,jP,jQ,jR]
         refine uH 22 a0 ?_
         try simp only[Act.put,jP,jQ,jR]
         refine uH 23 a0 ?_
         try simp only[Act.put,jP,jQ,jR]
         refine uH 24 a0 ?_
         try simp only[Act.put,jP,jQ,jR]
         refine uH 25 a0 ?_
         try simp only[Act.put,jP,jQ,jR]
         refine uH 26 a0 ?_
         try simp only[Act.put,jP,jQ,jR]
         refine uH 27 a0 ?_
         try simp only[Act.put,jP,jQ,jR]
         refine rH 28 fun K hK=>?_
         go_simp;refine hK.out _ _ (a0) (fun a0=>?_);clear hK K
         try simp only[Act.put,jP,jQ,jR]
         refine uH 29 a0 ?_
         try simp only[Act.put,jP,jQ,jR]
         refine tH 30 a0 ?_
         try simp only[Act.put,jP,jQ,jR]
         refine wpAnyH_done (by kernel_rfl) (NoPanic.normal ?_) _;go_wp2_with fail;go_meet
         case rel=>exact⟨rfl,Hb13.out⟩
        have i2:decide (c1<=0)=true:=by simpa using hc0
        have q0:decide (0<c2)=false:=by have:=d3 hc0;simp;omega
        clear hc0 d3;refine aA (fun w'=>w'.cell? ⟨gv,i,none⟩=some pv/\w'.cell? ⟨gv,k,none⟩=some qv/\w'.cell? ⟨gv,j,none⟩=some rv) (⟨cp,cq,cr⟩) fun a0=>?_
        refine tH 0 a0 ?_
        try simp only[Act.put,jP,jQ,jR]
        refine tH 1 a0 ?_
        try simp only[Act.put,jP,jQ,jR]
        refine tH 2 a0 ?_
        try simp only[Act.put,jP,jQ,jR]
        refine tH 3 a0 ?_
        try simp only[Act.put,jP,jQ,jR]
        refine tH 4 a0 ?_
        try simp only[Act.put,jP,jQ,jR]
        refine tH 5 a0 ?_
        try simp only[Act.put,jP,jQ,jR]
        refine tH 6 a0 ?_
        try simp only[Act.put,jP,jQ,jR]
        refine tH 7 a0 ?_
        try simp only[Act.put,jP,jQ,jR]
        refine tH 8 a0 ?_
        try simp only[Act.put,jP,jQ,jR]
        refine tH 9 a0 ?_
        try simp only[Act.put,jP,jQ,jR]
        refine tH 10 a0 ?_
        try simp only[Act.put,jP,jQ,jR]
        refine tH 11 a0 ?_
        try simp only[Act.put,jP,jQ,jR]
        refine tH 12 a0 ?_
        try simp only[Act.put,jP,jQ,jR]
        refine tH 13 a0 ?_
        try simp only[Act.put,jP,jQ,jR]
        refine tH 14 a0 ?_
        try simp only[Act.put,jP,jQ,jR]
        refine tH 15 a0 ?_
        try simp only[Act.put,jP,jQ,jR]
        refine rH 16 fun K hK=>?_
        go_simp;refine(c4.out _ (Ze _ _).drew).mono ?_;rintro e w13 ⟨rfl,hb⟩;have Hb13:=Qa ((Ze _ _).drew.trans hb:Below w12.heap.size w12 w13);refine hK.out _ _ (⟨Zg hb a0.1,Zg hb a0.2.1,Zg hb a0.2.2⟩) (fun a0=>?_);clear hK K
        try simp only[Act.put,jP,jQ,jR]
        refine tH 17 a0 ?_
        try simp only[Act.put,jP,jQ,jR]
        refine tH 18 a0 ?_
        try simp only[Act.put,jP,jQ,jR]
        refine tH 19 a0 ?_
        try simp only[Act.put,jP,jQ,jR]
        refine tH 20 a0 ?_
        try simp only[Act.put,jP,jQ,jR]
        refine tH 21 a0 ?_
        try simp only[Act.put,jP,jQ,jR]
        refine tH 22 a0 ?_
        try simp only[Act.put,jP,jQ,jR]
        refine tH 23 a0 ?_
        try simp only[Act.put,jP,jQ,jR]
        refine tH 24 a0 ?_
        try simp only[Act.put,jP,jQ,jR]
        refine tH 25 a0 ?_
        try simp only[Act.put,jP,jQ,jR]
        refine tH 26 a0 ?_
        try simp only[Act.put,jP,jQ,jR]
        refine tH 27 a0 ?_
        try simp only[Act.put,jP,jQ,jR]
        refine rH 28 fun K hK=>?_
        go_simp;refine(b3.out _ Hb13.out).mono ?_;rintro e w14 ⟨rfl,hb⟩;have Hb14:=Qa (Hb13.out.trans (hb.mono Hb13.out.size):Below w12.heap.size w12 w14);refine hK.out _ _ (⟨Zg hb a0.1,Zg hb a0.2.1,Zg hb a0.2.2⟩) (fun a0=>?_);clear hK K
        try simp only[Act.put,jP,jQ,jR]
        refine tH 29 a0 ?_
        try simp only[Act.put,jP,jQ,jR]
        refine tH 30 a0 ?_
        try simp only[Act.put,jP,jQ,jR]
        refine wpAnyH_done (by kernel_rfl) (NoPanic.normal ?_) _;go_wp2_with fail;go_meet
        case rel=>exact⟨rfl,Hb14.out⟩
      case rest=>
       obtain⟨rfl,f1⟩:=hcut;have g8:=Qa (a2.out.trans (f1.mono a2.out.size));clear f1;go_wp2_with fail;exact⟨⟨k+1,by go_num,by omega,g8.out⟩,by simp[intOf];omega⟩
 case rest=>
  as_aux_lemma=>
   obtain⟨w20,rfl⟩:∃w20:World,w20=wc:=⟨_,rfl⟩;have b2:=Qa hcut;clear hcut n0;have g1:=Qa (show Calls Tryz.prog 9 #[.slice (some ⟨gv,0,none⟩) 3 3] w20 (fun e w'=>tJ T w20 e w') from by
    obtain⟨⟨aU,aE,hE⟩,hM,hP,-⟩:=g2.out.below b2.out;exact uC (Hs.out.below b2.out) (Hv.out.below b2.out) (by rw[b8.out];decide) (by rw[b8.out];decide) hP hE.glob)
   unfold tJ at g1;rw[b8.out] at g1;go_wp2_with fail;refine Za g1 ?_;rintro e w21 ⟨As,S,rfl,f3,g0,j5,k5⟩;have b5:=Qa (b2.out.trans (f3.mono b2.out.size));have q8:=Qa g0;have j1:=Qa j5;have h4:=Qa k5;have a4:=Qa (show S.length=3 by rw[g0.length_eq];exact b8.out);have c6:=Qa (fun (p:Vj) (hp:p∈S)=>g0.mem_iff.1 hp);clear f3 g0 j5 k5 g1;have g4:=Qa (show Calls Tryz.prog 9 #[.slice As 3 3] w21 (fun e w'=>tJ S w21 e w') from by
    obtain⟨⟨aU,aE,hE⟩,hM,hP,-⟩:=g2.out.below b5.out;exact uC h4.out (fun p hp=>(Hv.out.below b5.out) p (c6.out p hp)) (by rw[a4.out];decide) (by rw[a4.out];decide) hP hE.glob)
   unfold tJ at g4;rw[a4.out] at g4;go_wp2_with fail;refine Za g4 ?_;rintro e w22 ⟨At,S2,rfl,c8,b9,e8,e3⟩;have b0:=Qa (b5.out.trans (c8.mono b5.out.size));have HU:=Qa (BH e8 j1.out b9 fun p hp=>(Hv.out p (c6.out p hp)).2);have i9:=Qa (fun (p:Vj) (hp:p∈S2)=>c6.out p (b9.mem_iff.1 hp));have e5:=Qa (show S2.length=3 by rw[b9.length_eq];exact a4.out);obtain⟨gs,os,rfl,l5⟩:=(h4.out.below c8).lies (by rw[List.length_map,a4.out];decide);obtain⟨gt,ot,rfl,k6⟩:=e3.lies (by rw[List.length_map,e5.out];decide);have d0:=Qa (show ∀ (i:Nat) (p:Vj),S[i]?=some p->w22.cell? ⟨gs,os+i,none⟩=some p.1 from fun i p hp=>l5 i p.1 (by rw[List.getElem?_map,hp];rfl));have q1:=Qa (show ∀ (i:Nat) (p:Vj),S2[i]?=some p->w22.cell? ⟨gt,ot+i,none⟩=some p.1 from fun i p hp=>k6 i p.1 (by rw[List.getElem?_map,hp];rfl));have b7:=Qa (fun (w':World) (hb:Below w22.heap.size w22 w') (p q:Vj) (hp:p∈T) (hq:q∈T)=>e0.out w' (b0.out.trans (hb.mono b0.out.size)) p q hp hq);clear c8 b9 e8 e3 l5 k6 g4 h4 e0 b5 b2;go_wp2_with fail;obtain⟨x0,h0⟩:∃p,S[0]?=some p:=⟨_,Zd (by rw[a4.out];decide)⟩;obtain⟨x1,h1⟩:∃p,S[1]?=some p:=⟨_,Zd (by rw[a4.out];decide)⟩;obtain⟨x2,h2⟩:∃p,S[2]?=some p:=⟨_,Zd (by rw[a4.out];decide)⟩;have l01:=List.pairwise_iff_getElem.1 j1.out 0 1 (by rw[a4.out];decide) (by rw[a4.out];decide) (by decide);have l12:=List.pairwise_iff_getElem.1 j1.out 1 2 (by rw[a4.out];decide) (by rw[a4.out];decide) (by decide);rw[(List.getElem?_eq_some_iff.1 h0).2,(List.getElem?_eq_some_iff.1 h1).2] at l01;rw[(List.getElem?_eq_some_iff.1 h1).2,(List.getElem?_eq_some_iff.1 h2).2] at l12;have m0:=c6.out x0 (Zl h0);have m1:=c6.out x1 (Zl h1);have m2:=c6.out x2 (Zl h2);have c0:=d0.out 0 x0 h0;rw[Nat.add_zero] at c0;have c1:=d0.out 1 x1 h1;have c2:=d0.out 2 x2 h2;have D1:=Qa (fun w' (hb:Below w22.heap.size w22 w')=>b7.out w' hb x0 x1 m0 m1);have D2:=Qa (fun w' (hb:Below w22.heap.size w22 w')=>b7.out w' hb x1 x2 m1 m2);obtain⟨z1,p1⟩:∃z,bY x0.2 x1.2=z:=⟨_,rfl⟩;obtain⟨z2,n6⟩:∃z,bY x1.2 x2.2=z:=⟨_,rfl⟩;rw[p1] at D1 l01;rw[n6] at D2 l12;have l01i:decide (0<z1)=false:=by simp;omega
   have l12i:decide (0<z2)=false:=by simp;omega
   obtain⟨x0v,x0o⟩:=x0;obtain⟨x1v,x1o⟩:=x1;obtain⟨x2v,x2o⟩:=x2;simp only at c0 c1 c2 D1 D2;clear h0 h1 h2 l01 l12 m0 m1 m2 p1 n6;go_cut [194] (fun s194 wx=>s194 =.bool false/\Below w22.heap.size w22 wx)
   case first=>
    refine aA (fun w'=>w'.cell? ⟨gs,os,none⟩=some x0v/\w'.cell? ⟨gs,os+1,none⟩=some x1v/\w'.cell? ⟨gs,os+2,none⟩=some x2v) (⟨c0,c1,c2⟩) fun a0=>?_
    refine tH 0 a0 ?_
    try simp only[Act.put,jP,jQ,jR]
    refine tH 1 a0 ?_
    try simp only[Act.put,jP,jQ,jR]
    refine tH 2 a0 ?_
    try simp only[Act.put,jP,jQ,jR]
    refine tH 3 a0 ?_
    try simp only[Act.put,jP,jQ,jR]
    refine tH 4 a0 ?_
    try simp only[Act.put,jP,jQ,jR]
    refine tH 5 a0 ?_
    try simp only[Act.put,jP,jQ,jR]
    refine tH 6 a0 ?_
    try simp only[Act.put,jP,jQ,jR]
    refine tH 7 a0 ?_
    try simp only[Act.put,jP,jQ,jR]
    refine tH 8 a0 ?_
    try simp only[Act.put,jP,jQ,jR]
    refine tH 9 a0 ?_
    try simp only[Act.put,jP,jQ,jR]
    refine tH 10 a0 ?_
    try simp only[Act.put,jP,jQ,jR]
    refine tH 11 a0 ?_
    try simp only[Act.put,jP,jQ,jR]
    refine tH 12 a0 ?_
    try simp only[Act.put,jP,jQ,jR]
    refine tH 13 a0 ?_
    try simp only[Act.put,jP,jQ,jR]
    refine tH 14 a0 ?_
    try simp only[Act.put,jP,jQ,jR]
    refine rH 15 fun K hK=>?_
    go_simp;refine(D1.out _ (Ze _ _).drew).mono ?_;rintro e w23 ⟨rfl,hb⟩;have a5:=Qa ((Ze _ _).drew.trans hb:Below w22.heap.size w22 w23);refine hK.out _ _ (⟨Zg hb a0.1,Zg hb a0.2.1,Zg hb a0.2.2⟩) (fun a0=>?_);clear hK K
    try simp only[Act.put,jP,jQ,jR]
    refine tH 16 a0 ?_
    try simp only[Act.put,jP,jQ,jR]
    refine tH 17 a0 ?_
    try simp only[Act.put,jP,jQ,jR]
    refine tH 18 a0 ?_
    try simp only[Act.put,jP,jQ,jR]
    refine tH 19 a0 ?_
    try simp only[Act.put,jP,jQ,jR]
    refine tH 20 a0 ?_
    try simp only[Act.put,jP,jQ,jR]
    refine tH 21 a0 ?_
    try simp only[Act.put,jP,jQ,jR]
    refine tH 22 a0 ?_
    try simp only[Act.put,jP,jQ,jR]
    refine tH 23 a0 ?_
    try simp only[Act.put,jP,jQ,jR]
    refine tH 24 a0 ?_
    try simp only[Act.put,jP,jQ,jR]
    refine rH 25 fun K hK=>?_
    go_simp;refine(D2.out _ a5.out).mono ?_;rintro e w24 ⟨rfl,hb⟩;have Hb24:=Qa (a5.out.trans (hb.mono a5.out.size):Below w22.heap.size w22 w24);refine hK.out _ _ (⟨Zg hb a0.1,Zg hb a0.2.1,Zg hb a0.2.2⟩) (fun a0=>?_);clear hK K
    try simp only[Act.put,jP,jQ,jR]
    refine tH 26 a0 ?_
    try simp only[Act.put,jP,jQ,jR]
    refine tH 27 a0 ?_
    try simp only[Act.put,jP,jQ,jR]
    refine wpAnyH_done (by kernel_rfl) (NoPanic.normal ?_) _;go_wp2_with fail;go_meet
    case rel=>exact⟨rfl,Hb24.out⟩
   case rest=>
    obtain⟨rfl,f2⟩:=hcut;obtain⟨w25,rfl⟩:∃w25:World,w25=wc:=⟨_,rfl⟩;have Hb25:=Qa f2;clear f2 c0 c1 c2 D1 D2 l01i l12i;go_wp2_with fail
    go_loopw [21,22,23,24] (fun s21 _ _ _ wr=>Lp w22 s21 wr) (fun v _ _ _ _=>3 - (intOf v).toNat)
    case atStart=>exact⟨0,rfl,by omega,Hb25.out⟩
    case round=>
     obtain⟨i,rfl,hi,hb⟩:=hrel;have Hbr:=Qa hb;clear hb
     by_cases hi3:i<3
     rotate_left
     ·have c9:¬ (i:Int)<3:=by omega
      go_wp2_with fail;go_ret;exact⟨rfl,g6.out.trans ((b0.out.trans (Hbr.out.mono b0.out.size)).mono g6.out.size)⟩
     have c9:(i:Int)<3:=by omega
     obtain⟨x,hx⟩:∃p,S[i]?=some p:=⟨_,Zd (by rw[a4.out];exact hi3)⟩;obtain⟨y,hy⟩:∃p,S2[i]?=some p:=⟨_,Zd (by rw[e5.out];exact hi3)⟩;have q3:=Qa (show bY x.2 y.2=0 by
      have e1:(S.map Prod.snd)[i]?=some x.2:=by rw[List.getElem?_map,hx];rfl
      have e2:(S2.map Prod.snd)[i]?=some y.2:=by rw[List.getElem?_map,hy];rfl
      rw[HU.out,e1] at e2;rw[Zi e2];exact Bl _)
     have Hx:=Qa (And.intro hx (c6.out x (Zl hx)));have Hy:=Qa (And.intro hy (i9.out y (Zl hy)));clear hx hy;obtain⟨xv,xo⟩:=x;obtain⟨yv,yo⟩:=y;go_wp2_with fail
     go_loopw [22,23,24] (fun s22 s23 s24 wx=>Kq w22 xo S T s22 s23 s24 wx) (fun _ _ v _=>3 - (intOf v).toNat)
     case atStart=>exact⟨0,rfl,by omega,rfl,rfl,Hbr.out⟩
     case round=>
      obtain⟨m,rfl,hm,rfl,rfl,hb⟩:=hrel;have a6:=Qa hb;clear hb;have l1:=yz xo (S.take m);have l2:=yz xo (T.take m);rw[List.length_take,a4.out] at l1;rw[List.length_take,b8.out] at l2
      by_cases hm3:m<3
      rotate_left
      ·obtain rfl:m=3:=by omega
       have i4:¬ ((3:Nat):Int)<3:=by omega
       have heq:ll xo (S.take 3)=ll xo (T.take 3):=by
        rw[List.take_of_length_le (by rw[a4.out];exact Zb _),List.take_of_length_le (by rw[b8.out];exact Zb _)];exact q8.out.countP_eq _
       rw[heq];generalize ll xo (T.take 3)=N at *;have r0:((N:Int) != (N:Int))=false:=by simp
       have cx:=Zg a6.out (d0.out i (xv,xo) Hx.out.1);have cy:=Zg a6.out (q1.out i (yv,yo) Hy.out.1);have D1:=Qa (fun w' (hb:Below wr.heap.size wr w')=>b7.out w' (a6.out.trans (hb.mono a6.out.size)) (xv,xo) (yv,yo) Hx.out.2 Hy.out.2);simp only[q3.out] at D1 cx cy;clear heq l1 l2;go_wp2_with fail;refine aA (fun w'=>w'.cell? ⟨gs,os+i,none⟩=some xv/\w'.cell? ⟨gt,ot+i,none⟩=some yv) (⟨cx,cy⟩) fun a0=>?_
       refine tH 0 a0 ?_
       try simp only[Act.put,jP,jQ,jR]
       refine tH 1 a0 ?_
       try simp only[Act.put,jP,jQ,jR]
       refine tH 2 a0 ?_
       try simp only[Act.put,jP,jQ,jR]
       refine tH 3 a0 ?_
       try simp only[Act.put,jP,jQ,jR]
       refine tH 4 a0 ?_
       try simp only[Act.put,jP,jQ,jR]
       refine tH 5 a0 ?_
       try simp only[Act.put,jP,jQ,jR]
       refine tH 6 a0 ?_
       try simp only[Act.put,jP,jQ,jR]
       refine tH 7 a0 ?_
       try simp only[Act.put,jP,jQ,jR]
       refine tH 8 a0 ?_
       try simp only[Act.put,jP,jQ,jR]
       refine tH 9 a0 ?_
       try simp only[Act.put,jP,jQ,jR]
       refine tH 10 a0 ?_
       try simp only[Act.put,jP,jQ,jR]
       refine tH 11 a0 ?_
       try simp only[Act.put,jP,jQ,jR]
       refine rH 12 fun K hK=>?_
       go_simp;refine(D1.out _ (Ze _ _).drew).mono ?_;rintro e w26 ⟨rfl,hb⟩;have Hb26:=Qa ((Ze _ _).drew.trans hb:Below wr.heap.size wr w26);refine hK.out _ _ (⟨Zg hb a0.1,Zg hb a0.2⟩) (fun a0=>?_);clear hK K
       try simp only[Act.put,jP,jQ,jR]
       refine tH 13 a0 ?_
       try simp only[Act.put,jP,jQ,jR]
       refine tH 14 a0 ?_
       try simp only[Act.put,jP,jQ,jR]
       refine wpAnyH_done (by kernel_rfl) (NoPanic.normal ?_) _;go_wp2_with fail;exact⟨⟨i+1,by go_num,by omega,a6.out.trans (Hb26.out.mono a6.out.size)⟩,by simp[intOf];omega⟩
      have i4:(m:Int)<3:=by omega
      obtain⟨q,hq⟩:∃p,S[m]?=some p:=⟨_,Zd (by rw[a4.out];exact hm3)⟩;obtain⟨r,hr⟩:∃p,T[m]?=some p:=⟨_,Zd (by rw[b8.out];exact hm3)⟩;have N1:=pu (x:=xo) hq;have N2:=pu (x:=xo) hr;have cx:=Zg a6.out (d0.out i (xv,xo) Hx.out.1);have cq:=Zg a6.out (d0.out m q hq);have m5:=Qa (c7.out m r hr);have D1:=Qa (fun w' (hb:Below wr.heap.size wr w')=>b7.out w' (a6.out.trans (hb.mono a6.out.size)) (xv,xo) q Hx.out.2 (c6.out q (Zl hq)));have D2:=Qa (fun w' (hb:Below wr.heap.size wr w')=>b7.out w' (a6.out.trans (hb.mono a6.out.size)) (xv,xo) r Hx.out.2 (Zl hr));obtain⟨qv,qo⟩:=q;obtain⟨rv,ro⟩:=r;simp only at cx cq m5 D1 D2 N1 N2;generalize bY xo qo=z1 at *;generalize bY xo ro=z2 at *;have i8:=Qa N1;have i3:=Qa N2;clear N1 N2 hq hr;generalize ll xo (S.take m)=n1 at *;generalize ll xo (T.take m)=n2 at *;obtain⟨m1,i0⟩:∃n,ll xo (S.take (m+1))=n:=⟨_,rfl⟩;obtain⟨m2,g9⟩:∃n,ll xo (T.take (m+1))=n:=⟨_,rfl⟩;rw[i0] at i8;rw[g9] at i3;have HM:=Qa (And.intro i0 g9);clear i0 g9;go_wp2_with fail;refine aA (fun w'=>w'.cell? ⟨gs,os+i,none⟩=some xv/\w'.cell? ⟨gs,os+m,none⟩=some qv) (⟨cx,cq⟩) fun a0=>?_
      refine tH 0 a0 ?_
      try simp only[Act.put,jP,jQ,jR]
      refine tH 1 a0 ?_
      try simp only[Act.put,jP,jQ,jR]
      refine tH 2 a0 ?_
      try simp only[Act.put,jP,jQ,jR]
      refine tH 3 a0 ?_
      try simp only[Act.put,jP,jQ,jR]
      refine tH 4 a0 ?_
      try simp only[Act.put,jP,jQ,jR]
      refine tH 5 a0 ?_
      try simp only[Act.put,jP,jQ,jR]
      refine tH 6 a0 ?_
      try simp only[Act.put,jP,jQ,jR]
      refine tH 7 a0 ?_
      try simp only[Act.put,jP,jQ,jR]
      refine rH 8 fun K hK=>?_
      go_simp;refine(D1.out _ (Ze _ _).drew).mono ?_;rintro e w26 ⟨rfl,hb⟩;have Hb26:=Qa ((Ze _ _).drew.trans hb:Below wr.heap.size wr w26);refine hK.out _ _ (⟨Zg hb a0.1,Zg hb a0.2⟩) (fun a0=>?_);clear hK K
      try simp only[Act.put,jP,jQ,jR]
      refine tH 9 a0 ?_
      try simp only[Act.put,jP,jQ,jR]
      refine wpAnyH_done (by kernel_rfl) (NoPanic.normal ?_) _;go_upto_if 212 with fail
      go_cut [22] (fun s wx=>s =.int .i64 (m1:Nat)/\Below wr.heap.size wr wx)
      case first=>
       by_cases hz:z1=0
       ·have h5:(z1==0)=true:=by simpa using hz
        have hn:=Qa (i8.out.trans (by rw[if_pos hz]));clear hz;go_wp2_with fail;go_meet
        case rel=>exact⟨by rw[hn.out];go_num,Hb26.out⟩
       ·have h5:(z1==0)=false:=by simpa using hz
        have hn:=Qa (i8.out.trans (by rw[if_neg hz,Nat.add_zero]));clear hz;go_wp2_with fail;go_meet
        case rel=>exact⟨by rw[hn.out],Hb26.out⟩
      case rest=>
       obtain⟨rfl,c3⟩:=hcut;obtain⟨w27,rfl⟩:∃w27:World,w27=wc:=⟨_,rfl⟩;have b1:=Qa (a6.out.trans (c3.mono a6.out.size));have D3:=Qa (fun w' (hb:Below w27.heap.size w27 w')=>D2.out w' (c3.trans (hb.mono c3.size)));have cx:=Zg b1.out (d0.out i (xv,xo) Hx.out.1);have cr:=Zg (b0.out.trans (b1.out.mono b0.out.size)) m5.out;simp only at cx;clear c3 D1 D2 a0;go_wp2_with fail;refine aA (fun w'=>w'.cell? ⟨gs,os+i,none⟩=some xv/\w'.cell? ⟨gv,m,none⟩=some rv) (⟨cx,cr⟩) fun a0=>?_
       refine tH 0 a0 ?_
       try simp only[Act.put,jP,jQ,jR]
       refine tH 1 a0 ?_
       try simp only[Act.put,jP,jQ,jR]
       refine tH 2 a0 ?_
       try simp only[Act.put,jP,jQ,jR]
       refine tH 3 a0 ?_
       try simp only[Act.put,jP,jQ,jR]
       refine tH 4 a0 ?_
       try simp only[Act.put,jP,jQ,jR]
       refine tH 5 a0 ?_
       try simp only[Act.put,jP,jQ,jR]
       refine tH 6 a0 ?_
       try simp only[Act.put,jP,jQ,jR]
       refine tH 7 a0 ?_
       try simp only[Act.put,jP,jQ,jR]
       refine rH 8 fun K hK=>?_
       go_simp;refine(D3.out _ (Ze _ _).drew).mono ?_;rintro e w28 ⟨rfl,hb⟩;have e4:=Qa ((Ze _ _).drew.trans hb:Below w27.heap.size w27 w28);refine hK.out _ _ (⟨Zg hb a0.1,Zg hb a0.2⟩) (fun a0=>?_);clear hK K
       try simp only[Act.put,jP,jQ,jR]
       refine tH 9 a0 ?_
       try simp only[Act.put,jP,jQ,jR]
       refine wpAnyH_done (by kernel_rfl) (NoPanic.normal ?_) _
       by_cases hz:z2=0
       ·have h5:(z2==0)=true:=by simpa using hz
        have hn:=Qa (i3.out.trans (by rw[if_pos hz]));clear hz;go_wp2_with fail;exact⟨⟨m+1,by go_num,by omega,by rw[HM.out.1],by rw[HM.out.2,hn.out];go_num,b1.out.trans (e4.out.mono b1.out.size)⟩,by simp[intOf];omega⟩
       ·have h5:(z2==0)=false:=by simpa using hz
        have hn:=Qa (i3.out.trans (by rw[if_neg hz,Nat.add_zero]));clear hz;go_wp2_with fail;exact⟨⟨m+1,by go_num,by omega,by rw[HM.out.1],by rw[HM.out.2,hn.out],b1.out.trans (e4.out.mono b1.out.size)⟩,by simp[intOf];omega⟩
