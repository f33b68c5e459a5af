import Derived.Test.YtafobflehfecpaaGreatDoorGZ15bl
set_option linter.unusedVariables false
set_option linter.unusedSimpArgs false
set_option maxHeartbeats 64000000
set_option maxRecDepth 100000
namespace Go.Proofs.YtafobflehfecpaaGreatDoor
open Go.RowKit Go.Shelf
variable {p:ByteArray}{m y:List ByteArray}{v xv yv:Value}{w:World}
theorem Az {x l:List En}(hs:tO x y)(hl:∀e∈l,jM e/\e∈x)(hm:∀p∈m,aT p/\p∈y)(h1:l.length<=120)(h2:m.length<=120){es:List En}(k:br l m es):(∀e∈es,ff e)/\(∀e∈es,zB 20000 e)/\(cm 2 es).txt.length<=1000000000:=by
 obtain⟨-,-,h3⟩:=hs;have a0:=k.ok (fun e he=>(hl e he).1) (fun p hp=>(hm p hp).1);have hb:∀e∈es,zB 20000 e:=fun e he=>by
  rcases bM.1 ((k.mem e).1 he) with h|⟨p,hp,-,rfl⟩
  ·have:=o5 (hl e h.1).2;exact⟨by omega,by omega⟩
  ·have:=nT (hm p hp).2;exact⟨by show p.size<=_;omega,by show(0:Nat)<=_;omega⟩
 refine⟨a0,hb,?_⟩;have h4:es.length<=(eA l m).length:=iz k.nodup fun e he=>(k.mem e).1 he
 have h5:=nX l m;have h6:=vz (o:=2) (by decide) a0 hb;have h7:(4*es.length+3)* (12*20000+40)<=963*240040:=Nat.mul_le_mul (by omega) (by decide);omega
theorem p6 {es:List En}(hA:mj w)(hb:Bs w v (cm 2 es).txt)(h1:∀e∈es,ff e)(h2:∀e∈es,zB 20000 e)(hl:(cm 2 es).txt.length<=1000000000):Calls Tryz.prog 9 #[v] w fun e w'=>yD (cm 2 es).txt w e w':=by
 obtain⟨aU,aE,hE⟩:=hA.env;have hp:=il (lB (o:=2) h1);have h0:0< (cm 2 es).txt.length:=by
  rw[List.length_pos_iff];intro e;rw[e] at hp
  cases hp
 exact AY hE hA.may hA.lw.pow hb h0 hl hp (lB h1) (yL (by decide) h1 h2) (by omega)
structure lX (l:List En) (m:List ByteArray) (es:List En):Prop where
 ent:br l m es
 ino:ec l m
theorem lX.enl {l:List En}{es:List En}(h:lX l m es){e:En}(he:e∈es):Be e:=by
 obtain⟨h1,h2,-⟩:=h.ino.ents h.ent;exact⟨⟨(h1 e he).1,by have:=(h2 e he).1;omega⟩,⟨(h1 e he).2.1,by have:=(h2 e he).2;omega⟩⟩
theorem lX.pok {l:List En}{es:List En}(h:lX l m es)(hp:p∈bN es):eR p:=h.ino.pls p ((h.ent.pl h.ino.ne).1 hp).1
theorem lX.bok {l:List En}{es:List En}(h:lX l m es){e:En}(he:e∈df es):eR e.eAt:=(h.ino.bls e ((h.ent.bl h.ino.ne).1 he).1).at
theorem iS {x:List En}(hA:mj w)(hx:ua w xv x)(hy:uy w yv y)(ht:g9 x+jt y<=2000000) :
  Calls Tryz.prog 3 #[xv,yv] w fun e w'=>e =.returned (.bool true)/\Below w.heap.size w w':=by
 have HF:=Qa (sf hA);have HS:=Qa (fun W (hb:Below w.heap.size w W)=>yk (hx.below hb) (hy.below hb) (by omega));have HG:=Qa (fun W (hb:Below w.heap.size w W)=>zt (hx.below hb) (hy.below hb) (fun e he=>by have:=o5 he;omega) (fun p hp=>by have:=nT hp;omega));have HA:=Qa hA;obtain⟨-,A1,c1,rfl,-,-⟩:=id hx;obtain⟨-,A2,c2,rfl,-,-⟩:=id hy;clear hA hx hy ht;go_enter Tryz.func3,Tryz.ntmps3;go_wp2_with fail;refine Za HF ?_;rintro e w1 ⟨rfl,f9⟩;have g5:=Qa f9;clear f9;go_wp2_with fail;refine(HS.out w1 g5.out).mono ?_;rintro e w2 ⟨b1,rfl,f5,g1⟩;have h3:=Qa (ak g5.out g1);have g0:=Qa f5;clear g1 f5;go_wp2_with fail;refine(HG.out w2 h3.out).mono ?_;rintro e w4 ⟨u,v,l,m,rfl,hE,hS,hl,hm,d2,e5,f8⟩;have b9:=Qa (ak h3.out f8);have Hl:=Qa (hE.sl (by omega));have Hm:=Qa (hS.slt (by omega));have c5:=Qa (And.intro hl (And.intro hm (And.intro d2 e5)));obtain⟨A4,q4,rfl,-⟩:=af hE;obtain⟨A5,q5,rfl,-⟩:=af hS;clear hE hS hl hm f8 HF HS HG
 cases b1 with
 |false=>
  go_wp2_with fail;go_ret;exact⟨rfl,b9.out⟩
 |true=>
  have a5:=Qa (Df (g0.out rfl) c5.out.1 c5.out.2.1 d2 e5)
  by_cases h0:l.length+m.length=0
  ·have f3:((l.length:Int)+m.length==0)=true:=by rw[beq_iff_eq];omega
   go_wp2_with fail;go_ret;exact⟨rfl,b9.out⟩
  ·have f3:((l.length:Int)+m.length==0)=false:=by rw[beq_eq_false_iff_ne];omega
   have HM:=Qa (jb (oc:=2) (HA.out.below b9.out).lr (HA.out.below b9.out).lw Hl.out Hm.out a5.out (by decide) (by constructor <;> intro _ <;> omega));go_wp2_with fail;refine(show Calls Tryz.prog 7 #[.int .i64 2,_,_] w4 _ from HM.out).mono ?_;rintro e w5 ⟨es,v5,g8,rfl,f2,c7⟩;have c9:=Qa (ak b9.out c7);have h4:=Qa (Hl.out.below c7);have g3:=Qa (Hm.out.below c7);have b0:=Qa g8;have c6:=Qa f2.bs;obtain⟨A6,q6,i3,-⟩:=af f2;subst i3;clear g8 f2 c7 HM;have a3:=Qa (lX.mk b0.out a5.out);have b8:=Qa (Az (g0.out trivial) c5.out.1 c5.out.2.1 d2 e5 b0.out);have hne:0<es.length:=b0.out.some.1 (by omega);have d9:((es.length:Int)==0)=false:=by rw[beq_eq_false_iff_ne];omega
   have b4:=Qa (zT b0.out a5.out.ne);have HP:=Qa (fo (HA.out.below c9.out) a5.out b0.out (by decide) (by constructor <;> intro _ <;> omega) c6.out b8.out.2.2);have HT:=Qa (fun W (hb:Below w5.heap.size w5 W)=>p6 (HA.out.below (ak c9.out hb)) (c6.out.below hb) b8.out.1 b8.out.2.1 b8.out.2.2);clear f3;go_wp2_with fail;refine Za HP ?_;rintro e w6 ⟨u6,rfl,e0,g4⟩;have e4:=Qa g4;have f7:=Qa (e0.sl (by have:=(a5.out.ents b0.out).2.2;omega));obtain⟨A7,q7,rfl,-⟩:=af e0;clear e0 g4 HP;go_wp2_with fail;refine(HT.out w6 e4.out).mono ?_;rintro e w7 ⟨u7,rfl,d3,d5⟩;have c4:=Qa (ak e4.out d5);have d4:=Qa (f7.out.below d5);have d6:=Qa (kv (c6.out.below c4.out) d3.bs);rw[decide_eq_true rfl] at d6;obtain⟨A8,q8,rfl,-⟩:=af d3;clear d3 d5 HT f7;generalize (cm 2 es).txt.length=tn at *;go_wp2_with fail;refine Za d6 ?_;rintro e w' ⟨rfl,rfl⟩;clear d6;go_wp2_with fail;refine(uK d4.out).mono ?_;rintro e w8 ⟨u8,v8,rfl,e6,e1,b3⟩;have g7:=Qa (ak c9.out (ak c4.out b3));have h5:=dU es;have f4:=(a5.out.ents b0.out).2.2;have HL:=Qa (d4.out.below b3).rd.2;have HX:=Qa (h4.out.below (ak c4.out b3)).rd.2;have HY:=Qa (g3.out.below (ak c4.out b3)).rd.2.2;have HB:=Qa (e6.sl (by omega));have HS:=Qa (e1.slt (by omega));obtain⟨A9,q9,rfl,-⟩:=af e6;obtain⟨A10,q10,rfl,-⟩:=af e1;have HB:=Qa HB.out.rd.2;have HS:=Qa HS.out.rd.2.2;have b2:=Qa (fun W (hb:Below w8.heap.size w8 W)=>(HA.out.below (ak g7.out hb)).lr.p);have i9:es.length<=6000:=f4;have h6:(df es).length<=6000/\(bN es).length<=6000:=by omega
   obtain⟨i4,h9⟩:=h6;have Hw8:=Qa (Ze w8.heap.size w8);clear e6 e1 b3 h5 f4 d4 h4 g3 Hl Hm hne d9 c4 e4 b8 c6;go_wp2_with fail
   go_loopg [19] es.length (fun mm s19 wr=> ∃i:Nat,mm+ (i+1)=es.length+1/\s19 =.int .i64 (i+1:Nat)/\i+1<=es.length+1/\Hid (Below w8.heap.size w8 wr))
   case atStart=>exact⟨0,rfl,rfl,by omega,Hw8⟩
   case round=>
    obtain⟨i,a1,rfl,i2,Hb⟩:=hrel;have Hmm:=Qa a1;clear a1 Hw8
    by_cases hlt:i+1<es.length
    ·obtain⟨a,ha⟩:∃a,es[i]?=some a:=⟨_,Zd (by omega)⟩;obtain⟨b,hb⟩:∃b,es[i+1]?=some b:=⟨_,Zd hlt⟩;obtain⟨g,o,rfl,k1,k2,k3⟩:=HL.out i a ha;obtain⟨g2,o2,e2,r1,r2,r3⟩:=HL.out (i+1) b hb;obtain⟨rfl,rfl,-⟩:=Addr.mk.inj (Zi e2);have HC:=Qa (fun W (h:Below w8.heap.size w8 W)=>And.intro (Zg h k1) (And.intro (Zg h k2) (And.intro (Zg h k3) (And.intro (Zg h r1) (And.intro (Zg h r2) (Zg h r3))))));have g6:=Qa (zP a3.out.ent ha hb (Nat.lt_succ_self i));have H1:=Qa (fun W (h:Below w8.heap.size w8 W)=>ni (b2.out W h) (a3.out.enl (Zk ha)) (a3.out.enl (Zk hb)));have H2:=Qa (fun W (h:Below w8.heap.size w8 W)=>ni (b2.out W h) (a3.out.enl (Zk hb)) (a3.out.enl (Zk ha)));rw[decide_eq_true g6.out.1] at H1;rw[decide_eq_false g6.out.2] at H2;have hz:IntKind.i64.wrap (((i+1:Nat):Int) - 1)= (i:Int):=by rw[IntWalk.i64_in _ (by omega)];omega
     obtain⟨z,c8⟩:∃z:Int,((i+1:Nat):Int)=z:=⟨_,rfl⟩;have hzl:z<es.length:=by omega
     have k0:0<=z:=by omega
     have k4:z.toNat=i+1:=by omega
     have i8:(i:Int)<es.length:=by omega
     have Hz:=Qa c8;rw[c8] at hz;clear ha hb k1 k2 k3 r1 r2 r3 e2 hlt;rw[Hz.out];clear c8;go_wp2_with fail;refine bm (fun w'=>w'.cell? ⟨g,o+i*3,none⟩=some (.string a.eAt)/\w'.cell? ⟨g,o+i*3+1,none⟩=some (.string a.eSch)/\w'.cell? ⟨g,o+i*3+2,none⟩=some (.string a.eKw)/\w'.cell? ⟨g,o+ (i+1)*3,none⟩=some (.string b.eAt)/\w'.cell? ⟨g,o+ (i+1)*3+1,none⟩=some (.string b.eSch)/\w'.cell? ⟨g,o+ (i+1)*3+2,none⟩=some (.string b.eKw)) (HC.out _ Hb.out.drew) fun a0=>?_
     refine tH 0 a0 ?_
     try simp only[Act.put,jP,jQ,jR]
     refine tH 1 a0 ?_
     try simp only[Act.put,jP,jQ,jR]
     refine tH 2 a0 ?_
     try simp only[Act.put,jP,jQ,jR]
     refine tH 3 a0 ?_
     try simp only[Act.put,jP,jQ,jR]
     refine tH 4 a0 ?_
     try simp only[Act.put,jP,jQ,jR]
     refine tH 5 a0 ?_
     try simp only[Act.put,jP,jQ,jR]
     refine tH 6 a0 ?_
     try simp only[Act.put,jP,jQ,jR]
     refine tH 7 a0 ?_
     try simp only[Act.put,jP,jQ,jR]
     refine tH 8 a0 ?_
     try simp only[Act.put,jP,jQ,jR]
     refine rH 9 fun K hK=>?_
     go_simp;refine(H1.out _ Hb.out.drew).mono ?_;rintro e wa ⟨rfl,a9⟩;have Hba:=Qa (ak Hb.out.drew a9);clear a9;go_wp2_with fail;refine hK.out _ _ (HC.out _ Hba.out) (fun a0=>?_);clear hK K
     try simp only[Act.put,jP,jQ,jR]
     refine tH 10 a0 ?_
     try simp only[Act.put,jP,jQ,jR]
     refine tH 11 a0 ?_
     try simp only[Act.put,jP,jQ,jR]
     refine tH 12 a0 ?_
     try simp only[Act.put,jP,jQ,jR]
     refine tH 13 a0 ?_
     try simp only[Act.put,jP,jQ,jR]
     refine tH 14 a0 ?_
     try simp only[Act.put,jP,jQ,jR]
     refine tH 15 a0 ?_
     try simp only[Act.put,jP,jQ,jR]
     refine tH 16 a0 ?_
     try simp only[Act.put,jP,jQ,jR]
     refine tH 17 a0 ?_
     try simp only[Act.put,jP,jQ,jR]
     refine tH 18 a0 ?_
     try simp only[Act.put,jP,jQ,jR]
     refine tH 19 a0 ?_
     try simp only[Act.put,jP,jQ,jR]
     refine tH 20 a0 ?_
     try simp only[Act.put,jP,jQ,jR]
     refine rH 21 fun K hK=>?_
     go_simp;refine(H2.out _ Hba.out).mono ?_;rintro e wb ⟨rfl,f6⟩;have Hbb:=Qa (ak Hba.out f6);clear f6;go_wp2_with fail;refine hK.out _ _ (HC.out _ Hbb.out) (fun a0=>?_);clear hK K
     try simp only[Act.put,jP,jQ,jR]
     refine tH 22 a0 ?_
     try simp only[Act.put,jP,jQ,jR]
     refine wpAnyH_done (by kernel_rfl) (NoPanic.normal ?_) _;go_wp2_with fail;go_roundg (es.length+1 - (i+2))
     case measure=>have:=Hmm.out;omega
     case rel=>exact⟨i+1,by omega,by have:=Hz.out;go_num,by omega,Hbb⟩
    ·have i5:¬ ((i+1:Nat):Int)<es.length:=by omega
     clear i2 Hmm hlt;go_wp2_with fail
     go_loopg [20] (bN es).length (fun mm s20 wr=> ∃i:Nat,mm+i= (bN es).length/\s20 =.int .i64 i/\Hid (Below w8.heap.size w8 wr))
     case atStart=>exact⟨0,rfl,rfl,Hb⟩
     case round=>
      clear Hb;obtain⟨i,a1,rfl,Hb⟩:=hrel;have Hmm:=Qa a1;clear a1
      by_cases hlt:i< (bN es).length
      ·have a4:(i:Int)< (bN es).length:=by omega
       obtain⟨q,hq⟩:∃a,(bN es)[i]?=some a:=⟨_,Zd hlt⟩;obtain⟨g,o,rfl,k1⟩:=HS.out i q hq;have Hk:=Qa k1;have Hq:=Qa hq;have c3:=Qa (Zk hq);clear k1 hq hlt;go_wp2_with fail;obtain⟨wo,rfl⟩:∃wo:World,wo=wr:=⟨wr,rfl⟩
       go_loopg [21] (df es).length (fun mm s21 wr=> ∃k:Nat,mm+k= (df es).length/\s21 =.int .i64 k/\Hid (Below w8.heap.size w8 wr))
       case atStart=>exact⟨0,rfl,rfl,Hb⟩
       case round=>
        clear Hb;obtain⟨k,a1,rfl,Hb⟩:=hrel;have Hkk:=Qa a1;clear a1
        by_cases hlk:k< (df es).length
        ·have a2:(k:Int)< (df es).length:=by omega
         obtain⟨a,ha⟩:∃a,(df es)[k]?=some a:=⟨_,Zd hlk⟩;obtain⟨g2,o2,rfl,r1,-,-⟩:=HB.out k a ha;have HC:=Qa (fun W (h:Below w8.heap.size w8 W)=>And.intro (Zg h r1) (Zg h Hk.out));have HU:=Qa (fun W (h:Below w8.heap.size w8 W)=>dY (b2.out W h) (a3.out.bok (Zk ha)).1 (a3.out.pok c3.out).1 (a3.out.bok (Zk ha)).2 (a3.out.pok c3.out).2);rw[yR a3.out.ent a5.out.ne (Zk ha) c3.out] at HU;clear ha r1 hlk;go_wp2_with fail;refine bm (fun w'=>w'.cell? ⟨g2,o2+k*3,none⟩=some (.string a.eAt)/\w'.cell? ⟨g,o+i,none⟩=some (.string q)) (HC.out _ Hb.out.drew) fun a0=>?_
         refine tH 0 a0 ?_
         try simp only[Act.put,jP,jQ,jR]
         refine tH 1 a0 ?_
         try simp only[Act.put,jP,jQ,jR]
         refine tH 2 a0 ?_
         try simp only[Act.put,jP,jQ,jR]
         refine tH 3 a0 ?_
         try simp only[Act.put,jP,jQ,jR]
         refine tH 4 a0 ?_
         try simp only[Act.put,jP,jQ,jR]
         refine tH 5 a0 ?_
         try simp only[Act.put,jP,jQ,jR]
         refine tH 6 a0 ?_
         try simp only[Act.put,jP,jQ,jR]
         refine tH 7 a0 ?_
         try simp only[Act.put,jP,jQ,jR]
         refine tH 8 a0 ?_
         try simp only[Act.put,jP,jQ,jR]
         refine rH 9 fun K hK=>?_
         go_simp;refine(HU.out _ Hb.out.drew).mono ?_;rintro e wa ⟨rfl,a9⟩;have Hba:=Qa (ak Hb.out.drew a9);clear a9;go_wp2_with fail;refine hK.out _ _ (HC.out _ Hba.out) (fun a0=>?_);clear hK K
         try simp only[Act.put,jP,jQ,jR]
         refine wpAnyH_done (by kernel_rfl) (NoPanic.normal ?_) _;go_wp2_with fail;go_roundg ((df es).length - (k+1))
         case measure=>have:=Hkk.out;omega
         case rel=>exact⟨k+1,by have:=Hkk.out;omega,by go_num,Hba⟩
        ·have a2:¬ (k:Int)< (df es).length:=by omega
         clear hlk Hkk;go_wp2_with fail;obtain⟨wo,rfl⟩:∃wo:World,wo=wr:=⟨wr,rfl⟩
         go_loopg [22] (bN es).length (fun mm s22 wr=> ∃k:Nat,mm+k= (bN es).length/\s22 =.int .i64 k/\Hid (Below w8.heap.size w8 wr))
         case atStart=>exact⟨0,rfl,rfl,Hb⟩
         case round=>
          clear Hb a2;obtain⟨k,a1,rfl,Hb⟩:=hrel;have Hkk:=Qa a1;clear a1
          by_cases hlk:k< (bN es).length
          ·have a2:(k:Int)< (bN es).length:=by omega
           obtain⟨r,hr⟩:∃a,(bN es)[k]?=some a:=⟨_,Zd hlk⟩;obtain⟨g2,o2,e2,r1⟩:=HS.out k r hr;obtain⟨rfl,rfl,-⟩:=Addr.mk.inj (Zi e2);have HC:=Qa (fun W (h:Below w8.heap.size w8 W)=>And.intro (Zg h r1) (Zg h Hk.out));have HU:=Qa (fun W (h:Below w8.heap.size w8 W)=>dY (b2.out W h) (a3.out.pok (Zk hr)).1 (a3.out.pok c3.out).1 (a3.out.pok (Zk hr)).2 (a3.out.pok c3.out).2);rw[CV a3.out.ent a5.out.ne Hq.out hr] at HU;have j0:((i:Int)== (k:Int))=decide (i=k):=by rw[Bool.eq_iff_iff,beq_iff_eq,decide_eq_true_iff];omega
           generalize decide (i=k)=d at *;clear hr r1 hlk e2;go_wp2_with fail;refine bm (fun w'=>w'.cell? ⟨g,o+k,none⟩=some (.string r)/\w'.cell? ⟨g,o+i,none⟩=some (.string q)) (HC.out _ Hb.out.drew) fun a0=>?_
           refine tH 0 a0 ?_
           try simp only[Act.put,jP,jQ,jR]
           refine tH 1 a0 ?_
           try simp only[Act.put,jP,jQ,jR]
           refine tH 2 a0 ?_
           try simp only[Act.put,jP,jQ,jR]
           refine tH 3 a0 ?_
           try simp only[Act.put,jP,jQ,jR]
           refine tH 4 a0 ?_
           try simp only[Act.put,jP,jQ,jR]
           refine tH 5 a0 ?_
           try simp only[Act.put,jP,jQ,jR]
           refine tH 6 a0 ?_
           try simp only[Act.put,jP,jQ,jR]
           refine tH 7 a0 ?_
           try simp only[Act.put,jP,jQ,jR]
           refine tH 9 a0 ?_
           try simp only[Act.put,jP,jQ,jR]
           refine tH 10 a0 ?_
           try simp only[Act.put,jP,jQ,jR]
           refine tH 11 a0 ?_
           try simp only[Act.put,jP,jQ,jR]
           refine rH 8 fun K hK=>?_
           go_simp;refine(HU.out _ Hb.out.drew).mono ?_;rintro e wa ⟨rfl,a9⟩;have Hba:=Qa (ak Hb.out.drew a9);clear a9;go_wp2_with fail;refine hK.out _ _ (HC.out _ Hba.out) (fun a0=>?_);clear hK K
           try simp only[Act.put,jP,jQ,jR]
           refine tH 12 a0 ?_
           try simp only[Act.put,jP,jQ,jR]
           refine wpAnyH_done (by kernel_rfl) (NoPanic.normal ?_) _;go_wp2_with fail;go_roundg ((bN es).length - (k+1))
           case measure=>have:=Hkk.out;omega
           case rel=>exact⟨k+1,by have:=Hkk.out;omega,by go_num,Hba⟩
          ·have a2:¬ (k:Int)< (bN es).length:=by omega
           go_wp2_with fail;go_roundg ((bN es).length - (i+1))
           case measure=>have:=Hmm.out;omega
           case rel=>exact⟨i+1,by have:=Hmm.out;omega,by go_num,Hb⟩
      ·have a4:¬ (i:Int)< (bN es).length:=by omega
       clear hlt Hmm;go_wp2_with fail
       go_loopg [23] l.length (fun mm s23 wr=> ∃i:Nat,mm+i=l.length/\s23 =.int .i64 i/\Hid (Below w8.heap.size w8 wr))
       case atStart=>exact⟨0,rfl,rfl,Hb⟩
       case round=>
        clear Hb a4;obtain⟨i,a1,rfl,Hb⟩:=hrel;have Hmm:=Qa a1;clear a1
        by_cases hlt:i<l.length
        ·have a4:(i:Int)<l.length:=by omega
         obtain⟨x0,d0⟩:∃a,l[i]?=some a:=⟨_,Zd hlt⟩;obtain⟨g,o,rfl,k1,k2,k3⟩:=HX.out i x0 d0;have Hk:=Qa (And.intro k1 (And.intro k2 k3));have e3:=Qa (Zk d0);clear k1 k2 k3 d0 hlt;go_wp2_with fail;obtain⟨wo,rfl⟩:∃wo:World,wo=wr:=⟨wr,rfl⟩
         go_loopg [24,25] (df es).length (fun mm s24 s25 wr=> ∃k:Nat,mm+k= (df es).length/\s25 =.int .i64 k/\s24 =.bool (gZ (fun a=>decide (a=x0)) (df es) k)/\Hid (Below w8.heap.size w8 wr))
         case atStart=>exact⟨0,rfl,rfl,rfl,Hb⟩
         case round=>
          clear Hb;obtain⟨k,a1,rfl,rfl,Hb⟩:=hrel;have Hkk:=Qa a1;clear a1
          by_cases hlk:k< (df es).length
          ·have a2:(k:Int)< (df es).length:=by omega
           obtain⟨a,ha⟩:∃a,(df es)[k]?=some a:=⟨_,Zd hlk⟩;have Hnx:=Qa (js (f:=fun a=>decide (a=x0)) ha);obtain⟨g2,o2,rfl,r1,r2,r3⟩:=HB.out k a ha;have HC:=Qa (fun W (h:Below w8.heap.size w8 W)=>And.intro (Zg h r1) (And.intro (Zg h r2) (And.intro (Zg h r3) (And.intro (Zg h Hk.out.1) (And.intro (Zg h Hk.out.2.1) (Zg h Hk.out.2.2))))));have heq:∀W,(binOp .eql 40 (.agg #[.string a.eAt,.string a.eSch,.string a.eKw]) (.agg #[.string x0.eAt,.string x0.eSch,.string x0.eKw])).run Tryz.prog W =.ok (.bool (decide (a=x0))) W:=fun W=>tG a x0 W
           clear ha r1 r2 r3 hlk
           cases hc:gZ (fun a=>decide (a=x0)) (df es) k with
           |false=>
            have Hc:=Qa hc;clear hc;go_wp2_with fail;refine bm (fun w'=>w'.cell? ⟨g2,o2+k*3,none⟩=some (.string a.eAt)/\w'.cell? ⟨g2,o2+k*3+1,none⟩=some (.string a.eSch)/\w'.cell? ⟨g2,o2+k*3+2,none⟩=some (.string a.eKw)/\w'.cell? ⟨g,o+i*3,none⟩=some (.string x0.eAt)/\w'.cell? ⟨g,o+i*3+1,none⟩=some (.string x0.eSch)/\w'.cell? ⟨g,o+i*3+2,none⟩=some (.string x0.eKw)) (HC.out _ Hb.out.drew) fun a0=>?_
            refine tH 0 a0 ?_
            try simp only[Act.put,jP,jQ,jR]
            refine tH 1 a0 ?_
            try simp only[Act.put,jP,jQ,jR]
            refine tH 2 a0 ?_
            try simp only[Act.put,jP,jQ,jR]
            refine tH 3 a0 ?_
            try simp only[Act.put,jP,jQ,jR]
            refine tH 4 a0 ?_
            try simp only[Act.put,jP,jQ,jR]
            refine tH 5 a0 ?_
            try simp only[Act.put,jP,jQ,jR]
            refine tH 6 a0 ?_
            try simp only[Act.put,jP,jQ,jR]
            refine tH 7 a0 ?_
            try simp only[Act.put,jP,jQ,jR]
            refine tH 8 a0 ?_
            try simp only[Act.put,jP,jQ,jR]
            refine tH 9 a0 ?_
            try simp only[Act.put,jP,jQ,jR]
            refine tH 10 a0 ?_
            try simp only[Act.put,jP,jQ,jR]
            refine tH 11 a0 ?_
            try simp only[Act.put,jP,jQ,jR]
            refine tH 12 a0 ?_
            try simp only[Act.put,jP,jQ,jR]
            refine wpAnyH_done (by kernel_rfl) (NoPanic.normal ?_) _;go_wp2_with fail;go_roundg ((df es).length - (k+1))
            case measure=>have:=Hkk.out;omega
            case rel=>exact⟨k+1,by have:=Hkk.out;omega,by go_num,by rw[Hnx.out,Hc.out];rfl,Qa Hb.out.drew⟩
           |true=>
            have Hc:=Qa hc;clear hc heq;go_wp2_with fail;refine bm (fun w'=>w'.cell? ⟨g,o+i*3,none⟩=some (.string x0.eAt)) ((HC.out _ Hb.out.drew).2.2.2.1) fun a0=>?_
            refine tH 0 a0 ?_
            try simp only[Act.put,jP,jQ,jR]
            refine tH 1 a0 ?_
            try simp only[Act.put,jP,jQ,jR]
            refine uH 2 a0 ?_
            try simp only[Act.put,jP,jQ,jR]
            refine uH 3 a0 ?_
            try simp only[Act.put,jP,jQ,jR]
            refine uH 4 a0 ?_
            try simp only[Act.put,jP,jQ,jR]
            refine uH 5 a0 ?_
            try simp only[Act.put,jP,jQ,jR]
            refine uH 6 a0 ?_
            try simp only[Act.put,jP,jQ,jR]
            refine uH 7 a0 ?_
            try simp only[Act.put,jP,jQ,jR]
            refine uH 8 a0 ?_
            try simp only[Act.put,jP,jQ,jR]
            refine uH 9 a0 ?_
            try simp only[Act.put,jP,jQ,jR]
            refine uH 10 a0 ?_
            try simp only[Act.put,jP,jQ,jR]
            refine tH 11 a0 ?_
            try simp only[Act.put,jP,jQ,jR]
            refine tH 12 a0 ?_
            try simp only[Act.put,jP,jQ,jR]
            refine wpAnyH_done (by kernel_rfl) (NoPanic.normal ?_) _;go_wp2_with fail;go_roundg ((df es).length - (k+1))
            case measure=>have:=Hkk.out;omega
            case rel=>exact⟨k+1,by have:=Hkk.out;omega,by go_num,by rw[Hnx.out,Hc.out];rfl,Qa Hb.out.drew⟩
          ·have a2:¬ (k:Int)< (df es).length:=by omega
           obtain rfl:k= (df es).length:=by have:=Hkk.out;omega
           obtain⟨c0,f0⟩:∃c0,gZ (fun a=>decide (a=x0)) (df es) (df es).length=c0:=⟨_,rfl⟩;have h8:=Qa f0;rw[f0];clear hlk Hkk f0;go_wp2_with fail;obtain⟨wo,rfl⟩:∃wo:World,wo=wr:=⟨wr,rfl⟩
           go_loopg [24,26] (bN es).length (fun mm s24 s26 wr=> ∃k:Nat,mm+k= (bN es).length/\s26 =.int .i64 k/\s24 =.bool (c0||gZ (fun q=>bE x0.eAt q) (bN es) k)/\Hid (Below w8.heap.size w8 wr))
           case atStart=>exact⟨0,rfl,rfl,by rw[xK,Bool.or_false],Hb⟩
           case round=>
            clear Hb a2;obtain⟨k,a1,rfl,rfl,Hb⟩:=hrel;have Hkk:=Qa a1;clear a1
            by_cases hlk:k< (bN es).length
            ·have a2:(k:Int)< (bN es).length:=by omega
             obtain⟨r,hr⟩:∃a,(bN es)[k]?=some a:=⟨_,Zd hlk⟩;have Hnx:=Qa (js (f:=fun q=>bE x0.eAt q) hr);obtain⟨g2,o2,rfl,r1⟩:=HS.out k r hr;have HC:=Qa (fun W (h:Below w8.heap.size w8 W)=>And.intro (Zg h r1) (Zg h Hk.out.1));have HU:=Qa (fun W (h:Below w8.heap.size w8 W)=>dY (b2.out W h) (a5.out.bls x0 e3.out).at.1 (a3.out.pok (Zk hr)).1 (a5.out.bls x0 e3.out).at.2 (a3.out.pok (Zk hr)).2);clear hr r1 hlk
             cases hc:(c0||gZ (fun q=>bE x0.eAt q) (bN es) k) with
             |false=>
              have Hc:=Qa hc;clear hc;go_wp2_with fail;refine bm (fun w'=>w'.cell? ⟨g2,o2+k,none⟩=some (.string r)/\w'.cell? ⟨g,o+i*3,none⟩=some (.string x0.eAt)) (HC.out _ Hb.out.drew) fun a0=>?_
              refine tH 0 a0 ?_
              try simp only[Act.put,jP,jQ,jR]
              refine tH 1 a0 ?_
              try simp only[Act.put,jP,jQ,jR]
              refine tH 2 a0 ?_
              try simp only[Act.put,jP,jQ,jR]
              refine tH 3 a0 ?_
              try simp only[Act.put,jP,jQ,jR]
              refine tH 4 a0 ?_
              try simp only[Act.put,jP,jQ,jR]
              refine tH 5 a0 ?_
              try simp only[Act.put,jP,jQ,jR]
              refine tH 6 a0 ?_
              try simp only[Act.put,jP,jQ,jR]
              refine tH 7 a0 ?_
              try simp only[Act.put,jP,jQ,jR]
              refine tH 8 a0 ?_
              try simp only[Act.put,jP,jQ,jR]
              refine tH 9 a0 ?_
              try simp only[Act.put,jP,jQ,jR]
              refine tH 10 a0 ?_
              try simp only[Act.put,jP,jQ,jR]
              refine rH 11 fun K hK=>?_
              go_simp;refine(HU.out _ Hb.out.drew).mono ?_;rintro e wa ⟨rfl,a9⟩;have Hba:=Qa (ak Hb.out.drew a9);clear a9;go_wp2_with fail;refine hK.out _ _ (HC.out _ Hba.out) (fun a0=>?_);clear hK K
              try simp only[Act.put,jP,jQ,jR]
              refine tH 12 a0 ?_
              try simp only[Act.put,jP,jQ,jR]
              refine tH 13 a0 ?_
              try simp only[Act.put,jP,jQ,jR]
              refine wpAnyH_done (by kernel_rfl) (NoPanic.normal ?_) _;go_wp2_with fail;go_roundg ((bN es).length - (k+1))
              case measure=>have:=Hkk.out;omega
              case rel=>exact⟨k+1,by have:=Hkk.out;omega,by go_num,by rw[Hnx.out,<-Bool.or_assoc,Hc.out];rfl,Hba⟩
             |true=>
              have Hc:=Qa hc;clear hc;go_wp2_with fail;refine bm (fun w'=>w'.cell? ⟨g2,o2+k,none⟩=some (.string r)) ((HC.out _ Hb.out.drew).1) fun a0=>?_
              refine tH 0 a0 ?_
              try simp only[Act.put,jP,jQ,jR]
              refine tH 1 a0 ?_
              try simp only[Act.put,jP,jQ,jR]
              refine uH 2 a0 ?_
              try simp only[Act.put,jP,jQ,jR]
              refine uH 3 a0 ?_
              try simp only[Act.put,jP,jQ,jR]
              refine uH 4 a0 ?_
              try simp only[Act.put,jP,jQ,jR]
              refine uH 5 a0 ?_
              try simp only[Act.put,jP,jQ,jR]
              refine uH 6 a0 ?_
              try simp only[Act.put,jP,jQ,jR]
              refine uH 7 a0 ?_
              try simp only[Act.put,jP,jQ,jR]
              refine uH 8 a0 ?_
              try simp only[Act.put,jP,jQ,jR]
              refine uH 9 a0 ?_
              try simp only[Act.put,jP,jQ,jR]
              refine uH 10 a0 ?_
              try simp only[Act.put,jP,jQ,jR]
              refine rH 11 fun K hK=>?_
              go_simp;refine hK.out _ _ (a0) (fun a0=>?_);clear hK K
              try simp only[Act.put,jP,jQ,jR]
              refine tH 12 a0 ?_
              try simp only[Act.put,jP,jQ,jR]
              refine tH 13 a0 ?_
              try simp only[Act.put,jP,jQ,jR]
              refine wpAnyH_done (by kernel_rfl) (NoPanic.normal ?_) _;go_wp2_with fail;go_roundg ((bN es).length - (k+1))
              case measure=>have:=Hkk.out;omega
              case rel=>exact⟨k+1,by have:=Hkk.out;omega,by go_num,by rw[Hnx.out,<-Bool.or_assoc,Hc.out];rfl,Qa Hb.out.drew⟩
            ·have a2:¬ (k:Int)< (bN es).length:=by omega
             obtain rfl:k= (bN es).length:=by have:=Hkk.out;omega
             have b5:(c0||gZ (fun q=>bE x0.eAt q) (bN es) (bN es).length)=true:=by
              rw[<-h8.out,mf,mf,Bool.or_eq_true];rcases Co a3.out.ent a5.out.ne e3.out with h|⟨q,h1,h2⟩
              ·exact .inl (List.any_eq_true.2 ⟨x0,h,decide_eq_true rfl⟩)
              ·exact .inr (List.any_eq_true.2 ⟨q,h1,h2⟩)
             rw[b5];clear b5 hlk Hkk;go_wp2_with fail;go_roundg (l.length - (i+1))
             case measure=>have:=Hmm.out;omega
             case rel=>exact⟨i+1,by have:=Hmm.out;omega,by go_num,Hb⟩
        ·have a4:¬ (i:Int)<l.length:=by omega
         clear hlt Hmm;go_wp2_with fail
         go_loopg [27] m.length (fun mm s27 wr=> ∃i:Nat,mm+i=m.length/\s27 =.int .i64 i/\Hid (Below w8.heap.size w8 wr))
         case atStart=>exact⟨0,rfl,rfl,Hb⟩
         case round=>
          clear Hb a4;obtain⟨i,a1,rfl,Hb⟩:=hrel;have Hmm:=Qa a1;clear a1
          by_cases hlt:i<m.length
          ·have a4:(i:Int)<m.length:=by omega
           obtain⟨y0,d1⟩:∃a,m[i]?=some a:=⟨_,Zd hlt⟩;obtain⟨g,o,rfl,k1⟩:=HY.out i y0 d1;have Hk:=Qa k1;have f1:=Qa (Zk d1);clear k1 d1 hlt;go_wp2_with fail;obtain⟨wo,rfl⟩:∃wo:World,wo=wr:=⟨wr,rfl⟩
           go_loopg [28,29] (bN es).length (fun mm s28 s29 wr=> ∃k:Nat,mm+k= (bN es).length/\s29 =.int .i64 k/\s28 =.bool (gZ (fun q=>bE y0 q) (bN es) k)/\Hid (Below w8.heap.size w8 wr))
           case atStart=>exact⟨0,rfl,rfl,rfl,Hb⟩
           case round=>
            clear Hb;obtain⟨k,a1,rfl,rfl,Hb⟩:=hrel;have Hkk:=Qa a1;clear a1
            by_cases hlk:k< (bN es).length
            ·have a2:(k:Int)< (bN es).length:=by omega
             obtain⟨r,hr⟩:∃a,(bN es)[k]?=some a:=⟨_,Zd hlk⟩;have Hnx:=Qa (js (f:=fun q=>bE y0 q) hr);obtain⟨g2,o2,rfl,r1⟩:=HS.out k r hr;have HC:=Qa (fun W (h:Below w8.heap.size w8 W)=>And.intro (Zg h r1) (Zg h Hk.out));have HU:=Qa (fun W (h:Below w8.heap.size w8 W)=>dY (b2.out W h) (a5.out.pls y0 f1.out).1 (a3.out.pok (Zk hr)).1 (a5.out.pls y0 f1.out).2 (a3.out.pok (Zk hr)).2);clear hr r1 hlk
             cases hc:gZ (fun q=>bE y0 q) (bN es) k with
             |false=>
              have Hc:=Qa hc;clear hc;go_wp2_with fail;refine bm (fun w'=>w'.cell? ⟨g2,o2+k,none⟩=some (.string r)/\w'.cell? ⟨g,o+i,none⟩=some (.string y0)) (HC.out _ Hb.out.drew) fun a0=>?_
              refine tH 0 a0 ?_
              try simp only[Act.put,jP,jQ,jR]
              refine tH 1 a0 ?_
              try simp only[Act.put,jP,jQ,jR]
              refine tH 2 a0 ?_
              try simp only[Act.put,jP,jQ,jR]
              refine tH 3 a0 ?_
              try simp only[Act.put,jP,jQ,jR]
              refine tH 4 a0 ?_
              try simp only[Act.put,jP,jQ,jR]
              refine tH 5 a0 ?_
              try simp only[Act.put,jP,jQ,jR]
              refine tH 6 a0 ?_
              try simp only[Act.put,jP,jQ,jR]
              refine tH 7 a0 ?_
              try simp only[Act.put,jP,jQ,jR]
              refine tH 8 a0 ?_
              try simp only[Act.put,jP,jQ,jR]
              refine tH 9 a0 ?_
              try simp only[Act.put,jP,jQ,jR]
              refine rH 10 fun K hK=>?_
              go_simp;refine(HU.out _ Hb.out.drew).mono ?_;rintro e wa ⟨rfl,a9⟩;have Hba:=Qa (ak Hb.out.drew a9);clear a9;go_wp2_with fail;refine hK.out _ _ (HC.out _ Hba.out) (fun a0=>?_);clear hK K
              try simp only[Act.put,jP,jQ,jR]
              refine tH 11 a0 ?_
              try simp only[Act.put,jP,jQ,jR]
              refine tH 12 a0 ?_
              try simp only[Act.put,jP,jQ,jR]
              refine wpAnyH_done (by kernel_rfl) (NoPanic.normal ?_) _;go_wp2_with fail;go_roundg ((bN es).length - (k+1))
              case measure=>have:=Hkk.out;omega
              case rel=>exact⟨k+1,by have:=Hkk.out;omega,by go_num,by rw[Hnx.out,Hc.out];rfl,Hba⟩
             |true=>
              have Hc:=Qa hc;clear hc;go_wp2_with fail;refine bm (fun w'=>w'.cell? ⟨g2,o2+k,none⟩=some (.string r)) ((HC.out _ Hb.out.drew).1) fun a0=>?_
              refine tH 0 a0 ?_
              try simp only[Act.put,jP,jQ,jR]
              refine tH 1 a0 ?_
              try simp only[Act.put,jP,jQ,jR]
              refine uH 2 a0 ?_
              try simp only[Act.put,jP,jQ,jR]
              refine uH 3 a0 ?_
              try simp only[Act.put,jP,jQ,jR]
              refine uH 4 a0 ?_
              try simp only[Act.put,jP,jQ,jR]
              refine uH 5 a0 ?_
              try simp only[Act.put,jP,jQ,jR]
              refine uH 6 a0 ?_
              try simp only[Act.put,jP,jQ,jR]
              refine uH 7 a0 ?_
              try simp only[Act.put,jP,jQ,jR]
              refine uH 8 a0 ?_
              try simp only[Act.put,jP,jQ,jR]
              refine uH 9 a0 ?_
              try simp only[Act.put,jP,jQ,jR]
              refine rH 10 fun K hK=>?_
              go_simp;refine hK.out _ _ (a0) (fun a0=>?_);clear hK K
              try simp only[Act.put,jP,jQ,jR]
              refine tH 11 a0 ?_
              try simp only[Act.put,jP,jQ,jR]
              refine tH 12 a0 ?_
              try simp only[Act.put,jP,jQ,jR]
              refine wpAnyH_done (by kernel_rfl) (NoPanic.normal ?_) _;go_wp2_with fail;go_roundg ((bN es).length - (k+1))
              case measure=>have:=Hkk.out;omega
              case rel=>exact⟨k+1,by have:=Hkk.out;omega,by go_num,by rw[Hnx.out,Hc.out];rfl,Qa Hb.out.drew⟩
            ·have a2:¬ (k:Int)< (bN es).length:=by omega
             obtain rfl:k= (bN es).length:=by have:=Hkk.out;omega
             have b5:gZ (fun q=>bE y0 q) (bN es) (bN es).length=true:=by
              rw[mf];obtain⟨q,h1,h2⟩:=zv a3.out.ent a5.out.ne f1.out;exact List.any_eq_true.2 ⟨q,h1,h2⟩
             rw[b5];clear b5 hlk Hkk;go_wp2_with fail;go_roundg (m.length - (i+1))
             case measure=>have:=Hmm.out;omega
             case rel=>exact⟨i+1,by have:=Hmm.out;omega,by go_num,Hb⟩
          ·have a4:¬ (i:Int)<m.length:=by omega
           have h7:((df es).length:Int)<=l.length:=by have:=b4.out.1;omega
           have i0:((bN es).length:Int)<=m.length:=by have:=b4.out.2;omega
           clear hlt Hmm;go_wp2_with fail;go_ret;exact⟨rfl,ak g7.out Hb.out⟩
