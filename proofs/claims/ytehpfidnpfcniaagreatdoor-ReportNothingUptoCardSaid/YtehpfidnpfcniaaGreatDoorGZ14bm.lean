import Derived.Test.YtehpfidnpfcniaaGreatDoorGZ14bl
import Derived.Test.YtehpfidnpfcniaaGreatDoorRows
import Derived.Deep.Strs
import Derived.Deep.Fields
set_option linter.unusedVariables false
set_option linter.unusedSimpArgs false
set_option maxHeartbeats 64000000
set_option maxRecDepth 100000
namespace Go.Proofs.YtehpfidnpfcniaaGreatDoor
open Go.RowKit Go.Shelf
variable {y:List ByteArray}{xs ys:List UInt8}{B base g:Nat}{v v' xv yv:Value}{W w w':World}
theorem kl (h:Bs w v xs)(h':Bs w v' ys):Calls Tryz.prog 10 #[v,v'] w fun e w'=>e =.returned (.bool (decide (xs=ys)))/\w=w':=by
 have c1:=aH h;have c2:=aH h';have He:Hid (((⟨xs.toArray⟩:ByteArray).toList== (⟨ys.toArray⟩:ByteArray).toList)=decide (xs=ys)):=H8 (by
  rw[kA,kA,Bool.eq_iff_iff];simp)
 clear h h';generalize (⟨xs.toArray⟩:ByteArray)=a at *;generalize (⟨ys.toArray⟩:ByteArray)=b at *;go_enter Tryz.func10,Tryz.ntmps10;go_wp2_with fail;go_ret;rw[<-He.out];exact⟨rfl,rfl⟩
theorem fp {j:Nat}(hb:Below B w w')(hg:g<B)(h:w.cell? ⟨g,j,none⟩=some v):w'.cell? ⟨g,j,none⟩=some v:=(World.cell?_of_block (hb.block g hg)).trans h
theorem i1 {zv:Value}{x:List En}{z:List ByteArray}{k:Int}(hA:ou w)(hx:sC w xv x)(hy:rV w yv y)(hz:rV w zv z)(ht:gE x+je y<=2000000)(q0:je z<=2000000) :
  Calls Tryz.prog 3 #[xv,yv,zv,.int .i64 k] w fun e w'=>e =.returned (.bool true)/\Below w.heap.size w w':=by
 have HF:=H8 (rX hA);have HS:=H8 (fun W (hb:Below w.heap.size w W)=>nz (hx.below hb) (hy.below hb) (by omega));have k8:=H8 (fun W (hb:Below w.heap.size w W)=>nz (x:= []) (xv:=.slice none 0 0) (w:=W) ⟨by decide,none,0,rfl,Zb _,fun i a ha=>by simp at ha⟩ (hz.below hb) (by simp only[gE];omega));have HG:=H8 (fun W (hb:Below w.heap.size w W)=>zp (hx.below hb) (hy.below hb) (fun e he=>by have:=vr he;omega) (fun p hp=>by have:=kB hp;omega));have HA:=H8 hA;have HZ:=H8 hz;obtain⟨-,A1,c1,rfl,-,-⟩:=id hx;obtain⟨-,A2,c2,rfl,-,-⟩:=id hy;obtain⟨-,A3,c3,rfl,-,-⟩:=id hz;clear hA hx hy hz ht q0;go_enter Tryz.func3,Tryz.ntmps3;go_wp2_with fail;refine Za HF ?_;rintro e w1 ⟨rfl,k0⟩;have g0:=H8 k0;clear k0;go_wp2_with fail;refine(HS.out w1 g0.out).mono ?_;rintro e w2 ⟨b1,rfl,k5,g8⟩;have i4:=H8 (ak g0.out g8);have i8:=H8 k5;clear g8 k5;go_wp2_with fail;refine(k8.out w2 i4.out).mono ?_;rintro e w3 ⟨b2,rfl,k9,g4⟩;have h4:=H8 (ak i4.out g4);have q1:=H8 k9;clear g4 k9;go_wp2_with fail;refine(HG.out w3 h4.out).mono ?_;rintro e w4 ⟨u,v,l,m,rfl,hE,hS,hl,hm,e5,f5,k7⟩;have c9:=H8 (ak h4.out k7);have Hl:=H8 (hE.sl (by omega));have Hm:=H8 (hS.slt (by omega));have f2:=H8 (And.intro hl (And.intro hm (And.intro e5 f5)));obtain⟨A4,q4,rfl,-⟩:=af hE;obtain⟨A5,q5,rfl,-⟩:=af hS;clear hE hS hl hm k7 HF HS k8 HG
 cases b1 with
 |false=>
  go_wp2_with fail;go_ret;exact⟨rfl,c9.out⟩
 |true=>
  cases b2 with
  |false=>
   go_wp2_with fail;go_ret;exact⟨rfl,c9.out⟩
  |true=>
   have d1:=H8 (BZ (i8.out rfl) f2.out.1 f2.out.2.1 e5 f5)
   by_cases h0:l.length+m.length=0
   ·have d9:((l.length:Int)+m.length==0)=true:=by rw[beq_iff_eq];omega
    go_wp2_with fail;go_ret;exact⟨rfl,c9.out⟩
   ·have d9:((l.length:Int)+m.length==0)=false:=by rw[beq_eq_false_iff_ne];omega
    have HM:=H8 (fE (oc:=2) (HA.out.below c9.out).lr (HA.out.below c9.out).lw Hl.out Hm.out d1.out (by decide) (by constructor <;> intro _ <;> omega));go_wp2_with fail;refine(show Calls Tryz.prog 7 #[.int .i64 2,_,_] w4 _ from HM.out).mono ?_;rintro e w5 ⟨es,v5,h8,rfl,f6,d5⟩;have c8:=H8 (ak c9.out d5);have r4:=H8 (Hl.out.below d5);have m4:=H8 (Hm.out.below d5);have n0:=H8 h8;have n9:=H8 f6.bs;obtain⟨A6,q6,m9,-⟩:=af f6;subst m9;clear h8 f6 d5 HM;generalize hte:(cO 2 es).txt=te at *;have n5:=H8 hte;clear hte d9;have HL:=H8 r4.out.rd.2;have Hw5:=H8 (Ze w5.heap.size w5);go_wp2_with fail
    go_loopg [16,17] l.length (fun mm s16 s17 wr=> ∃ (j:Nat) (z:Int),mm=j/\j<=l.length/\z= (j:Int) - 1/\s17 =.int .i64 z/\Hid (∃L,qH l j L/\bJ wr w5.heap.size s16 L)/\Hid (Below w5.heap.size w5 wr))
    case atStart=>exact⟨l.length,_,rfl,Zb _,rfl,by go_num,H8 ⟨[],qH.nil l,bJ.nil _ _⟩,Hw5⟩
    case round=>
     obtain⟨j,zz,hgk,hj,d3,rfl,HE,Hb⟩:=hrel;have Hgk:=H8 hgk;clear hgk
     cases j with
     |succ i=>
      obtain rfl:zz= (i:Int):=by omega
      clear d3;have d9:(0:Int)<=i:=by omega
      have f3:(i:Int)<l.length:=by omega
      have hq:(i+1) % l.length<l.length:=Nat.mod_lt _ (by omega);have o0:(((i:Int)+1).tmod l.length)= (((i+1) % l.length:Nat):Int):=by rw[show((i:Int)+1)= ((i+1:Nat):Int) by omega,Int.ofNat_tmod]
      have s4:¬l = []:=by intro h;rw[h] at f3;simp at f3;omega
      have s3:IntKind.i64.wrap ((i:Int)+1)= (i:Int)+1:=IntWalk.i64_in _ (by omega);generalize (i+1) % l.length=q at *;have s1:(q:Int)<l.length:=by omega
      obtain⟨a,ha⟩:∃a,l[i]?=some a:=⟨_,Zd (by omega)⟩;obtain⟨b,hb⟩:∃b,l[q]?=some b:=⟨_,Zd hq⟩;obtain⟨g,o,rfl,k1,k2,k3⟩:=HL.out i a ha;obtain⟨g2,o2,e2,r1,r2,r3⟩:=HL.out q b hb;obtain⟨rfl,rfl,-⟩:=Addr.mk.inj (Zi e2);obtain⟨L,hL,b4⟩:=HE.out;have HC:=H8 (And.intro (Zg Hb.out k1) (And.intro (Zg Hb.out k2) (And.intro (Zg Hb.out k3) (And.intro (Zg Hb.out r1) (And.intro (Zg Hb.out r2) (Zg Hb.out r3))))));have a9:=H8 (show g<w5.heap.size from World.block_lt_of_cell? w5 _ k1);have HN:=H8 (hL.next ha (Zk hb));have j0:=H8 (show L.length<=240 by have:=hL.len;omega);have a1:=(ac wr (.cells #[.string a.eAt,.string a.eSch,.string a.eKw,.string b.eAt,.string b.eSch,.string b.eKw] 34)).drew;have b9:=H8 (show bJ (wr.alloc (.cells #[.string a.eAt,.string a.eSch,.string a.eKw,.string b.eAt,.string b.eSch,.string b.eKw] 34)).drew w5.heap.size u16 L from ag b4 a1 (Zb _));have d0:=H8 (show ∀ (j:Nat) u,(dh a++dh b)[j]?=some u->(wr.alloc (.cells #[.string a.eAt,.string a.eSch,.string a.eKw,.string b.eAt,.string b.eSch,.string b.eKw] 34)).drew.cell? ⟨wr.heap.size,j,none⟩=some u from ar wr (dh a++dh b) 34);have a5:=H8 (ak Hb.out a1);have a4:=H8 (And.intro (Zg a1 HC.out.1) (And.intro (Zg a1 HC.out.2.1) (And.intro (Zg a1 HC.out.2.2.1) (And.intro (Zg a1 HC.out.2.2.2.1) (And.intro (Zg a1 HC.out.2.2.2.2.1) (Zg a1 HC.out.2.2.2.2.2))))));clear ha hb k1 k2 k3 r1 r2 r3 e2 hL b4 a1 HE;go_wp2_with fail;refine bp (fun w'=>w'.cell? ⟨g,o+i*3,none⟩=some (.string a.eAt)/\w'.cell? ⟨g,o+i*3+1,none⟩=some (.string a.eSch)/\w'.cell? ⟨g,o+i*3+2,none⟩=some (.string a.eKw)/\w'.cell? ⟨g,o+q*3,none⟩=some (.string b.eAt)/\w'.cell? ⟨g,o+q*3+1,none⟩=some (.string b.eSch)/\w'.cell? ⟨g,o+q*3+2,none⟩=some (.string b.eKw)) (HC.out) fun a0=>?_
      refine tH 0 a0 ?_;refine tH 1 a0 ?_;refine tH 2 a0 ?_;refine tH 3 a0 ?_;refine tH 4 a0 ?_;refine tH 5 a0 ?_
      try simp only[Act.put,jP,jQ,jR]
      refine tH 6 a0 ?_;refine tH 7 a0 ?_;refine tH 8 a0 ?_;refine tH 9 a0 ?_;refine tH 10 a0 ?_;refine tH 11 a0 ?_
      try simp only[Act.put,jP,jQ,jR]
      refine tH 12 a0 ?_
      try simp only[Act.put,jP,jQ,jR]
      refine rH 13 fun K hK=>?_
      go_simp;refine hK.out _ _ (a4.out) (fun a0=>?_);clear hK K
      try simp only[Act.put,jP,jQ,jR]
      refine rH 14 fun K hK=>?_
      refine nZ sV b9.out d0.out a5.out.size ?_ (h1:=(by simp[dh,Value.oneCell'])) (hlen:=by have:=j0.out;unfold maxLen;omega) (hby:=by have:=j0.out;omega);intro v7 w7 h1 h2 h3;have c4:=H8 h1;have c0:=H8 (aA a5.out b9.out a5.out.size h2);have a2:=aA (Ze w5.heap.size _) b9.out a5.out.size h2;have S7:=And.intro (fp a2 a9.out a4.out.1) (And.intro (fp a2 a9.out a4.out.2.1) (And.intro (fp a2 a9.out a4.out.2.2.1) (And.intro (fp a2 a9.out a4.out.2.2.2.1) (And.intro (fp a2 a9.out a4.out.2.2.2.2.1) (fp a2 a9.out a4.out.2.2.2.2.2)))));clear h1 h2 h3 a2;refine hK.out _ _ (S7) (fun a0=>?_);clear hK K
      try simp only[Act.put,jP,jQ,jR]
      refine tH 15 a0 ?_
      try simp only[Act.put,jP,jQ,jR]
      refine wpAnyH_done (by kernel_rfl) (NoPanic.normal ?_) _;go_wp2_with fail;go_roundg i
      case measure=>have:=Hgk.out;omega
      case rel=>
       refine⟨i,(i:Int) - 1,rfl,by omega,rfl,by go_num,H8 ⟨L ++ [a,b],HN.out,?_⟩,c0⟩;have h9:=c4.out;unfold bJ;rw[List.length_append,show bk (L ++ [a,b])=bk L++ (dh a++dh b) by simp[bk]];exact h9
     |zero=>
      obtain rfl:zz = -1:=by omega
      clear hj d3 Hgk HL Hw5;obtain⟨L0,g1,k6⟩:=HE.out;have HE0:=H8 (show ∃L M,eB l m m.length 0 L M/\bJ wr w5.heap.size u16 L/\aZ wr w5.heap.size (.slice none 0 0) M from⟨L0, [],eB.start g1 d1.out,k6,aZ.nil _ _⟩);clear g1 k6 HE;have HT:=H8 m4.out.rd.2.2;go_wp2_with fail
      go_loopg [16,18,19] m.length (fun mm s16 s18 s19 wr=> ∃ (j:Nat) (z:Int),mm=j/\j<=m.length/\z= (j:Int) - 1/\s19 =.int .i64 z/\Hid (∃L M,eB l m j 0 L M/\bJ wr w5.heap.size s16 L/\aZ wr w5.heap.size s18 M)/\Hid (Below w5.heap.size w5 wr))
      case atStart=>exact⟨m.length,_,rfl,Zb _,rfl,by go_num,HE0,Hb⟩
      case round=>
       clear Hb;obtain⟨j,zz,hgk,hj,d3,rfl,HE,Hb⟩:=hrel;have Hgk:=H8 hgk;clear hgk
       cases j with
       |succ i=>
        obtain rfl:zz= (i:Int):=by omega
        clear d3;have d9:(0:Int)<=i:=by omega
        have f3:(i:Int)<m.length:=by omega
        have k4:0<m.length:=by omega
        obtain⟨p,hp⟩:∃p,m[i]?=some p:=⟨_,Zd (by omega)⟩;obtain⟨q,hq⟩:∃q,m[0]?=some q:=⟨_,Zd (by omega)⟩;obtain⟨g,o,rfl,k1⟩:=HT.out i p hp;obtain⟨g2,o2,e2,k2⟩:=HT.out 0 q hq;obtain⟨rfl,rfl,-⟩:=Addr.mk.inj (Zi e2);rw[Nat.add_zero] at k2;obtain⟨L,M,a3,b4,c6⟩:=HE.out;have a9:=H8 (show g<w5.heap.size from World.block_lt_of_cell? w5 _ k1);have HC:=H8 (And.intro (Zg Hb.out k1) (Zg Hb.out k2));have HN:=H8 (a3.place d1.out hp (Zk hq));have b8:=H8 (show M.length<=1200 by have:=a3.lnM;omega);have a1:=(ac wr (.cells #[.string p,.string q] 9)).drew;have b9:=H8 (show bJ (wr.alloc (.cells #[.string p,.string q] 9)).drew w5.heap.size u16 L from ag b4 a1 (Zb _));have b0:=H8 (show aZ (wr.alloc (.cells #[.string p,.string q] 9)).drew w5.heap.size u18 M from ag c6 a1 (Zb _));have d0:=H8 (show ∀ (j:Nat) u, [b7 p,b7 q][j]?=some u->(wr.alloc (.cells #[.string p,.string q] 9)).drew.cell? ⟨wr.heap.size,j,none⟩=some u from ar wr [b7 p,b7 q] 9);have a5:=H8 (ak Hb.out a1);have a4:=H8 (And.intro (Zg a1 HC.out.1) (Zg a1 HC.out.2));have e3:=H8 (Zk hp);have p4:=H8 k1;clear hp hq k1 k2 e2 a3 b4 c6 a1 HE;go_wp2_with fail;refine bp (fun w'=>w'.cell? ⟨g,o+i,none⟩=some (.string p)/\w'.cell? ⟨g,o,none⟩=some (.string q)) (HC.out) fun a0=>?_
        refine tH 0 a0 ?_;refine tH 1 a0 ?_;refine tH 2 a0 ?_;refine tH 3 a0 ?_;refine tH 4 a0 ?_;refine tH 5 a0 ?_
        try simp only[Act.put,jP,jQ,jR]
        refine tH 6 a0 ?_;refine tH 7 a0 ?_
        try simp only[Act.put,jP,jQ,jR]
        refine rH 8 fun K hK=>?_
        go_simp;refine hK.out _ _ (a4.out) (fun a0=>?_);clear hK K
        try simp only[Act.put,jP,jQ,jR]
        refine rH 9 fun K hK=>?_
        refine nZ kf b0.out d0.out a5.out.size ?_ (h1:=(by simp[b7,Value.oneCell'])) (hlen:=by have:=b8.out;unfold maxLen;omega) (hby:=by have:=b8.out;omega);intro v7 w7 h1 h2 h3;have c4:=H8 h1;have c0:=H8 (aA a5.out b0.out a5.out.size h2);have l0:=H8 (lA b0.out b9.out h2);have a2:=aA (Ze w5.heap.size _) b0.out a5.out.size h2;have S7:=And.intro (fp a2 a9.out a4.out.1) (fp a2 a9.out a4.out.2);clear h1 h2 h3 a2;refine hK.out _ _ (S7) (fun a0=>?_);clear hK K
        try simp only[Act.put,jP,jQ,jR]
        refine tH 10 a0 ?_
        try simp only[Act.put,jP,jQ,jR]
        refine wpAnyH_done (by kernel_rfl) (NoPanic.normal ?_) _;go_wp2_with fail;have f7:=kB (f2.out.2.1 p e3.out).2;have e4:=(i8.out trivial).2.2;have c5:=(q1.out trivial).2.2;simp only[gE,Nat.zero_add] at c5;have n4:=H8 (show ∀ (t:Nat) a,z[t]?=some a->∃g o,A3=some ⟨g,o,none⟩/\w.cell? ⟨g,o+t,none⟩=some (.string a)/\a.size<=20000 from by
         obtain⟨-,A',c',e',-,hc⟩:=HZ.out;obtain⟨rfl,-,-⟩:=Value.slice.inj e';intro t a ha;obtain⟨g,o,e1,e2⟩:=hc t a ha;exact⟨g,o,e1,e2,Zc (kB (Zk ha)) c5⟩)
        have s2:p.size<=20000:=by omega
        clear f7 e4 c5
        go_loopg [16,18,20] 8 (fun mm s16 s18 s20 wr=> ∃t:Nat,mm+t=8/\s20 =.int .i64 t/\Hid (∃L M,eB l m i (8 - t) L M/\bJ wr w5.heap.size s16 L/\aZ wr w5.heap.size s18 M)/\Hid (Below w5.heap.size w5 wr))
        case atStart=>
         refine⟨0,rfl,rfl,H8 ⟨L,M ++ [p,q],HN.out,l0.out,?_⟩,c0⟩;unfold aZ;rw[List.map_append,List.length_append];exact c4.out
        case round=>
         clear l0 c4 c0 HN b8 HC a4 b9 b0 d0 a5 Hb S7;obtain⟨t,hm,rfl,HE,Hb⟩:=hrel;have Hmm:=H8 hm;clear hm
         by_cases hlt:t<z.length/\t<8
         ·have i9:(t:Int)<z.length:=by omega
          have m3:(t:Int)<8:=by omega
          obtain⟨zq,i0⟩:∃a,z[t]?=some a:=⟨_,Zd hlt.1⟩;obtain⟨g3,o3,rfl,k3,s0⟩:=n4.out t zq i0;have r6:¬9223372036854775807<p.size+zq.size:=by omega
          have f8:=H8 (show(p++zq).size<=1000000 by rw[ByteArray.size_append];omega);have g7:=H8 (show g3<w5.heap.size from Nat.lt_of_lt_of_le (World.block_lt_of_cell? w _ k3) c8.out.size);have HC:=H8 (And.intro (Zg Hb.out p4.out) (Zg (ak c8.out Hb.out) k3));have h5:=H8 (fun W (hb:Below wr.heap.size wr W)=>(HA.out.below (ak c8.out (ak Hb.out hb))).lr.p);have g6:=H8 (lf (s:=p++zq) (h5.out wr.drew (Ze _ _).drew) (by have:=f8.out;omega));clear i0 k3;go_wp2_with fail;refine bp (fun w'=>w'.cell? ⟨g,o+i,none⟩=some (.string p)/\w'.cell? ⟨g3,o3+t,none⟩=some (.string zq)) (HC.out) fun a0=>?_
          refine tH 0 a0 ?_;refine tH 1 a0 ?_;refine tH 2 a0 ?_;refine tH 3 a0 ?_;refine tH 4 a0 ?_;refine tH 5 a0 ?_
          try simp only[Act.put,jP,jQ,jR]
          refine tH 6 a0 ?_;refine tH 7 a0 ?_;refine tH 8 a0 ?_
          try simp only[Act.put,jP,jQ,jR]
          refine rH 9 fun K hK=>?_
          go_simp;refine Za g6 ?_;rintro e w7 ⟨v7,er,rfl,i5,i2⟩;have c0:=H8 (show Below wr.heap.size wr w7 from ak (Ze _ _).drew i5);have S7:=And.intro (Zg c0.out HC.out.1) (Zg c0.out HC.out.2);have n3:=H8 i2;clear i5 i2;go_wp2_with fail;refine hK.out _ _ (S7) (fun a0=>?_);clear hK K
          try simp only[Act.put,jP,jQ,jR]
          refine tH 10 a0 ?_;refine tH 11 a0 ?_;refine tH 12 a0 ?_;refine tH 13 a0 ?_;refine tH 14 a0 ?_
          try simp only[Act.put,jP,jQ,jR]
          refine wpAnyH_done (by kernel_rfl) (NoPanic.normal ?_) _;go_wp2_with fail;have b5:=H8 (show Below wr.heap.size wr w7.drew from c0.out.drew);rcases n3.out with ⟨i3,rfl,ps,q2,f9⟩|⟨-,rfl,tt,xx,rfl⟩
          ·obtain⟨A7,q7,rfl,-⟩:=af f9;have h6:=H8 i3;clear f9 i3 q2 g6
           by_cases hp0:0<ps.length
           ·have f4:(0:Int)<ps.length:=by omega
            have r0:=H8 (jv (h5.out w7.drew b5.out) h6.out (d1.out.pl p e3.out).1 (by have:=f8.out;omega) (by omega));generalize hbu:cr (p++zq) p=bu at *;have m2:=H8 hbu;clear hbu;refine bp (fun w'=>w'.cell? ⟨g,o+i,none⟩=some (.string p)/\w'.cell? ⟨g3,o3+t,none⟩=some (.string zq)) (S7) fun a0=>?_
            refine tH 0 a0 ?_;refine tH 1 a0 ?_;refine tH 2 a0 ?_;refine tH 3 a0 ?_;refine tH 4 a0 ?_;refine tH 5 a0 ?_
            try simp only[Act.put,jP,jQ,jR]
            refine tH 6 a0 ?_;refine tH 7 a0 ?_;refine tH 8 a0 ?_;refine tH 9 a0 ?_;refine tH 10 a0 ?_;refine tH 11 a0 ?_
            try simp only[Act.put,jP,jQ,jR]
            refine tH 12 a0 ?_;refine tH 13 a0 ?_;refine tH 14 a0 ?_;refine tH 15 a0 ?_;refine tH 16 a0 ?_;refine tH 17 a0 ?_
            try simp only[Act.put,jP,jQ,jR]
            refine tH 18 a0 ?_;refine tH 19 a0 ?_;refine tH 20 a0 ?_
            try simp only[Act.put,jP,jQ,jR]
            refine rH 21 fun K hK=>?_
            go_simp;refine Za r0 ?_;rintro e w8 ⟨rfl,a2⟩;have b3:=H8 (show Below wr.heap.size wr w8 from ak b5.out a2);have S8:=And.intro (Zg b3.out HC.out.1) (Zg b3.out HC.out.2);clear a2;go_wp2_with fail;refine hK.out _ _ (S8) (fun a0=>?_);clear hK K
            try simp only[Act.put,jP,jQ,jR]
            refine tH 22 a0 ?_
            try simp only[Act.put,jP,jQ,jR]
            refine wpAnyH_done (by kernel_rfl) (NoPanic.normal ?_) _
            cases bu with
            |false=>
             go_wp2_with fail;go_roundg (8 - (t+1))
             case measure=>have:=Hmm.out;omega
             case rel=>
              obtain⟨L2,M2,a3,hE,hS⟩:=HE.out;exact⟨t+1,by have:=Hmm.out;omega,by go_num,H8 ⟨L2,M2,a3.less (by omega),ag hE b3.out (Zb _),ag hS b3.out (Zb _)⟩,H8 (ak Hb.out b3.out)⟩
            |true=>
             obtain⟨L2,M2,a3,hE,hS⟩:=HE.out;have HN:=H8 (eB.more (r:=8 - (t+1)) (show eB l m i (8 - (t+1)+1) L2 M2 from by rw[show 8 - (t+1)+1=8 - t by omega];exact a3) d1.out e3.out h6.out f8.out m2.out);have b8:=H8 (show M2.length<=1200/\L2.length<=2400 by have h1:=a3.lnM;have h2:=a3.lnL;omega);have a1:=(ac w8 (.cells #[.string (p++zq)] 9)).drew;have b9:=H8 (show bJ (w8.alloc (.cells #[.string (p++zq)] 9)).drew w5.heap.size u16 L2 from ag hE (ak b3.out a1) (Zb _));have b0:=H8 (show aZ (w8.alloc (.cells #[.string (p++zq)] 9)).drew w5.heap.size u18 M2 from ag hS (ak b3.out a1) (Zb _));have d0:=H8 (show ∀ (j:Nat) u, [b7 (p++zq)][j]?=some u->(w8.alloc (.cells #[.string (p++zq)] 9)).drew.cell? ⟨w8.heap.size,j,none⟩=some u from ar w8 [b7 (p++zq)] 9);have a5:=H8 (ak Hb.out (ak b3.out a1));have a4:=H8 (And.intro (Zg (ak b3.out a1) HC.out.1) (Zg (ak b3.out a1) HC.out.2));clear a3 hE hS a1;go_wp2_with fail;refine bp (fun w'=>w'.cell? ⟨g,o+i,none⟩=some (.string p)/\w'.cell? ⟨g3,o3+t,none⟩=some (.string zq)) (S8) fun a0=>?_
             refine tH 0 a0 ?_;refine tH 1 a0 ?_;refine tH 2 a0 ?_;refine tH 3 a0 ?_;refine tH 4 a0 ?_;refine tH 5 a0 ?_
             try simp only[Act.put,jP,jQ,jR]
             refine tH 6 a0 ?_;refine tH 7 a0 ?_;refine tH 8 a0 ?_;refine tH 9 a0 ?_
             try simp only[Act.put,jP,jQ,jR]
             refine rH 10 fun K hK=>?_
             go_simp;refine hK.out _ _ (a4.out) (fun a0=>?_);clear hK K
             try simp only[Act.put,jP,jQ,jR]
             refine rH 11 fun K hK=>?_
             refine nZ kf b0.out d0.out a5.out.size ?_ (h1:=(by simp[b7,Value.oneCell'])) (hlen:=by have:=b8.out;unfold maxLen;omega) (hby:=by have:=b8.out;omega);intro v9 w9 h1 h2 h3;have c4:=H8 h1;have n6:=H8 (aA a5.out b0.out a5.out.size h2);have r5:=H8 (lA b0.out b9.out h2);have a2:=aA (Ze w5.heap.size _) b0.out a5.out.size h2;have S9:=And.intro (fp a2 a9.out a4.out.1) (fp a2 g7.out a4.out.2);clear h1 h2 h3 a2;refine hK.out _ _ (S9) (fun a0=>?_);clear hK K
             try simp only[Act.put,jP,jQ,jR]
             refine tH 12 a0 ?_
             try simp only[Act.put,jP,jQ,jR]
             refine wpAnyH_done (by kernel_rfl) (NoPanic.normal ?_) _;have h7:=c4.out;have p3:=H8 (show aZ w9 w5.heap.size v9 (M2 ++ [p++zq]) from by unfold aZ;rw[List.map_append,List.length_append];exact h7);have c7:=(ac w9 (.cells #[.string (p++zq),.string BS,.string ea,.string p,.string ⟨#[]⟩,.string vD] 34)).drew;have d4:=H8 (show bJ (w9.alloc (.cells #[.string (p++zq),.string BS,.string ea,.string p,.string ⟨#[]⟩,.string vD] 34)).drew w5.heap.size u16 L2 from ag r5.out c7 (Zb _));have n1:=H8 (show aZ (w9.alloc (.cells #[.string (p++zq),.string BS,.string ea,.string p,.string ⟨#[]⟩,.string vD] 34)).drew w5.heap.size v9 (M2 ++ [p++zq]) from ag p3.out c7 (Zb _));have p2:=H8 (show ∀ (j:Nat) u,(dh ⟨p++zq,BS,ea⟩++dh ⟨p,⟨#[]⟩,vD⟩)[j]?=some u->(w9.alloc (.cells #[.string (p++zq),.string BS,.string ea,.string p,.string ⟨#[]⟩,.string vD] 34)).drew.cell? ⟨w9.heap.size,j,none⟩=some u from ar w9 (dh ⟨p++zq,BS,ea⟩++dh ⟨p,⟨#[]⟩,vD⟩) 34);have e0:=H8 (ak n6.out c7);have f0:=H8 (And.intro (Zg c7 S9.1) (Zg c7 S9.2));clear h7 c7 c4;go_wp2_with fail;refine bp (fun w'=>w'.cell? ⟨g,o+i,none⟩=some (.string p)/\w'.cell? ⟨g3,o3+t,none⟩=some (.string zq)) (S9) fun a0=>?_
             refine tH 0 a0 ?_;refine tH 1 a0 ?_;refine tH 2 a0 ?_;refine tH 3 a0 ?_;refine tH 4 a0 ?_;refine tH 5 a0 ?_
             try simp only[Act.put,jP,jQ,jR]
             refine tH 6 a0 ?_;refine tH 7 a0 ?_;refine tH 8 a0 ?_;refine tH 9 a0 ?_;refine tH 10 a0 ?_;refine tH 11 a0 ?_
             try simp only[Act.put,jP,jQ,jR]
             refine tH 12 a0 ?_;refine tH 13 a0 ?_;refine tH 14 a0 ?_;refine tH 15 a0 ?_
             try simp only[Act.put,jP,jQ,jR]
             refine rH 16 fun K hK=>?_
             go_simp;refine hK.out _ _ (f0.out) (fun a0=>?_);clear hK K
             try simp only[Act.put,jP,jQ,jR]
             refine rH 17 fun K hK=>?_
             refine nZ sV d4.out p2.out e0.out.size ?_ (h1:=(by simp[dh,Value.oneCell'])) (hlen:=by have:=b8.out;unfold maxLen;omega) (hby:=by have:=b8.out;omega);intro va wa h1 h2 h3;have p0:=H8 h1;have l2:=H8 (aA e0.out d4.out e0.out.size h2);have m1:=H8 (nw n1.out d4.out h2);have a2:=aA (Ze w5.heap.size _) d4.out e0.out.size h2;have Sa:=And.intro (fp a2 a9.out f0.out.1) (fp a2 g7.out f0.out.2);clear h1 h2 h3 a2;refine hK.out _ _ (Sa) (fun a0=>?_);clear hK K
             try simp only[Act.put,jP,jQ,jR]
             refine tH 18 a0 ?_
             try simp only[Act.put,jP,jQ,jR]
             refine wpAnyH_done (by kernel_rfl) (NoPanic.normal ?_) _;go_wp2_with fail;go_roundg (8 - (t+1))
             case measure=>have:=Hmm.out;omega
             case rel=>
              refine⟨t+1,by have:=Hmm.out;omega,by go_num,H8 ⟨_,_,HN.out,?_,m1.out⟩,l2⟩;have h9:=p0.out;unfold bJ;rw[List.length_append,show bk (L2 ++ [⟨p++zq,BS,ea⟩,⟨p,⟨#[]⟩,vD⟩])=bk L2++ (dh ⟨p++zq,BS,ea⟩++dh ⟨p,⟨#[]⟩,vD⟩) by simp[bk]];exact h9
           ·have f4:¬ (0:Int)<ps.length:=by omega
            refine bp (fun w'=>w'.cell? ⟨g,o+i,none⟩=some (.string p)/\w'.cell? ⟨g3,o3+t,none⟩=some (.string zq)) (S7) fun a0=>?_
            refine tH 0 a0 ?_;refine tH 1 a0 ?_;refine tH 2 a0 ?_;refine tH 3 a0 ?_;refine tH 4 a0 ?_;refine tH 5 a0 ?_
            try simp only[Act.put,jP,jQ,jR]
            refine tH 6 a0 ?_;refine tH 7 a0 ?_;refine uH 8 a0 ?_;refine uH 9 a0 ?_;refine uH 10 a0 ?_;refine uH 11 a0 ?_
            try simp only[Act.put,jP,jQ,jR]
            refine uH 12 a0 ?_;refine uH 13 a0 ?_;refine uH 14 a0 ?_;refine uH 15 a0 ?_;refine uH 16 a0 ?_;refine uH 17 a0 ?_
            try simp only[Act.put,jP,jQ,jR]
            refine uH 18 a0 ?_;refine uH 19 a0 ?_;refine uH 20 a0 ?_
            try simp only[Act.put,jP,jQ,jR]
            refine rH 21 fun K hK=>?_
            go_simp;refine hK.out _ _ (a0) (fun a0=>?_);clear hK K
            try simp only[Act.put,jP,jQ,jR]
            refine tH 22 a0 ?_
            try simp only[Act.put,jP,jQ,jR]
            refine wpAnyH_done (by kernel_rfl) (NoPanic.normal ?_) _;go_wp2_with fail;go_roundg (8 - (t+1))
            case measure=>have:=Hmm.out;omega
            case rel=>
             obtain⟨L2,M2,a3,hE,hS⟩:=HE.out;exact⟨t+1,by have:=Hmm.out;omega,by go_num,H8 ⟨L2,M2,a3.less (by omega),ag hE b5.out (Zb _),ag hS b5.out (Zb _)⟩,H8 (ak Hb.out b5.out)⟩
          ·skip
           refine bp (fun w'=>w'.cell? ⟨g,o+i,none⟩=some (.string p)/\w'.cell? ⟨g3,o3+t,none⟩=some (.string zq)) (S7) fun a0=>?_
           refine tH 0 a0 ?_;refine tH 1 a0 ?_;refine tH 2 a0 ?_;refine uH 3 a0 ?_;refine uH 4 a0 ?_;refine uH 5 a0 ?_
           try simp only[Act.put,jP,jQ,jR]
           refine tH 6 a0 ?_;refine tH 7 a0 ?_;refine uH 8 a0 ?_;refine uH 9 a0 ?_;refine uH 10 a0 ?_;refine uH 11 a0 ?_
           try simp only[Act.put,jP,jQ,jR]
           refine uH 12 a0 ?_;refine uH 13 a0 ?_;refine uH 14 a0 ?_;refine uH 15 a0 ?_;refine uH 16 a0 ?_;refine uH 17 a0 ?_
           try simp only[Act.put,jP,jQ,jR]
           refine uH 18 a0 ?_;refine uH 19 a0 ?_;refine uH 20 a0 ?_
           try simp only[Act.put,jP,jQ,jR]
           refine rH 21 fun K hK=>?_
           go_simp;refine hK.out _ _ (a0) (fun a0=>?_);clear hK K
           try simp only[Act.put,jP,jQ,jR]
           refine tH 22 a0 ?_
           try simp only[Act.put,jP,jQ,jR]
           refine wpAnyH_done (by kernel_rfl) (NoPanic.normal ?_) _;go_wp2_with fail;go_roundg (8 - (t+1))
           case measure=>have:=Hmm.out;omega
           case rel=>
            obtain⟨L2,M2,a3,hE,hS⟩:=HE.out;exact⟨t+1,by have:=Hmm.out;omega,by go_num,H8 ⟨L2,M2,a3.less (by omega),ag hE b5.out (Zb _),ag hS b5.out (Zb _)⟩,H8 (ak Hb.out b5.out)⟩
         ·have hend:(¬ (t:Int)<z.length)\/((t:Int)<z.length/\¬ (t:Int)<8):=by have:=Hmm.out;omega
          have HE1:=H8 (show ∃L M,eB l m i 0 L M/\bJ wr w5.heap.size u16 L/\aZ wr w5.heap.size u18 M from by
           obtain⟨L2,M2,h1,h2,h3⟩:=HE.out;exact⟨L2,M2,h1.less (Zj _),h2,h3⟩)
          clear HE hlt Hmm;rcases hend with i9|⟨i9,m3⟩
          ·go_wp2_with fail;go_roundg i
           case measure=>have:=Hgk.out;omega
           case rel=>exact⟨i,(i:Int) - 1,rfl,by omega,rfl,by go_num,HE1,Hb⟩
          ·go_wp2_with fail;go_roundg i
           case measure=>have:=Hgk.out;omega
           case rel=>exact⟨i,(i:Int) - 1,rfl,by omega,rfl,by go_num,HE1,Hb⟩
       |zero=>
        obtain rfl:zz = -1:=by omega
        clear hj d3 Hgk;obtain⟨L,M,a3,b4,c6⟩:=HE.out;obtain⟨d6,d2⟩:=a3.done e5 f5;have m0:=H8 d6;have hne:0<L.length+M.length:=by
         rcases Nat.eq_zero_or_pos l.length with h|h
         ·have k4:0<m.length:=by omega
          have:=List.length_pos_of_mem (d6.p1 _ (List.getElem_mem k4));omega
         ·have:=List.length_pos_of_mem (d6.b1 _ (List.getElem_mem h));omega
        have n2:=a3.lnL;have q3:=a3.lnM;have HM:=H8 (fE (oc:=2) (HA.out.below (ak c8.out Hb.out)).lr (HA.out.below (ak c8.out Hb.out)).lw (b4.sl (by omega)) (c6.slt (by omega)) d2 (by decide) (by constructor <;> intro _ <;> omega));obtain⟨A7,q7,rfl,-⟩:=af b4;obtain⟨A8,q8,rfl,-⟩:=af c6;clear a3 b4 c6 d6 d2 hne n2 q3 HE;go_wp2_with fail;refine(show Calls Tryz.prog 7 #[.int .i64 2,_,_] wr _ from HM.out).mono ?_;rintro e w6 ⟨fs,v6,l1,rfl,e6,f1⟩;have r7:=m0.out.same n0.out l1;subst r7;have g5:=H8 (kl (n9.out.below (ak Hb.out f1)) e6.bs);rw[n5.out,decide_eq_true rfl] at g5;have l3:=H8 (ak c8.out (ak Hb.out f1));obtain⟨A9,q9,m5,-⟩:=af e6;subst m5;clear l1 e6 f1 HM;go_wp2_with fail;refine Za g5 ?_;rintro e w' ⟨rfl,rfl⟩;go_wp2_with fail;go_ret;exact⟨rfl,l3.out⟩
open Go.ChangeShapes Go.WideShapes Go.Deep
section
variable {H:Type}{enc:TypeId×Value->H}
theorem nK {a:Addr}(h:W.cell? (a.add 0)=some v):∃b o,a= ⟨b,o,none⟩:=by
 obtain⟨b,o,sp⟩:=a
 cases sp with
 |none=>exact⟨b,o,rfl⟩
 |some s=>exfalso;simp[Addr.add,World.cell?] at h;split at h <;> simp at h
theorem xq (f:Nat->ByteArray)(L:List Nat):Rows.uptoBulkAll (H:=H) (L.map fun i=>.lit (.string (f i).data.toList))=L.length+je (L.map f):=by
 induction L with
 |nil=>simp[Rows.uptoBulkAll,je]
 |cons a L ih=>
  simp only[List.map_cons,Rows.uptoBulkAll,Rows.uptoBulk,je,ih,List.length_cons];have:(f a).data.toList.length= (f a).size:=by simp
  omega
theorem iJ {d:DataW H}{ps:List MemPlace}(hv:Value.okWide Tryz.prog W .any base 23 v)(hj:DataW.Trod enc Tryz.prog W 0 (fun _=>true) true 23 v d ps):∃l:List ByteArray,l.length+je l<=Rows.uptoBulk d/\(l.length<=2000000->rV W v l):=by
 obtain⟨a,len,cap,rfl⟩:=okWide_slice Tryz.underlying23 hv;obtain⟨fuel,hf⟩:=hj;rcases open_strs Tryz.underlying23 Tryz.underlying9 (by kernel_rfl) hf with ⟨a0,hx⟩|⟨a',len',cap',m,Sx,a0,_,hl,_,hm,hx,hc⟩
 ·obtain⟨rfl,rfl,rfl⟩:=Value.slice.inj (List.cons.inj a0).1;exact⟨[],by simp[je],fun _=>⟨by simp,none,0,rfl,Zb _,fun i a ha=>by simp at ha⟩⟩
 ·obtain⟨rfl,rfl,rfl⟩:=Value.slice.inj (List.cons.inj a0).1;simp only[if_true] at hm;have hd:=congrArg Prod.fst hx;simp only at hd;subst hd;refine⟨(List.range len).map Sx,?_,fun h2=>⟨by simpa using h2,some a',cap,by simp,by simpa using hl,fun i b hb=>?_⟩⟩
  ·have:=xq (H:=H) Sx (List.range len);rw[Rows.uptoBulk,this];simp;omega
  ·have hi:=(List.getElem?_eq_some_iff.1 hb).1;simp at hi;obtain⟨h3,-⟩:=hc i (by omega);obtain⟨b0,o0,rfl⟩:=nK (hc 0 (by omega)).1;refine⟨b0,o0,rfl,?_⟩;have e1:(⟨b0,o0,none⟩:Addr).add i= ⟨b0,o0+i,none⟩:=by unfold Addr.add;split <;> simp_all
   rw[e1] at h3;rw[h3];simp[hi] at hb;rw[hb]
theorem yk (D:Nat->DataW H)(E:Nat->En)(L:List Nat)(h:∀i∈L,Rows.uptoBulk (D i)=4+ ((E i).eAt.size+ (E i).eSch.size+ (E i).eKw.size)):L.length+gE (L.map E)<=Rows.uptoBulkAll (H:=H) (L.map D):=by
 induction L with
 |nil=>simp[gE]
 |cons a L ih=>
  have h1:=h a (by simp);have h2:=ih fun i hi=>h i (by simp[hi])
  simp only[List.map_cons,Rows.uptoBulkAll,gE,h1,List.length_cons];omega
theorem o4 {d:DataW H}{ps:List MemPlace}(hv:Value.okWide Tryz.prog W .any base 22 v)(hj:DataW.Trod enc Tryz.prog W 0 (fun _=>true) true 22 v d ps):∃l:List En,l.length+gE l<=Rows.uptoBulk d/\(l.length<=2000000->sC W v l):=by
 obtain⟨a,len,cap,rfl⟩:=okWide_slice Tryz.underlying22 hv;obtain⟨fuel,hf⟩:=hj;have a9:Tryz.prog.cellsOf 34=3:=by kernel_rfl
 rcases open_slice Tryz.underlying22 hf with ⟨a5,hx⟩|⟨a',len',cap',m,n,D,Pl,a5,_,hl,_,hm,hx,hc⟩
 ·obtain⟨rfl,rfl,rfl⟩:=Value.slice.inj (List.cons.inj a5).1;exact⟨[],by simp[gE],fun _=>⟨by simp,none,0,rfl,Zb _,fun i a ha=>by simp at ha⟩⟩
 ·obtain⟨rfl,rfl,rfl⟩:=Value.slice.inj (List.cons.inj a5).1;simp only[if_true] at hm;have hd:=congrArg Prod.fst hx;simp only at hd;subst hd;have de:∀i,i<m->∃en:En,Rows.uptoBulk (D i)=4+ (en.eAt.size+en.eSch.size+en.eKw.size)/\W.cell? ((a'.add (i*3)).add 0)=some (.string en.eAt)/\W.cell? ((a'.add (i*3)).add 1)=some (.string en.eSch)/\W.cell? ((a'.add (i*3)).add 2)=some (.string en.eKw):=fun i hi=>by
   obtain⟨cs',a3,b4⟩:=hc i hi;rw[a9] at a3;obtain⟨-,b3,a4⟩:=World.cells?_some a3;obtain⟨y0,y1,y2,n',hy,-,r0,r1,r2⟩:=Deep.trod_struct3 Tryz.underlying34 b4
   match cs',b3,a4,r0,r1,r2 with
   | [c0,c1,c2],_,a4,r0,r1,r2=>
    obtain⟨s0,a0,b0,-⟩:=DataW.trod_string Tryz.underlying9 (show DataW.trod enc Tryz.prog W 0 (fun _=>true) true n' 9 [c0]=some y0 from r0);obtain⟨s1,a1,b1,-⟩:=DataW.trod_string Tryz.underlying9 (show DataW.trod enc Tryz.prog W 0 (fun _=>true) true n' 9 [c1]=some y1 from r1);obtain⟨s2,a2,b2,-⟩:=DataW.trod_string Tryz.underlying9 (show DataW.trod enc Tryz.prog W 0 (fun _=>true) true n' 9 [c2]=some y2 from r2);obtain rfl:c0 =.string s0:=by simpa using a0
    obtain rfl:c1 =.string s1:=by simpa using a1
    obtain rfl:c2 =.string s2:=by simpa using a2
    subst b0 b1 b2;have hD:=congrArg Prod.fst hy;simp only at hD;refine⟨⟨s0,s1,s2⟩,?_,a4 0 (by decide),a4 1 (by decide),a4 2 (by decide)⟩;rw[hD];have e0:s0.data.toList.length=s0.size:=by simp
    have e1:s1.data.toList.length=s1.size:=by simp
    have e2:s2.data.toList.length=s2.size:=by simp
    simp only[Rows.uptoBulk,Rows.uptoBulkAll,e0,e1,e2];omega
  obtain⟨E,hE⟩:=choose_lt de;refine⟨(List.range len).map E,?_,fun h2=>⟨by simpa using h2,some a',cap,by simp,by simpa using hl,fun i b hb=>?_⟩⟩
  ·have:=yk D E (List.range len) (fun i hi=>(hE i (by have:=List.mem_range.1 hi;omega)).1);rw[Rows.uptoBulk];rw[List.length_map];omega
  ·have hi:=(List.getElem?_eq_some_iff.1 hb).1;simp at hi;obtain⟨-,h3,h4,h5⟩:=hE i (by omega);obtain⟨-,h6,-⟩:=hE 0 (by omega);rw[Nat.zero_mul] at h6;obtain⟨b0,o0,rfl⟩:∃b o,a'= ⟨b,o,none⟩:=nK (by simpa [Addr.add] using h6);have e1:∀o k,(⟨b0,o,none⟩:Addr).add k= ⟨b0,o+k,none⟩:=fun o k=>by unfold Addr.add;split <;> simp_all
   rw[e1,e1] at h3 h4 h5;rw[Nat.add_zero] at h3;simp[hi] at hb;subst hb;exact⟨b0,o0,rfl,h3,h4,h5⟩
end
