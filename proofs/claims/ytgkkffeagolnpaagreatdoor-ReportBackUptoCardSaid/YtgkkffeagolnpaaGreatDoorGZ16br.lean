import Derived.Test.YtgkkffeagolnpaaGreatDoorGZ16bq
set_option linter.unusedVariables false
set_option linter.unusedSimpArgs false
set_option maxHeartbeats 64000000
set_option maxRecDepth 100000
namespace Go.Proofs.YtgkkffeagolnpaaGreatDoor
open Go.RowKit Go.Shelf
variable {m y:List ByteArray}{xs:List UInt8}{g i o:Nat}{v v' xv yv:Value}{W w:World}
theorem mf {a b:ByteArray}(h:¬a=b):(a.toList==b.toList)=false:=by
 rw[beq_eq_false_iff_ne];intro e;rw[ByteArray.toList_eq,ByteArray.toList_eq] at e;exact h (ByteArray.ext (Array.toList_inj.1 e))
theorem xZ {g2 o2:Nat}{a b:En}(hb:Below w.heap.size w W)(k1:w.cell? ⟨g,o+i*3,none⟩=some (.string a.eAt))(k2:w.cell? ⟨g,o+i*3+1,none⟩=some (.string a.eSch))(k3:w.cell? ⟨g,o+i*3+2,none⟩=some (.string a.eKw))(r1:w.cell? ⟨g2,o2+i*3,none⟩=some (.string b.eAt))(r2:w.cell? ⟨g2,o2+i*3+1,none⟩=some (.string b.eSch))(r3:w.cell? ⟨g2,o2+i*3+2,none⟩=some (.string b.eKw)) :
  W.cell? ⟨g,o+i*3,none⟩=some (.string a.eAt)/\W.cell? ⟨g,o+i*3+1,none⟩=some (.string a.eSch)/\W.cell? ⟨g,o+i*3+2,none⟩=some (.string a.eKw)/\W.cell? ⟨g2,o2+i*3,none⟩=some (.string b.eAt)/\W.cell? ⟨g2,o2+i*3+1,none⟩=some (.string b.eSch)/\W.cell? ⟨g2,o2+i*3+2,none⟩=some (.string b.eKw):=
 ⟨Zg hb k1,Zg hb k2,Zg hb k3,Zg hb r1,Zg hb r2,Zg hb r3⟩
theorem tc {l m:List En}(h:pY w v l)(h':pY w v' m):Calls Tryz.prog 14 #[v,v'] w fun e w'=>e =.returned (.bool (decide (l=m)))/\Below w.heap.size w w':=by
 obtain⟨hl,A,c,rfl,-,hc⟩:=h;obtain⟨hm,A2,c2,rfl,-,a9⟩:=h';have Hc:=Qa hc;have b8:=Qa a9;clear hc a9
 by_cases hlm:l.length=m.length
 ·have b4:((l.length:Int)==m.length)=true:=by rw[beq_iff_eq];omega
  have b0:=Qa hlm;rw[<-hlm];rw[<-hlm] at b4;clear hlm;go_enter Tryz.func14,Tryz.ntmps14;go_wp2_with fail
  go_loopg [5] l.length (fun mm s5 wr=> ∃i:Nat,mm+i=l.length/\s5 =.int .i64 i/\Hid (l.take i=m.take i)/\Hid (Below w.heap.size w wr))
  case atStart=>exact⟨0,rfl,rfl,Qa rfl,Qa (Ze _ _)⟩
  case round=>
   obtain⟨i,b5,rfl,Ht,Hb⟩:=hrel;have Hmm:=Qa b5;clear b5
   by_cases hlt:i<l.length
   ·have a5:(i:Int)<l.length:=by omega
    have b9:=Qa hlt;obtain⟨a,ha⟩:∃a,l[i]?=some a:=⟨_,Zd hlt⟩;obtain⟨b,hb⟩:∃b,m[i]?=some b:=⟨_,Zd (by have:=b0.out;omega)⟩;obtain⟨g,o,rfl,k1,k2,k3⟩:=Hc.out i a ha;obtain⟨g2,o2,rfl,r1,r2,r3⟩:=b8.out i b hb;have Hab:=Qa (vi Ht.out ha hb);have HC:=Qa (xZ Hb.out k1 k2 k3 r1 r2 r3);clear ha hb k1 k2 k3 r1 r2 r3 hlt;obtain⟨a1,a2,a3⟩:=a;obtain⟨b1,b2,b3⟩:=b;have a4:=Qa (fun (h:¬ (⟨a1,a2,a3⟩:En)= ⟨b1,b2,b3⟩)=>decide_eq_false (vL fun e=>h (Hab.out.1 e)))
    dsimp only at HC
    by_cases e1:a1=b1
    ·subst e1
     by_cases e2:a2=b2
     ·subst e2
      by_cases e3:a3=b3
      ·subst e3;go_wp2_with fail;refine bF (fun w'=>w'.cell? ⟨g,o+i*3,none⟩=some (.string a1)/\w'.cell? ⟨g,o+i*3+1,none⟩=some (.string a2)/\w'.cell? ⟨g,o+i*3+2,none⟩=some (.string a3)/\w'.cell? ⟨g2,o2+i*3,none⟩=some (.string a1)/\w'.cell? ⟨g2,o2+i*3+1,none⟩=some (.string a2)/\w'.cell? ⟨g2,o2+i*3+2,none⟩=some (.string a3)) (HC.out) fun a0=>?_
       refine tH 0 a0 ?_;refine tH 1 a0 ?_;refine tH 2 a0 ?_;refine tH 3 a0 ?_;refine tH 4 a0 ?_;refine tH 5 a0 ?_
       try simp only[Act.put,jP,jQ,jR]
       refine tH 6 a0 ?_;refine tH 7 a0 ?_;refine tH 8 a0 ?_;refine tH 9 a0 ?_;refine tH 10 a0 ?_;refine tH 11 a0 ?_
       try simp only[Act.put,jP,jQ,jR]
       refine tH 12 a0 ?_;refine tH 13 a0 ?_;refine tH 14 a0 ?_;refine tH 15 a0 ?_;refine tH 16 a0 ?_;refine tH 17 a0 ?_
       try simp only[Act.put,jP,jQ,jR]
       refine tH 18 a0 ?_;refine tH 19 a0 ?_;refine tH 20 a0 ?_;refine tH 21 a0 ?_;refine tH 22 a0 ?_;refine tH 23 a0 ?_
       try simp only[Act.put,jP,jQ,jR]
       refine tH 24 a0 ?_;refine tH 25 a0 ?_;refine tH 26 a0 ?_;refine tH 27 a0 ?_;refine tH 28 a0 ?_;refine tH 29 a0 ?_
       try simp only[Act.put,jP,jQ,jR]
       refine tH 30 a0 ?_;refine tH 31 a0 ?_;refine tH 32 a0 ?_;refine tH 33 a0 ?_;refine tH 34 a0 ?_;refine tH 35 a0 ?_
       try simp only[Act.put,jP,jQ,jR]
       refine tH 36 a0 ?_;refine tH 37 a0 ?_
       try simp only[Act.put,jP,jQ,jR]
       refine wpAnyH_done (by kernel_rfl) (NoPanic.normal ?_) _;go_wp2_with fail;go_roundg (l.length - (i+1))
       case measure=>have:=Hmm.out;omega
       case rel=>exact⟨i+1,by have:=Hmm.out;omega,by go_num,Qa (Hab.out.2 (by trivial)),Qa Hb.out.drew⟩
      ·have n3:=mf e3;have H:=Qa (a4.out fun e=>e3 (En.mk.inj e).2.2);go_wp2_with fail;refine bF (fun w'=>w'.cell? ⟨g,o+i*3,none⟩=some (.string a1)/\w'.cell? ⟨g,o+i*3+1,none⟩=some (.string a2)/\w'.cell? ⟨g,o+i*3+2,none⟩=some (.string a3)/\w'.cell? ⟨g2,o2+i*3,none⟩=some (.string a1)/\w'.cell? ⟨g2,o2+i*3+1,none⟩=some (.string a2)/\w'.cell? ⟨g2,o2+i*3+2,none⟩=some (.string b3)) (HC.out) fun a0=>?_
       refine tH 0 a0 ?_;refine tH 1 a0 ?_;refine tH 2 a0 ?_;refine tH 3 a0 ?_;refine tH 4 a0 ?_;refine tH 5 a0 ?_
       try simp only[Act.put,jP,jQ,jR]
       refine tH 6 a0 ?_;refine tH 7 a0 ?_;refine tH 8 a0 ?_;refine tH 9 a0 ?_;refine tH 10 a0 ?_;refine tH 11 a0 ?_
       try simp only[Act.put,jP,jQ,jR]
       refine tH 12 a0 ?_;refine tH 13 a0 ?_;refine tH 14 a0 ?_;refine tH 15 a0 ?_;refine tH 16 a0 ?_;refine tH 17 a0 ?_
       try simp only[Act.put,jP,jQ,jR]
       refine tH 18 a0 ?_;refine tH 19 a0 ?_;refine tH 20 a0 ?_;refine tH 21 a0 ?_;refine tH 22 a0 ?_;refine tH 23 a0 ?_
       try simp only[Act.put,jP,jQ,jR]
       refine tH 24 a0 ?_;refine tH 25 a0 ?_;refine tH 26 a0 ?_;refine tH 27 a0 ?_;refine tH 28 a0 ?_;refine tH 29 a0 ?_
       try simp only[Act.put,jP,jQ,jR]
       refine tH 30 a0 ?_;refine tH 31 a0 ?_;refine tH 32 a0 ?_;refine tH 33 a0 ?_;refine tH 34 a0 ?_;refine tH 35 a0 ?_
       try simp only[Act.put,jP,jQ,jR]
       refine tH 36 a0 ?_;refine tH 37 a0 ?_
       try simp only[Act.put,jP,jQ,jR]
       refine wpAnyH_done (by kernel_rfl) (NoPanic.normal ?_) _;go_wp2_with fail;go_ret;exact⟨by simp[H.out],Hb.out.drew⟩
     ·have n2:=mf e2;have H:=Qa (a4.out fun e=>e2 (En.mk.inj e).2.1);go_wp2_with fail;refine bF (fun w'=>w'.cell? ⟨g,o+i*3,none⟩=some (.string a1)/\w'.cell? ⟨g,o+i*3+1,none⟩=some (.string a2)/\w'.cell? ⟨g,o+i*3+2,none⟩=some (.string a3)/\w'.cell? ⟨g2,o2+i*3,none⟩=some (.string a1)/\w'.cell? ⟨g2,o2+i*3+1,none⟩=some (.string b2)/\w'.cell? ⟨g2,o2+i*3+2,none⟩=some (.string b3)) (HC.out) fun a0=>?_
      refine tH 0 a0 ?_;refine tH 1 a0 ?_;refine tH 2 a0 ?_;refine tH 3 a0 ?_;refine tH 4 a0 ?_;refine tH 5 a0 ?_
      try simp only[Act.put,jP,jQ,jR]
      refine tH 6 a0 ?_;refine tH 7 a0 ?_;refine tH 8 a0 ?_;refine tH 9 a0 ?_;refine tH 10 a0 ?_;refine tH 11 a0 ?_
      try simp only[Act.put,jP,jQ,jR]
      refine tH 12 a0 ?_;refine tH 13 a0 ?_;refine tH 14 a0 ?_;refine tH 15 a0 ?_;refine tH 16 a0 ?_;refine tH 17 a0 ?_
      try simp only[Act.put,jP,jQ,jR]
      refine tH 18 a0 ?_;refine tH 19 a0 ?_;refine tH 20 a0 ?_;refine tH 21 a0 ?_;refine tH 22 a0 ?_;refine tH 23 a0 ?_
      try simp only[Act.put,jP,jQ,jR]
      refine tH 24 a0 ?_;refine uH 25 a0 ?_;refine uH 26 a0 ?_;refine uH 27 a0 ?_;refine uH 28 a0 ?_;refine uH 29 a0 ?_
      try simp only[Act.put,jP,jQ,jR]
      refine uH 30 a0 ?_;refine uH 31 a0 ?_;refine uH 32 a0 ?_;refine uH 33 a0 ?_;refine uH 34 a0 ?_;refine uH 35 a0 ?_
      try simp only[Act.put,jP,jQ,jR]
      refine tH 36 a0 ?_;refine tH 37 a0 ?_
      try simp only[Act.put,jP,jQ,jR]
      refine wpAnyH_done (by kernel_rfl) (NoPanic.normal ?_) _;go_wp2_with fail;go_ret;exact⟨by simp[H.out],Hb.out.drew⟩
    ·have n1:=mf e1;have H:=Qa (a4.out fun e=>e1 (En.mk.inj e).1);go_wp2_with fail;refine bF (fun w'=>w'.cell? ⟨g,o+i*3,none⟩=some (.string a1)/\w'.cell? ⟨g,o+i*3+1,none⟩=some (.string a2)/\w'.cell? ⟨g,o+i*3+2,none⟩=some (.string a3)/\w'.cell? ⟨g2,o2+i*3,none⟩=some (.string b1)/\w'.cell? ⟨g2,o2+i*3+1,none⟩=some (.string b2)/\w'.cell? ⟨g2,o2+i*3+2,none⟩=some (.string b3)) (HC.out) fun a0=>?_
     refine tH 0 a0 ?_;refine tH 1 a0 ?_;refine tH 2 a0 ?_;refine tH 3 a0 ?_;refine tH 4 a0 ?_;refine tH 5 a0 ?_
     try simp only[Act.put,jP,jQ,jR]
     refine tH 6 a0 ?_;refine tH 7 a0 ?_;refine tH 8 a0 ?_;refine tH 9 a0 ?_;refine tH 10 a0 ?_;refine tH 11 a0 ?_
     try simp only[Act.put,jP,jQ,jR]
     refine uH 12 a0 ?_;refine uH 13 a0 ?_;refine uH 14 a0 ?_;refine uH 15 a0 ?_;refine uH 16 a0 ?_;refine uH 17 a0 ?_
     try simp only[Act.put,jP,jQ,jR]
     refine uH 18 a0 ?_;refine uH 19 a0 ?_;refine uH 20 a0 ?_;refine uH 21 a0 ?_;refine uH 22 a0 ?_;refine tH 23 a0 ?_
     try simp only[Act.put,jP,jQ,jR]
     refine tH 24 a0 ?_;refine uH 25 a0 ?_;refine uH 26 a0 ?_;refine uH 27 a0 ?_;refine uH 28 a0 ?_;refine uH 29 a0 ?_
     try simp only[Act.put,jP,jQ,jR]
     refine uH 30 a0 ?_;refine uH 31 a0 ?_;refine uH 32 a0 ?_;refine uH 33 a0 ?_;refine uH 34 a0 ?_;refine uH 35 a0 ?_
     try simp only[Act.put,jP,jQ,jR]
     refine tH 36 a0 ?_;refine tH 37 a0 ?_
     try simp only[Act.put,jP,jQ,jR]
     refine wpAnyH_done (by kernel_rfl) (NoPanic.normal ?_) _;go_wp2_with fail;go_ret;exact⟨by simp[H.out],Hb.out.drew⟩
   ·have a5:¬ (i:Int)<l.length:=by omega
    have H:=Qa (show l=m by have h1:=Ht.out;have h2:=Hmm.out;have h3:=b0.out;rwa[List.take_of_length_le (by omega),List.take_of_length_le (by omega)] at h1);clear hlt Hmm;go_wp2_with fail;go_ret;exact⟨by simp[H.out],Hb.out⟩
 ·have b4:((l.length:Int)==m.length)=false:=by rw[beq_eq_false_iff_ne];omega
  have H:=Qa (decide_eq_false fun e:l=m=>hlm (by rw[e]));clear hlm;go_enter Tryz.func14,Tryz.ntmps14;go_wp2_with fail;go_ret;exact⟨by simp[H.out],Ze _ _⟩
def JR (xs:List UInt8)(w:World)(e:Ending)(w':World):Prop:= ∃v,e =.returned v/\aq w' w.heap.size v xs/\Below w.heap.size w w'
theorem vJ (h:Bs w v xs)(h0:0<xs.length)(hl:xs.length<=1000000000)(hf:∃g c,v =.slice (some ⟨g,0,none⟩) xs.length c):Calls Tryz.prog 13 #[v] w (JR xs w):=by
 obtain⟨g,c,rfl⟩:=hf;obtain⟨cur,a0,hmk⟩:=vQ IJ xs.length (by unfold maxLen;omega) (by omega);have a1:=aa w (.cells cur 5);have a2:=Qa a1.size;have a5:=Qa a1;have Ho:=Qa (show(w.alloc (.cells cur 5)).ownsRow w.heap.size 5 1 (.slice (some ⟨w.heap.size,0,none⟩) 0 xs.length) 0 [] from aq.made (base:=w.heap.size) (g:=w.heap.size) (cap:=xs.length) (Zf w (.cells cur 5)) (Zb _) (by unfold maxLen;omega) (by rw[a0,Nat.mul_one]));have a3:=Qa (show ∀ (j:Nat) u,(eB xs)[j]?=some u->(w.alloc (.cells cur 5)).cell? ⟨g,j,none⟩=some u from fun j u hu=>by
  have:=(h.below a1).cellsAt.2 j u hu;unfold Addr.add at this
  split at this
  ·rename_i e;subst e;exact this
  ·simpa using this)
 have Hl:=Qa (And.intro h0 hl);clear h a0 a1 h0 hl;go_enter Tryz.func13,Tryz.ntmps13;go_wp2_with (at_builtin;refine j3 IJ Ho.out a3.out a2.out ?_ (hl:=by simp[eB]) (h1:=by simp[eB,bv,Value.oneCell']) (hlen:=by have:=Hl.out;unfold maxLen;omega) (hby:=by have:=Hl.out;omega);intro v' w1 p1 p2 p3;have Hp:=Qa p1;have a4:=Qa (aF a5.out Ho.out a2.out p2);clear p1 p2 p3);go_ret;exact⟨_,rfl,by have:=Hp.out;rw[Nat.zero_add,List.nil_append] at this;exact this,a4.out⟩
theorem DR {α:Type}(f:α->Nat){l:List α}:∀ {m:List α},l.Nodup->(∀x∈l,x∈m)->(l.map f).sum<=(m.map f).sum:=by
 induction l with
 |nil=>intro m _ _;simp
 |cons a l ih=>
  intro m h1 h2;rw[List.nodup_cons] at h1;obtain⟨s,t,rfl⟩:=List.append_of_mem (h2 a (by simp));have:=ih (m:=s++t) h1.2 fun x hx=>by
   have h3:=h2 x (by simp[hx]);simp only[List.mem_append,List.mem_cons] at h3 ⊢;rcases h3 with h|rfl|h
   ·exact .inl h
   ·exact absurd hx h1.1
   ·exact .inr h
  simp at this ⊢;omega
def DO (e:En):Nat:=36+6* (e.eAt.size+e.eSch.size+e.eKw.size)
theorem ul {e:En}(h:e9 e):(dJ e).txt.length+1<=DO e:=by
 have h1:=eG h.1.utf;have h2:=eG h.2.1.utf;have h3:=eG h.2.2.2;have k1:(bW ia).length=4:=by decide +kernel
 have k2:(bW gq).length=9:=by decide +kernel
 have k3:(bW gR).length=8:=by decide +kernel
 have e1:(dJ e).txt=123:: (bW ia ++ [58]++ (bW e.eAt++ ([44]++ (bW gq ++ [58]++ (bW e.eKw++ ([44]++ (bW gR ++ [58]++ (bW e.eSch ++ [])))))))) ++ [125]:=by
  simp[dJ,fV,aZ,JV.txt,JV.txts]
 rw[e1];unfold DO;simp only[List.length_cons,List.length_append,List.length_nil];omega
theorem sO (first:Bool)(ns:List ByteArray)(es:List En)(h:∀e∈es,e9 e):(JV.txts false first ns (es.map dJ)).length<=(es.map DO).sum:=by
 induction es generalizing first ns with
 |nil=>simp[JV.txts]
 |cons e es ih=>
  have h1:=ul (h e (by simp));have h2:=ih false ns.tail fun a ha=>h a (by simp[ha])
  simp only[List.map_cons,JV.txts,List.sum_cons]
  cases first <;> simp at h2 ⊢ <;> omega
theorem uF {es:List En}(h:∀e∈es,e9 e):(bU o es).txt.length<=300+ (es.map DO).sum:=by
 have h1:=sO true [] es h;have h2:=eG (dl o).1;have h3:=(dl o).2;have k1:(bW lU).length=9:=by decide +kernel
 have k2:(bW lH).length=9:=by decide +kernel
 have e1:(bU o es).txt=123:: (bW lU ++ [58]++ ((91:: (JV.txts false true [] (es.map dJ) ++ [93]))++ ([44]++ (bW lH ++ [58]++ (bW (bw o) ++ []))))) ++ [125]:=by
  simp[bU,fV,cJ,aZ,JV.txt,JV.txts]
 rw[e1];simp only[List.length_cons,List.length_append,List.length_nil];omega
theorem FA (l:List En):(l.map DO).sum=36*l.length+6*iD l:=by
 induction l with
 |nil=>rfl
 |cons e l ih=>
  rw[List.map_cons,List.sum_cons,ih];simp only[DO,iD,List.length_cons];omega
theorem D5 (l:List ByteArray):((l.map eH).map DO).sum=84*l.length+6*jE l:=by
 induction l with
 |nil=>rfl
 |cons p l ih=>
  have e1:DO (eH p)=84+6*p.size:=by
   have:(eH p).eAt=p/\(eH p).eSch.size=0/\(eH p).eKw.size=8:=⟨rfl,rfl,rfl⟩;obtain⟨a,b,c⟩:=this;unfold DO;rw[a,b,c];omega
  rw[List.map_cons,List.map_cons,List.sum_cons,ih,e1];simp only[jE,List.length_cons];omega
theorem td {x l:List En}(hs:wu x y)(hl:∀e∈l,gI e/\e∈x)(hm:∀p∈m,aW p/\p∈y){es:List En}(k:bu l m es):(bU o es).txt.length<=140000:=by
 obtain⟨h1,h2,h3⟩:=hs;have a0:=k.ok (fun e he=>(hl e he).1) (fun p hp=>(hm p hp).1);have h4:=uF (o:=o) a0;have h5:=DR DO (m:=x++y.map eH) k.nodup fun e he=>by
  rw[List.mem_append,List.mem_map];rcases co.1 ((k.mem e).1 he) with h|⟨p,hp,-,rfl⟩
  ·exact .inl (hl e h.1).2
  ·exact .inr ⟨p,(hm p hp).2,rfl⟩
 rw[List.map_append,List.sum_append] at h5;have h6:=FA x;have h7:=D5 y;omega
theorem l8 {x:List En}{oc az bz:Int}(hA:jt w)(hT:gY w)(hx:pY w xv x)(hy:t6 w yv y)(ht:iD x+jE y<=2000000)(k6:0<=bz)(k3:bz<256) :
  Calls Tryz.prog 3 #[.int .i64 oc,xv,yv,.int .i64 az,.int .u8 bz] w fun e w'=>e =.returned (.bool true)/\Below w.heap.size w w':=by
 obtain⟨ad,k0⟩:=hA.lr.eRep;have HF:=Qa (qO hA);have HS:=Qa (fun W (hb:Below w.heap.size w W)=>zv (hx.below hb) (hy.below hb) (by omega));have HG:=Qa (fun W (hb:Below w.heap.size w W)=>BQ (hx.below hb) (hy.below hb) (fun e he=>by have:=wR he;omega) (fun p hp=>by have:=wW hp;omega));have HA:=Qa hA;have HT:=Qa hT;have e2:=Qa k0;have k5:=Qa (And.intro k6 k3);obtain⟨-,A1,c1,rfl,-,-⟩:=id hx;obtain⟨-,A2,c2,rfl,-,-⟩:=id hy;clear hA hT k0 hx hy ht k6 k3;go_enter Tryz.func3,Tryz.ntmps3;go_wp2_with fail;refine Za HF ?_;rintro e w1 ⟨rfl,k2⟩;have i9:=Qa k2;clear k2;go_wp2_with fail;refine(HS.out w1 i9.out).mono ?_;rintro e w2 ⟨b1,rfl,i3,i2⟩;have g7:=Qa (aj i9.out i2);have g4:=Qa i3;clear i2 i3
 cases b1 with
 |false=>
  go_wp2_with fail;go_ret;exact⟨rfl,g7.out⟩
 |true=>
  go_wp2_with fail;refine(HG.out w2 g7.out).mono ?_;rintro e w4 ⟨u,v,l,m,rfl,hE,hS,hl,hm,l1,i8,l0⟩;have c4:=Qa (aj g7.out l0);have Hl:=Qa (hE.sl (by omega));have Hm:=Qa (hS.slt (by omega));have e0:=Qa (And.intro hl (And.intro hm (And.intro l1 i8)));have d2:=Qa (FG (g4.out (by trivial)) hl hm l1 i8);have m4:=Qa (g4.out (by trivial));obtain⟨A4,q4,rfl,-⟩:=ag hE;obtain⟨A5,q5,rfl,-⟩:=ag hS;clear hE hS hl hm l0 HF HS HG g4
  by_cases hmk:Fw oc l m
  rotate_left
  ·have HM:=Qa (nT (oc:=oc) (HA.out.below c4.out).lr (Zg c4.out e2.out) Hl.out Hm.out (fun e he=>by have:=d2.out.bl e he;exact⟨by have:=this.2.1;omega,by have:=this.2.2;omega⟩) (fun p hp=>by have:=(d2.out.pl p hp).2;omega) hmk);have k1:=Qa (ER (fun e he=>(e0.out.1 e he).1) (fun p hp=>(e0.out.2.1 p hp).1) hmk);clear hmk;go_wp2_with fail;refine Za HM ?_;rintro e w5 ⟨rfl,c8⟩;have a0:=Qa (aj c4.out c8);have c5:=Zg a0.out e2.out;have q5:=dD ad w5;clear c8 HM
   by_cases h1:oc<1
   ·go_wp2_with fail;go_ret;exact⟨rfl,a0.out⟩
   ·by_cases h2:5<oc
    ·go_wp2_with fail;go_ret;exact⟨rfl,a0.out⟩
    ·by_cases h3:oc=2
     ·have h4:(l.length:Int)+m.length=0:=by
       have:=k1.out;omega
      subst h3;go_wp2_with fail;go_ret;exact⟨rfl,a0.out⟩
     ·have h4:(0:Int)< (l.length:Int)+m.length:=by
       have:=k1.out;omega
      have h5:(oc==2)=false:=by rw[beq_eq_false_iff_ne];exact h3
      go_wp2_with fail;go_ret;exact⟨rfl,a0.out⟩
  obtain⟨o,rfl⟩:∃o:Nat,oc=o:=⟨oc.toNat,by have:=hmk.1;omega⟩;have g2:1<=o/\o<6:=by have:=hmk.1;have:=hmk.2.1;omega
  have f4:o=2↔0<l.length+m.length:=by have:=hmk.2.2.2.2;omega
  have HM:=Qa (dT (oc:=o) (HA.out.below c4.out).lr (HA.out.below c4.out).lw Hl.out Hm.out d2.out g2 f4);have i5:=Qa g2;have m0:=Qa f4;clear hmk g2 f4;go_wp2_with fail;refine Za HM ?_;rintro e w5 ⟨es,v5,d9,rfl,f9,c8⟩;have a0:=Qa (aj c4.out c8);have HE:=Qa (jv.mk d9 d2.out i5.out m0.out (d2.out.ents d9).2.2 (td m4.out e0.out.1 e0.out.2.1 d9));have e1:=Qa f9.bs;obtain⟨g5,q5,m3,-,-,-,-⟩:=f9.form HE.out.pos;subst m3;clear f9 c8 HM d9;have HP:=Qa (fI (HA.out.below a0.out) HE.out.ino HE.out.ent HE.out.ho HE.out.hq e1.out (by have:=HE.out.txt;omega));have n2:=Qa (fun W u1 u2 (hb:Below w5.heap.size w5 W) (h1:qV W u1 (dn es)) (h2:kh W u2 (db es))=>dT (oc:=o) (HA.out.below (aj a0.out hb)).lr (HA.out.below (aj a0.out hb)).lw h1 h2 HE.out.again.1 HE.out.ho HE.out.again.2);have i4:=Qa (fun W (hb:Below w5.heap.size w5 W)=>oI (HA.out.below (aj a0.out hb)) HE.out.ino HE.out.ent HE.out.ho HE.out.hq (e1.out.below hb) (by have:=HE.out.txt;omega));have b5:=Qa (fun W (hb:Below w5.heap.size w5 W) v (fs:List En) (k:bu (dn es) (db es) fs) (B:Nat) (h:aq W B v (bU o fs).txt)=>show Calls Tryz.prog 10 #[v,_] W (fun e w'=>e =.returned (.bool true)/\W=w') from by
   have:=lB h.bs (e1.out.below hb);rw[HE.out.same k,decide_eq_true rfl] at this;exact this)
  have b0:=Qa (And.intro HE.out.pos HE.out.txt);generalize hte:(bU o es).txt=te at *;have m9:=Qa hte;clear hte;go_wp2_with fail;refine Za HP ?_;rintro e w6 ⟨u6,rfl,f0,k4⟩;have n0:=Qa k4;have e5:=Qa (f0.sl (by have:=HE.out.len;omega));obtain⟨A7,q7,rfl,-⟩:=ag f0;clear f0 k4 HP;go_wp2_with fail;refine(uX e5.out).mono ?_;rintro e w7 ⟨u7,v7,rfl,h7,g0,e3⟩;have k9:=Qa (aj n0.out e3);have c7:=Qa (cB es);have k7:=Qa (h7.sl (by have:=HE.out.len;have:=c7.out;omega));have i0:=Qa (g0.slt (by have:=HE.out.len;have:=c7.out;omega));have k8:=Qa (e5.out.below e3);obtain⟨A8,q8,rfl,-⟩:=ag h7;obtain⟨A9,q9,rfl,-⟩:=ag g0;clear h7 g0 e3 e5;go_wp2_with fail;refine(n2.out w7 _ _ k9.out k7.out i0.out).mono ?_;rintro e w8 ⟨fs,v8,c6,rfl,f3,f8⟩;have f7:=Qa (aj k9.out f8);have h9:=Qa (k8.out.below f8);have d6:=Qa (b5.out w8 f7.out v8 fs c6 _ f3);obtain⟨A10,q10,m2,-⟩:=ag f3;subst m2;clear f3 f8 c6 k8 k7 i0;go_wp2_with fail;refine Za d6 ?_;rintro e w' ⟨rfl,rfl⟩;clear d6;go_wp2_with fail;refine(i4.out w8 f7.out).mono ?_;rintro e w9 ⟨u9,rfl,g1,e6⟩;have f5:=Qa (aj f7.out e6);have l3:=Qa (h9.out.below e6);obtain⟨A11,q11,rfl,-⟩:=ag g1;have n4:=Qa g1.lint;clear g1 e6 h9 i4;have f6:=Qa (fun (h2:o<=2)=>show Calls Tryz.prog 12 #[.slice A11 es.length q11] w9 (fun e w'=>zI (dn es) (db es) o w9 e w') from by
   have:=BI (c:=q11) (HA.out.below (aj a0.out f5.out)) n4.out HE.out.again.1 HE.out.len;rw[HE.out.one h2] at this;exact this)
  rcases(show o=1\/o=2\/2<o by have:=i5.out;omega) with h|h|h
  case' inr.inr=>
   have h1:((o:Int)==1)=false:=by rw[beq_eq_false_iff_ne];omega
   have h2:((o:Int)==2)=false:=by rw[beq_eq_false_iff_ne];omega
   have a1:=Qa f5.out;have b2:=Qa l3.out;obtain⟨w10,b9⟩:∃w10,w10=w9:=⟨w9,rfl⟩;rw[<-b9];rw[<-b9] at a1 b2;clear f6 b9 h
  case' inl=>
   have h1:((o:Int)==1)=true:=by rw[beq_iff_eq];omega
  case' inr.inl=>
   have h1:((o:Int)==1)=false:=by rw[beq_eq_false_iff_ne];omega
   have h2:((o:Int)==2)=true:=by rw[beq_iff_eq];omega
  case' inl|inr.inl=>
   have m1:=Qa (f6.out (by omega));clear f6 h;go_wp2_with fail;refine Za m1 ?_;rintro e w10 ⟨fs,v10,c6,rfl,c3,b8⟩;have a1:=Qa (aj f5.out b8);have b2:=Qa (l3.out.below b8);have d6:=Qa (b5.out w10 a1.out v10 fs c6 _ c3);obtain⟨A12,q12,g8,-⟩:=ag c3;subst g8;clear c3 b8 c6;go_wp2_with fail;refine Za d6 ?_;rintro e w' ⟨rfl,rfl⟩;clear d6
  all_goals
   by_cases hz:bz=0
   ·subst hz;go_wp2_with fail;go_ret;exact⟨rfl,aj a0.out a1.out⟩
   ·have hzb:(bz==0)=false:=by rw[beq_eq_false_iff_ne];exact hz
    have n7:((te.length:Int)==0)=false:=by rw[beq_eq_false_iff_ne];have:=b0.out.1;omega
    have j0:=Qa (vJ (e1.out.below a1.out) b0.out.1 (by have:=b0.out.2;omega) ⟨_,_,rfl⟩);have Hz:=Qa hz;clear hz;go_wp2_with fail;refine Za j0 ?_;rintro e w11 ⟨v11,rfl,a2,a4⟩;have n3:=Qa (aj a1.out a4);have n6:=Qa (b2.out.below a4);obtain⟨g11,q11b,rfl,-,-,-,-⟩:=a2.form b0.out.1;have h0:=Qa (E3 (z:=az) b0.out.1 (by have:=b0.out.2;omega));obtain⟨k,hk⟩:∃k:Nat,(az.tmod te.length+te.length).tmod te.length= (k:Int):=⟨((az.tmod te.length+te.length).tmod te.length).toNat,by have:=h0.out.1;omega⟩;have hkl:(k:Int)<te.length:=by have:=h0.out.2.1;omega
    have d5:k<te.length:=by omega
    have m5:IntKind.i64.wrap (az.tmod te.length+te.length)=az.tmod te.length+te.length:=IntWalk.i64_in _ (by have:=h0.out.2.2;have:=b0.out.2;omega);obtain⟨u,hu,hne⟩:=yh d5 k5.out.1 k5.out.2 Hz.out;have c11:=(a2.cellAt rfl k d5).1;have f11:=(a2.cellAt rfl k d5).2;have h8:=Qa (a2.stored rfl k u);have n5:=Qa hne;have n9:=Qa d5;have c9:=Qa (fun W (hW:w11.setCell ⟨g11,k,none⟩ (bv u)=W)=>show Below w10.heap.size w10 W from hW▸aF a4 a2 a4.size h8.out.2);have g6:¬ (te.length:Int)=0:=by have:=b0.out.1;omega
    clear hne a2 a4 j0 d5;go_wp2_with fail;obtain⟨w12,a5⟩:∃w12,w11.setCell ⟨g11,k,none⟩ (bv u)=w12:=⟨_,rfl⟩;have b4:w11.setCell ⟨g11,k,none⟩ (.int .u8 (u.toNat:Int))=w12:=a5;rw[b4];have a9:=Qa (aj a1.out (c9.out w12 a5));have g3:=Qa (b2.out.below (c9.out w12 a5));have f1:=Qa (show aq w12 _ _ _ from a5▸h8.out.1);have h6:=Qa (pk (HA.out.below (aj a0.out a9.out)) (HT.out.below (aj a0.out a9.out)) (Zg (aj a0.out a9.out) e2.out) f1.out.bs (by rw[List.length_set];exact b0.out.1) (by rw[List.length_set];exact b0.out.2));clear a5 b4 c11 f11 m5 g6 hu hk hkl;go_wp2_with fail;refine Za h6 ?_;rintro e w13 (⟨o2,u13,l2,rfl,c0,n1,d0,a3⟩|⟨rfl,a3⟩)
    rotate_left
    ·have b3:=Qa (aj a9.out a3);clear a3 h6;go_wp2_with fail;go_ret;exact⟨rfl,aj a0.out b3.out⟩
    have b3:=Qa (aj a9.out a3);have d1:=Qa (g3.out.below a3);have d3:=Qa (c0.sl (by omega));obtain⟨A13,q13,rfl,-⟩:=ag c0;have f2:=Qa d0;clear c0 n1 a3 h6 d0
    by_cases ho2:o2=o
    ·subst ho2;have HQ:=Qa (tc (w:=w13) ⟨by have:=d1.out.1;omega,d1.out.2⟩ ⟨by have:=d3.out.1;omega,d3.out.2⟩);have hd:decide (es=l2)=false:=decide_eq_false fun e=>by
      subst e;exact n5.out ((Du HE.out.ent HE.out.ino.ne f2.out).trans m9.out)
     rw[hd] at HQ;clear hd;go_wp2_with fail;refine Za HQ ?_;rintro e w14 ⟨rfl,d4⟩;have e4:=Qa (aj b3.out d4);clear d4;go_wp2_with fail;go_ret;exact⟨rfl,aj a0.out e4.out⟩
    ·have o0:((o2:Int)==o)=false:=by rw[beq_eq_false_iff_ne];omega
     have p0:(o2==o)=false:=by rw[beq_eq_false_iff_ne];exact ho2
     have p1:¬ (o2:Int)=o:=by omega
     go_wp2_with fail;go_ret;exact⟨rfl,aj a0.out b3.out⟩
