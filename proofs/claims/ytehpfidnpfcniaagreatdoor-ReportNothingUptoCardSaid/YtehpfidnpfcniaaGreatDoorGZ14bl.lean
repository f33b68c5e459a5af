import Derived.Test.YtehpfidnpfcniaaGreatDoorGZ14bk
set_option linter.unusedVariables false
set_option linter.unusedSimpArgs false
set_option maxHeartbeats 64000000
set_option maxRecDepth 100000
namespace Go.Proofs.YtehpfidnpfcniaaGreatDoor
open Go.RowKit Go.Shelf
variable {p:ByteArray}{M l y:List ByteArray}{i r:Nat}{v xv yv:Value}{w w':World}
def vQ (p:Prop)(w:World)(e:Ending)(w':World):Prop:= ∃b:Bool,e =.returned (.bool b)/\(b=true->p)/\Below w.heap.size w w'
theorem lk {s:ByteArray}(hs:s.size<=2000000):Calls Tryz.prog 17 #[.string s] w (vQ (aT s) w):=by
 have H:=H8 (kb (w:=w) hs);clear hs;go_enter Tryz.func17,Tryz.ntmps17;go_wp2_with fail;refine Za H ?_;rintro e w1 ⟨u,c,h,l,A,n,q,rfl,hc,a1⟩;unfold fM;have HZ:=H8 (Zf w1 (.cells #[.int .i64 0,.int .i64 0,.int .i64 0,.slice none 0 0] 73));have a0:=setRow_heap (w1.alloc (.cells #[.int .i64 0,.int .i64 0,.int .i64 0,.slice none 0 0] 73)) w1.heap.size _ #[.int .i64 c,.int .i64 h,.int .i64 l,.slice A n q] _ _ HZ.out;have d0:=aa a0 (j:=0) (u:=.int .i64 c) rfl;have Hb:=H8 (below_setRow (ak a1 (ac w1 (.cells #[.int .i64 0,.int .i64 0,.int .i64 0,.slice none 0 0] 73))) (show w.heap.size<=w1.heap.size from a1.size) #[.int .i64 c,.int .i64 h,.int .i64 l,.slice A n q]);have Hc:=H8 hc;clear a0 a1 hc;go_wp2_with (refine eN HZ.out ?_);go_ret;exact⟨_,rfl,fun h=>Hc.out (by simpa using h),Hb.out⟩
theorem fU {s:ByteArray}(hs:s.size<=2000000):Calls Tryz.prog 30 #[.string s] w (vQ (aT s) w):=by
 have H:=H8 (kb (w:=w) hs);clear hs;go_enter Tryz.func30,Tryz.ntmps30;go_wp2_with fail;refine Za H ?_;rintro e w1 ⟨u,c,h,l,A,n,q,rfl,hc,a1⟩;unfold fM;have HZ:=H8 (Zf w1 (.cells #[.int .i64 0,.int .i64 0,.int .i64 0,.slice none 0 0] 73));have a0:=setRow_heap (w1.alloc (.cells #[.int .i64 0,.int .i64 0,.int .i64 0,.slice none 0 0] 73)) w1.heap.size _ #[.int .i64 c,.int .i64 h,.int .i64 l,.slice A n q] _ _ HZ.out;have d0:=aa a0 (j:=0) (u:=.int .i64 c) rfl;have Hb:=H8 (below_setRow (ak a1 (ac w1 (.cells #[.int .i64 0,.int .i64 0,.int .i64 0,.slice none 0 0] 73))) (show w.heap.size<=w1.heap.size from a1.size) #[.int .i64 c,.int .i64 h,.int .i64 l,.slice A n q]);have Hc:=H8 hc;clear a0 a1 hc;go_wp2_with (refine eN HZ.out ?_);go_ret;exact⟨_,rfl,fun h=>Hc.out (by simpa using h),Hb.out⟩
def EU (s:ByteArray)(w:World)(e:Ending)(w':World):Prop:= ∃z:Int,e =.returned (.int .i64 z)/\(0<z->s∈bE)/\Below w.heap.size w w'
theorem qp (w:World):Calls Tryz.prog 62 #[] w fun e w'=>e =.returned (.slice (some ⟨w.heap.size,0,none⟩) 32 32)/\w'=w.alloc (.cells (bE.map b7).toArray 9):=by
 go_enter Tryz.func62,Tryz.ntmps62;go_wp2;go_ret;exact⟨rfl,rfl⟩
theorem pU {s:ByteArray}:Calls Tryz.prog 31 #[.string s] w (EU s w):=by
 have Hc:=H8 (fun (i:Nat) a (h:bE[i]?=some a)=>show(w.alloc (.cells (bE.map b7).toArray 9)).cell? ⟨w.heap.size,i,none⟩=some (.string a) from ar w (bE.map b7) 9 _ _ (by rw[List.getElem?_map,h];rfl));have Hb:=H8 (ac w (.cells (bE.map b7).toArray 9));have a0:=H8 (show bE.length=32 from rfl);go_enter Tryz.func31,Tryz.ntmps31;go_wp2_with fail;refine(qp w).mono ?_;rintro e w1 ⟨rfl,rfl⟩;generalize w.alloc (.cells (bE.map b7).toArray 9)=w1 at *;obtain⟨L,hL⟩:∃L,bE=L:=⟨_,rfl⟩;rw[hL] at Hc a0;have HL:=H8 hL;clear hL;go_wp2_with fail
 go_loopg [4] 32 (fun m s4 wr=> ∃i:Nat,m+i=32/\s4 =.int .i64 i/\wr=w1)
 case atStart=>exact⟨0,rfl,rfl,rfl⟩
 case round=>
  obtain⟨i,hm,rfl,rfl⟩:=hrel;have Hm:=H8 hm
  by_cases hlt:i<32
  ·have a2:(i:Int)<32:=by omega
   obtain⟨a,ha⟩:∃a,L[i]?=some a:=⟨_,Zd (by have:=a0.out;omega)⟩;have c1:=Hc.out i a ha
   by_cases hq:a=s
   ·have hb:(a.toList==s.toList)=true:=by rw[hq];simp
    have a1:=H8 (show s∈bE by rw[HL.out,<-hq];exact Zk ha);clear hq ha hm;go_wp2_with fail;go_ret;exact⟨_,rfl,fun _=>a1.out,Hb.out⟩
   ·have hb:(a.toList==s.toList)=false:=by
     rw[beq_eq_false_iff_ne];intro h;rw[ByteArray.toList_eq,ByteArray.toList_eq] at h;exact hq (by cases a with|mk x=>cases s with|mk y=>cases x with|mk x=>cases y with|mk y=>simp at h;rw[h])
    clear hq ha hm;go_wp2_with fail;go_roundg (32 - (i+1))
    case measure=>have:=Hm.out;omega
    case rel=>exact⟨i+1,by have:=Hm.out;omega,by go_num,rfl⟩
  ·obtain rfl:i=32:=by omega
   clear hlt hm Hm;go_wp2_with fail;go_ret;exact⟨0,rfl,fun h=>by omega,Hb.out⟩
theorem sk {e:En}(h1:e.eAt.size<=2000000)(h2:e.eSch.size<=2000000):Calls Tryz.prog 16 #[.agg #[.string e.eAt,.string e.eSch,.string e.eKw]] w fun r w'=>vQ (kj e) w r w':=by
 have b3:=ac w (.cells #[.string e.eAt,.string e.eSch,.string e.eKw] 34);have a2:=Zf w (.cells #[.string e.eAt,.string e.eSch,.string e.eKw] 34);have c1:=aa a2 (j:=0) (u:=.string e.eAt) rfl;have Hx:=H8 a2;have Hb:=H8 b3;clear b3 a2;go_enter Tryz.func16,Tryz.ntmps16;go_wp2_with fail;generalize w.alloc (.cells #[.string e.eAt,.string e.eSch,.string e.eKw] 34)=w1 at *;refine(fU h1).mono ?_;rintro r w2 ⟨b1,rfl,b4,a1⟩;have b8:=H8 (ak Hb.out a1);have b5:=H8 (ai Hx.out a1);have c2:=aa b5.out (j:=1) (u:=.string e.eSch) rfl;have b0:=H8 b4;clear a1 c1 b4;go_wp2_with fail;refine(fU h2).mono ?_;rintro r w3 ⟨b2,rfl,a9,a3⟩;have a0:=H8 (ak b8.out a3);have c0:=H8 (ai b5.out a3);have c3:=aa c0.out (j:=2) (u:=.string e.eKw) rfl;have a4:=H8 a9;clear a3 c2 a9
 cases b1 with
 |false=>
  go_wp2_with fail;go_ret;exact⟨false,rfl,(fun h=>by cases h),a0.out⟩
 |true=>
  cases b2 with
  |false=>
   go_wp2_with fail;go_ret;exact⟨false,rfl,(fun h=>by cases h),a0.out⟩
  |true=>
   by_cases hf:e.eKw=vD
   ·have b9:e.eKw.toList = [102,97,108,115,101]:=by rw[hf,ByteArray.toList_eq];rfl
    have Hk:=H8 (show AF e.eKw from .inl hf);clear hf;go_wp2_with fail;go_ret;exact⟨true,rfl,fun _=>⟨b0.out trivial,a4.out trivial,Hk.out⟩,a0.out⟩
   ·have b9:(e.eKw.toList == [102,97,108,115,101])=false:=by
     rw[beq_eq_false_iff_ne];intro h;rw[ByteArray.toList_eq] at h;exact hf (by cases hx:e.eKw with|mk d=>rw[hx] at h;simp only at h;unfold vD;rw[<-h])
    clear hf;go_wp2_with fail;refine pU.mono ?_;rintro r w4 ⟨z,rfl,hz,a5⟩;have c4:=H8 (ak a0.out a5);have Hz:=H8 hz;clear a5 hz;go_wp2_with fail;go_ret;exact⟨decide (0<z),rfl,fun h=>⟨b0.out trivial,a4.out trivial,.inr (Hz.out (of_decide_eq_true h))⟩,c4.out⟩
def sC (w:World)(v:Value)(l:List En):Prop:=l.length<=2000000/\∃A c,v =.slice A l.length c/\l.length<=c/\∀ (i:Nat) e,l[i]?=some e->∃g o,A=some ⟨g,o,none⟩/\w.cell? ⟨g,o+i*3,none⟩=some (.string e.eAt)/\w.cell? ⟨g,o+i*3+1,none⟩=some (.string e.eSch)/\w.cell? ⟨g,o+i*3+2,none⟩=some (.string e.eKw)
def rV (w:World)(v:Value)(l:List ByteArray):Prop:=l.length<=2000000/\∃A c,v =.slice A l.length c/\l.length<=c/\∀ (i:Nat) a,l[i]?=some a->∃g o,A=some ⟨g,o,none⟩/\w.cell? ⟨g,o+i,none⟩=some (.string a)
theorem sC.below {l:List En}(h:sC w v l)(hb:Below w.heap.size w w'):sC w' v l:=by
 obtain⟨h1,A,c,h2,h3,h4⟩:=h;exact⟨h1,A,c,h2,h3,fun i a ha=>by obtain⟨g,o,e,k1,k2,k3⟩:=h4 i a ha;exact⟨g,o,e,Zg hb k1,Zg hb k2,Zg hb k3⟩⟩
theorem rV.below (h:rV w v l)(hb:Below w.heap.size w w'):rV w' v l:=by
 obtain⟨h1,A,c,h2,h3,h4⟩:=h;exact⟨h1,A,c,h2,h3,fun i a ha=>by obtain⟨g,o,e,k⟩:=h4 i a ha;exact⟨g,o,e,Zg hb k⟩⟩
def gE:List En->Nat
 | []=>0
 |e::l=>e.eAt.size+e.eSch.size+e.eKw.size+gE l
def je:List ByteArray->Nat
 | []=>0
 |a::l=>a.size+je l
theorem vW (l m:List En):gE (l++m)=gE l+gE m:=by
 induction l with
 |nil=>simp[gE]
 |cons a l ih=>simp only[List.cons_append,gE,ih];omega
theorem vM (l m:List ByteArray):je (l++m)=je l+je m:=by
 induction l with
 |nil=>simp[je]
 |cons a l ih=>simp only[List.cons_append,je,ih];omega
theorem zS {l:List En}{e:En}(h:l[i]?=some e):gE (l.take (i+1))=gE (l.take i)+e.eAt.size+e.eSch.size+e.eKw.size/\gE (l.take (i+1))<=gE l:=by
 obtain⟨h1,h3⟩:=List.getElem?_eq_some_iff.1 h
 constructor
 ·rw[List.take_succ_eq_append_getElem h1,h3,vW];simp only[gE];omega
 ·have:=vW (l.take (i+1)) (l.drop (i+1));rw[List.take_append_drop] at this;omega
theorem yW {a:ByteArray}(h:l[i]?=some a):je (l.take (i+1))=je (l.take i)+a.size/\je (l.take (i+1))<=je l:=by
 obtain⟨h1,h3⟩:=List.getElem?_eq_some_iff.1 h
 constructor
 ·rw[List.take_succ_eq_append_getElem h1,h3,vM];simp only[je];omega
 ·have:=vM (l.take (i+1)) (l.drop (i+1));rw[List.take_append_drop] at this;omega
def AY (x:List En)(y:List ByteArray):Prop:=x.length<=120/\y.length<=120/\gE x+je y<=20000
theorem nz {x:List En}(hx:sC w xv x)(hy:rV w yv y)(ht:gE x+je y<=4000000):Calls Tryz.prog 5 #[xv,yv] w (vQ (AY x y) w):=by
 obtain⟨a5,A,c,rfl,-,a1⟩:=hx;obtain⟨a4,A2,c2,rfl,-,a2⟩:=hy;have Hx:=H8 a1;have Hy:=H8 a2;clear a1 a2;go_enter Tryz.func5,Tryz.ntmps5;go_wp2_with fail
 go_loopg [5,6] x.length (fun m s5 s6 wr=> ∃i:Nat,m+i=x.length/\s6 =.int .i64 i/\s5 =.int .i64 (gE (x.take i))/\Hid (Below w.heap.size w wr))
 case atStart=>exact⟨0,rfl,rfl,rfl,H8 (Ze _ _)⟩
 case round=>
  obtain⟨i,hm,rfl,rfl,Hb⟩:=hrel;have Hm:=H8 hm
  by_cases hlt:i<x.length
  ·have a0:(i:Int)<x.length:=by omega
   obtain⟨e,he⟩:∃e,x[i]?=some e:=⟨_,Zd hlt⟩;obtain⟨g,o,rfl,k1,k2,k3⟩:=Hx.out i e he;have c1:=Zg Hb.out k1;have c2:=Zg Hb.out k2;have c3:=Zg Hb.out k3;obtain⟨z1,z2⟩:=zS he;have Hz:=H8 z1;have hz:gE (x.take i)+e.eAt.size+e.eSch.size+e.eKw.size<=4000000:=by omega
   clear he k1 k2 k3 hm z1 z2;generalize gE (x.take i)=n0 at *;go_wp2_with fail;go_quiet (fail);go_wp2_with fail;go_roundg (x.length - (i+1))
   case measure=>have:=Hm.out;omega
   case rel=>exact⟨i+1,by have:=Hm.out;omega,by go_num,by rw[Hz.out];go_num,H8 (ap Hb.out nq)⟩
  ·obtain rfl:i=x.length:=by omega
   have a0:¬ (x.length:Int)<x.length:=by omega
   rw[List.take_length];have a3:gE x<=4000000:=by omega
   clear hm hlt Hm;go_wp2_with fail
   go_loopg [5,7] y.length (fun m s5 s7 wr=> ∃i:Nat,m+i=y.length/\s7 =.int .i64 i/\s5 =.int .i64 (gE x+je (y.take i):Nat)/\Hid (Below w.heap.size w wr))
   case atStart=>exact⟨0,rfl,rfl,rfl,Hb⟩
   case round=>
    clear Hb;obtain⟨i,hm,rfl,rfl,Hb⟩:=hrel;have Hm:=H8 hm
    by_cases hlt:i<y.length
    ·have a0:(i:Int)<y.length:=by omega
     obtain⟨a,ha⟩:∃a,y[i]?=some a:=⟨_,Zd hlt⟩;obtain⟨g,o,rfl,k1⟩:=Hy.out i a ha;have c1:=Zg Hb.out k1;obtain⟨z1,z2⟩:=yW ha;have Hz:=H8 z1;have hz:gE x+je (y.take i)+a.size<=4000000:=by omega
     clear ha k1 hm z1 z2;generalize je (y.take i)=n1 at *;generalize hn2:gE x+n1=n2 at *;have Hn2:=H8 hn2;clear hn2;go_wp2_with fail;go_roundg (y.length - (i+1))
     case measure=>have:=Hm.out;omega
     case rel=>exact⟨i+1,by have:=Hm.out;omega,by go_num,by rw[Hz.out];have:=Hn2.out;go_num,Hb⟩
    ·obtain rfl:i=y.length:=by omega
     have a0:¬ (y.length:Int)<y.length:=by omega
     rw[List.take_length];clear hm hlt Hm
     by_cases k1:x.length<=120
     ·have k1i:(x.length:Int)<=120:=by omega
      by_cases k2:y.length<=120
      ·have k2i:(y.length:Int)<=120:=by omega
       by_cases k3:gE x+je y<=20000
       ·have k3i:(gE x:Int)+je y<=20000:=by omega
        go_wp2_with fail;go_ret;exact⟨true,by simp,fun _=>⟨k1,k2,k3⟩,Hb.out⟩
       ·have k3i:¬ (gE x:Int)+je y<=20000:=by omega
        go_wp2_with fail;go_ret;exact⟨false,by simp,(fun h=>by cases h),Hb.out⟩
      ·have k2i:¬ (y.length:Int)<=120:=by omega
       go_wp2_with fail;go_ret;exact⟨false,by simp,(fun h=>by cases h),Hb.out⟩
     ·have k1i:¬ (x.length:Int)<=120:=by omega
      go_wp2_with fail;go_ret;exact⟨false,by simp,(fun h=>by cases h),Hb.out⟩
def BH (x:List En)(y:List ByteArray)(w:World)(e:Ending)(w':World):Prop:= ∃ (u v:Value) (l:List En) (m:List ByteArray),e =.returned (.tuple #[u,v])/\bJ w' w.heap.size u l/\aZ w' w.heap.size v m/\(∀e∈l,kj e/\e∈x)/\(∀p∈m,aT p/\p∈y)/\l.length<=120/\m.length<=120/\Below w.heap.size w w'
theorem zp {x:List En}(hx:sC w xv x)(hy:rV w yv y)(hs:∀e∈x,e.eAt.size<=2000000/\e.eSch.size<=2000000)(ht:∀p∈y,p.size<=2000000):Calls Tryz.prog 6 #[xv,yv] w (BH x y w):=by
 obtain⟨c9,A,c,rfl,-,c4⟩:=hx;obtain⟨c8,A2,c2,rfl,-,c6⟩:=hy;have Hx:=H8 c4;have Hy:=H8 c6;have HB:=H8 (fun (e:En) (he:e∈x) W=>sk (w:=W) (hs e he).1 (hs e he).2);have HP:=H8 (fun (p:ByteArray) (hp:p∈y) W=>lk (w:=W) (ht p hp));clear c4 c6 hs ht;go_enter Tryz.func6,Tryz.ntmps6;go_wp2_with fail
 go_loopg [6,8] 120 (fun m s6 s8 wr=> ∃i:Nat,m+i=120/\s8 =.int .i64 i/\Hid (∃l:List En,l.length<=i/\(∀e∈l,kj e/\e∈x)/\bJ wr w.heap.size s6 l)/\Hid (Below w.heap.size w wr))
 case atStart=>exact⟨0,rfl,rfl,H8 ⟨[],by simp,fun e he=>by simp at he,bJ.nil _ _⟩,H8 (Ze _ _)⟩
 case round=>
  obtain⟨i,hm,rfl,HE,Hb⟩:=hrel;have Hm:=H8 hm
  by_cases hlt:i<x.length/\i<120
  ·have a5:(i:Int)<x.length:=by omega
   have a4:(i:Int)<120:=by omega
   obtain⟨e,he⟩:∃e,x[i]?=some e:=⟨_,Zd hlt.1⟩;obtain⟨g,o,rfl,k1,k2,k3⟩:=Hx.out i e he;have c1:=Zg Hb.out k1;have c2:=Zg Hb.out k2;have c3:=Zg Hb.out k3;have a0:=H8 (HB.out e (Zk he) wr);have a3:=H8 (Zk he);have Hk:=H8 (And.intro k1 (And.intro k2 k3));clear he k1 k2 k3 hm;go_wp2_with fail;refine Za a0 ?_;rintro r w2 ⟨b,rfl,b5,a2⟩;have Hb2:=H8 (ak Hb.out a2);have c1:=Zg Hb2.out Hk.out.1;have c2:=Zg Hb2.out Hk.out.2.1;have c3:=Zg Hb2.out Hk.out.2.2;obtain⟨l,c5,b0,hE⟩:=HE.out;have Hlo:=H8 b0;have HE2:=H8 (show bJ w2 w.heap.size u6 l from ag hE a2 (Zb _));clear a2 b0 hE
   cases b with
   |false=>
    go_wp2_with fail;go_roundg (120 - (i+1))
    case measure=>have:=Hm.out;omega
    case rel=>exact⟨i+1,by omega,by go_num,H8 ⟨l,by omega,Hlo.out,HE2.out⟩,Hb2⟩
   |true=>
    have b9:=H8 (b5 rfl);have b1:=H8 (show bJ (w2.alloc (.cells #[.string e.eAt,.string e.eSch,.string e.eKw] 34)) w.heap.size u6 l from ag HE2.out (ac _ _) (Zb _));have a1:=H8 (ak Hb2.out (ac w2 (.cells #[.string e.eAt,.string e.eSch,.string e.eKw] 34)));go_wp2_with (at_builtin;refine mb sV b1.out (ar w2 (dh e) 34) a1.out.size ?_ (h1:=(by simp[dh,Value.oneCell'])) (hlen:=by unfold maxLen;omega) (hby:=by omega);intro v' w5 p1 p2 p3;have b8:=H8 p1;have b4:=H8 (aA a1.out b1.out a1.out.size p2);clear p1 p2 p3);go_roundg (120 - (i+1))
    case measure=>have:=Hm.out;omega
    case rel=>
     refine⟨i+1,by omega,by go_num,H8 ⟨l ++ [e],by simp;omega,fun a ha=>?_,?_⟩,b4⟩
     ·rcases List.mem_append.1 ha with ha|ha
      ·exact Hlo.out a ha
      ·rw[List.mem_singleton.1 ha];exact⟨b9.out,a3.out⟩
     ·unfold bJ;rw[<-eO,List.length_append];exact b8.out
  ·have hend:(¬ (i:Int)<x.length)\/((i:Int)<x.length/\¬ (i:Int)<120):=by omega
   have hi:i<=120:=by omega
   have c0:=H8 (show ∃l:List En,l.length<=120/\(∀e∈l,kj e/\e∈x)/\bJ wr w.heap.size u6 l from by
    obtain⟨l,h1,h2,h3⟩:=HE.out;exact⟨l,by omega,h2,h3⟩)
   clear HE hm hlt Hm;obtain⟨wo,rfl⟩:∃wo,wo=wr:=⟨wr,rfl⟩;rcases hend with a5|⟨a5,a4⟩
   ·go_wp2_with fail;have a9:=H8 Hb.out;clear Hb
    go_loopg [7,10] 120 (fun m s7 s10 wr=> ∃i:Nat,m+i=120/\s10 =.int .i64 i/\Hid (∃l:List ByteArray,l.length<=i/\(∀e∈l,aT e/\e∈y)/\aZ wr wo.heap.size s7 l)/\Hid (Below wo.heap.size wo wr))
    case atStart=>exact⟨0,rfl,rfl,H8 ⟨[],by simp,fun e he=>by simp at he,aZ.nil _ _⟩,H8 (Ze _ _)⟩
    case round=>
     obtain⟨i,hm,rfl,HS,Hb⟩:=hrel;have Hm:=H8 hm
     by_cases hlt:i<y.length/\i<120
     ·have a5:(i:Int)<y.length:=by omega
      have a4:(i:Int)<120:=by omega
      obtain⟨e,he⟩:∃e,y[i]?=some e:=⟨_,Zd hlt.1⟩;obtain⟨g,o,rfl,k1⟩:=Hy.out i e he;have c1:=Zg (ak a9.out Hb.out) k1;have a0:=H8 (HP.out e (Zk he) wr);have a3:=H8 (Zk he);have Hk:=H8 k1;clear he k1 hm;go_wp2_with fail;refine Za a0 ?_;rintro r w2 ⟨b,rfl,b5,a2⟩;have Hb2:=H8 (ak Hb.out a2);have c1:=Zg (ak a9.out Hb2.out) Hk.out;obtain⟨l,c5,b0,hE⟩:=HS.out;have Hlo:=H8 b0;have HE2:=H8 (show aZ w2 wo.heap.size u7 l from ag hE a2 (Zb _));clear a2 b0 hE
      cases b with
      |false=>
       go_wp2_with fail;go_roundg (120 - (i+1))
       case measure=>have:=Hm.out;omega
       case rel=>exact⟨i+1,by omega,by go_num,H8 ⟨l,by omega,Hlo.out,HE2.out⟩,Hb2⟩
      |true=>
       have b9:=H8 (b5 rfl);have b1:=H8 (show aZ (w2.alloc (.cells #[.string e] 9)) wo.heap.size u7 l from ag HE2.out (ac _ _) (Zb _));have a1:=H8 (ak Hb2.out (ac w2 (.cells #[.string e] 9)));go_wp2_with (at_builtin;refine mb kf b1.out (ar w2 [b7 e] 9) a1.out.size ?_ (h1:=(by simp[b7,Value.oneCell'])) (hlen:=by unfold maxLen;omega) (hby:=by omega);intro v' w5 p1 p2 p3;have b8:=H8 p1;have b4:=H8 (aA a1.out b1.out a1.out.size p2);clear p1 p2 p3);go_roundg (120 - (i+1))
       case measure=>have:=Hm.out;omega
       case rel=>
        refine⟨i+1,by omega,by go_num,H8 ⟨l ++ [e],by simp;omega,fun a ha=>?_,?_⟩,b4⟩
        ·rcases List.mem_append.1 ha with ha|ha
         ·exact Hlo.out a ha
         ·rw[List.mem_singleton.1 ha];exact⟨b9.out,a3.out⟩
        ·unfold aZ;rw[List.map_append,List.length_append];exact b8.out
     ·have hend:(¬ (i:Int)<y.length)\/((i:Int)<y.length/\¬ (i:Int)<120):=by omega
      have c7:i<=120:=by omega
      obtain⟨l,k1,k2,k3⟩:=c0.out;obtain⟨m,k4,k5,k6⟩:=HS.out;have HK:=H8 (show BH x y w (.returned (.tuple #[u6,u7])) wr from⟨_,_,l,m,rfl,ag k3 Hb.out (Zb _),bB k6 a9.out.size,k2,k5,k1,by omega,ak a9.out Hb.out⟩);obtain⟨A5,q5,rfl,-⟩:=af k3;obtain⟨A6,q6,rfl,-⟩:=af k6;clear hm hlt Hm k1 k2 k3 k4 k5 k6 HS c0;rcases hend with b2|⟨b2,b3⟩
      ·go_wp2_with fail;go_ret2;exact HK.out
      ·go_wp2_with fail;go_ret2;exact HK.out
   ·go_wp2_with fail;have a9:=H8 Hb.out;clear Hb
    go_loopg [7,10] 120 (fun m s7 s10 wr=> ∃i:Nat,m+i=120/\s10 =.int .i64 i/\Hid (∃l:List ByteArray,l.length<=i/\(∀e∈l,aT e/\e∈y)/\aZ wr wo.heap.size s7 l)/\Hid (Below wo.heap.size wo wr))
    case atStart=>exact⟨0,rfl,rfl,H8 ⟨[],by simp,fun e he=>by simp at he,aZ.nil _ _⟩,H8 (Ze _ _)⟩
    case round=>
     obtain⟨i,hm,rfl,HS,Hb⟩:=hrel;have Hm:=H8 hm
     by_cases hlt:i<y.length/\i<120
     ·have a5:(i:Int)<y.length:=by omega
      have a4:(i:Int)<120:=by omega
      obtain⟨e,he⟩:∃e,y[i]?=some e:=⟨_,Zd hlt.1⟩;obtain⟨g,o,rfl,k1⟩:=Hy.out i e he;have c1:=Zg (ak a9.out Hb.out) k1;have a0:=H8 (HP.out e (Zk he) wr);have a3:=H8 (Zk he);have Hk:=H8 k1;clear he k1 hm;go_wp2_with fail;refine Za a0 ?_;rintro r w2 ⟨b,rfl,b5,a2⟩;have Hb2:=H8 (ak Hb.out a2);have c1:=Zg (ak a9.out Hb2.out) Hk.out;obtain⟨l,c5,b0,hE⟩:=HS.out;have Hlo:=H8 b0;have HE2:=H8 (show aZ w2 wo.heap.size u7 l from ag hE a2 (Zb _));clear a2 b0 hE
      cases b with
      |false=>
       go_wp2_with fail;go_roundg (120 - (i+1))
       case measure=>have:=Hm.out;omega
       case rel=>exact⟨i+1,by omega,by go_num,H8 ⟨l,by omega,Hlo.out,HE2.out⟩,Hb2⟩
      |true=>
       have b9:=H8 (b5 rfl);have b1:=H8 (show aZ (w2.alloc (.cells #[.string e] 9)) wo.heap.size u7 l from ag HE2.out (ac _ _) (Zb _));have a1:=H8 (ak Hb2.out (ac w2 (.cells #[.string e] 9)));go_wp2_with (at_builtin;refine mb kf b1.out (ar w2 [b7 e] 9) a1.out.size ?_ (h1:=(by simp[b7,Value.oneCell'])) (hlen:=by unfold maxLen;omega) (hby:=by omega);intro v' w5 p1 p2 p3;have b8:=H8 p1;have b4:=H8 (aA a1.out b1.out a1.out.size p2);clear p1 p2 p3);go_roundg (120 - (i+1))
       case measure=>have:=Hm.out;omega
       case rel=>
        refine⟨i+1,by omega,by go_num,H8 ⟨l ++ [e],by simp;omega,fun a ha=>?_,?_⟩,b4⟩
        ·rcases List.mem_append.1 ha with ha|ha
         ·exact Hlo.out a ha
         ·rw[List.mem_singleton.1 ha];exact⟨b9.out,a3.out⟩
        ·unfold aZ;rw[List.map_append,List.length_append];exact b8.out
     ·have hend:(¬ (i:Int)<y.length)\/((i:Int)<y.length/\¬ (i:Int)<120):=by omega
      have c7:i<=120:=by omega
      obtain⟨l,k1,k2,k3⟩:=c0.out;obtain⟨m,k4,k5,k6⟩:=HS.out;have HK:=H8 (show BH x y w (.returned (.tuple #[u6,u7])) wr from⟨_,_,l,m,rfl,ag k3 Hb.out (Zb _),bB k6 a9.out.size,k2,k5,k1,by omega,ak a9.out Hb.out⟩);obtain⟨A5,q5,rfl,-⟩:=af k3;obtain⟨A6,q6,rfl,-⟩:=af k6;clear hm hlt Hm k1 k2 k3 k4 k5 k6 HS c0;rcases hend with b2|⟨b2,b3⟩
      ·go_wp2_with fail;go_ret2;exact HK.out
      ·go_wp2_with fail;go_ret2;exact HK.out
theorem vr {l:List En}:∀ {e:En},e∈l->e.eAt.size+e.eSch.size+e.eKw.size<=gE l:=by
 induction l with
 |nil=>intro e he;simp at he
 |cons a l ih=>
  intro e he;simp only[gE];rcases List.mem_cons.1 he with rfl|he
  ·omega
  ·have:=ih he;omega
theorem kB:∀ {e:ByteArray},e∈l->e.size<=je l:=by
 induction l with
 |nil=>intro e he;simp at he
 |cons a l ih=>
  intro e he;simp only[je];rcases List.mem_cons.1 he with rfl|he
  ·omega
  ·have:=ih he;omega
theorem BZ {x l:List En}{m:List ByteArray}(hs:AY x y)(hl:∀e∈l,kj e/\e∈x)(hm:∀p∈m,aT p/\p∈y)(h1:l.length<=120)(h2:m.length<=120):d7 l m:=by
 obtain⟨-,-,h3⟩:=hs;refine⟨fun e he=>⟨(hl e he).1,?_⟩,fun p hp=>⟨(hm p hp).1,?_⟩,by omega⟩
 ·have:=vr (hl e he).2;exact⟨by omega,by omega⟩
 ·have:=kB (hm p hp).2;omega
structure z7 (l:List En) (m:List ByteArray) (L:List En) (M:List ByteArray):Prop where
 b1:∀e∈l,e∈L
 b2:∀e∈L,e∈l\/dA e.eAt m=true
 p1:∀p∈m,p∈M
 p2:∀p∈M,p∈m\/dA p m=true
theorem z7.same {l L:List En}{m:List ByteArray}(h:z7 l m L M){es fs:List En}(h1:bF l m es)(h2:bF L M fs):es=fs:=h1.uniq h2 (AZ h.b1 h.b2 h.p1 h.p2)
structure qH (l:List En) (j:Nat) (L:List En):Prop where
 sub:∀e∈L,e∈l
 has:∀ (q:Nat) e,j<=q->l[q]?=some e->e∈L
 len:L.length<=2* (l.length - j)
theorem qH.nil (l:List En):qH l l.length []:=⟨fun e he=>by simp at he,fun q e hq he=>by have:=(List.getElem?_eq_some_iff.1 he).1;omega,by simp⟩
theorem qH.next {l L:List En}{j:Nat}{a b:En}(h:qH l (j+1) L)(ha:l[j]?=some a)(hb:b∈l):qH l j (L ++ [a,b]):=by
 have hj:=(List.getElem?_eq_some_iff.1 ha).1;refine⟨fun e he=>?_,fun q e hq he=>?_,?_⟩
 ·rcases List.mem_append.1 he with he|he
  ·exact h.sub e he
  ·simp only[List.mem_cons,List.mem_nil_iff,or_false] at he;rcases he with rfl|rfl
   ·exact Zk ha
   ·exact hb
 ·rcases Nat.lt_or_ge j q with h1|h1
  ·exact List.mem_append_left _ (h.has q e h1 he)
  ·obtain rfl:q=j:=by omega
   rw[ha] at he
   cases he
   simp
 ·have:=h.len;simp;omega
structure eB (l:List En) (m:List ByteArray) (j r:Nat) (L:List En) (M:List ByteArray):Prop where
 b1:∀e∈l,e∈L
 b2:∀e∈L,e∈l\/dA e.eAt m=true
 p1:∀ (q:Nat) p,j<=q->m[q]?=some p->p∈M
 p2:∀p∈M,p∈m\/dA p m=true
 okL:∀e∈L,kj e/\Dt 1000000 e
 okM:∀p∈M,aT p/\p.size<=1000000
 lnL:L.length+2*r<=2*l.length+16* (m.length - j)
 lnM:M.length+r<=10* (m.length - j)
theorem yI (p:ByteArray):cr p p=true:=fi.2 (.inl rfl)
theorem z6 {m:List ByteArray}(h:p∈m):dA p m=true:=ch.2 ⟨p,h,yI p⟩
theorem eB.start {l L:List En}{m:List ByteArray}(h:qH l 0 L)(hi:d7 l m):eB l m m.length 0 L []:=
 ⟨fun e he=>by
  obtain⟨q,hq⟩:=List.getElem?_of_mem he;exact h.has q e (Zj _) hq,fun e he=>.inl (h.sub e he),fun q p hq hp=>by have:=(List.getElem?_eq_some_iff.1 hp).1;omega,fun p hp=>by simp at hp,fun e he=>hi.bl e (h.sub e he),fun p hp=>by simp at hp,by have:=h.len;omega,by simp⟩
theorem eB.place {l L:List En}{m:List ByteArray}{j:Nat}{q:ByteArray}(h:eB l m (j+1) 0 L M)(hi:d7 l m)(hp:m[j]?=some p)(hq:q∈m):eB l m j 8 L (M ++ [p,q]):=by
 have hj:=(List.getElem?_eq_some_iff.1 hp).1;have a0:=Zk hp;refine⟨h.b1,h.b2,fun r e hr he=>?_,fun e he=>?_,h.okL,fun e he=>?_,by have:=h.lnL;omega,by have:=h.lnM;simp;omega⟩
 ·rcases Nat.lt_or_ge j r with h1|h1
  ·exact List.mem_append_left _ (h.p1 r e h1 he)
  ·obtain rfl:r=j:=by omega
   rw[hp] at he
   cases he
   simp
 ·rcases List.mem_append.1 he with he|he
  ·exact h.p2 e he
  ·simp only[List.mem_cons,List.mem_nil_iff,or_false] at he;rcases he with rfl|rfl
   ·exact .inl a0
   ·exact .inl hq
 ·rcases List.mem_append.1 he with he|he
  ·exact h.okM e he
  ·simp only[List.mem_cons,List.mem_nil_iff,or_false] at he;rcases he with rfl|rfl
   ·exact hi.pl _ a0
   ·exact hi.pl _ hq
theorem eB.done {l L:List En}{m:List ByteArray}(h:eB l m 0 r L M)(hl:l.length<=120)(hm:m.length<=120):z7 l m L M/\d7 L M:=
 ⟨⟨h.b1,h.b2,fun p hp=>by
  obtain⟨q,hq⟩:=List.getElem?_of_mem hp;exact h.p1 q p (Zj _) hq,h.p2⟩,⟨h.okL,h.okM,by have:=h.lnL;have:=h.lnM;omega⟩⟩
theorem eB.less {l L:List En}{m:List ByteArray}{j s:Nat}(h:eB l m j r L M)(hs:s<=r):eB l m j s L M:=⟨h.b1,h.b2,h.p1,h.p2,h.okL,h.okM,by have:=h.lnL;omega,by have:=h.lnM;omega⟩
def BS:ByteArray:=⟨#[47,97]⟩
theorem eB.more {l L:List En}{m:List ByteArray}{j:Nat}{s:ByteArray}(h:eB l m j (r+1) L M)(hi:d7 l m)(hp:p∈m)(hs:aT s)(hz:s.size<=1000000)(hu:cr s p=true):eB l m j r (L ++ [⟨s,BS,ea⟩,⟨p,⟨#[]⟩,vD⟩]) (M ++ [s]):=by
 have a0:dA s m=true:=ch.2 ⟨p,hp,hu⟩;have ha:aT BS:=iR rfl (by decide);refine⟨fun e he=>List.mem_append_left _ (h.b1 e he),fun e he=>?_,fun q e hq he=>List.mem_append_left _ (h.p1 q e hq he),fun e he=>?_,fun e he=>?_,fun e he=>?_,by have:=h.lnL;simp;omega,by have:=h.lnM;simp;omega⟩
 ·rcases List.mem_append.1 he with he|he
  ·exact h.b2 e he
  ·simp only[List.mem_cons,List.mem_nil_iff,or_false] at he;rcases he with rfl|rfl
   ·exact .inr a0
   ·exact .inr (z6 hp)
 ·rcases List.mem_append.1 he with he|he
  ·exact h.p2 e he
  ·rw[List.mem_singleton.1 he];exact .inr a0
 ·rcases List.mem_append.1 he with he|he
  ·exact h.okL e he
  ·simp only[List.mem_cons,List.mem_nil_iff,or_false] at he;rcases he with rfl|rfl
   ·exact⟨⟨hs,ha,.inr (Zk (i:=6) rfl)⟩,hz,by show(2:Nat)<=_;omega⟩
   ·exact⟨⟨(hi.pl _ hp).1,gC,.inl rfl⟩,(hi.pl _ hp).2,by show(0:Nat)<=_;omega⟩
 ·rcases List.mem_append.1 he with he|he
  ·exact h.okM e he
  ·rw[List.mem_singleton.1 he];exact⟨hs,hz⟩
