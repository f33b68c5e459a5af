import Derived.Test.YtgkkffeagolnpaaGreatDoorGZ16bk
import Derived.Test.YtgkkffeagolnpaaGreatDoorRows
import Derived.Deep.Strs
import Derived.Deep.Fields
set_option linter.unusedVariables false
set_option linter.unusedSimpArgs false
set_option maxHeartbeats 64000000
set_option maxRecDepth 100000
namespace Go.Proofs.YtgkkffeagolnpaaGreatDoor
open Go.RowKit Go.Shelf
variable {M l m y:List ByteArray}{xs ys:List UInt8}{base i r:Nat}{v v' xv yv:Value}{W w w':World}
def wG (p:Prop)(w:World)(e:Ending)(w':World):Prop:= ∃b:Bool,e =.returned (.bool b)/\(b=true->p)/\Below w.heap.size w w'
theorem mM {s:ByteArray}(hs:s.size<=2000000):Calls Tryz.prog 18 #[.string s] w (wG (aW s) w):=by
 have H:=Qa (kY (w:=w) hs);clear hs;go_enter Tryz.func18,Tryz.ntmps18;go_wp2_with fail;refine Za H ?_;rintro e w1 ⟨u,c,h,l,A,n,q,rfl,hc,a1⟩;unfold gF;have HZ:=Qa (Zf w1 (.cells #[.int .i64 0,.int .i64 0,.int .i64 0,.slice none 0 0] 66));have a0:=setRow_heap (w1.alloc (.cells #[.int .i64 0,.int .i64 0,.int .i64 0,.slice none 0 0] 66)) w1.heap.size _ #[.int .i64 c,.int .i64 h,.int .i64 l,.slice A n q] _ _ HZ.out;have d0:=ac a0 (j:=0) (u:=.int .i64 c) rfl;have Hb:=Qa (below_setRow (aj a1 (aa w1 (.cells #[.int .i64 0,.int .i64 0,.int .i64 0,.slice none 0 0] 66))) (show w.heap.size<=w1.heap.size from a1.size) #[.int .i64 c,.int .i64 h,.int .i64 l,.slice A n q]);have Hc:=Qa hc;clear a0 a1 hc;go_wp2_with (refine eX HZ.out ?_);go_ret;exact⟨_,rfl,fun h=>Hc.out (by simpa using h),Hb.out⟩
theorem gO {s:ByteArray}(hs:s.size<=2000000):Calls Tryz.prog 28 #[.string s] w (wG (aW s) w):=by
 have H:=Qa (kY (w:=w) hs);clear hs;go_enter Tryz.func28,Tryz.ntmps28;go_wp2_with fail;refine Za H ?_;rintro e w1 ⟨u,c,h,l,A,n,q,rfl,hc,a1⟩;unfold gF;have HZ:=Qa (Zf w1 (.cells #[.int .i64 0,.int .i64 0,.int .i64 0,.slice none 0 0] 66));have a0:=setRow_heap (w1.alloc (.cells #[.int .i64 0,.int .i64 0,.int .i64 0,.slice none 0 0] 66)) w1.heap.size _ #[.int .i64 c,.int .i64 h,.int .i64 l,.slice A n q] _ _ HZ.out;have d0:=ac a0 (j:=0) (u:=.int .i64 c) rfl;have Hb:=Qa (below_setRow (aj a1 (aa w1 (.cells #[.int .i64 0,.int .i64 0,.int .i64 0,.slice none 0 0] 66))) (show w.heap.size<=w1.heap.size from a1.size) #[.int .i64 c,.int .i64 h,.int .i64 l,.slice A n q]);have Hc:=Qa hc;clear a0 a1 hc;go_wp2_with (refine eX HZ.out ?_);go_ret;exact⟨_,rfl,fun h=>Hc.out (by simpa using h),Hb.out⟩
def GB (s:ByteArray)(w:World)(e:Ending)(w':World):Prop:= ∃z:Int,e =.returned (.int .i64 z)/\(0<z->s∈bP)/\Below w.heap.size w w'
theorem tM (w:World):Calls Tryz.prog 58 #[] w fun e w'=>e =.returned (.slice (some ⟨w.heap.size,0,none⟩) 32 32)/\w'=w.alloc (.cells (bP.map cn).toArray 9):=by
 go_enter Tryz.func58,Tryz.ntmps58;go_wp2;go_ret;exact⟨rfl,rfl⟩
theorem sE {s:ByteArray}:Calls Tryz.prog 29 #[.string s] w (GB s w):=by
 have Hc:=Qa (fun (i:Nat) a (h:bP[i]?=some a)=>show(w.alloc (.cells (bP.map cn).toArray 9)).cell? ⟨w.heap.size,i,none⟩=some (.string a) from av w (bP.map cn) 9 _ _ (by rw[List.getElem?_map,h];rfl));have Hb:=Qa (aa w (.cells (bP.map cn).toArray 9));have a0:=Qa (show bP.length=32 from rfl);go_enter Tryz.func29,Tryz.ntmps29;go_wp2_with fail;refine(tM w).mono ?_;rintro e w1 ⟨rfl,rfl⟩;generalize w.alloc (.cells (bP.map cn).toArray 9)=w1 at *;obtain⟨L,hL⟩:∃L,bP=L:=⟨_,rfl⟩;rw[hL] at Hc a0;have HL:=Qa hL;clear hL;go_wp2_with fail
 go_loopg [4] 32 (fun m s4 wr=> ∃i:Nat,m+i=32/\s4 =.int .i64 i/\wr=w1)
 case atStart=>exact⟨0,rfl,rfl,rfl⟩
 case round=>
  obtain⟨i,hm,rfl,rfl⟩:=hrel;have Hm:=Qa hm
  by_cases hlt:i<32
  ·have a2:(i:Int)<32:=by omega
   obtain⟨a,ha⟩:∃a,L[i]?=some a:=⟨_,Zd (by have:=a0.out;omega)⟩;have c1:=Hc.out i a ha
   by_cases hq:a=s
   ·have hb:(a.toList==s.toList)=true:=by rw[hq];simp
    have a1:=Qa (show s∈bP by rw[HL.out,<-hq];exact Zk ha);clear hq ha hm;go_wp2_with fail;go_ret;exact⟨_,rfl,fun _=>a1.out,Hb.out⟩
   ·have hb:(a.toList==s.toList)=false:=by
     rw[beq_eq_false_iff_ne];intro h;rw[ByteArray.toList_eq,ByteArray.toList_eq] at h;exact hq (by cases a with|mk x=>cases s with|mk y=>cases x with|mk x=>cases y with|mk y=>simp at h;rw[h])
    clear hq ha hm;go_wp2_with fail;go_roundg (32 - (i+1))
    case measure=>have:=Hm.out;omega
    case rel=>exact⟨i+1,by have:=Hm.out;omega,by go_num,rfl⟩
  ·obtain rfl:i=32:=by omega
   clear hlt hm Hm;go_wp2_with fail;go_ret;exact⟨0,rfl,fun h=>by omega,Hb.out⟩
theorem rW {e:En}(h1:e.eAt.size<=2000000)(h2:e.eSch.size<=2000000):Calls Tryz.prog 17 #[.agg #[.string e.eAt,.string e.eSch,.string e.eKw]] w fun r w'=>wG (gI e) w r w':=by
 have a4:=aa w (.cells #[.string e.eAt,.string e.eSch,.string e.eKw] 45);have a3:=Zf w (.cells #[.string e.eAt,.string e.eSch,.string e.eKw] 45);have c1:=ac a3 (j:=0) (u:=.string e.eAt) rfl;have Hx:=Qa a3;have Hb:=Qa a4;clear a4 a3;go_enter Tryz.func17,Tryz.ntmps17;go_wp2_with fail;generalize w.alloc (.cells #[.string e.eAt,.string e.eSch,.string e.eKw] 45)=w1 at *;refine(gO h1).mono ?_;rintro r w2 ⟨b1,rfl,a9,a2⟩;have c0:=Qa (aj Hb.out a2);have a5:=Qa (ah Hx.out a2);have c2:=ac a5.out (j:=1) (u:=.string e.eSch) rfl;have b5:=Qa a9;clear a2 c1 a9;go_wp2_with fail;refine(gO h2).mono ?_;rintro r w3 ⟨b2,rfl,b4,a1⟩;have a0:=Qa (aj c0.out a1);have b9:=Qa (ah a5.out a1);have c3:=ac b9.out (j:=2) (u:=.string e.eKw) rfl;have b0:=Qa b4;clear a1 c2 b4
 cases b1 with
 |false=>
  go_wp2_with fail;go_ret;exact⟨false,rfl,(fun h=>by cases h),a0.out⟩
 |true=>
  cases b2 with
  |false=>
   go_wp2_with fail;go_ret;exact⟨false,rfl,(fun h=>by cases h),a0.out⟩
  |true=>
   by_cases hf:e.eKw=Gf
   ·have c4:e.eKw.toList = [102,97,108,115,101]:=by rw[hf,ByteArray.toList_eq];rfl
    have Hk:=Qa (show AF e.eKw from .inl hf);clear hf;go_wp2_with fail;go_ret;exact⟨true,rfl,fun _=>⟨b5.out trivial,b0.out trivial,Hk.out⟩,a0.out⟩
   ·have c4:(e.eKw.toList == [102,97,108,115,101])=false:=by
     rw[beq_eq_false_iff_ne];intro h;rw[ByteArray.toList_eq] at h;exact hf (by cases hx:e.eKw with|mk d=>rw[hx] at h;simp only at h;unfold Gf;rw[<-h])
    clear hf;go_wp2_with fail;refine sE.mono ?_;rintro r w4 ⟨z,rfl,hz,b3⟩;have b8:=Qa (aj a0.out b3);have Hz:=Qa hz;clear b3 hz;go_wp2_with fail;go_ret;exact⟨decide (0<z),rfl,fun h=>⟨b5.out trivial,b0.out trivial,.inr (Hz.out (of_decide_eq_true h))⟩,b8.out⟩
def pY (w:World)(v:Value)(l:List En):Prop:=l.length<=2000000/\∃A c,v =.slice A l.length c/\l.length<=c/\∀ (i:Nat) e,l[i]?=some e->∃g o,A=some ⟨g,o,none⟩/\w.cell? ⟨g,o+i*3,none⟩=some (.string e.eAt)/\w.cell? ⟨g,o+i*3+1,none⟩=some (.string e.eSch)/\w.cell? ⟨g,o+i*3+2,none⟩=some (.string e.eKw)
def t6 (w:World)(v:Value)(l:List ByteArray):Prop:=l.length<=2000000/\∃A c,v =.slice A l.length c/\l.length<=c/\∀ (i:Nat) a,l[i]?=some a->∃g o,A=some ⟨g,o,none⟩/\w.cell? ⟨g,o+i,none⟩=some (.string a)
theorem pY.below {l:List En}(h:pY w v l)(hb:Below w.heap.size w w'):pY w' v l:=by
 obtain⟨h1,A,c,h2,h3,h4⟩:=h;exact⟨h1,A,c,h2,h3,fun i a ha=>by obtain⟨g,o,e,k1,k2,k3⟩:=h4 i a ha;exact⟨g,o,e,Zg hb k1,Zg hb k2,Zg hb k3⟩⟩
theorem t6.below (h:t6 w v l)(hb:Below w.heap.size w w'):t6 w' v l:=by
 obtain⟨h1,A,c,h2,h3,h4⟩:=h;exact⟨h1,A,c,h2,h3,fun i a ha=>by obtain⟨g,o,e,k⟩:=h4 i a ha;exact⟨g,o,e,Zg hb k⟩⟩
def iD:List En->Nat
 | []=>0
 |e::l=>e.eAt.size+e.eSch.size+e.eKw.size+iD l
def jE:List ByteArray->Nat
 | []=>0
 |a::l=>a.size+jE l
theorem xp (l m:List En):iD (l++m)=iD l+iD m:=by
 induction l with
 |nil=>simp[iD]
 |cons a l ih=>simp only[List.cons_append,iD,ih];omega
theorem wO (l m:List ByteArray):jE (l++m)=jE l+jE m:=by
 induction l with
 |nil=>simp[jE]
 |cons a l ih=>simp only[List.cons_append,jE,ih];omega
theorem Dr {l:List En}{e:En}(h:l[i]?=some e):iD (l.take (i+1))=iD (l.take i)+e.eAt.size+e.eSch.size+e.eKw.size/\iD (l.take (i+1))<=iD l:=by
 obtain⟨h1,h3⟩:=List.getElem?_eq_some_iff.1 h
 constructor
 ·rw[List.take_succ_eq_append_getElem h1,h3,xp];simp only[iD];omega
 ·have:=xp (l.take (i+1)) (l.drop (i+1));rw[List.take_append_drop] at this;omega
theorem AE {a:ByteArray}(h:l[i]?=some a):jE (l.take (i+1))=jE (l.take i)+a.size/\jE (l.take (i+1))<=jE l:=by
 obtain⟨h1,h3⟩:=List.getElem?_eq_some_iff.1 h
 constructor
 ·rw[List.take_succ_eq_append_getElem h1,h3,wO];simp only[jE];omega
 ·have:=wO (l.take (i+1)) (l.drop (i+1));rw[List.take_append_drop] at this;omega
def wu (x:List En)(y:List ByteArray):Prop:=x.length<=120/\y.length<=120/\iD x+jE y<=20000
theorem zv {x:List En}(hx:pY w xv x)(hy:t6 w yv y)(ht:iD x+jE y<=4000000):Calls Tryz.prog 5 #[xv,yv] w (wG (wu x y) w):=by
 obtain⟨a4,A,c,rfl,-,a1⟩:=hx;obtain⟨a3,A2,c2,rfl,-,a2⟩:=hy;have Hx:=Qa a1;have Hy:=Qa a2;clear a1 a2;go_enter Tryz.func5,Tryz.ntmps5;go_wp2_with fail
 go_loopg [5,6] x.length (fun m s5 s6 wr=> ∃i:Nat,m+i=x.length/\s6 =.int .i64 i/\s5 =.int .i64 (iD (x.take i))/\Hid (Below w.heap.size w wr))
 case atStart=>exact⟨0,rfl,rfl,rfl,Qa (Ze _ _)⟩
 case round=>
  obtain⟨i,hm,rfl,rfl,Hb⟩:=hrel;have Hm:=Qa hm
  by_cases hlt:i<x.length
  ·have a0:(i:Int)<x.length:=by omega
   obtain⟨e,he⟩:∃e,x[i]?=some e:=⟨_,Zd hlt⟩;obtain⟨g,o,rfl,k1,k2,k3⟩:=Hx.out i e he;have c1:=Zg Hb.out k1;have c2:=Zg Hb.out k2;have c3:=Zg Hb.out k3;obtain⟨z1,z2⟩:=Dr he;have Hz:=Qa z1;have hz:iD (x.take i)+e.eAt.size+e.eSch.size+e.eKw.size<=4000000:=by omega
   clear he k1 k2 k3 hm z1 z2;generalize iD (x.take i)=n0 at *;go_wp2_with fail;go_quiet (fail);go_wp2_with fail;go_roundg (x.length - (i+1))
   case measure=>have:=Hm.out;omega
   case rel=>exact⟨i+1,by have:=Hm.out;omega,by go_num,by rw[Hz.out];go_num,Qa (ap Hb.out nq)⟩
  ·obtain rfl:i=x.length:=by omega
   have a0:¬ (x.length:Int)<x.length:=by omega
   rw[List.take_length];have a5:iD x<=4000000:=by omega
   clear hm hlt Hm;go_wp2_with fail
   go_loopg [5,7] y.length (fun m s5 s7 wr=> ∃i:Nat,m+i=y.length/\s7 =.int .i64 i/\s5 =.int .i64 (iD x+jE (y.take i):Nat)/\Hid (Below w.heap.size w wr))
   case atStart=>exact⟨0,rfl,rfl,rfl,Hb⟩
   case round=>
    clear Hb;obtain⟨i,hm,rfl,rfl,Hb⟩:=hrel;have Hm:=Qa hm
    by_cases hlt:i<y.length
    ·have a0:(i:Int)<y.length:=by omega
     obtain⟨a,ha⟩:∃a,y[i]?=some a:=⟨_,Zd hlt⟩;obtain⟨g,o,rfl,k1⟩:=Hy.out i a ha;have c1:=Zg Hb.out k1;obtain⟨z1,z2⟩:=AE ha;have Hz:=Qa z1;have hz:iD x+jE (y.take i)+a.size<=4000000:=by omega
     clear ha k1 hm z1 z2;generalize jE (y.take i)=n1 at *;generalize hn2:iD x+n1=n2 at *;have Hn2:=Qa hn2;clear hn2;go_wp2_with fail;go_roundg (y.length - (i+1))
     case measure=>have:=Hm.out;omega
     case rel=>exact⟨i+1,by have:=Hm.out;omega,by go_num,by rw[Hz.out];have:=Hn2.out;go_num,Hb⟩
    ·obtain rfl:i=y.length:=by omega
     have a0:¬ (y.length:Int)<y.length:=by omega
     rw[List.take_length];clear hm hlt Hm
     by_cases k1:x.length<=120
     ·have k1i:(x.length:Int)<=120:=by omega
      by_cases k2:y.length<=120
      ·have k2i:(y.length:Int)<=120:=by omega
       by_cases k3:iD x+jE y<=20000
       ·have k3i:(iD x:Int)+jE y<=20000:=by omega
        go_wp2_with fail;go_ret;exact⟨true,by simp,fun _=>⟨k1,k2,k3⟩,Hb.out⟩
       ·have k3i:¬ (iD x:Int)+jE y<=20000:=by omega
        go_wp2_with fail;go_ret;exact⟨false,by simp,(fun h=>by cases h),Hb.out⟩
      ·have k2i:¬ (y.length:Int)<=120:=by omega
       go_wp2_with fail;go_ret;exact⟨false,by simp,(fun h=>by cases h),Hb.out⟩
     ·have k1i:¬ (x.length:Int)<=120:=by omega
      go_wp2_with fail;go_ret;exact⟨false,by simp,(fun h=>by cases h),Hb.out⟩
def zT (x:List En)(y:List ByteArray)(w:World)(e:Ending)(w':World):Prop:= ∃ (u v:Value) (l:List En) (m:List ByteArray),e =.returned (.tuple #[u,v])/\bG w' w.heap.size u l/\aV w' w.heap.size v m/\(∀e∈l,gI e/\e∈x)/\(∀p∈m,aW p/\p∈y)/\l.length<=120/\m.length<=120/\Below w.heap.size w w'
theorem BQ {x:List En}(hx:pY w xv x)(hy:t6 w yv y)(hs:∀e∈x,e.eAt.size<=2000000/\e.eSch.size<=2000000)(ht:∀p∈y,p.size<=2000000):Calls Tryz.prog 6 #[xv,yv] w (zT x y w):=by
 obtain⟨c9,A,c,rfl,-,c4⟩:=hx;obtain⟨c8,A2,c2,rfl,-,c5⟩:=hy;have Hx:=Qa c4;have Hy:=Qa c5;have HB:=Qa (fun (e:En) (he:e∈x) W=>rW (w:=W) (hs e he).1 (hs e he).2);have HP:=Qa (fun (p:ByteArray) (hp:p∈y) W=>mM (w:=W) (ht p hp));clear c4 c5 hs ht;go_enter Tryz.func6,Tryz.ntmps6;go_wp2_with fail
 go_loopg [6,8] 120 (fun m s6 s8 wr=> ∃i:Nat,m+i=120/\s8 =.int .i64 i/\Hid (∃l:List En,l.length<=i/\(∀e∈l,gI e/\e∈x)/\bG wr w.heap.size s6 l)/\Hid (Below w.heap.size w wr))
 case atStart=>exact⟨0,rfl,rfl,Qa ⟨[],by simp,fun e he=>by simp at he,bG.nil _ _⟩,Qa (Ze _ _)⟩
 case round=>
  obtain⟨i,hm,rfl,HE,Hb⟩:=hrel;have Hm:=Qa hm
  by_cases hlt:i<x.length/\i<120
  ·have a9:(i:Int)<x.length:=by omega
   have a4:(i:Int)<120:=by omega
   obtain⟨e,he⟩:∃e,x[i]?=some e:=⟨_,Zd hlt.1⟩;obtain⟨g,o,rfl,k1,k2,k3⟩:=Hx.out i e he;have c1:=Zg Hb.out k1;have c2:=Zg Hb.out k2;have c3:=Zg Hb.out k3;have a0:=Qa (HB.out e (Zk he) wr);have a1:=Qa (Zk he);have Hk:=Qa (And.intro k1 (And.intro k2 k3));clear he k1 k2 k3 hm;go_wp2_with fail;refine Za a0 ?_;rintro r w2 ⟨b,rfl,b8,a3⟩;have Hb2:=Qa (aj Hb.out a3);have c1:=Zg Hb2.out Hk.out.1;have c2:=Zg Hb2.out Hk.out.2.1;have c3:=Zg Hb2.out Hk.out.2.2;obtain⟨l,c6,b0,hE⟩:=HE.out;have Hlo:=Qa b0;have HE2:=Qa (show bG w2 w.heap.size u6 l from ai hE a3 (Zb _));clear a3 b0 hE
   cases b with
   |false=>
    go_wp2_with fail;go_roundg (120 - (i+1))
    case measure=>have:=Hm.out;omega
    case rel=>exact⟨i+1,by omega,by go_num,Qa ⟨l,by omega,Hlo.out,HE2.out⟩,Hb2⟩
   |true=>
    have b5:=Qa (b8 rfl);have b1:=Qa (show bG (w2.alloc (.cells #[.string e.eAt,.string e.eSch,.string e.eKw] 45)) w.heap.size u6 l from ai HE2.out (aa _ _) (Zb _));have a2:=Qa (aj Hb2.out (aa w2 (.cells #[.string e.eAt,.string e.eSch,.string e.eKw] 45)));go_wp2_with (at_builtin;refine j3 tz b1.out (av w2 (dW e) 45) a2.out.size ?_ (h1:=(by simp[dW,Value.oneCell'])) (hlen:=by unfold maxLen;omega) (hby:=by omega);intro v' w5 p1 p2 p3;have b9:=Qa p1;have b4:=Qa (aF a2.out b1.out a2.out.size p2);clear p1 p2 p3);go_roundg (120 - (i+1))
    case measure=>have:=Hm.out;omega
    case rel=>
     refine⟨i+1,by omega,by go_num,Qa ⟨l ++ [e],by simp;omega,fun a ha=>?_,?_⟩,b4⟩
     ·rcases List.mem_append.1 ha with ha|ha
      ·exact Hlo.out a ha
      ·rw[List.mem_singleton.1 ha];exact⟨b5.out,a1.out⟩
     ·unfold bG;rw[<-de,List.length_append];exact b9.out
  ·have hend:(¬ (i:Int)<x.length)\/((i:Int)<x.length/\¬ (i:Int)<120):=by omega
   have hi:i<=120:=by omega
   have c0:=Qa (show ∃l:List En,l.length<=120/\(∀e∈l,gI e/\e∈x)/\bG wr w.heap.size u6 l from by
    obtain⟨l,h1,h2,h3⟩:=HE.out;exact⟨l,by omega,h2,h3⟩)
   clear HE hm hlt Hm;obtain⟨wo,rfl⟩:∃wo,wo=wr:=⟨wr,rfl⟩;rcases hend with a9|⟨a9,a4⟩
   ·go_wp2_with fail;have a5:=Qa Hb.out;clear Hb
    go_loopg [7,10] 120 (fun m s7 s10 wr=> ∃i:Nat,m+i=120/\s10 =.int .i64 i/\Hid (∃l:List ByteArray,l.length<=i/\(∀e∈l,aW e/\e∈y)/\aV wr wo.heap.size s7 l)/\Hid (Below wo.heap.size wo wr))
    case atStart=>exact⟨0,rfl,rfl,Qa ⟨[],by simp,fun e he=>by simp at he,aV.nil _ _⟩,Qa (Ze _ _)⟩
    case round=>
     obtain⟨i,hm,rfl,HS,Hb⟩:=hrel;have Hm:=Qa hm
     by_cases hlt:i<y.length/\i<120
     ·have a9:(i:Int)<y.length:=by omega
      have a4:(i:Int)<120:=by omega
      obtain⟨e,he⟩:∃e,y[i]?=some e:=⟨_,Zd hlt.1⟩;obtain⟨g,o,rfl,k1⟩:=Hy.out i e he;have c1:=Zg (aj a5.out Hb.out) k1;have a0:=Qa (HP.out e (Zk he) wr);have a1:=Qa (Zk he);have Hk:=Qa k1;clear he k1 hm;go_wp2_with fail;refine Za a0 ?_;rintro r w2 ⟨b,rfl,b8,a3⟩;have Hb2:=Qa (aj Hb.out a3);have c1:=Zg (aj a5.out Hb2.out) Hk.out;obtain⟨l,c6,b0,hE⟩:=HS.out;have Hlo:=Qa b0;have HE2:=Qa (show aV w2 wo.heap.size u7 l from ai hE a3 (Zb _));clear a3 b0 hE
      cases b with
      |false=>
       go_wp2_with fail;go_roundg (120 - (i+1))
       case measure=>have:=Hm.out;omega
       case rel=>exact⟨i+1,by omega,by go_num,Qa ⟨l,by omega,Hlo.out,HE2.out⟩,Hb2⟩
      |true=>
       have b5:=Qa (b8 rfl);have b1:=Qa (show aV (w2.alloc (.cells #[.string e] 9)) wo.heap.size u7 l from ai HE2.out (aa _ _) (Zb _));have a2:=Qa (aj Hb2.out (aa w2 (.cells #[.string e] 9)));go_wp2_with (at_builtin;refine j3 jx b1.out (av w2 [cn e] 9) a2.out.size ?_ (h1:=(by simp[cn,Value.oneCell'])) (hlen:=by unfold maxLen;omega) (hby:=by omega);intro v' w5 p1 p2 p3;have b9:=Qa p1;have b4:=Qa (aF a2.out b1.out a2.out.size p2);clear p1 p2 p3);go_roundg (120 - (i+1))
       case measure=>have:=Hm.out;omega
       case rel=>
        refine⟨i+1,by omega,by go_num,Qa ⟨l ++ [e],by simp;omega,fun a ha=>?_,?_⟩,b4⟩
        ·rcases List.mem_append.1 ha with ha|ha
         ·exact Hlo.out a ha
         ·rw[List.mem_singleton.1 ha];exact⟨b5.out,a1.out⟩
        ·unfold aV;rw[List.map_append,List.length_append];exact b9.out
     ·have hend:(¬ (i:Int)<y.length)\/((i:Int)<y.length/\¬ (i:Int)<120):=by omega
      have c7:i<=120:=by omega
      obtain⟨l,k1,k2,k3⟩:=c0.out;obtain⟨m,k4,k5,k6⟩:=HS.out;have HK:=Qa (show zT x y w (.returned (.tuple #[u6,u7])) wr from⟨_,_,l,m,rfl,ai k3 Hb.out (Zb _),bj k6 a5.out.size,k2,k5,k1,by omega,aj a5.out Hb.out⟩);obtain⟨A5,q5,rfl,-⟩:=ag k3;obtain⟨A6,q6,rfl,-⟩:=ag k6;clear hm hlt Hm k1 k2 k3 k4 k5 k6 HS c0;rcases hend with b2|⟨b2,b3⟩
      ·go_wp2_with fail;go_ret2;exact HK.out
      ·go_wp2_with fail;go_ret2;exact HK.out
   ·go_wp2_with fail;have a5:=Qa Hb.out;clear Hb
    go_loopg [7,10] 120 (fun m s7 s10 wr=> ∃i:Nat,m+i=120/\s10 =.int .i64 i/\Hid (∃l:List ByteArray,l.length<=i/\(∀e∈l,aW e/\e∈y)/\aV wr wo.heap.size s7 l)/\Hid (Below wo.heap.size wo wr))
    case atStart=>exact⟨0,rfl,rfl,Qa ⟨[],by simp,fun e he=>by simp at he,aV.nil _ _⟩,Qa (Ze _ _)⟩
    case round=>
     obtain⟨i,hm,rfl,HS,Hb⟩:=hrel;have Hm:=Qa hm
     by_cases hlt:i<y.length/\i<120
     ·have a9:(i:Int)<y.length:=by omega
      have a4:(i:Int)<120:=by omega
      obtain⟨e,he⟩:∃e,y[i]?=some e:=⟨_,Zd hlt.1⟩;obtain⟨g,o,rfl,k1⟩:=Hy.out i e he;have c1:=Zg (aj a5.out Hb.out) k1;have a0:=Qa (HP.out e (Zk he) wr);have a1:=Qa (Zk he);have Hk:=Qa k1;clear he k1 hm;go_wp2_with fail;refine Za a0 ?_;rintro r w2 ⟨b,rfl,b8,a3⟩;have Hb2:=Qa (aj Hb.out a3);have c1:=Zg (aj a5.out Hb2.out) Hk.out;obtain⟨l,c6,b0,hE⟩:=HS.out;have Hlo:=Qa b0;have HE2:=Qa (show aV w2 wo.heap.size u7 l from ai hE a3 (Zb _));clear a3 b0 hE
      cases b with
      |false=>
       go_wp2_with fail;go_roundg (120 - (i+1))
       case measure=>have:=Hm.out;omega
       case rel=>exact⟨i+1,by omega,by go_num,Qa ⟨l,by omega,Hlo.out,HE2.out⟩,Hb2⟩
      |true=>
       have b5:=Qa (b8 rfl);have b1:=Qa (show aV (w2.alloc (.cells #[.string e] 9)) wo.heap.size u7 l from ai HE2.out (aa _ _) (Zb _));have a2:=Qa (aj Hb2.out (aa w2 (.cells #[.string e] 9)));go_wp2_with (at_builtin;refine j3 jx b1.out (av w2 [cn e] 9) a2.out.size ?_ (h1:=(by simp[cn,Value.oneCell'])) (hlen:=by unfold maxLen;omega) (hby:=by omega);intro v' w5 p1 p2 p3;have b9:=Qa p1;have b4:=Qa (aF a2.out b1.out a2.out.size p2);clear p1 p2 p3);go_roundg (120 - (i+1))
       case measure=>have:=Hm.out;omega
       case rel=>
        refine⟨i+1,by omega,by go_num,Qa ⟨l ++ [e],by simp;omega,fun a ha=>?_,?_⟩,b4⟩
        ·rcases List.mem_append.1 ha with ha|ha
         ·exact Hlo.out a ha
         ·rw[List.mem_singleton.1 ha];exact⟨b5.out,a1.out⟩
        ·unfold aV;rw[List.map_append,List.length_append];exact b9.out
     ·have hend:(¬ (i:Int)<y.length)\/((i:Int)<y.length/\¬ (i:Int)<120):=by omega
      have c7:i<=120:=by omega
      obtain⟨l,k1,k2,k3⟩:=c0.out;obtain⟨m,k4,k5,k6⟩:=HS.out;have HK:=Qa (show zT x y w (.returned (.tuple #[u6,u7])) wr from⟨_,_,l,m,rfl,ai k3 Hb.out (Zb _),bj k6 a5.out.size,k2,k5,k1,by omega,aj a5.out Hb.out⟩);obtain⟨A5,q5,rfl,-⟩:=ag k3;obtain⟨A6,q6,rfl,-⟩:=ag k6;clear hm hlt Hm k1 k2 k3 k4 k5 k6 HS c0;rcases hend with b2|⟨b2,b3⟩
      ·go_wp2_with fail;go_ret2;exact HK.out
      ·go_wp2_with fail;go_ret2;exact HK.out
theorem wR {l:List En}:∀ {e:En},e∈l->e.eAt.size+e.eSch.size+e.eKw.size<=iD l:=by
 induction l with
 |nil=>intro e he;simp at he
 |cons a l ih=>
  intro e he;simp only[iD];rcases List.mem_cons.1 he with rfl|he
  ·omega
  ·have:=ih he;omega
theorem wW:∀ {e:ByteArray},e∈l->e.size<=jE l:=by
 induction l with
 |nil=>intro e he;simp at he
 |cons a l ih=>
  intro e he;simp only[jE];rcases List.mem_cons.1 he with rfl|he
  ·omega
  ·have:=ih he;omega
theorem FG {x l:List En}(hs:wu x y)(hl:∀e∈l,gI e/\e∈x)(hm:∀p∈m,aW p/\p∈y)(h1:l.length<=120)(h2:m.length<=120):dM l m:=by
 obtain⟨-,-,h3⟩:=hs;refine⟨fun e he=>⟨(hl e he).1,?_⟩,fun p hp=>⟨(hm p hp).1,?_⟩,by omega⟩
 ·have:=wR (hl e he).2;exact⟨by omega,by omega⟩
 ·have:=wW (hm p hp).2;omega
structure CW (l:List En) (m:List ByteArray) (L:List En) (M:List ByteArray):Prop where
 b1:∀e∈l,e∈L
 b2:∀e∈L,e∈l\/dV e.eAt m=true
 p1:∀p∈m,p∈M
 p2:∀p∈M,p∈m\/dV p m=true
theorem CW.same {l L:List En}(h:CW l m L M){es fs:List En}(h1:bu l m es)(h2:bu L M fs):es=fs:=h1.uniq h2 (CB h.b1 h.b2 h.p1 h.p2)
structure zz (l:List En) (j:Nat) (L:List En):Prop where
 sub:∀e∈L,e∈l
 has:∀ (q:Nat) e,j<=q->l[q]?=some e->e∈L
 len:L.length<=2* (l.length - j)
theorem zz.nil (l:List En):zz l l.length []:=⟨fun e he=>by simp at he,fun q e hq he=>by have:=(List.getElem?_eq_some_iff.1 he).1;omega,by simp⟩
theorem zz.next {l L:List En}{j:Nat}{a b:En}(h:zz l (j+1) L)(ha:l[j]?=some a)(hb:b∈l):zz l j (L ++ [a,b]):=by
 have hj:=(List.getElem?_eq_some_iff.1 ha).1;refine⟨fun e he=>?_,fun q e hq he=>?_,?_⟩
 ·rcases List.mem_append.1 he with he|he
  ·exact h.sub e he
  ·simp only[List.mem_cons,List.mem_nil_iff,or_false] at he;rcases he with rfl|rfl
   ·exact Zk ha
   ·exact hb
 ·rcases Nat.lt_or_ge j q with h1|h1
  ·exact List.mem_append_left _ (h.has q e h1 he)
  ·obtain rfl:q=j:=by omega
   rw[ha] at he
   cases he
   simp
 ·have:=h.len;simp;omega
structure vA (l:List En) (m:List ByteArray) (j r:Nat) (L:List En) (M:List ByteArray):Prop where
 b1:∀e∈l,e∈L
 b2:∀e∈L,e∈l\/dV e.eAt m=true
 p1:∀ (q:Nat) p,j<=q->m[q]?=some p->p∈M
 p2:∀p∈M,p∈m\/dV p m=true
 okL:∀e∈L,gI e/\FM 1000000 e
 okM:∀p∈M,aW p/\p.size<=1000000
 lnL:L.length+2*r<=2*l.length+16* (m.length - j)
 lnM:M.length+r<=10* (m.length - j)
theorem BZ (p:ByteArray):cV p p=true:=fF.2 (.inl rfl)
theorem CM {p:ByteArray}(h:p∈m):dV p m=true:=cF.2 ⟨p,h,BZ p⟩
theorem vA.start {l L:List En}(h:zz l 0 L)(hi:dM l m):vA l m m.length 0 L []:=
 ⟨fun e he=>by
  obtain⟨q,hq⟩:=List.getElem?_of_mem he;exact h.has q e (Zj _) hq,fun e he=>.inl (h.sub e he),fun q p hq hp=>by have:=(List.getElem?_eq_some_iff.1 hp).1;omega,fun p hp=>by simp at hp,fun e he=>hi.bl e (h.sub e he),fun p hp=>by simp at hp,by have:=h.len;omega,by simp⟩
theorem vA.done {l L:List En}(h:vA l m 0 r L M)(hl:l.length<=120)(hm:m.length<=120):CW l m L M/\dM L M:=
 ⟨⟨h.b1,h.b2,fun p hp=>by
  obtain⟨q,hq⟩:=List.getElem?_of_mem hp;exact h.p1 q p (Zj _) hq,h.p2⟩,⟨h.okL,h.okM,by have:=h.lnL;have:=h.lnM;omega⟩⟩
def J5:ByteArray:=⟨#[47,97]⟩
theorem vA.more {l L:List En}{j:Nat}{p s:ByteArray}(h:vA l m j (r+1) L M)(hi:dM l m)(hp:p∈m)(hs:aW s)(hz:s.size<=1000000)(hu:cV s p=true):vA l m j r (L ++ [⟨s,J5,lX⟩,⟨p,⟨#[]⟩,Gf⟩]) (M ++ [s]):=by
 have a0:dV s m=true:=cF.2 ⟨p,hp,hu⟩;have ha:aW J5:=jN rfl (by decide);refine⟨fun e he=>List.mem_append_left _ (h.b1 e he),fun e he=>?_,fun q e hq he=>List.mem_append_left _ (h.p1 q e hq he),fun e he=>?_,fun e he=>?_,fun e he=>?_,by have:=h.lnL;simp;omega,by have:=h.lnM;simp;omega⟩
 ·rcases List.mem_append.1 he with he|he
  ·exact h.b2 e he
  ·simp only[List.mem_cons,List.mem_nil_iff,or_false] at he;rcases he with rfl|rfl
   ·exact .inr a0
   ·exact .inr (CM hp)
 ·rcases List.mem_append.1 he with he|he
  ·exact h.p2 e he
  ·rw[List.mem_singleton.1 he];exact .inr a0
 ·rcases List.mem_append.1 he with he|he
  ·exact h.okL e he
  ·simp only[List.mem_cons,List.mem_nil_iff,or_false] at he;rcases he with rfl|rfl
   ·exact⟨⟨hs,ha,.inr (Zk (i:=6) rfl)⟩,hz,by show(2:Nat)<=_;omega⟩
   ·exact⟨⟨(hi.pl _ hp).1,ig,.inl rfl⟩,(hi.pl _ hp).2,by show(0:Nat)<=_;omega⟩
 ·rcases List.mem_append.1 he with he|he
  ·exact h.okM e he
  ·rw[List.mem_singleton.1 he];exact⟨hs,hz⟩
theorem lB (h:Bs w v xs)(h':Bs w v' ys):Calls Tryz.prog 10 #[v,v'] w fun e w'=>e =.returned (.bool (decide (xs=ys)))/\w=w':=by
 have c1:=aI h;have c2:=aI h';have He:Hid (((⟨xs.toArray⟩:ByteArray).toList== (⟨ys.toArray⟩:ByteArray).toList)=decide (xs=ys)):=Qa (by
  rw[lN,lN,Bool.eq_iff_iff];simp)
 clear h h';generalize (⟨xs.toArray⟩:ByteArray)=a at *;generalize (⟨ys.toArray⟩:ByteArray)=b at *;go_enter Tryz.func10,Tryz.ntmps10;go_wp2_with fail;go_ret;rw[<-He.out];exact⟨rfl,rfl⟩
theorem uX {l:List En}(hv:qV w v l):Calls Tryz.prog 9 #[v] w (DL l w):=by
 obtain⟨hl,A,c,rfl,-,hc⟩:=hv;have Hc:=Qa hc;clear hc;go_enter Tryz.func9,Tryz.ntmps9;go_wp2_with fail
 go_loopg [4,5,6] l.length (fun m s4 s5 s6 wr=> ∃i:Nat,m+i=l.length/\s6 =.int .i64 i/\Hid (bG wr w.heap.size s4 (dn (l.take i)))/\Hid (aV wr w.heap.size s5 (db (l.take i)))/\Hid (Below w.heap.size w wr))
 case atStart=>exact⟨0,rfl,rfl,Qa (by simpa [dn] using bG.nil _ _),Qa (by simpa [db] using aV.nil _ _),Qa (Ze _ _)⟩
 case round=>
  obtain⟨i,hm,rfl,HE,HS,Hb⟩:=hrel;have Hm:=Qa hm
  by_cases hlt:i<l.length
  ·have b3:(i:Int)<l.length:=by omega
   obtain⟨e,he⟩:∃e,l[i]?=some e:=⟨_,Zd hlt⟩;obtain⟨g,o,rfl,k1,k2,k3⟩:=Hc.out i e he;have c1:=Zg Hb.out k1;have c2:=Zg Hb.out k2;have c3:=Zg Hb.out k3;have a4:=Qa (show l.take (i+1)=l.take i ++ [e] by
    obtain⟨h1,h3⟩:=List.getElem?_eq_some_iff.1 he;rw[List.take_succ_eq_append_getElem h1,h3])
   have b4:=cB (l.take i);rw[List.length_take] at b4;have a3:=Qa (show(dn (l.take i)).length<=1000000/\(db (l.take i)).length<=1000000 by omega);clear b4 he k1 k2 k3 hm
   by_cases hq:e.eKw=lK
   ·have b9:=tX hq;have b2:=Qa (show dn (l.take (i+1))=dn (l.take i) by rw[a4.out,fg,if_pos hq,List.append_nil]);have a9:=Qa (show db (l.take (i+1))=db (l.take i) ++ [e.eAt] by rw[a4.out,fi,if_pos hq]);clear hq;have a0:=Qa (aj Hb.out (aa wr (.cells #[.string e.eAt] 9)));have a2:=Qa (show bG (wr.alloc (.cells #[.string e.eAt] 9)) w.heap.size u4 (dn (l.take i)) from ai HE.out (aa _ _) (Zb _));have a1:=Qa (show aV (wr.alloc (.cells #[.string e.eAt] 9)) w.heap.size u5 (db (l.take i)) from ai HS.out (aa _ _) (Zb _));have b0:=Qa (show ∀ (j:Nat) u, [cn e.eAt][j]?=some u->(wr.alloc (.cells #[.string e.eAt] 9)).cell? ⟨wr.heap.size,j,none⟩=some u from av wr [cn e.eAt] 9);clear HE HS Hb;go_wp2_with (at_builtin;refine j3 jx a1.out b0.out a0.out.size ?_ (h1:=(by simp[cn,Value.oneCell'])) (hlen:=by have:=a3.out;unfold maxLen;omega) (hby:=by have:=a3.out;omega);intro v' w5 p1 p2 p3;have b1:=Qa p1;have a5:=Qa (aF a0.out a1.out a0.out.size p2);have b5:=Qa (na a1.out a2.out p2);clear p1 p2 p3);go_roundg (l.length - (i+1))
    case measure=>have:=Hm.out;omega
    case rel=>
     refine⟨i+1,by omega,by go_num,Qa (by rw[b2.out];exact b5.out),Qa ?_,a5⟩;rw[a9.out];unfold aV;rw[List.map_append,List.length_append];exact b1.out
   ·have b9:(e.eKw.toList == [120,45,115,101,99,114,101,116])=false:=by rw[beq_eq_false_iff_ne];exact zO hq
    have b2:=Qa (show dn (l.take (i+1))=dn (l.take i) ++ [e] by rw[a4.out,fg,if_neg hq]);have a9:=Qa (show db (l.take (i+1))=db (l.take i) by rw[a4.out,fi,if_neg hq,List.append_nil]);clear hq;have a0:=Qa (aj Hb.out (aa wr (.cells #[.string e.eAt,.string e.eSch,.string e.eKw] 45)));have a2:=Qa (show bG (wr.alloc (.cells #[.string e.eAt,.string e.eSch,.string e.eKw] 45)) w.heap.size u4 (dn (l.take i)) from ai HE.out (aa _ _) (Zb _));have a1:=Qa (show aV (wr.alloc (.cells #[.string e.eAt,.string e.eSch,.string e.eKw] 45)) w.heap.size u5 (db (l.take i)) from ai HS.out (aa _ _) (Zb _));have b0:=Qa (show ∀ (j:Nat) u,(dW e)[j]?=some u->(wr.alloc (.cells #[.string e.eAt,.string e.eSch,.string e.eKw] 45)).cell? ⟨wr.heap.size,j,none⟩=some u from av wr (dW e) 45);clear HE HS Hb;go_wp2_with (at_builtin;refine j3 tz a2.out b0.out a0.out.size ?_ (h1:=(by simp[dW,Value.oneCell'])) (hlen:=by have:=a3.out;unfold maxLen;omega) (hby:=by have:=a3.out;omega);intro v' w5 p1 p2 p3;have b1:=Qa p1;have a5:=Qa (aF a0.out a2.out a0.out.size p2);have b8:=Qa (ky a1.out a2.out p2);clear p1 p2 p3);go_roundg (l.length - (i+1))
    case measure=>have:=Hm.out;omega
    case rel=>
     refine⟨i+1,by omega,by go_num,Qa ?_,Qa (by rw[a9.out];exact b8.out),a5⟩;rw[b2.out];unfold bG;rw[<-de,List.length_append];exact b1.out
  ·have b3:¬ (i:Int)<l.length:=by omega
   obtain rfl:i=l.length:=by omega
   rw[List.take_length] at HE HS;obtain⟨A1,q1,rfl,-⟩:=ag HE.out;obtain⟨A2,q2,rfl,-⟩:=ag HS.out;clear hm;go_wp2_with fail;go_ret2;exact⟨_,_,rfl,HE.out,HS.out,Hb.out⟩
open Go.ChangeShapes Go.WideShapes Go.Deep
section
variable {H:Type}{enc:TypeId×Value->H}
theorem od {a:Addr}(h:W.cell? (a.add 0)=some v):∃b o,a= ⟨b,o,none⟩:=by
 obtain⟨b,o,sp⟩:=a
 cases sp with
 |none=>exact⟨b,o,rfl⟩
 |some s=>exfalso;simp[Addr.add,World.cell?] at h;split at h <;> simp at h
theorem yQ (f:Nat->ByteArray)(L:List Nat):Rows.uptoBulkAll (H:=H) (L.map fun i=>.lit (.string (f i).data.toList))=L.length+jE (L.map f):=by
 induction L with
 |nil=>simp[Rows.uptoBulkAll,jE]
 |cons a L ih=>
  simp only[List.map_cons,Rows.uptoBulkAll,Rows.uptoBulk,jE,ih,List.length_cons];have:(f a).data.toList.length= (f a).size:=by simp
  omega
theorem o8 {d:DataW H}{ps:List MemPlace}(hv:Value.okWide Tryz.prog W .any base 23 v)(hj:DataW.Trod enc Tryz.prog W 0 (fun _=>true) true 23 v d ps):∃l:List ByteArray,l.length+jE l<=Rows.uptoBulk d/\(l.length<=2000000->t6 W v l):=by
 obtain⟨a,len,cap,rfl⟩:=okWide_slice Tryz.underlying23 hv;obtain⟨fuel,hf⟩:=hj;rcases open_strs Tryz.underlying23 Tryz.underlying9 (by kernel_rfl) hf with ⟨a0,hx⟩|⟨a',len',cap',m,Sx,a0,_,hl,_,hm,hx,hc⟩
 ·obtain⟨rfl,rfl,rfl⟩:=Value.slice.inj (List.cons.inj a0).1;exact⟨[],by simp[jE],fun _=>⟨by simp,none,0,rfl,Zb _,fun i a ha=>by simp at ha⟩⟩
 ·obtain⟨rfl,rfl,rfl⟩:=Value.slice.inj (List.cons.inj a0).1;simp only[if_true] at hm;have hd:=congrArg Prod.fst hx;simp only at hd;subst hd;refine⟨(List.range len).map Sx,?_,fun h2=>⟨by simpa using h2,some a',cap,by simp,by simpa using hl,fun i b hb=>?_⟩⟩
  ·have:=yQ (H:=H) Sx (List.range len);rw[Rows.uptoBulk,this];simp;omega
  ·have hi:=(List.getElem?_eq_some_iff.1 hb).1;simp at hi;obtain⟨h3,-⟩:=hc i (by omega);obtain⟨b0,o0,rfl⟩:=od (hc 0 (by omega)).1;refine⟨b0,o0,rfl,?_⟩;have e1:(⟨b0,o0,none⟩:Addr).add i= ⟨b0,o0+i,none⟩:=by unfold Addr.add;split <;> simp_all
   rw[e1] at h3;rw[h3];simp[hi] at hb;rw[hb]
theorem yX (D:Nat->DataW H)(E:Nat->En)(L:List Nat)(h:∀i∈L,Rows.uptoBulk (D i)=4+ ((E i).eAt.size+ (E i).eSch.size+ (E i).eKw.size)):L.length+iD (L.map E)<=Rows.uptoBulkAll (H:=H) (L.map D):=by
 induction L with
 |nil=>simp[iD]
 |cons a L ih=>
  have h1:=h a (by simp);have h2:=ih fun i hi=>h i (by simp[hi])
  simp only[List.map_cons,Rows.uptoBulkAll,iD,h1,List.length_cons];omega
theorem oZ {d:DataW H}{ps:List MemPlace}(hv:Value.okWide Tryz.prog W .any base 22 v)(hj:DataW.Trod enc Tryz.prog W 0 (fun _=>true) true 22 v d ps):∃l:List En,l.length+iD l<=Rows.uptoBulk d/\(l.length<=2000000->pY W v l):=by
 obtain⟨a,len,cap,rfl⟩:=okWide_slice Tryz.underlying22 hv;obtain⟨fuel,hf⟩:=hj;have b4:Tryz.prog.cellsOf 45=3:=by kernel_rfl
 rcases open_slice Tryz.underlying22 hf with ⟨a5,hx⟩|⟨a',len',cap',m,n,D,Pl,a5,_,hl,_,hm,hx,hc⟩
 ·obtain⟨rfl,rfl,rfl⟩:=Value.slice.inj (List.cons.inj a5).1;exact⟨[],by simp[iD],fun _=>⟨by simp,none,0,rfl,Zb _,fun i a ha=>by simp at ha⟩⟩
 ·obtain⟨rfl,rfl,rfl⟩:=Value.slice.inj (List.cons.inj a5).1;simp only[if_true] at hm;have hd:=congrArg Prod.fst hx;simp only at hd;subst hd;have dz:∀i,i<m->∃en:En,Rows.uptoBulk (D i)=4+ (en.eAt.size+en.eSch.size+en.eKw.size)/\W.cell? ((a'.add (i*3)).add 0)=some (.string en.eAt)/\W.cell? ((a'.add (i*3)).add 1)=some (.string en.eSch)/\W.cell? ((a'.add (i*3)).add 2)=some (.string en.eKw):=fun i hi=>by
   obtain⟨cs',a4,b3⟩:=hc i hi;rw[b4] at a4;obtain⟨-,a9,a3⟩:=World.cells?_some a4;obtain⟨y0,y1,y2,n',hy,-,r0,r1,r2⟩:=Deep.trod_struct3 Tryz.underlying45 b3
   match cs',a9,a3,r0,r1,r2 with
   | [c0,c1,c2],_,a3,r0,r1,r2=>
    obtain⟨s0,a0,b0,-⟩:=DataW.trod_string Tryz.underlying9 (show DataW.trod enc Tryz.prog W 0 (fun _=>true) true n' 9 [c0]=some y0 from r0);obtain⟨s1,a1,b1,-⟩:=DataW.trod_string Tryz.underlying9 (show DataW.trod enc Tryz.prog W 0 (fun _=>true) true n' 9 [c1]=some y1 from r1);obtain⟨s2,a2,b2,-⟩:=DataW.trod_string Tryz.underlying9 (show DataW.trod enc Tryz.prog W 0 (fun _=>true) true n' 9 [c2]=some y2 from r2);obtain rfl:c0 =.string s0:=by simpa using a0
    obtain rfl:c1 =.string s1:=by simpa using a1
    obtain rfl:c2 =.string s2:=by simpa using a2
    subst b0 b1 b2;have hD:=congrArg Prod.fst hy;simp only at hD;refine⟨⟨s0,s1,s2⟩,?_,a3 0 (by decide),a3 1 (by decide),a3 2 (by decide)⟩;rw[hD];have e0:s0.data.toList.length=s0.size:=by simp
    have e1:s1.data.toList.length=s1.size:=by simp
    have e2:s2.data.toList.length=s2.size:=by simp
    simp only[Rows.uptoBulk,Rows.uptoBulkAll,e0,e1,e2];omega
  obtain⟨E,hE⟩:=choose_lt dz;refine⟨(List.range len).map E,?_,fun h2=>⟨by simpa using h2,some a',cap,by simp,by simpa using hl,fun i b hb=>?_⟩⟩
  ·have:=yX D E (List.range len) (fun i hi=>(hE i (by have:=List.mem_range.1 hi;omega)).1);rw[Rows.uptoBulk];rw[List.length_map];omega
  ·have hi:=(List.getElem?_eq_some_iff.1 hb).1;simp at hi;obtain⟨-,h3,h4,h5⟩:=hE i (by omega);obtain⟨-,h6,-⟩:=hE 0 (by omega);rw[Nat.zero_mul] at h6;obtain⟨b0,o0,rfl⟩:∃b o,a'= ⟨b,o,none⟩:=od (by simpa [Addr.add] using h6);have e1:∀o k,(⟨b0,o,none⟩:Addr).add k= ⟨b0,o+k,none⟩:=fun o k=>by unfold Addr.add;split <;> simp_all
   rw[e1,e1] at h3 h4 h5;rw[Nat.add_zero] at h3;simp[hi] at hb;subst hb;exact⟨b0,o0,rfl,h3,h4,h5⟩
end
