import Derived.Test.YtafobflehfecpaaGreatDoorGZ15bk
set_option linter.unusedVariables false
set_option linter.unusedSimpArgs false
set_option maxHeartbeats 64000000
set_option maxRecDepth 100000
namespace Go.Proofs.YtafobflehfecpaaGreatDoor
open Go.RowKit Go.Shelf
variable {p:ByteArray}{M l m y:List ByteArray}{xs ys:List UInt8}{i r:Nat}{v v' xv yv:Value}{w w':World}
def wj (p:Prop)(w:World)(e:Ending)(w':World):Prop:= ∃b:Bool,e =.returned (.bool b)/\(b=true->p)/\Below w.heap.size w w'
theorem kO {s:ByteArray}(hs:s.size<=2000000):Calls Tryz.prog 19 #[.string s] w (wj (aT s) w):=by
 have H:=Qa (j8 (w:=w) hs);clear hs;go_enter Tryz.func19,Tryz.ntmps19;go_wp2_with fail;refine Za H ?_;rintro e w1 ⟨u,c,h,l,A,n,q,rfl,hc,a1⟩;unfold fR;have HZ:=Qa (Zf w1 (.cells #[.int .i64 0,.int .i64 0,.int .i64 0,.slice none 0 0] 74));have a0:=setRow_heap (w1.alloc (.cells #[.int .i64 0,.int .i64 0,.int .i64 0,.slice none 0 0] 74)) w1.heap.size _ #[.int .i64 c,.int .i64 h,.int .i64 l,.slice A n q] _ _ HZ.out;have d0:=aa a0 (j:=0) (u:=.int .i64 c) rfl;have Hb:=Qa (below_setRow (ak a1 (ac w1 (.cells #[.int .i64 0,.int .i64 0,.int .i64 0,.slice none 0 0] 74))) (show w.heap.size<=w1.heap.size from a1.size) #[.int .i64 c,.int .i64 h,.int .i64 l,.slice A n q]);have Hc:=Qa hc;clear a0 a1 hc;go_wp2_with (refine eE HZ.out ?_);go_ret;exact⟨_,rfl,fun h=>Hc.out (by simpa using h),Hb.out⟩
theorem ga {s:ByteArray}(hs:s.size<=2000000):Calls Tryz.prog 34 #[.string s] w (wj (aT s) w):=by
 have H:=Qa (j8 (w:=w) hs);clear hs;go_enter Tryz.func34,Tryz.ntmps34;go_wp2_with fail;refine Za H ?_;rintro e w1 ⟨u,c,h,l,A,n,q,rfl,hc,a1⟩;unfold fR;have HZ:=Qa (Zf w1 (.cells #[.int .i64 0,.int .i64 0,.int .i64 0,.slice none 0 0] 74));have a0:=setRow_heap (w1.alloc (.cells #[.int .i64 0,.int .i64 0,.int .i64 0,.slice none 0 0] 74)) w1.heap.size _ #[.int .i64 c,.int .i64 h,.int .i64 l,.slice A n q] _ _ HZ.out;have d0:=aa a0 (j:=0) (u:=.int .i64 c) rfl;have Hb:=Qa (below_setRow (ak a1 (ac w1 (.cells #[.int .i64 0,.int .i64 0,.int .i64 0,.slice none 0 0] 74))) (show w.heap.size<=w1.heap.size from a1.size) #[.int .i64 c,.int .i64 h,.int .i64 l,.slice A n q]);have Hc:=Qa hc;clear a0 a1 hc;go_wp2_with (refine eE HZ.out ?_);go_ret;exact⟨_,rfl,fun h=>Hc.out (by simpa using h),Hb.out⟩
def Ey (s:ByteArray)(w:World)(e:Ending)(w':World):Prop:= ∃z:Int,e =.returned (.int .i64 z)/\(0<z->s∈bD)/\Below w.heap.size w w'
theorem qB (w:World):Calls Tryz.prog 72 #[] w fun e w'=>e =.returned (.slice (some ⟨w.heap.size,0,none⟩) 32 32)/\w'=w.alloc (.cells (bD.map cH).toArray 9):=by
 go_enter Tryz.func72,Tryz.ntmps72;go_wp2;go_ret;exact⟨rfl,rfl⟩
theorem qZ {s:ByteArray}:Calls Tryz.prog 35 #[.string s] w (Ey s w):=by
 have Hc:=Qa (fun (i:Nat) a (h:bD[i]?=some a)=>show(w.alloc (.cells (bD.map cH).toArray 9)).cell? ⟨w.heap.size,i,none⟩=some (.string a) from av w (bD.map cH) 9 _ _ (by rw[List.getElem?_map,h];rfl));have Hb:=Qa (ac w (.cells (bD.map cH).toArray 9));have a0:=Qa (show bD.length=32 from rfl);go_enter Tryz.func35,Tryz.ntmps35;go_wp2_with fail;refine(qB w).mono ?_;rintro e w1 ⟨rfl,rfl⟩;generalize w.alloc (.cells (bD.map cH).toArray 9)=w1 at *;obtain⟨L,hL⟩:∃L,bD=L:=⟨_,rfl⟩;rw[hL] at Hc a0;have HL:=Qa hL;clear hL;go_wp2_with fail
 go_loopg [4] 32 (fun m s4 wr=> ∃i:Nat,m+i=32/\s4 =.int .i64 i/\wr=w1)
 case atStart=>exact⟨0,rfl,rfl,rfl⟩
 case round=>
  obtain⟨i,hm,rfl,rfl⟩:=hrel;have Hm:=Qa hm
  by_cases hlt:i<32
  ·have a2:(i:Int)<32:=by omega
   obtain⟨a,ha⟩:∃a,L[i]?=some a:=⟨_,Zd (by have:=a0.out;omega)⟩;have c1:=Hc.out i a ha
   by_cases hq:a=s
   ·have hb:(a.toList==s.toList)=true:=by rw[hq];simp
    have a1:=Qa (show s∈bD by rw[HL.out,<-hq];exact Zk ha);clear hq ha hm;go_wp2_with fail;go_ret;exact⟨_,rfl,fun _=>a1.out,Hb.out⟩
   ·have hb:(a.toList==s.toList)=false:=by
     rw[beq_eq_false_iff_ne];intro h;rw[ByteArray.toList_eq,ByteArray.toList_eq] at h;exact hq (by cases a with|mk x=>cases s with|mk y=>cases x with|mk x=>cases y with|mk y=>simp at h;rw[h])
    clear hq ha hm;go_wp2_with fail;go_roundg (32 - (i+1))
    case measure=>have:=Hm.out;omega
    case rel=>exact⟨i+1,by have:=Hm.out;omega,by go_num,rfl⟩
  ·obtain rfl:i=32:=by omega
   clear hlt hm Hm;go_wp2_with fail;go_ret;exact⟨0,rfl,fun h=>by omega,Hb.out⟩
theorem qy {e:En}(h1:e.eAt.size<=2000000)(h2:e.eSch.size<=2000000):Calls Tryz.prog 18 #[.agg #[.string e.eAt,.string e.eSch,.string e.eKw]] w fun r w'=>wj (jM e) w r w':=by
 have a9:=ac w (.cells #[.string e.eAt,.string e.eSch,.string e.eKw] 40);have a2:=Zf w (.cells #[.string e.eAt,.string e.eSch,.string e.eKw] 40);have c1:=aa a2 (j:=0) (u:=.string e.eAt) rfl;have Hx:=Qa a2;have Hb:=Qa a9;clear a9 a2;go_enter Tryz.func18,Tryz.ntmps18;go_wp2_with fail;generalize w.alloc (.cells #[.string e.eAt,.string e.eSch,.string e.eKw] 40)=w1 at *;refine(ga h1).mono ?_;rintro r w2 ⟨b1,rfl,b5,a3⟩;have c4:=Qa (ak Hb.out a3);have a5:=Qa (ah Hx.out a3);have c2:=aa a5.out (j:=1) (u:=.string e.eSch) rfl;have b0:=Qa b5;clear a3 c1 b5;go_wp2_with fail;refine(ga h2).mono ?_;rintro r w3 ⟨b2,rfl,b3,a1⟩;have a0:=Qa (ak c4.out a1);have b8:=Qa (ah a5.out a1);have c3:=aa b8.out (j:=2) (u:=.string e.eKw) rfl;have b4:=Qa b3;clear a1 c2 b3
 cases b1 with
 |false=>
  go_wp2_with fail;go_ret;exact⟨false,rfl,(fun h=>by cases h),a0.out⟩
 |true=>
  cases b2 with
  |false=>
   go_wp2_with fail;go_ret;exact⟨false,rfl,(fun h=>by cases h),a0.out⟩
  |true=>
   by_cases hf:e.eKw=Fo
   ·have b9:e.eKw.toList = [102,97,108,115,101]:=by rw[hf,ByteArray.toList_eq];rfl
    have Hk:=Qa (show Ba e.eKw from .inl hf);clear hf;go_wp2_with fail;go_ret;exact⟨true,rfl,fun _=>⟨b0.out trivial,b4.out trivial,Hk.out⟩,a0.out⟩
   ·have b9:(e.eKw.toList == [102,97,108,115,101])=false:=by
     rw[beq_eq_false_iff_ne];intro h;rw[ByteArray.toList_eq] at h;exact hf (by cases hx:e.eKw with|mk d=>rw[hx] at h;simp only at h;unfold Fo;rw[<-h])
    clear hf;go_wp2_with fail;refine qZ.mono ?_;rintro r w4 ⟨z,rfl,hz,a4⟩;have c0:=Qa (ak a0.out a4);have Hz:=Qa hz;clear a4 hz;go_wp2_with fail;go_ret;exact⟨decide (0<z),rfl,fun h=>⟨b0.out trivial,b4.out trivial,.inr (Hz.out (of_decide_eq_true h))⟩,c0.out⟩
def ua (w:World)(v:Value)(l:List En):Prop:=l.length<=2000000/\∃A c,v =.slice A l.length c/\l.length<=c/\∀ (i:Nat) e,l[i]?=some e->∃g o,A=some ⟨g,o,none⟩/\w.cell? ⟨g,o+i*3,none⟩=some (.string e.eAt)/\w.cell? ⟨g,o+i*3+1,none⟩=some (.string e.eSch)/\w.cell? ⟨g,o+i*3+2,none⟩=some (.string e.eKw)
def uy (w:World)(v:Value)(l:List ByteArray):Prop:=l.length<=2000000/\∃A c,v =.slice A l.length c/\l.length<=c/\∀ (i:Nat) a,l[i]?=some a->∃g o,A=some ⟨g,o,none⟩/\w.cell? ⟨g,o+i,none⟩=some (.string a)
theorem ua.below {l:List En}(h:ua w v l)(hb:Below w.heap.size w w'):ua w' v l:=by
 obtain⟨h1,A,c,h2,h3,h4⟩:=h;exact⟨h1,A,c,h2,h3,fun i a ha=>by obtain⟨g,o,e,k1,k2,k3⟩:=h4 i a ha;exact⟨g,o,e,Zg hb k1,Zg hb k2,Zg hb k3⟩⟩
theorem uy.below (h:uy w v l)(hb:Below w.heap.size w w'):uy w' v l:=by
 obtain⟨h1,A,c,h2,h3,h4⟩:=h;exact⟨h1,A,c,h2,h3,fun i a ha=>by obtain⟨g,o,e,k⟩:=h4 i a ha;exact⟨g,o,e,Zg hb k⟩⟩
def g9:List En->Nat
 | []=>0
 |e::l=>e.eAt.size+e.eSch.size+e.eKw.size+g9 l
def jt:List ByteArray->Nat
 | []=>0
 |a::l=>a.size+jt l
theorem vA (l m:List En):g9 (l++m)=g9 l+g9 m:=by
 induction l with
 |nil=>simp[g9]
 |cons a l ih=>simp only[List.cons_append,g9,ih];omega
theorem wE (l m:List ByteArray):jt (l++m)=jt l+jt m:=by
 induction l with
 |nil=>simp[jt]
 |cons a l ih=>simp only[List.cons_append,jt,ih];omega
theorem BK {l:List En}{e:En}(h:l[i]?=some e):g9 (l.take (i+1))=g9 (l.take i)+e.eAt.size+e.eSch.size+e.eKw.size/\g9 (l.take (i+1))<=g9 l:=by
 obtain⟨h1,h3⟩:=List.getElem?_eq_some_iff.1 h
 constructor
 ·rw[List.take_succ_eq_append_getElem h1,h3,vA];simp only[g9];omega
 ·have:=vA (l.take (i+1)) (l.drop (i+1));rw[List.take_append_drop] at this;omega
theorem B7 {a:ByteArray}(h:l[i]?=some a):jt (l.take (i+1))=jt (l.take i)+a.size/\jt (l.take (i+1))<=jt l:=by
 obtain⟨h1,h3⟩:=List.getElem?_eq_some_iff.1 h
 constructor
 ·rw[List.take_succ_eq_append_getElem h1,h3,wE];simp only[jt];omega
 ·have:=wE (l.take (i+1)) (l.drop (i+1));rw[List.take_append_drop] at this;omega
def tO (x:List En)(y:List ByteArray):Prop:=x.length<=120/\y.length<=120/\g9 x+jt y<=20000
theorem yk {x:List En}(hx:ua w xv x)(hy:uy w yv y)(ht:g9 x+jt y<=4000000):Calls Tryz.prog 5 #[xv,yv] w (wj (tO x y) w):=by
 obtain⟨a4,A,c,rfl,-,a2⟩:=hx;obtain⟨a3,A2,c2,rfl,-,a1⟩:=hy;have Hx:=Qa a2;have Hy:=Qa a1;clear a2 a1;go_enter Tryz.func5,Tryz.ntmps5;go_wp2_with fail
 go_loopg [5,6] x.length (fun m s5 s6 wr=> ∃i:Nat,m+i=x.length/\s6 =.int .i64 i/\s5 =.int .i64 (g9 (x.take i))/\Hid (Below w.heap.size w wr))
 case atStart=>exact⟨0,rfl,rfl,rfl,Qa (Ze _ _)⟩
 case round=>
  obtain⟨i,hm,rfl,rfl,Hb⟩:=hrel;have Hm:=Qa hm
  by_cases hlt:i<x.length
  ·have a0:(i:Int)<x.length:=by omega
   obtain⟨e,he⟩:∃e,x[i]?=some e:=⟨_,Zd hlt⟩;obtain⟨g,o,rfl,k1,k2,k3⟩:=Hx.out i e he;have c1:=Zg Hb.out k1;have c2:=Zg Hb.out k2;have c3:=Zg Hb.out k3;obtain⟨z1,z2⟩:=BK he;have Hz:=Qa z1;have hz:g9 (x.take i)+e.eAt.size+e.eSch.size+e.eKw.size<=4000000:=by omega
   clear he k1 k2 k3 hm z1 z2;generalize g9 (x.take i)=n0 at *;go_wp2_with fail;go_quiet (fail);go_wp2_with fail;go_roundg (x.length - (i+1))
   case measure=>have:=Hm.out;omega
   case rel=>exact⟨i+1,by have:=Hm.out;omega,by go_num,by rw[Hz.out];go_num,Qa (ap Hb.out nq)⟩
  ·obtain rfl:i=x.length:=by omega
   have a0:¬ (x.length:Int)<x.length:=by omega
   rw[List.take_length];have a5:g9 x<=4000000:=by omega
   clear hm hlt Hm;go_wp2_with fail
   go_loopg [5,7] y.length (fun m s5 s7 wr=> ∃i:Nat,m+i=y.length/\s7 =.int .i64 i/\s5 =.int .i64 (g9 x+jt (y.take i):Nat)/\Hid (Below w.heap.size w wr))
   case atStart=>exact⟨0,rfl,rfl,rfl,Hb⟩
   case round=>
    clear Hb;obtain⟨i,hm,rfl,rfl,Hb⟩:=hrel;have Hm:=Qa hm
    by_cases hlt:i<y.length
    ·have a0:(i:Int)<y.length:=by omega
     obtain⟨a,ha⟩:∃a,y[i]?=some a:=⟨_,Zd hlt⟩;obtain⟨g,o,rfl,k1⟩:=Hy.out i a ha;have c1:=Zg Hb.out k1;obtain⟨z1,z2⟩:=B7 ha;have Hz:=Qa z1;have hz:g9 x+jt (y.take i)+a.size<=4000000:=by omega
     clear ha k1 hm z1 z2;generalize jt (y.take i)=n1 at *;generalize hn2:g9 x+n1=n2 at *;have Hn2:=Qa hn2;clear hn2;go_wp2_with fail;go_roundg (y.length - (i+1))
     case measure=>have:=Hm.out;omega
     case rel=>exact⟨i+1,by have:=Hm.out;omega,by go_num,by rw[Hz.out];have:=Hn2.out;go_num,Hb⟩
    ·obtain rfl:i=y.length:=by omega
     have a0:¬ (y.length:Int)<y.length:=by omega
     rw[List.take_length];clear hm hlt Hm
     by_cases k1:x.length<=120
     ·have k1i:(x.length:Int)<=120:=by omega
      by_cases k2:y.length<=120
      ·have k2i:(y.length:Int)<=120:=by omega
       by_cases k3:g9 x+jt y<=20000
       ·have k3i:(g9 x:Int)+jt y<=20000:=by omega
        go_wp2_with fail;go_ret;exact⟨true,by simp,fun _=>⟨k1,k2,k3⟩,Hb.out⟩
       ·have k3i:¬ (g9 x:Int)+jt y<=20000:=by omega
        go_wp2_with fail;go_ret;exact⟨false,by simp,(fun h=>by cases h),Hb.out⟩
      ·have k2i:¬ (y.length:Int)<=120:=by omega
       go_wp2_with fail;go_ret;exact⟨false,by simp,(fun h=>by cases h),Hb.out⟩
     ·have k1i:¬ (x.length:Int)<=120:=by omega
      go_wp2_with fail;go_ret;exact⟨false,by simp,(fun h=>by cases h),Hb.out⟩
def zl (x:List En)(y:List ByteArray)(w:World)(e:Ending)(w':World):Prop:= ∃ (u v:Value) (l:List En) (m:List ByteArray),e =.returned (.tuple #[u,v])/\bS w' w.heap.size u l/\be w' w.heap.size v m/\(∀e∈l,jM e/\e∈x)/\(∀p∈m,aT p/\p∈y)/\l.length<=120/\m.length<=120/\Below w.heap.size w w'
theorem zt {x:List En}(hx:ua w xv x)(hy:uy w yv y)(hs:∀e∈x,e.eAt.size<=2000000/\e.eSch.size<=2000000)(ht:∀p∈y,p.size<=2000000):Calls Tryz.prog 6 #[xv,yv] w (zl x y w):=by
 obtain⟨c8,A,c,rfl,-,c4⟩:=hx;obtain⟨c9,A2,c2,rfl,-,c5⟩:=hy;have Hx:=Qa c4;have Hy:=Qa c5;have HB:=Qa (fun (e:En) (he:e∈x) W=>qy (w:=W) (hs e he).1 (hs e he).2);have HP:=Qa (fun (p:ByteArray) (hp:p∈y) W=>kO (w:=W) (ht p hp));clear c4 c5 hs ht;go_enter Tryz.func6,Tryz.ntmps6;go_wp2_with fail
 go_loopg [6,8] 120 (fun m s6 s8 wr=> ∃i:Nat,m+i=120/\s8 =.int .i64 i/\Hid (∃l:List En,l.length<=i/\(∀e∈l,jM e/\e∈x)/\bS wr w.heap.size s6 l)/\Hid (Below w.heap.size w wr))
 case atStart=>exact⟨0,rfl,rfl,Qa ⟨[],by simp,fun e he=>by simp at he,bS.nil _ _⟩,Qa (Ze _ _)⟩
 case round=>
  obtain⟨i,hm,rfl,HE,Hb⟩:=hrel;have Hm:=Qa hm
  by_cases hlt:i<x.length/\i<120
  ·have a5:(i:Int)<x.length:=by omega
   have a2:(i:Int)<120:=by omega
   obtain⟨e,he⟩:∃e,x[i]?=some e:=⟨_,Zd hlt.1⟩;obtain⟨g,o,rfl,k1,k2,k3⟩:=Hx.out i e he;have c1:=Zg Hb.out k1;have c2:=Zg Hb.out k2;have c3:=Zg Hb.out k3;have a0:=Qa (HB.out e (Zk he) wr);have a3:=Qa (Zk he);have Hk:=Qa (And.intro k1 (And.intro k2 k3));clear he k1 k2 k3 hm;go_wp2_with fail;refine Za a0 ?_;rintro r w2 ⟨b,rfl,b5,a1⟩;have Hb2:=Qa (ak Hb.out a1);have c1:=Zg Hb2.out Hk.out.1;have c2:=Zg Hb2.out Hk.out.2.1;have c3:=Zg Hb2.out Hk.out.2.2;obtain⟨l,c6,b0,hE⟩:=HE.out;have Hlo:=Qa b0;have HE2:=Qa (show bS w2 w.heap.size u6 l from ai hE a1 (Zb _));clear a1 b0 hE
   cases b with
   |false=>
    go_wp2_with fail;go_roundg (120 - (i+1))
    case measure=>have:=Hm.out;omega
    case rel=>exact⟨i+1,by omega,by go_num,Qa ⟨l,by omega,Hlo.out,HE2.out⟩,Hb2⟩
   |true=>
    have b9:=Qa (b5 rfl);have b1:=Qa (show bS (w2.alloc (.cells #[.string e.eAt,.string e.eSch,.string e.eKw] 40)) w.heap.size u6 l from ai HE2.out (ac _ _) (Zb _));have a4:=Qa (ak Hb2.out (ac w2 (.cells #[.string e.eAt,.string e.eSch,.string e.eKw] 40)));go_wp2_with (at_builtin;refine kC ye b1.out (av w2 (d7 e) 40) a4.out.size ?_ (h1:=(by simp[d7,Value.oneCell'])) (hlen:=by unfold maxLen;omega) (hby:=by omega);intro v' w5 p1 p2 p3;have b4:=Qa p1;have b3:=Qa (aJ a4.out b1.out a4.out.size p2);clear p1 p2 p3);go_roundg (120 - (i+1))
    case measure=>have:=Hm.out;omega
    case rel=>
     refine⟨i+1,by omega,by go_num,Qa ⟨l ++ [e],by simp;omega,fun a ha=>?_,?_⟩,b3⟩
     ·rcases List.mem_append.1 ha with ha|ha
      ·exact Hlo.out a ha
      ·rw[List.mem_singleton.1 ha];exact⟨b9.out,a3.out⟩
     ·unfold bS;rw[<-dW,List.length_append];exact b4.out
  ·have hend:(¬ (i:Int)<x.length)\/((i:Int)<x.length/\¬ (i:Int)<120):=by omega
   have hi:i<=120:=by omega
   have c0:=Qa (show ∃l:List En,l.length<=120/\(∀e∈l,jM e/\e∈x)/\bS wr w.heap.size u6 l from by
    obtain⟨l,h1,h2,h3⟩:=HE.out;exact⟨l,by omega,h2,h3⟩)
   clear HE hm hlt Hm;obtain⟨wo,rfl⟩:∃wo,wo=wr:=⟨wr,rfl⟩;rcases hend with a5|⟨a5,a2⟩
   ·go_wp2_with fail;have a9:=Qa Hb.out;clear Hb
    go_loopg [7,10] 120 (fun m s7 s10 wr=> ∃i:Nat,m+i=120/\s10 =.int .i64 i/\Hid (∃l:List ByteArray,l.length<=i/\(∀e∈l,aT e/\e∈y)/\be wr wo.heap.size s7 l)/\Hid (Below wo.heap.size wo wr))
    case atStart=>exact⟨0,rfl,rfl,Qa ⟨[],by simp,fun e he=>by simp at he,be.nil _ _⟩,Qa (Ze _ _)⟩
    case round=>
     obtain⟨i,hm,rfl,HS,Hb⟩:=hrel;have Hm:=Qa hm
     by_cases hlt:i<y.length/\i<120
     ·have a5:(i:Int)<y.length:=by omega
      have a2:(i:Int)<120:=by omega
      obtain⟨e,he⟩:∃e,y[i]?=some e:=⟨_,Zd hlt.1⟩;obtain⟨g,o,rfl,k1⟩:=Hy.out i e he;have c1:=Zg (ak a9.out Hb.out) k1;have a0:=Qa (HP.out e (Zk he) wr);have a3:=Qa (Zk he);have Hk:=Qa k1;clear he k1 hm;go_wp2_with fail;refine Za a0 ?_;rintro r w2 ⟨b,rfl,b5,a1⟩;have Hb2:=Qa (ak Hb.out a1);have c1:=Zg (ak a9.out Hb2.out) Hk.out;obtain⟨l,c6,b0,hE⟩:=HS.out;have Hlo:=Qa b0;have HE2:=Qa (show be w2 wo.heap.size u7 l from ai hE a1 (Zb _));clear a1 b0 hE
      cases b with
      |false=>
       go_wp2_with fail;go_roundg (120 - (i+1))
       case measure=>have:=Hm.out;omega
       case rel=>exact⟨i+1,by omega,by go_num,Qa ⟨l,by omega,Hlo.out,HE2.out⟩,Hb2⟩
      |true=>
       have b9:=Qa (b5 rfl);have b1:=Qa (show be (w2.alloc (.cells #[.string e] 9)) wo.heap.size u7 l from ai HE2.out (ac _ _) (Zb _));have a4:=Qa (ak Hb2.out (ac w2 (.cells #[.string e] 9)));go_wp2_with (at_builtin;refine kC lc b1.out (av w2 [cH e] 9) a4.out.size ?_ (h1:=(by simp[cH,Value.oneCell'])) (hlen:=by unfold maxLen;omega) (hby:=by omega);intro v' w5 p1 p2 p3;have b4:=Qa p1;have b3:=Qa (aJ a4.out b1.out a4.out.size p2);clear p1 p2 p3);go_roundg (120 - (i+1))
       case measure=>have:=Hm.out;omega
       case rel=>
        refine⟨i+1,by omega,by go_num,Qa ⟨l ++ [e],by simp;omega,fun a ha=>?_,?_⟩,b3⟩
        ·rcases List.mem_append.1 ha with ha|ha
         ·exact Hlo.out a ha
         ·rw[List.mem_singleton.1 ha];exact⟨b9.out,a3.out⟩
        ·unfold be;rw[List.map_append,List.length_append];exact b4.out
     ·have hend:(¬ (i:Int)<y.length)\/((i:Int)<y.length/\¬ (i:Int)<120):=by omega
      have c7:i<=120:=by omega
      obtain⟨l,k1,k2,k3⟩:=c0.out;obtain⟨m,k4,k5,k6⟩:=HS.out;have HK:=Qa (show zl x y w (.returned (.tuple #[u6,u7])) wr from⟨_,_,l,m,rfl,ai k3 Hb.out (Zb _),bp k6 a9.out.size,k2,k5,k1,by omega,ak a9.out Hb.out⟩);obtain⟨A5,q5,rfl,-⟩:=af k3;obtain⟨A6,q6,rfl,-⟩:=af k6;clear hm hlt Hm k1 k2 k3 k4 k5 k6 HS c0;rcases hend with b2|⟨b2,b8⟩
      ·go_wp2_with fail;go_ret2;exact HK.out
      ·go_wp2_with fail;go_ret2;exact HK.out
   ·go_wp2_with fail;have a9:=Qa Hb.out;clear Hb
    go_loopg [7,10] 120 (fun m s7 s10 wr=> ∃i:Nat,m+i=120/\s10 =.int .i64 i/\Hid (∃l:List ByteArray,l.length<=i/\(∀e∈l,aT e/\e∈y)/\be wr wo.heap.size s7 l)/\Hid (Below wo.heap.size wo wr))
    case atStart=>exact⟨0,rfl,rfl,Qa ⟨[],by simp,fun e he=>by simp at he,be.nil _ _⟩,Qa (Ze _ _)⟩
    case round=>
     obtain⟨i,hm,rfl,HS,Hb⟩:=hrel;have Hm:=Qa hm
     by_cases hlt:i<y.length/\i<120
     ·have a5:(i:Int)<y.length:=by omega
      have a2:(i:Int)<120:=by omega
      obtain⟨e,he⟩:∃e,y[i]?=some e:=⟨_,Zd hlt.1⟩;obtain⟨g,o,rfl,k1⟩:=Hy.out i e he;have c1:=Zg (ak a9.out Hb.out) k1;have a0:=Qa (HP.out e (Zk he) wr);have a3:=Qa (Zk he);have Hk:=Qa k1;clear he k1 hm;go_wp2_with fail;refine Za a0 ?_;rintro r w2 ⟨b,rfl,b5,a1⟩;have Hb2:=Qa (ak Hb.out a1);have c1:=Zg (ak a9.out Hb2.out) Hk.out;obtain⟨l,c6,b0,hE⟩:=HS.out;have Hlo:=Qa b0;have HE2:=Qa (show be w2 wo.heap.size u7 l from ai hE a1 (Zb _));clear a1 b0 hE
      cases b with
      |false=>
       go_wp2_with fail;go_roundg (120 - (i+1))
       case measure=>have:=Hm.out;omega
       case rel=>exact⟨i+1,by omega,by go_num,Qa ⟨l,by omega,Hlo.out,HE2.out⟩,Hb2⟩
      |true=>
       have b9:=Qa (b5 rfl);have b1:=Qa (show be (w2.alloc (.cells #[.string e] 9)) wo.heap.size u7 l from ai HE2.out (ac _ _) (Zb _));have a4:=Qa (ak Hb2.out (ac w2 (.cells #[.string e] 9)));go_wp2_with (at_builtin;refine kC lc b1.out (av w2 [cH e] 9) a4.out.size ?_ (h1:=(by simp[cH,Value.oneCell'])) (hlen:=by unfold maxLen;omega) (hby:=by omega);intro v' w5 p1 p2 p3;have b4:=Qa p1;have b3:=Qa (aJ a4.out b1.out a4.out.size p2);clear p1 p2 p3);go_roundg (120 - (i+1))
       case measure=>have:=Hm.out;omega
       case rel=>
        refine⟨i+1,by omega,by go_num,Qa ⟨l ++ [e],by simp;omega,fun a ha=>?_,?_⟩,b3⟩
        ·rcases List.mem_append.1 ha with ha|ha
         ·exact Hlo.out a ha
         ·rw[List.mem_singleton.1 ha];exact⟨b9.out,a3.out⟩
        ·unfold be;rw[List.map_append,List.length_append];exact b4.out
     ·have hend:(¬ (i:Int)<y.length)\/((i:Int)<y.length/\¬ (i:Int)<120):=by omega
      have c7:i<=120:=by omega
      obtain⟨l,k1,k2,k3⟩:=c0.out;obtain⟨m,k4,k5,k6⟩:=HS.out;have HK:=Qa (show zl x y w (.returned (.tuple #[u6,u7])) wr from⟨_,_,l,m,rfl,ai k3 Hb.out (Zb _),bp k6 a9.out.size,k2,k5,k1,by omega,ak a9.out Hb.out⟩);obtain⟨A5,q5,rfl,-⟩:=af k3;obtain⟨A6,q6,rfl,-⟩:=af k6;clear hm hlt Hm k1 k2 k3 k4 k5 k6 HS c0;rcases hend with b2|⟨b2,b8⟩
      ·go_wp2_with fail;go_ret2;exact HK.out
      ·go_wp2_with fail;go_ret2;exact HK.out
theorem o5 {l:List En}:∀ {e:En},e∈l->e.eAt.size+e.eSch.size+e.eKw.size<=g9 l:=by
 induction l with
 |nil=>intro e he;simp at he
 |cons a l ih=>
  intro e he;simp only[g9];rcases List.mem_cons.1 he with rfl|he
  ·omega
  ·have:=ih he;omega
theorem nT:∀ {e:ByteArray},e∈l->e.size<=jt l:=by
 induction l with
 |nil=>intro e he;simp at he
 |cons a l ih=>
  intro e he;simp only[jt];rcases List.mem_cons.1 he with rfl|he
  ·omega
  ·have:=ih he;omega
theorem Df {x l:List En}(hs:tO x y)(hl:∀e∈l,jM e/\e∈x)(hm:∀p∈m,aT p/\p∈y)(h1:l.length<=120)(h2:m.length<=120):ec l m:=by
 obtain⟨-,-,h3⟩:=hs;refine⟨fun e he=>⟨(hl e he).1,?_⟩,fun p hp=>⟨(hm p hp).1,?_⟩,by omega⟩
 ·have:=o5 (hl e he).2;exact⟨by omega,by omega⟩
 ·have:=nT (hm p hp).2;omega
structure Am (l:List En) (m:List ByteArray) (L:List En) (M:List ByteArray):Prop where
 b1:∀e∈l,e∈L
 b2:∀e∈L,e∈l\/dq e.eAt m=true
 p1:∀p∈m,p∈M
 p2:∀p∈M,p∈m\/dq p m=true
theorem Am.same {l L:List En}(h:Am l m L M){es fs:List En}(h1:br l m es)(h2:br L M fs):es=fs:=h1.uniq h2 (AU h.b1 h.b2 h.p1 h.p2)
structure wS (l:List En) (j:Nat) (L:List En):Prop where
 sub:∀e∈L,e∈l
 has:∀ (q:Nat) e,j<=q->l[q]?=some e->e∈L
 len:L.length<=2* (l.length - j)
theorem wS.nil (l:List En):wS l l.length []:=⟨fun e he=>by simp at he,fun q e hq he=>by have:=(List.getElem?_eq_some_iff.1 he).1;omega,by simp⟩
theorem wS.next {l L:List En}{j:Nat}{a b:En}(h:wS l (j+1) L)(ha:l[j]?=some a)(hb:b∈l):wS l j (L ++ [a,b]):=by
 have hj:=(List.getElem?_eq_some_iff.1 ha).1;refine⟨fun e he=>?_,fun q e hq he=>?_,?_⟩
 ·rcases List.mem_append.1 he with he|he
  ·exact h.sub e he
  ·simp only[List.mem_cons,List.mem_nil_iff,or_false] at he;rcases he with rfl|rfl
   ·exact Zk ha
   ·exact hb
 ·rcases Nat.lt_or_ge j q with h1|h1
  ·exact List.mem_append_left _ (h.has q e h1 he)
  ·obtain rfl:q=j:=by omega
   rw[ha] at he
   cases he
   simp
 ·have:=h.len;simp;omega
structure sU (l:List En) (m:List ByteArray) (j r:Nat) (L:List En) (M:List ByteArray):Prop where
 b1:∀e∈l,e∈L
 b2:∀e∈L,e∈l\/dq e.eAt m=true
 p1:∀ (q:Nat) p,j<=q->m[q]?=some p->p∈M
 p2:∀p∈M,p∈m\/dq p m=true
 okL:∀e∈L,jM e/\zB 1000000 e
 okM:∀p∈M,aT p/\p.size<=1000000
 lnL:L.length+2*r<=2*l.length+16* (m.length - j)
 lnM:M.length+r<=10* (m.length - j)
theorem BB (p:ByteArray):bE p p=true:=fk.2 (.inl rfl)
theorem rp (h:p∈m):dq p m=true:=bL.2 ⟨p,h,BB p⟩
theorem sU.start {l L:List En}(h:wS l 0 L)(hi:ec l m):sU l m m.length 0 L []:=
 ⟨fun e he=>by
  obtain⟨q,hq⟩:=List.getElem?_of_mem he;exact h.has q e (Zj _) hq,fun e he=>.inl (h.sub e he),fun q p hq hp=>by have:=(List.getElem?_eq_some_iff.1 hp).1;omega,fun p hp=>by simp at hp,fun e he=>hi.bl e (h.sub e he),fun p hp=>by simp at hp,by have:=h.len;omega,by simp⟩
theorem sU.done {l L:List En}(h:sU l m 0 r L M)(hl:l.length<=120)(hm:m.length<=120):Am l m L M/\ec L M:=
 ⟨⟨h.b1,h.b2,fun p hp=>by
  obtain⟨q,hq⟩:=List.getElem?_of_mem hp;exact h.p1 q p (Zj _) hq,h.p2⟩,⟨h.okL,h.okM,by have:=h.lnL;have:=h.lnM;omega⟩⟩
def GV:ByteArray:=⟨#[47,97]⟩
theorem sU.more {l L:List En}{j:Nat}{s:ByteArray}(h:sU l m j (r+1) L M)(hi:ec l m)(hp:p∈m)(hs:aT s)(hz:s.size<=1000000)(hu:bE s p=true):sU l m j r (L ++ [⟨s,GV,lS⟩,⟨p,⟨#[]⟩,Fo⟩]) (M ++ [s]):=by
 have a0:dq s m=true:=bL.2 ⟨p,hp,hu⟩;have ha:aT GV:=iL rfl (by decide);refine⟨fun e he=>List.mem_append_left _ (h.b1 e he),fun e he=>?_,fun q e hq he=>List.mem_append_left _ (h.p1 q e hq he),fun e he=>?_,fun e he=>?_,fun e he=>?_,by have:=h.lnL;simp;omega,by have:=h.lnM;simp;omega⟩
 ·rcases List.mem_append.1 he with he|he
  ·exact h.b2 e he
  ·simp only[List.mem_cons,List.mem_nil_iff,or_false] at he;rcases he with rfl|rfl
   ·exact .inr a0
   ·exact .inr (rp hp)
 ·rcases List.mem_append.1 he with he|he
  ·exact h.p2 e he
  ·rw[List.mem_singleton.1 he];exact .inr a0
 ·rcases List.mem_append.1 he with he|he
  ·exact h.okL e he
  ·simp only[List.mem_cons,List.mem_nil_iff,or_false] at he;rcases he with rfl|rfl
   ·exact⟨⟨hs,ha,.inr (Zk (i:=6) rfl)⟩,hz,by show(2:Nat)<=_;omega⟩
   ·exact⟨⟨(hi.pl _ hp).1,gn,.inl rfl⟩,(hi.pl _ hp).2,by show(0:Nat)<=_;omega⟩
 ·rcases List.mem_append.1 he with he|he
  ·exact h.okM e he
  ·rw[List.mem_singleton.1 he];exact⟨hs,hz⟩
theorem kv (h:Bs w v xs)(h':Bs w v' ys):Calls Tryz.prog 10 #[v,v'] w fun e w'=>e =.returned (.bool (decide (xs=ys)))/\w=w':=by
 have c1:=aG h;have c2:=aG h';have He:Hid (((⟨xs.toArray⟩:ByteArray).toList== (⟨ys.toArray⟩:ByteArray).toList)=decide (xs=ys)):=Qa (by
  rw[kK,kK,Bool.eq_iff_iff];simp)
 clear h h';generalize (⟨xs.toArray⟩:ByteArray)=a at *;generalize (⟨ys.toArray⟩:ByteArray)=b at *;go_enter Tryz.func10,Tryz.ntmps10;go_wp2_with fail;go_ret;rw[<-He.out];exact⟨rfl,rfl⟩
theorem iz {α:Type}{l:List α}:∀ {m:List α},l.Nodup->(∀x∈l,x∈m)->l.length<=m.length:=by
 induction l with
 |nil=>intro m _ _;simp
 |cons a l ih=>
  intro m h1 h2;rw[List.nodup_cons] at h1;obtain⟨s,t,rfl⟩:=List.append_of_mem (h2 a (by simp));have:=ih (m:=s++t) h1.2 fun x hx=>by
   have h3:=h2 x (by simp[hx]);simp only[List.mem_append,List.mem_cons] at h3 ⊢;rcases h3 with h|rfl|h
   ·exact .inl h
   ·exact absurd hx h1.1
   ·exact .inr h
  simp at this ⊢;omega
section
variable {x:List En}{y:List ByteArray}{es:List En}(h:br x y es)(hk:∀e∈x,e.eKw≠kI)
include h
theorem zP {j:Nat}{a b:En}(ha:es[i]?=some a)(hb:es[j]?=some b)(a0:i<j):pt a b<0/\¬pt b a<0:=by
 obtain⟨h1,rfl⟩:=List.getElem?_eq_some_iff.1 ha;obtain⟨h2,rfl⟩:=List.getElem?_eq_some_iff.1 hb;have h3:=List.pairwise_iff_getElem.1 h.rise i j h1 h2 a0;have h4:=(b7.ctn _ _).1 h3;exact⟨h3,by omega⟩
include hk
theorem vU {a:En}(ha:a∈es)(hs:a.eKw=kI):a=fC a.eAt:=by
 rcases bM.1 ((h.mem a).1 ha) with h1|⟨p,-,-,rfl⟩
 ·exact absurd hs (hk a h1.1)
 ·rfl
theorem rW:(bN es).Nodup:=by
 unfold bN;refine List.pairwise_map.2 (List.Pairwise.imp_of_mem (fun {a b} ha hb hn e=>?_) (h.nodup.filter _));rw[List.mem_filter,decide_eq_true_iff] at ha hb;exact hn (by rw[vU h hk ha.1 ha.2,vU h hk hb.1 hb.2,e])
theorem yR {a:En}{q:ByteArray}(ha:a∈df es)(hq:q∈bN es):bE a.eAt q=false:=by
 have h1:=((h.bl hk).1 ha).2;have h2:=((h.pl hk).1 hq).1
 cases e:bE a.eAt q with
 |false=>rfl
 |true=>rw[bL.2 ⟨q,h2,e⟩] at h1;cases h1
theorem CV {k:Nat}{a b:ByteArray}(ha:(bN es)[i]?=some a)(hb:(bN es)[k]?=some b):bE b a=decide (i=k):=by
 have ma:=(h.pl hk).1 (Zk ha);have mb:=(h.pl hk).1 (Zk hb);rw[Bool.eq_iff_iff,decide_eq_true_iff]
 constructor
 ·intro hu;obtain rfl:=mb.2 a ma.1 hu;obtain⟨h1,e1⟩:=List.getElem?_eq_some_iff.1 ha;obtain⟨h2,e2⟩:=List.getElem?_eq_some_iff.1 hb;exact(List.getElem_inj (h₀:=h1) (h₁:=h2) (rW h hk)).1 (e1.trans e2.symm)
 ·rintro rfl;rw[ha] at hb
  cases hb
  exact rt a
theorem Co {b:En}(hb:b∈x):b∈df es\/∃q∈bN es,bE b.eAt q=true:=by
 cases hc:dq b.eAt y with
 |false=>exact .inl ((h.bl hk).2 ⟨hb,hc⟩)
 |true=>exact .inr (bL.1 (by rw[h.cov hk];exact hc))
theorem zv (hp:p∈y):∃q∈bN es,bE p q=true:=bL.1 (by rw[h.cov hk];exact rp hp)
theorem zT:(df es).length<=x.length/\(bN es).length<=y.length:=
 ⟨iz (h.nodup.filter _) fun e he=>((h.bl hk).1 he).1,iz (rW h hk) fun p hp=>((h.pl hk).1 hp).1⟩
end
def gZ {α:Type}(f:α->Bool)(l:List α)(k:Nat):Bool:=(l.take k).any f
theorem js {α:Type}{f:α->Bool}{l:List α}{k:Nat}{a:α}(ha:l[k]?=some a):gZ f l (k+1)= (gZ f l k||f a):=by
 obtain⟨h1,h2⟩:=List.getElem?_eq_some_iff.1 ha;unfold gZ;rw[List.take_succ_eq_append_getElem h1,h2,List.any_append];simp
theorem mf {α:Type}{f:α->Bool}{l:List α}:gZ f l l.length=l.any f:=by unfold gZ;rw[List.take_length]
theorem xK {α:Type}{f:α->Bool}{l:List α}:gZ f l 0=false:=rfl
theorem uK {l:List En}(hv:uC w v l):Calls Tryz.prog 11 #[v] w (BO l w):=by
 obtain⟨hl,A,c,rfl,-,hc⟩:=hv;have Hc:=Qa hc;clear hc;go_enter Tryz.func11,Tryz.ntmps11;go_wp2_with fail
 go_loopg [4,5,6] l.length (fun m s4 s5 s6 wr=> ∃i:Nat,m+i=l.length/\s6 =.int .i64 i/\Hid (bS wr w.heap.size s4 (df (l.take i)))/\Hid (be wr w.heap.size s5 (bN (l.take i)))/\Hid (Below w.heap.size w wr))
 case atStart=>exact⟨0,rfl,rfl,Qa (by simpa [df] using bS.nil _ _),Qa (by simpa [bN] using be.nil _ _),Qa (Ze _ _)⟩
 case round=>
  obtain⟨i,hm,rfl,HE,HS,Hb⟩:=hrel;have Hm:=Qa hm
  by_cases hlt:i<l.length
  ·have b1:(i:Int)<l.length:=by omega
   obtain⟨e,he⟩:∃e,l[i]?=some e:=⟨_,Zd hlt⟩;obtain⟨g,o,rfl,k1,k2,k3⟩:=Hc.out i e he;have c1:=Zg Hb.out k1;have c2:=Zg Hb.out k2;have c3:=Zg Hb.out k3;have a3:=Qa (show l.take (i+1)=l.take i ++ [e] by
    obtain⟨h1,h3⟩:=List.getElem?_eq_some_iff.1 he;rw[List.take_succ_eq_append_getElem h1,h3])
   have b4:=dU (l.take i);rw[List.length_take] at b4;have a4:=Qa (show(df (l.take i)).length<=1000000/\(bN (l.take i)).length<=1000000 by omega);clear b4 he k1 k2 k3 hm
   by_cases hq:e.eKw=kI
   ·have b9:=td hq;have a9:=Qa (show df (l.take (i+1))=df (l.take i) by rw[a3.out,ja,if_pos hq,List.append_nil]);have b2:=Qa (show bN (l.take (i+1))=bN (l.take i) ++ [e.eAt] by rw[a3.out,jd,if_pos hq]);clear hq;have a0:=Qa (ak Hb.out (ac wr (.cells #[.string e.eAt] 9)));have a2:=Qa (show bS (wr.alloc (.cells #[.string e.eAt] 9)) w.heap.size u4 (df (l.take i)) from ai HE.out (ac _ _) (Zb _));have a1:=Qa (show be (wr.alloc (.cells #[.string e.eAt] 9)) w.heap.size u5 (bN (l.take i)) from ai HS.out (ac _ _) (Zb _));have b3:=Qa (show ∀ (j:Nat) u, [cH e.eAt][j]?=some u->(wr.alloc (.cells #[.string e.eAt] 9)).cell? ⟨wr.heap.size,j,none⟩=some u from av wr [cH e.eAt] 9);clear HE HS Hb;go_wp2_with (at_builtin;refine kC lc a1.out b3.out a0.out.size ?_ (h1:=(by simp[cH,Value.oneCell'])) (hlen:=by have:=a4.out;unfold maxLen;omega) (hby:=by have:=a4.out;omega);intro v' w5 p1 p2 p3;have b0:=Qa p1;have a5:=Qa (aJ a0.out a1.out a0.out.size p2);have b5:=Qa (pE a1.out a2.out p2);clear p1 p2 p3);go_roundg (l.length - (i+1))
    case measure=>have:=Hm.out;omega
    case rel=>
     refine⟨i+1,by omega,by go_num,Qa (by rw[a9.out];exact b5.out),Qa ?_,a5⟩;rw[b2.out];unfold be;rw[List.map_append,List.length_append];exact b0.out
   ·have b9:(e.eKw.toList == [120,45,115,101,99,114,101,116])=false:=by rw[beq_eq_false_iff_ne];exact BQ hq
    have a9:=Qa (show df (l.take (i+1))=df (l.take i) ++ [e] by rw[a3.out,ja,if_neg hq]);have b2:=Qa (show bN (l.take (i+1))=bN (l.take i) by rw[a3.out,jd,if_neg hq,List.append_nil]);clear hq;have a0:=Qa (ak Hb.out (ac wr (.cells #[.string e.eAt,.string e.eSch,.string e.eKw] 40)));have a2:=Qa (show bS (wr.alloc (.cells #[.string e.eAt,.string e.eSch,.string e.eKw] 40)) w.heap.size u4 (df (l.take i)) from ai HE.out (ac _ _) (Zb _));have a1:=Qa (show be (wr.alloc (.cells #[.string e.eAt,.string e.eSch,.string e.eKw] 40)) w.heap.size u5 (bN (l.take i)) from ai HS.out (ac _ _) (Zb _));have b3:=Qa (show ∀ (j:Nat) u,(d7 e)[j]?=some u->(wr.alloc (.cells #[.string e.eAt,.string e.eSch,.string e.eKw] 40)).cell? ⟨wr.heap.size,j,none⟩=some u from av wr (d7 e) 40);clear HE HS Hb;go_wp2_with (at_builtin;refine kC ye a2.out b3.out a0.out.size ?_ (h1:=(by simp[d7,Value.oneCell'])) (hlen:=by have:=a4.out;unfold maxLen;omega) (hby:=by have:=a4.out;omega);intro v' w5 p1 p2 p3;have b0:=Qa p1;have a5:=Qa (aJ a0.out a2.out a0.out.size p2);have b8:=Qa (nj a1.out a2.out p2);clear p1 p2 p3);go_roundg (l.length - (i+1))
    case measure=>have:=Hm.out;omega
    case rel=>
     refine⟨i+1,by omega,by go_num,Qa ?_,Qa (by rw[b2.out];exact b8.out),a5⟩;rw[a9.out];unfold bS;rw[<-dW,List.length_append];exact b0.out
  ·have b1:¬ (i:Int)<l.length:=by omega
   obtain rfl:i=l.length:=by omega
   rw[List.take_length] at HE HS;obtain⟨A1,q1,rfl,-⟩:=af HE.out;obtain⟨A2,q2,rfl,-⟩:=af HS.out;clear hm;go_wp2_with fail;go_ret2;exact⟨_,_,rfl,HE.out,HS.out,Hb.out⟩
