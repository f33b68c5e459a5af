import Derived.Test.YtehpfidnpfcniaaGreatDoorGZ14bi
set_option linter.unusedVariables false
set_option linter.unusedSimpArgs false
set_option maxHeartbeats 64000000
set_option maxRecDepth 100000
namespace Go.Proofs.YtehpfidnpfcniaaGreatDoor
open Go.RowKit Go.Shelf
variable {p:ByteArray}{l y:List ByteArray}{b1 b2 base g oc:Nat}{u v:Value}{w w':World}
theorem AO {s:ByteArray}(h:s=mt):s.toList = [120,45,115,101,99,114,101,116]:=by rw[h,ByteArray.toList_eq];rfl
theorem DB {s:ByteArray}(h:¬s=mt):¬s.toList = [120,45,115,101,99,114,101,116]:=fun e=>h (by
 rw[ByteArray.toList_eq] at e
 cases s with
 |mk d=>
  cases d with
  |mk l=>simp at e;subst e;rfl)
theorem qM (l:List En)(e:En):lP (l ++ [e])=lP l++ (if e.eKw=mt then [] else [e]):=by
 unfold lP;rw[List.filter_append]
 by_cases h:e.eKw=mt <;> simp[h]
theorem sd (l:List En)(e:En):kC (l ++ [e])=kC l++ (if e.eKw=mt then [e.eAt] else []):=by
 unfold kC;rw[List.filter_append]
 by_cases h:e.eKw=mt <;> simp[h]
theorem gj (l:List En):(lP l).length+ (kC l).length=l.length:=by
 unfold lP kC;rw[List.length_map]
 induction l with
 |nil=>rfl
 |cons a l ih=>by_cases h:a.eKw=mt <;> simp[h] <;> omega
theorem aZ.slt (h:aZ w base v l)(hl:l.length<=1000000):mE w v l:=by
 obtain⟨A,q,rfl,h1,-,-⟩:=af h;exact⟨hl,A,q,rfl,h1,fun i a ha=>by obtain⟨g,e,hc⟩:=(aZ.read h).2 i a ha;exact⟨g,0,e,by rw[Nat.zero_add];exact hc⟩⟩
theorem nw {es:List En}(h:aZ w b1 v l)(he:bJ w b2 u es)(hg:w.grownBy w' u.ownBlock):aZ w' b1 v l:=by
 refine World.ownsRow.kept h hg ?_
 cases hv:v.ownBlock with
 |none=>exact .inl rfl
 |some k=>
  refine .inr fun e=>?_
  obtain⟨-,c1,h1⟩:=al h hv;obtain⟨-,c2,h2⟩:=al he e.symm;rw[h1] at h2;injection h2 with h2
  injection h2 with _ h2 _
  exact absurd h2 (by decide)
theorem lA {es:List En}(h:aZ w b1 v l)(he:bJ w b2 u es)(hg:w.grownBy w' v.ownBlock):bJ w' b2 u es:=by
 refine World.ownsRow.kept he hg ?_
 cases hv:u.ownBlock with
 |none=>exact .inl rfl
 |some k=>
  refine .inr fun e=>?_
  obtain⟨-,c1,h1⟩:=al he hv;obtain⟨-,c2,h2⟩:=al h e.symm;rw[h1] at h2;injection h2 with h2
  injection h2 with _ h2 _
  exact absurd h2 (by decide)
def EK (l:List En)(w:World)(e:Ending)(w':World):Prop:= ∃u v,e =.returned (.tuple #[u,v])/\bJ w' w.heap.size u (lP l)/\aZ w' w.heap.size v (kC l)/\Below w.heap.size w w'
theorem wN {l:List En}(hv:vv w v l):Calls Tryz.prog 27 #[v] w (EK l w):=by
 obtain⟨hl,A,c,rfl,-,hc⟩:=hv;have Hc:=H8 hc;clear hc;go_enter Tryz.func27,Tryz.ntmps27;go_wp2_with fail
 go_loopg [4,5,10] l.length (fun m s4 s5 s10 wr=> ∃i:Nat,m+i=l.length/\s10 =.int .i64 i/\Hid (bJ wr w.heap.size s4 (lP (l.take i)))/\Hid (aZ wr w.heap.size s5 (kC (l.take i)))/\Hid (Below w.heap.size w wr))
 case atStart=>exact⟨0,rfl,rfl,H8 (by simpa [lP] using bJ.nil _ _),H8 (by simpa [kC] using aZ.nil _ _),H8 (Ze _ _)⟩
 case round=>
  obtain⟨i,hm,rfl,HE,HS,Hb⟩:=hrel;have Hm:=H8 hm
  by_cases hlt:i<l.length
  ·have b3:(i:Int)<l.length:=by omega
   obtain⟨e,he⟩:∃e,l[i]?=some e:=⟨_,Zd hlt⟩;obtain⟨g,o,rfl,k1,k2,k3⟩:=Hc.out i e he;have c1:=Zg Hb.out k1;have c2:=Zg Hb.out k2;have c3:=Zg Hb.out k3;have a5:=H8 (show l.take (i+1)=l.take i ++ [e] by
    obtain⟨h1,h3⟩:=List.getElem?_eq_some_iff.1 he;rw[List.take_succ_eq_append_getElem h1,h3])
   have b1:=ac wr (.cells #[.string e.eAt,.string e.eSch,.string e.eKw] 34);have a9:=Zf wr (.cells #[.string e.eAt,.string e.eSch,.string e.eKw] 34);have d1:=aa a9 (j:=0) (u:=.string e.eAt) rfl;have d2:=aa a9 (j:=1) (u:=.string e.eSch) rfl;have d3:=aa a9 (j:=2) (u:=.string e.eKw) rfl;have b2:=H8 (show bJ (wr.alloc (.cells #[.string e.eAt,.string e.eSch,.string e.eKw] 34)) w.heap.size u4 (lP (l.take i)) from ag HE.out b1 (Zb _));have b0:=H8 (show aZ (wr.alloc (.cells #[.string e.eAt,.string e.eSch,.string e.eKw] 34)) w.heap.size u5 (kC (l.take i)) from ag HS.out b1 (Zb _));have a3:=H8 (ak Hb.out b1);have c4:=gj (l.take i);rw[List.length_take] at c4;have a4:=H8 (show(lP (l.take i)).length<=1000000/\(kC (l.take i)).length<=1000000 by omega);clear c4 he k1 k2 k3 hm b1 a9 HE HS Hb
   by_cases hq:e.eKw=mt
   ·have c7:=AO hq;have b8:=H8 (show lP (l.take (i+1))=lP (l.take i) by rw[a5.out,qM,if_pos hq,List.append_nil]);have b4:=H8 (show kC (l.take (i+1))=kC (l.take i) ++ [e.eAt] by rw[a5.out,sd,if_pos hq]);clear hq;have a0:=H8 (ak a3.out (ac (wr.alloc (.cells #[.string e.eAt,.string e.eSch,.string e.eKw] 34)) (.cells #[.string e.eAt] 9)));have a2:=H8 (show bJ ((wr.alloc (.cells #[.string e.eAt,.string e.eSch,.string e.eKw] 34)).alloc (.cells #[.string e.eAt] 9)) w.heap.size u4 (lP (l.take i)) from ag b2.out (ac _ _) (Zb _));have a1:=H8 (show aZ ((wr.alloc (.cells #[.string e.eAt,.string e.eSch,.string e.eKw] 34)).alloc (.cells #[.string e.eAt] 9)) w.heap.size u5 (kC (l.take i)) from ag b0.out (ac _ _) (Zb _));have c0:=H8 (show ∀ (j:Nat) u, [b7 e.eAt][j]?=some u->((wr.alloc (.cells #[.string e.eAt,.string e.eSch,.string e.eKw] 34)).alloc (.cells #[.string e.eAt] 9)).cell? ⟨wr.heap.size+1,j,none⟩=some u from by
     have:=ar (wr.alloc (.cells #[.string e.eAt,.string e.eSch,.string e.eKw] 34)) [b7 e.eAt] 9
     rwa[World.size_alloc] at this)
    clear b2 b0 a3;go_wp2_with (at_builtin;refine mb kf a1.out c0.out a0.out.size ?_ (h1:=(by simp[b7,Value.oneCell'])) (hlen:=by have:=a4.out;unfold maxLen;omega) (hby:=by have:=a4.out;omega);intro v' w5 p1 p2 p3;have b5:=H8 p1;have b9:=H8 (aA a0.out a1.out a0.out.size p2);have c6:=H8 (lA a1.out a2.out p2);clear p1 p2 p3);go_roundg (l.length - (i+1))
    case measure=>have:=Hm.out;omega
    case rel=>
     refine⟨i+1,by omega,by go_num,H8 (by rw[b8.out];exact c6.out),H8 ?_,b9⟩;rw[b4.out];unfold aZ;rw[List.map_append,List.length_append];exact b5.out
   ·have c7:(e.eKw.toList == [120,45,115,101,99,114,101,116])=false:=by rw[beq_eq_false_iff_ne];exact DB hq
    have b8:=H8 (show lP (l.take (i+1))=lP (l.take i) ++ [e] by rw[a5.out,qM,if_neg hq]);have b4:=H8 (show kC (l.take (i+1))=kC (l.take i) by rw[a5.out,sd,if_neg hq,List.append_nil]);clear hq;have a0:=H8 (ak a3.out (ac (wr.alloc (.cells #[.string e.eAt,.string e.eSch,.string e.eKw] 34)) (.cells #[.string e.eAt,.string e.eSch,.string e.eKw] 34)));have a2:=H8 (show bJ ((wr.alloc (.cells #[.string e.eAt,.string e.eSch,.string e.eKw] 34)).alloc (.cells #[.string e.eAt,.string e.eSch,.string e.eKw] 34)) w.heap.size u4 (lP (l.take i)) from ag b2.out (ac _ _) (Zb _));have a1:=H8 (show aZ ((wr.alloc (.cells #[.string e.eAt,.string e.eSch,.string e.eKw] 34)).alloc (.cells #[.string e.eAt,.string e.eSch,.string e.eKw] 34)) w.heap.size u5 (kC (l.take i)) from ag b0.out (ac _ _) (Zb _));have c0:=H8 (show ∀ (j:Nat) u,(dh e)[j]?=some u->((wr.alloc (.cells #[.string e.eAt,.string e.eSch,.string e.eKw] 34)).alloc (.cells #[.string e.eAt,.string e.eSch,.string e.eKw] 34)).cell? ⟨wr.heap.size+1,j,none⟩=some u from by
     have:=ar (wr.alloc (.cells #[.string e.eAt,.string e.eSch,.string e.eKw] 34)) (dh e) 34
     rwa[World.size_alloc] at this)
    clear b2 b0 a3;go_wp2_with (at_builtin;refine mb sV a2.out c0.out a0.out.size ?_ (h1:=(by simp[dh,Value.oneCell'])) (hlen:=by have:=a4.out;unfold maxLen;omega) (hby:=by have:=a4.out;omega);intro v' w5 p1 p2 p3;have b5:=H8 p1;have b9:=H8 (aA a0.out a2.out a0.out.size p2);have c5:=H8 (nw a1.out a2.out p2);clear p1 p2 p3);go_roundg (l.length - (i+1))
    case measure=>have:=Hm.out;omega
    case rel=>
     refine⟨i+1,by omega,by go_num,H8 ?_,H8 (by rw[b4.out];exact c5.out),b9⟩;rw[b8.out];unfold bJ;rw[<-eO,List.length_append];exact b5.out
  ·have b3:¬ (i:Int)<l.length:=by omega
   obtain rfl:i=l.length:=by omega
   rw[List.take_length] at HE HS;obtain⟨A1,q1,rfl,-⟩:=af HE.out;obtain⟨A2,q2,rfl,-⟩:=af HS.out;clear hm;go_wp2_with fail;go_ret2;exact⟨_,_,rfl,HE.out,HS.out,Hb.out⟩
theorem Fh {k:ByteArray}(h:AF k):k≠mt:=by
 rcases h with rfl|h
 ·decide
 ·have h2:bE.all (fun r=>decide (r≠mt))=true:=by decide
  exact of_decide_eq_true (List.all_eq_true.1 h2 k h)
theorem d7.ne {x:List En}(h:d7 x y):∀e∈x,e.eKw≠mt:=fun e he=>Fh (h.bl e he).1.2.2
theorem d7.again {x:List En}{es:List En}(h:d7 x y)(k:bF x y es):d7 (lP es) (kC es):=
 ⟨fun e he=>h.bl e ((k.bl h.ne).1 he).1,fun p hp=>h.pl p ((k.pl h.ne).1 hp).1,by have:=gj es;have:=(h.ents k).2.2;omega⟩
theorem bF.some {x:List En}{es:List En}(k:bF x y es):0<x.length+y.length↔0<es.length:=by
 constructor
 ·intro h;refine List.length_pos_iff.2 (k.ne ?_);rcases x with _|⟨a,x⟩
  ·right
   intro e;subst e;simp at h
  ·left
   simp
 ·intro h;obtain⟨e,he⟩:=List.exists_mem_of_length_pos h;rcases ci.1 ((k.mem e).1 he) with h1|⟨p,hp,-,-⟩
  ·have:=List.length_pos_of_mem h1.1;omega
  ·have:=List.length_pos_of_mem hp;omega
def CU (oc:Nat)(l:List En)(w:World)(e:Ending)(w':World):Prop:= ∃u,e =.returned (.tuple #[.int .i64 oc,u,.nilIface])/\bJ w' w.heap.size u l/\Below w.heap.size w w'
theorem iP {x:List En}{l:List En}(hA:ou w)(hin:d7 x y)(hi:bF x y l)(ho:1<=oc/\oc<6)(hq:oc=2↔0<x.length+y.length)(hv:Bs w v (cO oc l).txt)(hl:(cO oc l).txt.length<=1000000000) :
  Calls Tryz.prog 12 #[v] w (CU oc l w):=by
 obtain⟨e1,e2,e3⟩:=hin.ents hi;have b5:=H8 (zc hA hv hl e1 ho (by omega));have a5:=H8 (fun W u1 u2 (hb:Below w.heap.size w W) (h1:vv W u1 (lP l)) (h2:mE W u2 (kC l))=>fE (oc:=oc) (hA.below hb).lr (hA.below hb).lw h1 h2 (hin.again hi) ho (by rw[hq,hi.some,gj]));have b4:=H8 (fun es (h:bF (lP l) (kC l) es)=>h.uniq (hi.again hin.ne) (fun e=>Iff.rfl));have Hv:=H8 hv;have Hl:=H8 (show l.length<=1000000 by omega);have a3:=H8 (show(lP l).length<=1000000/\(kC l).length<=1000000 by have:=gj l;omega);obtain⟨-,A,c,rfl,-,-⟩:=id hv;clear hA hin hi ho hq hv hl e1 e2 e3;go_enter Tryz.func12,Tryz.ntmps12;go_wp2_with fail;refine Za b5 ?_;rintro e w1 ⟨u,rfl,hE,a9⟩;obtain⟨A1,q1,rfl,-⟩:=af hE;have b9:=H8 (wN (hE.sl Hl.out));have HE:=H8 hE;have b2:=H8 a9;clear hE a9;go_wp2_with fail;refine Za b9 ?_;rintro e w2 ⟨u1,u2,rfl,h1,h2,a0⟩;have a2:=H8 (ak b2.out a0);have c0:=H8 (show bJ w2 w.heap.size (.slice A1 l.length q1) l from ag HE.out a0 (Zb _));have HM:=H8 (a5.out w2 u1 u2 a2.out (h1.sl a3.out.1) (h2.slt a3.out.2));obtain⟨A2,q2,rfl,-⟩:=af h1;obtain⟨A3,q3,rfl,-⟩:=af h2;clear h1 h2 a0 HE a5;go_wp2_with fail;refine Za HM ?_;rintro e w3 ⟨es,u3,b0,rfl,h3,a1⟩;obtain rfl:=b4.out es b0;have a4:=H8 (ak a2.out a1);have b3:=H8 (show bJ w3 w.heap.size (.slice A1 es.length q1) es from ag c0.out a1 (Zb _));have b1:=H8 (lI (Hv.out.below a4.out) h3.bs);rw[decide_eq_true rfl] at b1;obtain⟨A4,q4,b8,-⟩:=af h3;clear h3 a1 b0;subst b8;generalize (cO oc es).txt.length=tn at *;go_wp2_with fail;refine Za b1 ?_;rintro e w' ⟨rfl,rfl⟩;go_wp2_with fail;refine Zh (v:=.tuple #[.int .i64 oc,.slice A1 es.length q1,.nilIface]) (by simp[results,Tryz.results12,go_sem]) rfl ⟨_,rfl,b3.out,a4.out⟩
def sq (e:En):Value:=if e.eKw=mt then .iface 49 (.agg #[.string e.eAt]) else .iface 44 (.agg #[.string e.eAt,.string e.eSch,.string e.eKw])
theorem zE:cV 40 47 .nilIface 1 16:=⟨Tryz.underlying40,by kernel_rfl,rfl,by decide⟩
def oD (w:World)(base:Nat)(v:Value)(l:List En):Prop:=w.ownsRow base 47 1 v l.length (l.map sq)
def Ev (l:List En)(w:World)(e:Ending)(w':World):Prop:= ∃u,e =.returned (.tuple #[u,.nilIface])/\oD w' w.heap.size u l/\Below w.heap.size w w'
theorem xU {x:List En}{l:List En}(hA:ou w)(hin:d7 x y)(hi:bF x y l)(ho:1<=oc/\oc<6)(hq:oc=2↔0<x.length+y.length)(hv:Bs w v (cO oc l).txt)(hl:(cO oc l).txt.length<=1000000000) :
  Calls Tryz.prog 11 #[v] w (Ev l w):=by
 have Hp:=H8 (iP hA hin hi ho hq hv hl);have Hl:=H8 (show l.length<=1000000 by have:=(hin.ents hi).2.2;omega);clear hA hin hi ho hq hv hl;go_enter Tryz.func11,Tryz.ntmps11;go_wp2_with fail;refine Za Hp ?_;rintro e w1 ⟨u,rfl,hE,b8⟩;obtain⟨c0,A,c,rfl,-,hc⟩:=hE.sl Hl.out;have Hc:=H8 hc;have b4:=H8 b8;clear hE hc b8;go_wp2_with fail
 go_loopg [7,21] l.length (fun m s7 s21 wr=> ∃i:Nat,m+i=l.length/\s21 =.int .i64 i/\Hid (oD wr w1.heap.size s7 (l.take i))/\Hid (Below w1.heap.size w1 wr))
 case atStart=>exact⟨0,rfl,rfl,H8 (by simpa [oD] using World.ownsRow_nil ..),H8 (Ze _ _)⟩
 case round=>
  obtain⟨i,hm,rfl,HE,Hb⟩:=hrel;have Hm:=H8 hm
  by_cases hlt:i<l.length
  ·have a9:(i:Int)<l.length:=by omega
   obtain⟨e,he⟩:∃e,l[i]?=some e:=⟨_,Zd hlt⟩;obtain⟨g,o,rfl,k1,k2,k3⟩:=Hc.out i e he;have c1:=Zg Hb.out k1;have c2:=Zg Hb.out k2;have c3:=Zg Hb.out k3;have b5:=H8 (show l.take (i+1)=l.take i ++ [e] by
    obtain⟨h1,h3⟩:=List.getElem?_eq_some_iff.1 he;rw[List.take_succ_eq_append_getElem h1,h3])
   have a5:=ac wr (.cells #[.string e.eAt,.string e.eSch,.string e.eKw] 34);have a3:=Zf wr (.cells #[.string e.eAt,.string e.eSch,.string e.eKw] 34);have d1:=aa a3 (j:=0) (u:=.string e.eAt) rfl;have d2:=aa a3 (j:=1) (u:=.string e.eSch) rfl;have d3:=aa a3 (j:=2) (u:=.string e.eKw) rfl;have a4:=H8 (show(l.take i).length=i by rw[List.length_take];omega);clear he k1 k2 k3 hm
   by_cases hq:e.eKw=mt
   ·have b9:=AO hq;have b2:sq e =.iface 49 (.agg #[.string e.eAt]):=if_pos hq;clear hq;have a1:=ak a5 (ac _ (.cells #[.iface 49 (.agg #[.string e.eAt])] 47));have a0:=H8 (show oD ((wr.alloc (.cells #[.string e.eAt,.string e.eSch,.string e.eKw] 34)).alloc (.cells #[.iface 49 (.agg #[.string e.eAt])] 47)) w1.heap.size u7 (l.take i) from ag HE.out a1 (Zb _));have b3:=H8 (show ∀ (j:Nat) u, [Value.iface 49 (.agg #[.string e.eAt])][j]?=some u->((wr.alloc (.cells #[.string e.eAt,.string e.eSch,.string e.eKw] 34)).alloc (.cells #[.iface 49 (.agg #[.string e.eAt])] 47)).cell? ⟨wr.heap.size+1,j,none⟩=some u from by
     have:=ar (wr.alloc (.cells #[.string e.eAt,.string e.eSch,.string e.eKw] 34)) [Value.iface 49 (.agg #[.string e.eAt])] 47
     rwa[World.size_alloc] at this)
    have a2:=H8 (ak Hb.out a1);unfold oD at a0;rw[a4.out] at a0;clear a5 a3 a1 HE Hb;go_wp2_with (at_builtin;refine mb zE a0.out b3.out a2.out.size ?_ (h1:=(by simp[Value.oneCell'])) (hlen:=by have:=Hm.out;unfold maxLen;omega) (hby:=by have:=Hm.out;omega);intro v' w5 p1 p2 p3;have b0:=H8 p1;have b1:=H8 (aA a2.out a0.out a2.out.size p2);clear p1 p2 p3);go_roundg (l.length - (i+1))
    case measure=>have:=Hm.out;omega
    case rel=>
     refine⟨i+1,by omega,by go_num,H8 ?_,b1⟩;unfold oD;rw[b5.out,List.map_append,List.length_append,a4.out,List.map_cons,b2];exact b0.out
   ·have b9:(e.eKw.toList == [120,45,115,101,99,114,101,116])=false:=by rw[beq_eq_false_iff_ne];exact DB hq
    have b2:sq e =.iface 44 (.agg #[.string e.eAt,.string e.eSch,.string e.eKw]):=if_neg hq;clear hq;have a1:=ak a5 (ac _ (.cells #[.iface 44 (.agg #[.string e.eAt,.string e.eSch,.string e.eKw])] 47));have a0:=H8 (show oD ((wr.alloc (.cells #[.string e.eAt,.string e.eSch,.string e.eKw] 34)).alloc (.cells #[.iface 44 (.agg #[.string e.eAt,.string e.eSch,.string e.eKw])] 47)) w1.heap.size u7 (l.take i) from ag HE.out a1 (Zb _));have b3:=H8 (show ∀ (j:Nat) u, [Value.iface 44 (.agg #[.string e.eAt,.string e.eSch,.string e.eKw])][j]?=some u->((wr.alloc (.cells #[.string e.eAt,.string e.eSch,.string e.eKw] 34)).alloc (.cells #[.iface 44 (.agg #[.string e.eAt,.string e.eSch,.string e.eKw])] 47)).cell? ⟨wr.heap.size+1,j,none⟩=some u from by
     have:=ar (wr.alloc (.cells #[.string e.eAt,.string e.eSch,.string e.eKw] 34)) [Value.iface 44 (.agg #[.string e.eAt,.string e.eSch,.string e.eKw])] 47
     rwa[World.size_alloc] at this)
    have a2:=H8 (ak Hb.out a1);unfold oD at a0;rw[a4.out] at a0;clear a5 a3 a1 HE Hb;go_wp2_with (at_builtin;refine mb zE a0.out b3.out a2.out.size ?_ (h1:=(by simp[Value.oneCell'])) (hlen:=by have:=Hm.out;unfold maxLen;omega) (hby:=by have:=Hm.out;omega);intro v' w5 p1 p2 p3;have b0:=H8 p1;have b1:=H8 (aA a2.out a0.out a2.out.size p2);clear p1 p2 p3);go_roundg (l.length - (i+1))
    case measure=>have:=Hm.out;omega
    case rel=>
     refine⟨i+1,by omega,by go_num,H8 ?_,b1⟩;unfold oD;rw[b5.out,List.map_append,List.length_append,a4.out,List.map_cons,b2];exact b0.out
  ·have a9:¬ (i:Int)<l.length:=by omega
   obtain rfl:i=l.length:=by omega
   rw[List.take_length] at HE;obtain⟨A1,q1,rfl,-⟩:=af HE.out;clear hm;go_wp2_with fail;go_ret2;exact⟨_,rfl,bB HE.out b4.out.size,ak b4.out Hb.out⟩
theorem BM {a:Addr}(hA:w.cell? ⟨1,0,none⟩=some (br a))(hg:w.cell? ⟨g,0,none⟩=some .nilIface):Calls Tryz.prog 13 #[.slice (some ⟨g,0,none⟩) 1 1] w fun e w'=>e =.returned (.tuple #[.slice none 0 0,br a])/\Below w.heap.size w w':=by
 have H:Calls Tryz.prog 29 #[.slice (some ⟨g,0,none⟩) 1 1] w fun e w'=>e =.returned (.tuple #[.slice none 0 0,br a])/\Below w.heap.size w w':=by
  have hq:∀w,(binOp .eql 47 .nilIface .nilIface).run Tryz.prog w =.ok (.bool true) w:=fun w=>by kernel_rfl
  go_enter Tryz.func29,Tryz.ntmps29;go_wp2
  go_loopg [14] 1 (fun m s14 wr=>s14 =.int .i64 0/\wr=w)
  case atStart=>exact⟨rfl,rfl⟩
  case round=>
   obtain⟨rfl,rfl⟩:=hrel;go_wp2_with fail;go_quiet (fail);go_wp2_with fail;go_ret2;exact⟨rfl,ap (Ze _ _) nq⟩
 have H2:=H8 H;clear H hA hg;go_enter Tryz.func13,Tryz.ntmps13;go_wp2_with fail;refine Za H2 ?_;rintro e w1 ⟨rfl,a0⟩;have a1:=H8 a0;clear a0;go_wp2_with fail;go_ret2;exact⟨rfl,a1.out⟩
def pB:ByteArray:=⟨#[47,98]⟩
def EZ:ByteArray:=⟨#[47,112,114,111,112,101,114,116,105,101,115,47,98]⟩
def mT:ByteArray:=⟨#[47,112,119]⟩
def ea:ByteArray:=⟨#[116,121,112,101]⟩
def iz:ByteArray:=⟨#[114,101,113,117,105,114,101,100]⟩
def e0:En:=⟨⟨#[]⟩,⟨#[]⟩,iz⟩
def e1:En:=⟨pB,EZ,ea⟩
def e2:En:=fZ mT
theorem iR {s:ByteArray}(h0:s.data.toList[0]?=some 47)(h:∀c∈s.data.toList,c.toNat<126):aT s:=by
 obtain⟨cs,h1,h2⟩:=bQ (s:=s) fun c hc=>by have:=h c hc;omega
 refine .inr ⟨h0,⟨cs,h1,h2⟩,?_⟩;have:=(vz (a:=s.data.toList) (b:= []) (fun c hc e=>by have:=h c hc;rw[e] at this;exact absurd this (by decide))).2 .nil
 rwa[List.append_nil] at this
theorem EO:aT pB/\aT EZ/\aT mT:=⟨iR rfl (by decide),iR rfl (by decide),iR rfl (by decide)⟩
theorem F8:d7 [e1,e0] [mT]:=by
 have k1:ea∈bE:=Zk (i:=6) rfl;have k2:∃i:Nat,bE[i]?=some iz:=⟨27,rfl⟩;refine⟨fun e he=>?_,fun p hp=>?_,by decide⟩
 ·simp only[List.mem_cons,List.mem_nil_iff,or_false] at he;rcases he with rfl|rfl
  ·exact⟨⟨EO.1,EO.2.1,.inr k1⟩,by decide,by decide⟩
  ·obtain⟨i,hi⟩:=k2;exact⟨⟨gC,gC,.inr (Zk hi)⟩,by decide,by decide⟩
 ·simp only[List.mem_cons,List.mem_nil_iff,or_false] at hp;subst hp;exact⟨EO.2.2,by decide⟩
theorem GO:d7 [] []:=⟨fun e he=>by simp at he,fun p hp=>by simp at hp,by decide⟩
theorem Gi:bF [] [] []:=⟨List.Pairwise.nil,fun e=>by
 have h:eV [] [] = []:=rfl;rw[h]⟩
theorem Ek:bF [e1,e0] [mT] [e0,e1,e2]:=by
 refine⟨?_,?_⟩
 ·have a1:vK e0 e1<0:=by decide
  have a2:vK e0 e2<0:=by decide
  have a3:vK e1 e2<0:=by decide
  simp[a1,a2,a3]
 ·have h:eV [e1,e0] [mT] = [e1,e0,e2]:=by rfl
  intro e;rw[h];simp only[List.mem_cons,List.mem_nil_iff,or_false]
  constructor
  ·rintro(h|h|h) <;> simp[h]
  ·rintro(h|h|h) <;> simp[h]
theorem GB:(cO 2 [e0,e1,e2]).txt = [123,34,101,110,116,114,105,101,115,34,58,91,123,34,97,116,34,58,34,34,44,34,107,101,121,119,111,114,100,34,58,34,114,101,113,117,105,114,101,100,34,44,34,115,99,104,101,109,97,34,58,34,34,125,44,123,34,97,116,34,58,34,47,98,34,44,34,107,101,121,119,111,114,100,34,58,34,116,121,112,101,34,44,34,115,99,104,101,109,97,34,58,34,47,112,114,111,112,101,114,116,105,101,115,47,98,34,125,44,123,34,97,116,34,58,34,47,112,119,34,44,34,107,101,121,119,111,114,100,34,58,34,120,45,115,101,99,114,101,116,34,44,34,115,99,104,101,109,97,34,58,34,34,125,93,44,34,111,117,116,99,111,109,101,34,58,34,105,110,118,97,108,105,100,34,125]:=by
 kernel_rfl
theorem Gs:(cO 5 []).txt = [123,34,101,110,116,114,105,101,115,34,58,91,93,44,34,111,117,116,99,111,109,101,34,58,34,111,118,101,114,32,108,105,109,105,116,34,125]:=by
 kernel_rfl
theorem xJ {a:Addr}(hR:mi w)(he:w.cell? ⟨0,0,none⟩=some (br a)):Calls Tryz.prog 7 #[.int .i64 2,.slice none 0 0,.slice none 0 0] w fun e w'=>e =.returned (.tuple #[.slice none 0 0,br a])/\Below w.heap.size w w':=by
 have a3:=H8 (show Calls Tryz.prog 18 #[.int .i64 2] w _ from lL (o:=2) hR (by decide));have a5:(bA 2).toList.isEmpty=false:=by rw[ByteArray.toList_eq];decide
 have a4:=vR (oc:=2) (by decide);have a2:=H8 he;clear hR he;generalize bA 2=wd at *;go_enter Tryz.func7,Tryz.ntmps7;go_wp2_with fail;refine Za a3 ?_;rintro e w1 ⟨rfl,m,rfl⟩;have a0:=ap (Ze w.heap.size w) m;have c1:=Zg a0 a2.out;have a1:=H8 a0;clear a0;generalize w.drewN m=w1 at *;go_wp2_with fail
 go_loopg [18] 1 (fun m s18 wr=>s18 =.int .i64 0/\wr=w1)
 case atStart=>exact⟨rfl,rfl⟩
 case round=>
  obtain⟨rfl,rfl⟩:=hrel;go_wp2_with fail
  go_loopg [29] 1 (fun m s29 wr'=>s29 =.int .i64 0/\wr'=wr)
  case atStart=>exact⟨rfl,rfl⟩
  case round=>
   obtain⟨rfl,rfl⟩:=hrel;go_wp2_with fail;go_quiet (fail);go_wp2_with fail;go_ret2;exact⟨rfl,ap a1.out nq⟩
theorem CC {l:List En}(hl:l.length<=1000000):vv (w.alloc (.cells (bk l).toArray 34)) (.slice (some ⟨w.heap.size,0,none⟩) l.length l.length) l:=by
 refine⟨hl,_,_,rfl,Zb _,fun i e he=>⟨w.heap.size,0,rfl,?_⟩⟩;have h:=gc l i e he;exact⟨ar w (bk l) 34 _ _ (by rw[Nat.zero_add];exact h.1),ar w (bk l) 34 _ _ (by rw[Nat.zero_add];exact h.2.1),ar w (bk l) 34 _ _ (by rw[Nat.zero_add];exact h.2.2)⟩
theorem Da (hl:l.length<=1000000):mE (w.alloc (.cells (l.map b7).toArray 9)) (.slice (some ⟨w.heap.size,0,none⟩) l.length l.length) l:=
 ⟨hl,_,_,rfl,Zb _,fun i a ha=>⟨w.heap.size,0,rfl,ar w (l.map b7) 9 _ _ (by rw[Nat.zero_add,List.getElem?_map,ha];rfl)⟩⟩
theorem Df (w:World):mE w (.slice none 0 0) []:=⟨by decide,none,0,rfl,Zb _,fun i a ha=>by simp at ha⟩
theorem Ca (w:World):vv w (.slice none 0 0) []:=⟨by decide,none,0,rfl,Zb _,fun i a ha=>by simp at ha⟩
def BJ:List UInt8:=(cO 2 [e0,e1,e2]).txt
def AW:List UInt8:=(cO 5 []).txt
theorem F5 {e:Ending}(h:Ea [e1,e0] [mT] 2 w e w'):∃v,e =.returned (.tuple #[v,.nilIface])/\ao w' w.heap.size v BJ/\Below w.heap.size w w':=by
 obtain⟨es,v,h1,rfl,h2,h3⟩:=h;obtain rfl:=h1.uniq Ek (fun e=>Iff.rfl);exact⟨v,rfl,h2,h3⟩
theorem Gh {e:Ending}(h:Ea [] [] 5 w e w'):∃v,e =.returned (.tuple #[v,.nilIface])/\ao w' w.heap.size v AW/\Below w.heap.size w w':=by
 obtain⟨es,v,h1,rfl,h2,h3⟩:=h;obtain rfl:=h1.uniq Gi (fun e=>Iff.rfl);exact⟨v,rfl,h2,h3⟩
theorem FK:(cO 2 [e0,e1,e2]).txt.length<=1000000000:=of_decide_eq_true (by kernel_rfl)
theorem qE (a:Addr)(W:World):(binOp .neq 30 (br a) (br a)).run Tryz.prog W =.ok (.bool false) W:=by
 obtain⟨i,hi,hc⟩:=Option.map_eq_some_iff.1 zx;obtain⟨j,hj,hs⟩:=Option.map_eq_some_iff.1 Au;simp only[binOp];simp[Op.equal,Op.maxDepth,run_equalIn_iface_ptr_same W 9998 a Tryz.underlying30 Tryz.underlying407 hi hc hj]
theorem zD (x:Value)(W:World):(Instr.typeAssert (.iface 44 x) 47 44 true).run Tryz.prog W =.ok (.tuple #[x,.bool true]) W:=by kernel_rfl
theorem xT (x:Value)(W:World):(Instr.typeAssert (.iface 49 x) 47 49 true).run Tryz.prog W =.ok (.tuple #[x,.bool true]) W:=by kernel_rfl
theorem Bf (a b c:Value)(W:World):(Instr.field 34 (.agg #[a,b,c]) 2).run Tryz.prog W =.ok c W:=by kernel_rfl
theorem FE:sq e0 =.iface 44 (.agg #[.string ⟨#[]⟩,.string ⟨#[]⟩,.string iz]):=if_neg (by decide)
theorem FT:sq e2 =.iface 49 (.agg #[.string mT]):=if_pos rfl
theorem nM:Calls Tryz.prog 14 #[.agg #[.string p]] w fun e w'=>e =.returned (.string p)/\Below w.heap.size w w':=by
 go_enter Tryz.func14,Tryz.ntmps14;go_wp2_with fail;go_ret;exact⟨rfl,(Ze _ _).alloc (Zb _) _⟩
theorem rX (hA:ou w):Calls Tryz.prog 4 #[] w fun e w'=>e =.returned (.bool true)/\Below w.heap.size w w':=by
 have b4:=ak (ac w (.cells #[.string pB,.string EZ,.string ea,.string ⟨#[]⟩,.string ⟨#[]⟩,.string iz] 34)) (ac _ (.cells #[.string mT] 9));have f5:vv ((w.alloc (.cells #[.string pB,.string EZ,.string ea,.string ⟨#[]⟩,.string ⟨#[]⟩,.string iz] 34)).alloc (.cells #[.string mT] 9)) (.slice (some ⟨w.heap.size,0,none⟩) 2 2) [e1,e0]:=(CC (w:=w) (l:= [e1,e0]) (by decide)).below (ac _ _);have f8:mE ((w.alloc (.cells #[.string pB,.string EZ,.string ea,.string ⟨#[]⟩,.string ⟨#[]⟩,.string iz] 34)).alloc (.cells #[.string mT] 9)) (.slice (some ⟨w.heap.size+1,0,none⟩) 1 1) [mT]:=by
  have:=Da (w:=w.alloc (.cells #[.string pB,.string EZ,.string ea,.string ⟨#[]⟩,.string ⟨#[]⟩,.string iz] 34)) (l:= [mT]) (by decide)
  rwa[World.size_alloc] at this
 have g0:=fE (oc:=2) (hA.below b4).lr (hA.below b4).lw f5 f8 F8 (by decide) (by decide);have HA:=H8 hA;have f0:=H8 g0;have e6:=H8 b4;clear hA f5 f8 g0 b4;go_enter Tryz.func4,Tryz.ntmps4;go_wp2_with fail;refine Za f0 ?_;intro e wx hx;obtain⟨v1,rfl,h1,f1⟩:=F5 hx;have c1:=H8 (ak e6.out f1);have H1:=H8 h1.bs;obtain⟨A1,q1,rfl,-⟩:=af h1;clear hx h1 f1 f0 e6;go_wp2_with fail;obtain⟨aR,d6⟩:=(HA.out.below c1.out).lr.eRep;refine(xJ (HA.out.below c1.out).lr d6).mono ?_;rintro e w2 ⟨rfl,b5⟩;have b8:=H8 (ak c1.out b5);have c3:=H8 b5;have g8:=H8 (Zg b5 d6);clear b5 d6;go_wp2_with fail;refine(fE (oc:=5) (HA.out.below b8.out).lr (HA.out.below b8.out).lw (Ca w2) (Df w2) GO (by decide) (by decide)).mono ?_;intro e wx hx;obtain⟨v3,rfl,h3,b2⟩:=Gh hx;have f6:=H8 (ak b8.out b2);have b1:=H8 (ak c3.out b2);have c5:=H8 (Zg b2 g8.out);have H3:=H8 h3.bs;obtain⟨A3,q3,rfl,-⟩:=af h3;clear hx h3 b2;go_wp2_with fail;refine(xU (oc:=2) (HA.out.below f6.out) F8 Ek (by decide) (by decide) (H1.out.below b1.out) FK).mono ?_;rintro e w4 ⟨v4,rfl,h4,b0⟩;obtain⟨A4,q4,rfl,-,-,e2⟩:=af h4;obtain⟨g4,rfl⟩:=e2 (by decide);have t0:w4.cell? ⟨g4,0,none⟩=some (.iface 44 (.agg #[.string ⟨#[]⟩,.string ⟨#[]⟩,.string iz])):=(aK h4 rfl 0 (by decide)).trans (congrArg some FE);have t2:w4.cell? ⟨g4,2,none⟩=some (.iface 49 (.agg #[.string mT])):=(aK h4 rfl 2 (by decide)).trans (congrArg some FT);have d4:=H8 (ak f6.out b0);have a2:=H8 (ak b1.out b0);have c8:=Zg b0 c5.out;have e3:=H8 (H3.out.below b0);have h5:=zD;have g6:=xT;have h8:=fun W=>qE aR W
 have c6:=ac w4 (.cells #[.string ⟨#[]⟩,.string ⟨#[]⟩,.string iz] 44);have e5:=ac (w4.alloc (.cells #[.string ⟨#[]⟩,.string ⟨#[]⟩,.string iz] 44)) (.cells #[.string mT] 49);have t2':=Zg c6 t2;have b9:=Zf w4 (.cells #[.string ⟨#[]⟩,.string ⟨#[]⟩,.string iz] 44);have c2:=Zf (w4.alloc (.cells #[.string ⟨#[]⟩,.string ⟨#[]⟩,.string iz] 44)) (.cells #[.string mT] 49);rw[World.size_alloc] at c2;have f9:=H8 ((Below.heap_alloc _ (.cells #[.string mT] 49) _ (ah b9)).trans b9);have f4:=H8 c2;have a9:=H8 (ak c6 e5);clear h4 b0 e2 c6 e5 b9 c2;go_wp2_with fail;clear t0 t2 t2' c8;generalize (w4.alloc (.cells #[.string ⟨#[]⟩,.string ⟨#[]⟩,.string iz] 44)).alloc (.cells #[.string mT] 49)=w5 at *;refine(iP (oc:=2) (HA.out.below (ak d4.out a9.out)) F8 Ek (by decide) (by decide) (H1.out.below (ak a2.out a9.out)) FK).mono ?_;rintro e w6 ⟨v6,rfl,h6,a3⟩;obtain⟨A6,q6,rfl,-⟩:=af h6;have d9:=H8 (ak (ak d4.out a9.out) a3);have c4:=H8 (ak (ak a2.out a9.out) a3);have a5:=H8 (ak a9.out a3);have g1:=H8 (ai f9.out a3);have f3:=H8 (ai f4.out a3);clear h6 a3 f9 f4 d4 a2;go_wp2_with fail;obtain⟨aN,d5⟩:=(HA.out.below d9.out).eNil;have a0:=ac w6 (.cells #[.nilIface] 47);(with_reducible refine(BM (g:=w6.heap.size) (Zg a0 d5) (aa (Zf w6 (.cells #[.nilIface] 47)) (j:=0) rfl)).mono ?_);rintro e w7 ⟨rfl,a1⟩;have h7:=H8 (ak d9.out (ak a0 a1));have a4:=Zg a1 (Zg a0 d5);have b3:=ai g1.out (ak a0 a1);have c7:=ai f3.out (ak a0 a1);have d0:=aa b3 (j:=0) (u:=.string ⟨#[]⟩) rfl;have d1:=aa b3 (j:=1) (u:=.string ⟨#[]⟩) rfl;have d2:=aa b3 (j:=2) (u:=.string iz) rfl;have d3:=aa c7 (j:=0) (u:=.string mT) rfl;have g5:=aH (H1.out.below (ak c4.out (ak a0 a1)));have e4:=aH (e3.out.below (ak a5.out (ak a0 a1)));have g2:=fun W=>eE aN W
 have h9:∀W,(binOp .eql 44 (.agg #[.string ⟨#[]⟩,.string ⟨#[]⟩,.string iz]) (.agg #[.string ⟨#[]⟩,.string ⟨#[]⟩,.string ⟨#[114,101,113,117,105,114,101,100]⟩])).run Tryz.prog W =.ok (.bool true) W:=fun W=>by kernel_rfl
 have i4:(⟨BJ.toArray⟩:ByteArray).toList = [123,34,101,110,116,114,105,101,115,34,58,91,123,34,97,116,34,58,34,34,44,34,107,101,121,119,111,114,100,34,58,34,114,101,113,117,105,114,101,100,34,44,34,115,99,104,101,109,97,34,58,34,34,125,44,123,34,97,116,34,58,34,47,98,34,44,34,107,101,121,119,111,114,100,34,58,34,116,121,112,101,34,44,34,115,99,104,101,109,97,34,58,34,47,112,114,111,112,101,114,116,105,101,115,47,98,34,125,44,123,34,97,116,34,58,34,47,112,119,34,44,34,107,101,121,119,111,114,100,34,58,34,120,45,115,101,99,114,101,116,34,44,34,115,99,104,101,109,97,34,58,34,34,125,93,44,34,111,117,116,99,111,109,101,34,58,34,105,110,118,97,108,105,100,34,125]:=by rw[ByteArray.toList_eq];exact GB
 have i3:(⟨AW.toArray⟩:ByteArray).toList = [123,34,101,110,116,114,105,101,115,34,58,91,93,44,34,111,117,116,99,111,109,101,34,58,34,111,118,101,114,32,108,105,109,105,116,34,125]:=by rw[ByteArray.toList_eq];exact Gs
 have i2:mT.toList = [47,112,119]:=by rw[ByteArray.toList_eq];rfl
 have h2:=H8 a4;have g3:=H8 c7;have g7:=H8 (fun W (hb:Below w7.heap.size w7 W)=>aH (e3.out.below (ak a5.out (ak a0 (ak a1 hb)))));clear a0 a1 d5 b3 c7 g1 f3 e4;generalize (⟨BJ.toArray⟩:ByteArray)=S3 at *;generalize (⟨AW.toArray⟩:ByteArray)=S0 at *;go_wp2_with fail;refine nM.mono ?_;rintro e w8 ⟨rfl,c9⟩;have f7:=H8 c9;have d3:=aa (ai g3.out c9) (j:=0) (u:=.string mT) rfl;clear c9 d0 d1 d2 g5 a4;go_wp2_with fail;refine lY.mono ?_;rintro e w9 ⟨rfl,f2⟩;have c0:=H8 (ak f7.out f2);have h0:=Zg c0.out h2.out;have e4:=g7.out w9 c0.out;have i0:=Bf;clear f2 d3 f7;go_wp2_with fail;go_ret;exact⟨rfl,ak h7.out c0.out⟩
