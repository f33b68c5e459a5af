import Derived.Test.YtafobflehfecpaaGreatDoorGZ15bi
set_option linter.unusedVariables false
set_option linter.unusedSimpArgs false
set_option maxHeartbeats 64000000
set_option maxRecDepth 100000
namespace Go.Proofs.YtafobflehfecpaaGreatDoor
open Go.RowKit Go.Shelf
variable {p:ByteArray}{l y:List ByteArray}{b1 b2 base g oc:Nat}{u v:Value}{w w':World}
theorem td {s:ByteArray}(h:s=kI):s.toList = [120,45,115,101,99,114,101,116]:=by rw[h,ByteArray.toList_eq];rfl
theorem BQ {s:ByteArray}(h:¬s=kI):¬s.toList = [120,45,115,101,99,114,101,116]:=fun e=>h (by
 rw[ByteArray.toList_eq] at e
 cases s with
 |mk d=>
  cases d with
  |mk l=>simp at e;subst e;rfl)
theorem ja (l:List En)(e:En):df (l ++ [e])=df l++ (if e.eKw=kI then [] else [e]):=by
 unfold df;rw[List.filter_append]
 by_cases h:e.eKw=kI <;> simp[h]
theorem jd (l:List En)(e:En):bN (l ++ [e])=bN l++ (if e.eKw=kI then [e.eAt] else []):=by
 unfold bN;rw[List.filter_append]
 by_cases h:e.eKw=kI <;> simp[h]
theorem dU (l:List En):(df l).length+ (bN l).length=l.length:=by
 unfold df bN;rw[List.length_map]
 induction l with
 |nil=>rfl
 |cons a l ih=>by_cases h:a.eKw=kI <;> simp[h] <;> omega
theorem be.slt (h:be w base v l)(hl:l.length<=1000000):mo w v l:=by
 obtain⟨A,q,rfl,h1,-,-⟩:=af h;exact⟨hl,A,q,rfl,h1,fun i a ha=>by obtain⟨g,e,hc⟩:=(be.read h).2 i a ha;exact⟨g,0,e,by rw[Nat.zero_add];exact hc⟩⟩
theorem nj {es:List En}(h:be w b1 v l)(he:bS w b2 u es)(hg:w.grownBy w' u.ownBlock):be w' b1 v l:=by
 refine World.ownsRow.kept h hg ?_
 cases hv:v.ownBlock with
 |none=>exact .inl rfl
 |some k=>
  refine .inr fun e=>?_
  obtain⟨-,c1,h1⟩:=al h hv;obtain⟨-,c2,h2⟩:=al he e.symm;rw[h1] at h2;injection h2 with h2
  injection h2 with _ h2 _
  exact absurd h2 (by decide)
theorem pE {es:List En}(h:be w b1 v l)(he:bS w b2 u es)(hg:w.grownBy w' v.ownBlock):bS w' b2 u es:=by
 refine World.ownsRow.kept he hg ?_
 cases hv:u.ownBlock with
 |none=>exact .inl rfl
 |some k=>
  refine .inr fun e=>?_
  obtain⟨-,c1,h1⟩:=al he hv;obtain⟨-,c2,h2⟩:=al h e.symm;rw[h1] at h2;injection h2 with h2
  injection h2 with _ h2 _
  exact absurd h2 (by decide)
def BO (l:List En)(w:World)(e:Ending)(w':World):Prop:= ∃u v,e =.returned (.tuple #[u,v])/\bS w' w.heap.size u (df l)/\be w' w.heap.size v (bN l)/\Below w.heap.size w w'
theorem xS {l:List En}(hv:uC w v l):Calls Tryz.prog 26 #[v] w (BO l w):=by
 obtain⟨hl,A,c,rfl,-,hc⟩:=hv;have Hc:=Qa hc;clear hc;go_enter Tryz.func26,Tryz.ntmps26;go_wp2_with fail
 go_loopg [4,5,10] l.length (fun m s4 s5 s10 wr=> ∃i:Nat,m+i=l.length/\s10 =.int .i64 i/\Hid (bS wr w.heap.size s4 (df (l.take i)))/\Hid (be wr w.heap.size s5 (bN (l.take i)))/\Hid (Below w.heap.size w wr))
 case atStart=>exact⟨0,rfl,rfl,Qa (by simpa [df] using bS.nil _ _),Qa (by simpa [bN] using be.nil _ _),Qa (Ze _ _)⟩
 case round=>
  obtain⟨i,hm,rfl,HE,HS,Hb⟩:=hrel;have Hm:=Qa hm
  by_cases hlt:i<l.length
  ·have b8:(i:Int)<l.length:=by omega
   obtain⟨e,he⟩:∃e,l[i]?=some e:=⟨_,Zd hlt⟩;obtain⟨g,o,rfl,k1,k2,k3⟩:=Hc.out i e he;have c1:=Zg Hb.out k1;have c2:=Zg Hb.out k2;have c3:=Zg Hb.out k3;have a5:=Qa (show l.take (i+1)=l.take i ++ [e] by
    obtain⟨h1,h3⟩:=List.getElem?_eq_some_iff.1 he;rw[List.take_succ_eq_append_getElem h1,h3])
   have b0:=ac wr (.cells #[.string e.eAt,.string e.eSch,.string e.eKw] 40);have a4:=Zf wr (.cells #[.string e.eAt,.string e.eSch,.string e.eKw] 40);have d1:=aa a4 (j:=0) (u:=.string e.eAt) rfl;have d2:=aa a4 (j:=1) (u:=.string e.eSch) rfl;have d3:=aa a4 (j:=2) (u:=.string e.eKw) rfl;have b2:=Qa (show bS (wr.alloc (.cells #[.string e.eAt,.string e.eSch,.string e.eKw] 40)) w.heap.size u4 (df (l.take i)) from ai HE.out b0 (Zb _));have a3:=Qa (show be (wr.alloc (.cells #[.string e.eAt,.string e.eSch,.string e.eKw] 40)) w.heap.size u5 (bN (l.take i)) from ai HS.out b0 (Zb _));have b1:=Qa (ak Hb.out b0);have c4:=dU (l.take i);rw[List.length_take] at c4;have a9:=Qa (show(df (l.take i)).length<=1000000/\(bN (l.take i)).length<=1000000 by omega);clear c4 he k1 k2 k3 hm b0 a4 HE HS Hb
   by_cases hq:e.eKw=kI
   ·have c7:=td hq;have b4:=Qa (show df (l.take (i+1))=df (l.take i) by rw[a5.out,ja,if_pos hq,List.append_nil]);have b9:=Qa (show bN (l.take (i+1))=bN (l.take i) ++ [e.eAt] by rw[a5.out,jd,if_pos hq]);clear hq;have a0:=Qa (ak b1.out (ac (wr.alloc (.cells #[.string e.eAt,.string e.eSch,.string e.eKw] 40)) (.cells #[.string e.eAt] 9)));have a2:=Qa (show bS ((wr.alloc (.cells #[.string e.eAt,.string e.eSch,.string e.eKw] 40)).alloc (.cells #[.string e.eAt] 9)) w.heap.size u4 (df (l.take i)) from ai b2.out (ac _ _) (Zb _));have a1:=Qa (show be ((wr.alloc (.cells #[.string e.eAt,.string e.eSch,.string e.eKw] 40)).alloc (.cells #[.string e.eAt] 9)) w.heap.size u5 (bN (l.take i)) from ai a3.out (ac _ _) (Zb _));have c0:=Qa (show ∀ (j:Nat) u, [cH e.eAt][j]?=some u->((wr.alloc (.cells #[.string e.eAt,.string e.eSch,.string e.eKw] 40)).alloc (.cells #[.string e.eAt] 9)).cell? ⟨wr.heap.size+1,j,none⟩=some u from by
     have:=av (wr.alloc (.cells #[.string e.eAt,.string e.eSch,.string e.eKw] 40)) [cH e.eAt] 9
     rwa[World.size_alloc] at this)
    clear b2 a3 b1;go_wp2_with (at_builtin;refine kC lc a1.out c0.out a0.out.size ?_ (h1:=(by simp[cH,Value.oneCell'])) (hlen:=by have:=a9.out;unfold maxLen;omega) (hby:=by have:=a9.out;omega);intro v' w5 p1 p2 p3;have b5:=Qa p1;have b3:=Qa (aJ a0.out a1.out a0.out.size p2);have c5:=Qa (pE a1.out a2.out p2);clear p1 p2 p3);go_roundg (l.length - (i+1))
    case measure=>have:=Hm.out;omega
    case rel=>
     refine⟨i+1,by omega,by go_num,Qa (by rw[b4.out];exact c5.out),Qa ?_,b3⟩;rw[b9.out];unfold be;rw[List.map_append,List.length_append];exact b5.out
   ·have c7:(e.eKw.toList == [120,45,115,101,99,114,101,116])=false:=by rw[beq_eq_false_iff_ne];exact BQ hq
    have b4:=Qa (show df (l.take (i+1))=df (l.take i) ++ [e] by rw[a5.out,ja,if_neg hq]);have b9:=Qa (show bN (l.take (i+1))=bN (l.take i) by rw[a5.out,jd,if_neg hq,List.append_nil]);clear hq;have a0:=Qa (ak b1.out (ac (wr.alloc (.cells #[.string e.eAt,.string e.eSch,.string e.eKw] 40)) (.cells #[.string e.eAt,.string e.eSch,.string e.eKw] 40)));have a2:=Qa (show bS ((wr.alloc (.cells #[.string e.eAt,.string e.eSch,.string e.eKw] 40)).alloc (.cells #[.string e.eAt,.string e.eSch,.string e.eKw] 40)) w.heap.size u4 (df (l.take i)) from ai b2.out (ac _ _) (Zb _));have a1:=Qa (show be ((wr.alloc (.cells #[.string e.eAt,.string e.eSch,.string e.eKw] 40)).alloc (.cells #[.string e.eAt,.string e.eSch,.string e.eKw] 40)) w.heap.size u5 (bN (l.take i)) from ai a3.out (ac _ _) (Zb _));have c0:=Qa (show ∀ (j:Nat) u,(d7 e)[j]?=some u->((wr.alloc (.cells #[.string e.eAt,.string e.eSch,.string e.eKw] 40)).alloc (.cells #[.string e.eAt,.string e.eSch,.string e.eKw] 40)).cell? ⟨wr.heap.size+1,j,none⟩=some u from by
     have:=av (wr.alloc (.cells #[.string e.eAt,.string e.eSch,.string e.eKw] 40)) (d7 e) 40
     rwa[World.size_alloc] at this)
    clear b2 a3 b1;go_wp2_with (at_builtin;refine kC ye a2.out c0.out a0.out.size ?_ (h1:=(by simp[d7,Value.oneCell'])) (hlen:=by have:=a9.out;unfold maxLen;omega) (hby:=by have:=a9.out;omega);intro v' w5 p1 p2 p3;have b5:=Qa p1;have b3:=Qa (aJ a0.out a2.out a0.out.size p2);have c6:=Qa (nj a1.out a2.out p2);clear p1 p2 p3);go_roundg (l.length - (i+1))
    case measure=>have:=Hm.out;omega
    case rel=>
     refine⟨i+1,by omega,by go_num,Qa ?_,Qa (by rw[b9.out];exact c6.out),b3⟩;rw[b4.out];unfold bS;rw[<-dW,List.length_append];exact b5.out
  ·have b8:¬ (i:Int)<l.length:=by omega
   obtain rfl:i=l.length:=by omega
   rw[List.take_length] at HE HS;obtain⟨A1,q1,rfl,-⟩:=af HE.out;obtain⟨A2,q2,rfl,-⟩:=af HS.out;clear hm;go_wp2_with fail;go_ret2;exact⟨_,_,rfl,HE.out,HS.out,Hb.out⟩
theorem Fp {k:ByteArray}(h:Ba k):k≠kI:=by
 rcases h with rfl|h
 ·decide
 ·have h2:bD.all (fun r=>decide (r≠kI))=true:=by decide
  exact of_decide_eq_true (List.all_eq_true.1 h2 k h)
theorem ec.ne {x:List En}(h:ec x y):∀e∈x,e.eKw≠kI:=fun e he=>Fp (h.bl e he).1.2.2
theorem ec.again {x:List En}{es:List En}(h:ec x y)(k:br x y es):ec (df es) (bN es):=
 ⟨fun e he=>h.bl e ((k.bl h.ne).1 he).1,fun p hp=>h.pl p ((k.pl h.ne).1 hp).1,by have:=dU es;have:=(h.ents k).2.2;omega⟩
theorem br.some {x:List En}{es:List En}(k:br x y es):0<x.length+y.length↔0<es.length:=by
 constructor
 ·intro h;refine List.length_pos_iff.2 (k.ne ?_);rcases x with _|⟨a,x⟩
  ·right
   intro e;subst e;simp at h
  ·left
   simp
 ·intro h;obtain⟨e,he⟩:=List.exists_mem_of_length_pos h;rcases bM.1 ((k.mem e).1 he) with h1|⟨p,hp,-,-⟩
  ·have:=List.length_pos_of_mem h1.1;omega
  ·have:=List.length_pos_of_mem hp;omega
def CZ (oc:Nat)(l:List En)(w:World)(e:Ending)(w':World):Prop:= ∃u,e =.returned (.tuple #[.int .i64 oc,u,.nilIface])/\bS w' w.heap.size u l/\Below w.heap.size w w'
theorem fo {x:List En}{l:List En}(hA:mj w)(hin:ec x y)(hi:br x y l)(ho:1<=oc/\oc<6)(hq:oc=2↔0<x.length+y.length)(hv:Bs w v (cm oc l).txt)(hl:(cm oc l).txt.length<=1000000000) :
  Calls Tryz.prog 8 #[v] w (CZ oc l w):=by
 obtain⟨e1,e2,e3⟩:=hin.ents hi;have b4:=Qa (Bn hA hv hl e1 ho (by omega));have a4:=Qa (fun W u1 u2 (hb:Below w.heap.size w W) (h1:uC W u1 (df l)) (h2:mo W u2 (bN l))=>jb (oc:=oc) (hA.below hb).lr (hA.below hb).lw h1 h2 (hin.again hi) ho (by rw[hq,hi.some,dU]));have b3:=Qa (fun es (h:br (df l) (bN l) es)=>h.uniq (hi.again hin.ne) (fun e=>Iff.rfl));have Hv:=Qa hv;have Hl:=Qa (show l.length<=1000000 by omega);have a5:=Qa (show(df l).length<=1000000/\(bN l).length<=1000000 by have:=dU l;omega);obtain⟨-,A,c,rfl,-,-⟩:=id hv;clear hA hin hi ho hq hv hl e1 e2 e3;go_enter Tryz.func8,Tryz.ntmps8;go_wp2_with fail;refine Za b4 ?_;rintro e w1 ⟨u,rfl,hE,a3⟩;obtain⟨A1,q1,rfl,-⟩:=af hE;have b2:=Qa (xS (hE.sl Hl.out));have HE:=Qa hE;have b8:=Qa a3;clear hE a3;go_wp2_with fail;refine Za b2 ?_;rintro e w2 ⟨u1,u2,rfl,h1,h2,a1⟩;have b0:=Qa (ak b8.out a1);have c0:=Qa (show bS w2 w.heap.size (.slice A1 l.length q1) l from ai HE.out a1 (Zb _));have HM:=Qa (a4.out w2 u1 u2 b0.out (h1.sl a5.out.1) (h2.slt a5.out.2));obtain⟨A2,q2,rfl,-⟩:=af h1;obtain⟨A3,q3,rfl,-⟩:=af h2;clear h1 h2 a1 HE a4;go_wp2_with fail;refine Za HM ?_;rintro e w3 ⟨es,u3,a9,rfl,h3,a0⟩;obtain rfl:=b3.out es a9;have a2:=Qa (ak b0.out a0);have b5:=Qa (show bS w3 w.heap.size (.slice A1 es.length q1) es from ai c0.out a0 (Zb _));have b1:=Qa (kT (Hv.out.below a2.out) h3.bs);rw[decide_eq_true rfl] at b1;obtain⟨A4,q4,b9,-⟩:=af h3;clear h3 a0 a9;subst b9;generalize (cm oc es).txt.length=tn at *;go_wp2_with fail;refine Za b1 ?_;rintro e w' ⟨rfl,rfl⟩;go_wp2_with fail;refine Zh (v:=.tuple #[.int .i64 oc,.slice A1 es.length q1,.nilIface]) (by simp[results,Tryz.results8,go_sem]) rfl ⟨_,rfl,b5.out,a2.out⟩
def pW (e:En):Value:=if e.eKw=kI then .iface 51 (.agg #[.string e.eAt]) else .iface 46 (.agg #[.string e.eAt,.string e.eSch,.string e.eKw])
theorem Ak:cQ 42 49 .nilIface 1 16:=⟨Tryz.underlying42,by kernel_rfl,rfl,by decide⟩
def oa (w:World)(base:Nat)(v:Value)(l:List En):Prop:=w.ownsRow base 49 1 v l.length (l.map pW)
def Er (l:List En)(w:World)(e:Ending)(w':World):Prop:= ∃u,e =.returned (.tuple #[u,.nilIface])/\oa w' w.heap.size u l/\Below w.heap.size w w'
theorem yy {x:List En}{l:List En}(hA:mj w)(hin:ec x y)(hi:br x y l)(ho:1<=oc/\oc<6)(hq:oc=2↔0<x.length+y.length)(hv:Bs w v (cm oc l).txt)(hl:(cm oc l).txt.length<=1000000000) :
  Calls Tryz.prog 14 #[v] w (Er l w):=by
 have Hp:=Qa (fo hA hin hi ho hq hv hl);have Hl:=Qa (show l.length<=1000000 by have:=(hin.ents hi).2.2;omega);clear hA hin hi ho hq hv hl;go_enter Tryz.func14,Tryz.ntmps14;go_wp2_with fail;refine Za Hp ?_;rintro e w1 ⟨u,rfl,hE,b4⟩;obtain⟨c0,A,c,rfl,-,hc⟩:=hE.sl Hl.out;have Hc:=Qa hc;have b8:=Qa b4;clear hE hc b4;go_wp2_with fail
 go_loopg [7,21] l.length (fun m s7 s21 wr=> ∃i:Nat,m+i=l.length/\s21 =.int .i64 i/\Hid (oa wr w1.heap.size s7 (l.take i))/\Hid (Below w1.heap.size w1 wr))
 case atStart=>exact⟨0,rfl,rfl,Qa (by simpa [oa] using World.ownsRow_nil ..),Qa (Ze _ _)⟩
 case round=>
  obtain⟨i,hm,rfl,HE,Hb⟩:=hrel;have Hm:=Qa hm
  by_cases hlt:i<l.length
  ·have b2:(i:Int)<l.length:=by omega
   obtain⟨e,he⟩:∃e,l[i]?=some e:=⟨_,Zd hlt⟩;obtain⟨g,o,rfl,k1,k2,k3⟩:=Hc.out i e he;have c1:=Zg Hb.out k1;have c2:=Zg Hb.out k2;have c3:=Zg Hb.out k3;have b5:=Qa (show l.take (i+1)=l.take i ++ [e] by
    obtain⟨h1,h3⟩:=List.getElem?_eq_some_iff.1 he;rw[List.take_succ_eq_append_getElem h1,h3])
   have a4:=ac wr (.cells #[.string e.eAt,.string e.eSch,.string e.eKw] 40);have a3:=Zf wr (.cells #[.string e.eAt,.string e.eSch,.string e.eKw] 40);have d1:=aa a3 (j:=0) (u:=.string e.eAt) rfl;have d2:=aa a3 (j:=1) (u:=.string e.eSch) rfl;have d3:=aa a3 (j:=2) (u:=.string e.eKw) rfl;have a5:=Qa (show(l.take i).length=i by rw[List.length_take];omega);clear he k1 k2 k3 hm
   by_cases hq:e.eKw=kI
   ·have b9:=td hq;have a9:pW e =.iface 51 (.agg #[.string e.eAt]):=if_pos hq;clear hq;have a1:=ak a4 (ac _ (.cells #[.iface 51 (.agg #[.string e.eAt])] 49));have a0:=Qa (show oa ((wr.alloc (.cells #[.string e.eAt,.string e.eSch,.string e.eKw] 40)).alloc (.cells #[.iface 51 (.agg #[.string e.eAt])] 49)) w1.heap.size u7 (l.take i) from ai HE.out a1 (Zb _));have b3:=Qa (show ∀ (j:Nat) u, [Value.iface 51 (.agg #[.string e.eAt])][j]?=some u->((wr.alloc (.cells #[.string e.eAt,.string e.eSch,.string e.eKw] 40)).alloc (.cells #[.iface 51 (.agg #[.string e.eAt])] 49)).cell? ⟨wr.heap.size+1,j,none⟩=some u from by
     have:=av (wr.alloc (.cells #[.string e.eAt,.string e.eSch,.string e.eKw] 40)) [Value.iface 51 (.agg #[.string e.eAt])] 49
     rwa[World.size_alloc] at this)
    have a2:=Qa (ak Hb.out a1);unfold oa at a0;rw[a5.out] at a0;clear a4 a3 a1 HE Hb;go_wp2_with (at_builtin;refine kC Ak a0.out b3.out a2.out.size ?_ (h1:=(by simp[Value.oneCell'])) (hlen:=by have:=Hm.out;unfold maxLen;omega) (hby:=by have:=Hm.out;omega);intro v' w5 p1 p2 p3;have b1:=Qa p1;have b0:=Qa (aJ a2.out a0.out a2.out.size p2);clear p1 p2 p3);go_roundg (l.length - (i+1))
    case measure=>have:=Hm.out;omega
    case rel=>
     refine⟨i+1,by omega,by go_num,Qa ?_,b0⟩;unfold oa;rw[b5.out,List.map_append,List.length_append,a5.out,List.map_cons,a9];exact b1.out
   ·have b9:(e.eKw.toList == [120,45,115,101,99,114,101,116])=false:=by rw[beq_eq_false_iff_ne];exact BQ hq
    have a9:pW e =.iface 46 (.agg #[.string e.eAt,.string e.eSch,.string e.eKw]):=if_neg hq;clear hq;have a1:=ak a4 (ac _ (.cells #[.iface 46 (.agg #[.string e.eAt,.string e.eSch,.string e.eKw])] 49));have a0:=Qa (show oa ((wr.alloc (.cells #[.string e.eAt,.string e.eSch,.string e.eKw] 40)).alloc (.cells #[.iface 46 (.agg #[.string e.eAt,.string e.eSch,.string e.eKw])] 49)) w1.heap.size u7 (l.take i) from ai HE.out a1 (Zb _));have b3:=Qa (show ∀ (j:Nat) u, [Value.iface 46 (.agg #[.string e.eAt,.string e.eSch,.string e.eKw])][j]?=some u->((wr.alloc (.cells #[.string e.eAt,.string e.eSch,.string e.eKw] 40)).alloc (.cells #[.iface 46 (.agg #[.string e.eAt,.string e.eSch,.string e.eKw])] 49)).cell? ⟨wr.heap.size+1,j,none⟩=some u from by
     have:=av (wr.alloc (.cells #[.string e.eAt,.string e.eSch,.string e.eKw] 40)) [Value.iface 46 (.agg #[.string e.eAt,.string e.eSch,.string e.eKw])] 49
     rwa[World.size_alloc] at this)
    have a2:=Qa (ak Hb.out a1);unfold oa at a0;rw[a5.out] at a0;clear a4 a3 a1 HE Hb;go_wp2_with (at_builtin;refine kC Ak a0.out b3.out a2.out.size ?_ (h1:=(by simp[Value.oneCell'])) (hlen:=by have:=Hm.out;unfold maxLen;omega) (hby:=by have:=Hm.out;omega);intro v' w5 p1 p2 p3;have b1:=Qa p1;have b0:=Qa (aJ a2.out a0.out a2.out.size p2);clear p1 p2 p3);go_roundg (l.length - (i+1))
    case measure=>have:=Hm.out;omega
    case rel=>
     refine⟨i+1,by omega,by go_num,Qa ?_,b0⟩;unfold oa;rw[b5.out,List.map_append,List.length_append,a5.out,List.map_cons,a9];exact b1.out
  ·have b2:¬ (i:Int)<l.length:=by omega
   obtain rfl:i=l.length:=by omega
   rw[List.take_length] at HE;obtain⟨A1,q1,rfl,-⟩:=af HE.out;clear hm;go_wp2_with fail;go_ret2;exact⟨_,rfl,bp HE.out b8.out.size,ak b8.out Hb.out⟩
theorem AB {a:Addr}(hA:w.cell? ⟨1,0,none⟩=some (bt a))(hg:w.cell? ⟨g,0,none⟩=some .nilIface):Calls Tryz.prog 15 #[.slice (some ⟨g,0,none⟩) 1 1] w fun e w'=>e =.returned (.tuple #[.slice none 0 0,bt a])/\Below w.heap.size w w':=by
 have H:Calls Tryz.prog 33 #[.slice (some ⟨g,0,none⟩) 1 1] w fun e w'=>e =.returned (.tuple #[.slice none 0 0,bt a])/\Below w.heap.size w w':=by
  have hq:∀w,(binOp .eql 49 .nilIface .nilIface).run Tryz.prog w =.ok (.bool true) w:=fun w=>by kernel_rfl
  go_enter Tryz.func33,Tryz.ntmps33;go_wp2
  go_loopg [14] 1 (fun m s14 wr=>s14 =.int .i64 0/\wr=w)
  case atStart=>exact⟨rfl,rfl⟩
  case round=>
   obtain⟨rfl,rfl⟩:=hrel;go_wp2_with fail;go_quiet (fail);go_wp2_with fail;go_ret2;exact⟨rfl,ap (Ze _ _) nq⟩
 have H2:=Qa H;clear H hA hg;go_enter Tryz.func15,Tryz.ntmps15;go_wp2_with fail;refine Za H2 ?_;rintro e w1 ⟨rfl,a0⟩;have a1:=Qa a0;clear a0;go_wp2_with fail;go_ret2;exact⟨rfl,a1.out⟩
def pB:ByteArray:=⟨#[47,98]⟩
def Ff:ByteArray:=⟨#[47,112,114,111,112,101,114,116,105,101,115,47,98]⟩
def m7:ByteArray:=⟨#[47,112,119]⟩
def lS:ByteArray:=⟨#[116,121,112,101]⟩
def ip:ByteArray:=⟨#[114,101,113,117,105,114,101,100]⟩
def e0:En:=⟨⟨#[]⟩,⟨#[]⟩,ip⟩
def e1:En:=⟨pB,Ff,lS⟩
def e2:En:=fC m7
theorem iL {s:ByteArray}(h0:s.data.toList[0]?=some 47)(h:∀c∈s.data.toList,c.toNat<126):aT s:=by
 obtain⟨cs,h1,h2⟩:=bR (s:=s) fun c hc=>by have:=h c hc;omega
 refine .inr ⟨h0,⟨cs,h1,h2⟩,?_⟩;have:=(vB (a:=s.data.toList) (b:= []) (fun c hc e=>by have:=h c hc;rw[e] at this;exact absurd this (by decide))).2 .nil
 rwa[List.append_nil] at this
theorem Fb:aT pB/\aT Ff/\aT m7:=⟨iL rfl (by decide),iL rfl (by decide),iL rfl (by decide)⟩
theorem Gm:ec [e1,e0] [m7]:=by
 have k1:lS∈bD:=Zk (i:=6) rfl;have k2:∃i:Nat,bD[i]?=some ip:=⟨27,rfl⟩;refine⟨fun e he=>?_,fun p hp=>?_,by decide⟩
 ·simp only[List.mem_cons,List.mem_nil_iff,or_false] at he;rcases he with rfl|rfl
  ·exact⟨⟨Fb.1,Fb.2.1,.inr k1⟩,by decide,by decide⟩
  ·obtain⟨i,hi⟩:=k2;exact⟨⟨gn,gn,.inr (Zk hi)⟩,by decide,by decide⟩
 ·simp only[List.mem_cons,List.mem_nil_iff,or_false] at hp;subst hp;exact⟨Fb.2.2,by decide⟩
theorem GZ:ec [] []:=⟨fun e he=>by simp at he,fun p hp=>by simp at hp,by decide⟩
theorem Gp:br [] [] []:=⟨List.Pairwise.nil,fun e=>by
 have h:eA [] [] = []:=rfl;rw[h]⟩
theorem EB:br [e1,e0] [m7] [e0,e1,e2]:=by
 refine⟨?_,?_⟩
 ·have a1:pt e0 e1<0:=by decide
  have a2:pt e0 e2<0:=by decide
  have a3:pt e1 e2<0:=by decide
  simp[a1,a2,a3]
 ·have h:eA [e1,e0] [m7] = [e1,e0,e2]:=by rfl
  intro e;rw[h];simp only[List.mem_cons,List.mem_nil_iff,or_false]
  constructor
  ·rintro(h|h|h) <;> simp[h]
  ·rintro(h|h|h) <;> simp[h]
theorem GO:(cm 2 [e0,e1,e2]).txt = [123,34,101,110,116,114,105,101,115,34,58,91,123,34,97,116,34,58,34,34,44,34,107,101,121,119,111,114,100,34,58,34,114,101,113,117,105,114,101,100,34,44,34,115,99,104,101,109,97,34,58,34,34,125,44,123,34,97,116,34,58,34,47,98,34,44,34,107,101,121,119,111,114,100,34,58,34,116,121,112,101,34,44,34,115,99,104,101,109,97,34,58,34,47,112,114,111,112,101,114,116,105,101,115,47,98,34,125,44,123,34,97,116,34,58,34,47,112,119,34,44,34,107,101,121,119,111,114,100,34,58,34,120,45,115,101,99,114,101,116,34,44,34,115,99,104,101,109,97,34,58,34,34,125,93,44,34,111,117,116,99,111,109,101,34,58,34,105,110,118,97,108,105,100,34,125]:=by
 kernel_rfl
theorem Gw:(cm 5 []).txt = [123,34,101,110,116,114,105,101,115,34,58,91,93,44,34,111,117,116,99,111,109,101,34,58,34,111,118,101,114,32,108,105,109,105,116,34,125]:=by
 kernel_rfl
theorem wP {a:Addr}(hR:mx w)(he:w.cell? ⟨0,0,none⟩=some (bt a)):Calls Tryz.prog 7 #[.int .i64 2,.slice none 0 0,.slice none 0 0] w fun e w'=>e =.returned (.tuple #[.slice none 0 0,bt a])/\Below w.heap.size w w':=by
 have a1:=Qa (show Calls Tryz.prog 20 #[.int .i64 2] w _ from kX (o:=2) hR (by decide));have a5:(bA 2).toList.isEmpty=false:=by rw[ByteArray.toList_eq];decide
 have a4:=vO (oc:=2) (by decide);have a2:=Qa he;clear hR he;generalize bA 2=wd at *;go_enter Tryz.func7,Tryz.ntmps7;go_wp2_with fail;refine Za a1 ?_;rintro e w1 ⟨rfl,m,rfl⟩;have a0:=ap (Ze w.heap.size w) m;have c1:=Zg a0 a2.out;have a3:=Qa a0;clear a0;generalize w.drewN m=w1 at *;go_wp2_with fail
 go_loopg [18] 1 (fun m s18 wr=>s18 =.int .i64 0/\wr=w1)
 case atStart=>exact⟨rfl,rfl⟩
 case round=>
  obtain⟨rfl,rfl⟩:=hrel;go_wp2_with fail
  go_loopg [29] 1 (fun m s29 wr'=>s29 =.int .i64 0/\wr'=wr)
  case atStart=>exact⟨rfl,rfl⟩
  case round=>
   obtain⟨rfl,rfl⟩:=hrel;go_wp2_with fail;go_quiet (fail);go_wp2_with fail;go_ret2;exact⟨rfl,ap a3.out nq⟩
theorem Dl {l:List En}(hl:l.length<=1000000):uC (w.alloc (.cells (bw l).toArray 40)) (.slice (some ⟨w.heap.size,0,none⟩) l.length l.length) l:=by
 refine⟨hl,_,_,rfl,Zb _,fun i e he=>⟨w.heap.size,0,rfl,?_⟩⟩;have h:=gq l i e he;exact⟨av w (bw l) 40 _ _ (by rw[Nat.zero_add];exact h.1),av w (bw l) 40 _ _ (by rw[Nat.zero_add];exact h.2.1),av w (bw l) 40 _ _ (by rw[Nat.zero_add];exact h.2.2)⟩
theorem Dk (hl:l.length<=1000000):mo (w.alloc (.cells (l.map cH).toArray 9)) (.slice (some ⟨w.heap.size,0,none⟩) l.length l.length) l:=
 ⟨hl,_,_,rfl,Zb _,fun i a ha=>⟨w.heap.size,0,rfl,av w (l.map cH) 9 _ _ (by rw[Nat.zero_add,List.getElem?_map,ha];rfl)⟩⟩
theorem Du (w:World):mo w (.slice none 0 0) []:=⟨by decide,none,0,rfl,Zb _,fun i a ha=>by simp at ha⟩
theorem CX (w:World):uC w (.slice none 0 0) []:=⟨by decide,none,0,rfl,Zb _,fun i a ha=>by simp at ha⟩
def yN:List UInt8:=(cm 2 [e0,e1,e2]).txt
def AO:List UInt8:=(cm 5 []).txt
theorem GI {e:Ending}(h:Ef [e1,e0] [m7] 2 w e w'):∃v,e =.returned (.tuple #[v,.nilIface])/\ao w' w.heap.size v yN/\Below w.heap.size w w':=by
 obtain⟨es,v,h1,rfl,h2,h3⟩:=h;obtain rfl:=h1.uniq EB (fun e=>Iff.rfl);exact⟨v,rfl,h2,h3⟩
theorem GC {e:Ending}(h:Ef [] [] 5 w e w'):∃v,e =.returned (.tuple #[v,.nilIface])/\ao w' w.heap.size v AO/\Below w.heap.size w w':=by
 obtain⟨es,v,h1,rfl,h2,h3⟩:=h;obtain rfl:=h1.uniq Gp (fun e=>Iff.rfl);exact⟨v,rfl,h2,h3⟩
theorem FN:(cm 2 [e0,e1,e2]).txt.length<=1000000000:=of_decide_eq_true (by kernel_rfl)
theorem sH (a:Addr)(W:World):(binOp .neq 30 (bt a) (bt a)).run Tryz.prog W =.ok (.bool false) W:=by
 obtain⟨i,hi,hc⟩:=Option.map_eq_some_iff.1 zO;obtain⟨j,hj,hs⟩:=Option.map_eq_some_iff.1 BI;simp only[binOp];simp[Op.equal,Op.maxDepth,run_equalIn_iface_ptr_same W 9998 a Tryz.underlying30 Tryz.underlying408 hi hc hj]
theorem Bm (x:Value)(W:World):(Instr.typeAssert (.iface 46 x) 49 46 true).run Tryz.prog W =.ok (.tuple #[x,.bool true]) W:=by kernel_rfl
theorem yG (x:Value)(W:World):(Instr.typeAssert (.iface 51 x) 49 51 true).run Tryz.prog W =.ok (.tuple #[x,.bool true]) W:=by kernel_rfl
theorem AH (a b c:Value)(W:World):(Instr.field 40 (.agg #[a,b,c]) 2).run Tryz.prog W =.ok c W:=by kernel_rfl
theorem Fu:pW e0 =.iface 46 (.agg #[.string ⟨#[]⟩,.string ⟨#[]⟩,.string ip]):=if_neg (by decide)
theorem FP:pW e2 =.iface 51 (.agg #[.string m7]):=if_pos rfl
theorem od:Calls Tryz.prog 16 #[.agg #[.string p]] w fun e w'=>e =.returned (.string p)/\Below w.heap.size w w':=by
 go_enter Tryz.func16,Tryz.ntmps16;go_wp2_with fail;go_ret;exact⟨rfl,(Ze _ _).alloc (Zb _) _⟩
theorem sf (hA:mj w):Calls Tryz.prog 4 #[] w fun e w'=>e =.returned (.bool true)/\Below w.heap.size w w':=by
 have b5:=ak (ac w (.cells #[.string pB,.string Ff,.string lS,.string ⟨#[]⟩,.string ⟨#[]⟩,.string ip] 40)) (ac _ (.cells #[.string m7] 9));have f8:uC ((w.alloc (.cells #[.string pB,.string Ff,.string lS,.string ⟨#[]⟩,.string ⟨#[]⟩,.string ip] 40)).alloc (.cells #[.string m7] 9)) (.slice (some ⟨w.heap.size,0,none⟩) 2 2) [e1,e0]:=(Dl (w:=w) (l:= [e1,e0]) (by decide)).below (ac _ _);have e6:mo ((w.alloc (.cells #[.string pB,.string Ff,.string lS,.string ⟨#[]⟩,.string ⟨#[]⟩,.string ip] 40)).alloc (.cells #[.string m7] 9)) (.slice (some ⟨w.heap.size+1,0,none⟩) 1 1) [m7]:=by
  have:=Dk (w:=w.alloc (.cells #[.string pB,.string Ff,.string lS,.string ⟨#[]⟩,.string ⟨#[]⟩,.string ip] 40)) (l:= [m7]) (by decide)
  rwa[World.size_alloc] at this
 have f9:=jb (oc:=2) (hA.below b5).lr (hA.below b5).lw f8 e6 Gm (by decide) (by decide);have HA:=Qa hA;have f7:=Qa f9;have f6:=Qa b5;clear hA f8 e6 f9 b5;go_enter Tryz.func4,Tryz.ntmps4;go_wp2_with fail;refine Za f7 ?_;intro e wx hx;obtain⟨v1,rfl,h1,e2⟩:=GI hx;have c2:=Qa (ak f6.out e2);have H1:=Qa h1.bs;obtain⟨A1,q1,rfl,-⟩:=af h1;clear hx h1 e2 f7 f6;go_wp2_with fail;obtain⟨aR,c5⟩:=(HA.out.below c2.out).lr.eRep;refine(wP (HA.out.below c2.out).lr c5).mono ?_;rintro e w2 ⟨rfl,b3⟩;have d4:=Qa (ak c2.out b3);have c1:=Qa b3;have g7:=Qa (Zg b3 c5);clear b3 c5;go_wp2_with fail;refine(jb (oc:=5) (HA.out.below d4.out).lr (HA.out.below d4.out).lw (CX w2) (Du w2) GZ (by decide) (by decide)).mono ?_;intro e wx hx;obtain⟨v3,rfl,h3,b4⟩:=GC hx;have d9:=Qa (ak d4.out b4);have a9:=Qa (ak c1.out b4);have c4:=Qa (Zg b4 g7.out);have H3:=Qa h3.bs;obtain⟨A3,q3,rfl,-⟩:=af h3;clear hx h3 b4;go_wp2_with fail;refine(yy (oc:=2) (HA.out.below d9.out) Gm EB (by decide) (by decide) (H1.out.below a9.out) FN).mono ?_;rintro e w4 ⟨v4,rfl,h4,a4⟩;obtain⟨A4,q4,rfl,-,-,f4⟩:=af h4;obtain⟨g4,rfl⟩:=f4 (by decide);have t0:w4.cell? ⟨g4,0,none⟩=some (.iface 46 (.agg #[.string ⟨#[]⟩,.string ⟨#[]⟩,.string ip])):=(aK h4 rfl 0 (by decide)).trans (congrArg some Fu);have t2:w4.cell? ⟨g4,2,none⟩=some (.iface 51 (.agg #[.string m7])):=(aK h4 rfl 2 (by decide)).trans (congrArg some FP);have c9:=Qa (ak d9.out a4);have a2:=Qa (ak a9.out a4);have b9:=Zg a4 c4.out;have g0:=Qa (H3.out.below a4);have h5:=Bm;have g2:=yG;have h8:=fun W=>sH aR W
 have d5:=ac w4 (.cells #[.string ⟨#[]⟩,.string ⟨#[]⟩,.string ip] 46);have e4:=ac (w4.alloc (.cells #[.string ⟨#[]⟩,.string ⟨#[]⟩,.string ip] 46)) (.cells #[.string m7] 51);have t2':=Zg d5 t2;have b8:=Zf w4 (.cells #[.string ⟨#[]⟩,.string ⟨#[]⟩,.string ip] 46);have d6:=Zf (w4.alloc (.cells #[.string ⟨#[]⟩,.string ⟨#[]⟩,.string ip] 46)) (.cells #[.string m7] 51);rw[World.size_alloc] at d6;have g1:=Qa ((Below.heap_alloc _ (.cells #[.string m7] 51) _ (ag b8)).trans b8);have e3:=Qa d6;have b0:=Qa (ak d5 e4);clear h4 a4 f4 d5 e4 b8 d6;go_wp2_with fail;clear t0 t2 t2' b9;generalize (w4.alloc (.cells #[.string ⟨#[]⟩,.string ⟨#[]⟩,.string ip] 46)).alloc (.cells #[.string m7] 51)=w5 at *;refine(fo (oc:=2) (HA.out.below (ak c9.out b0.out)) Gm EB (by decide) (by decide) (H1.out.below (ak a2.out b0.out)) FN).mono ?_;rintro e w6 ⟨v6,rfl,h6,a3⟩;obtain⟨A6,q6,rfl,-⟩:=af h6;have f1:=Qa (ak (ak c9.out b0.out) a3);have c6:=Qa (ak (ak a2.out b0.out) a3);have b1:=Qa (ak b0.out a3);have f3:=Qa (ah g1.out a3);have e5:=Qa (ah e3.out a3);clear h6 a3 g1 e3 c9 a2;go_wp2_with fail;obtain⟨aN,c3⟩:=(HA.out.below f1.out).eNil;have a0:=ac w6 (.cells #[.nilIface] 49);(with_reducible refine(AB (g:=w6.heap.size) (Zg a0 c3) (aa (Zf w6 (.cells #[.nilIface] 49)) (j:=0) rfl)).mono ?_);rintro e w7 ⟨rfl,a1⟩;have h2:=Qa (ak f1.out (ak a0 a1));have a5:=Zg a1 (Zg a0 c3);have b2:=ah f3.out (ak a0 a1);have c8:=ah e5.out (ak a0 a1);have d0:=aa b2 (j:=0) (u:=.string ⟨#[]⟩) rfl;have d1:=aa b2 (j:=1) (u:=.string ⟨#[]⟩) rfl;have d2:=aa b2 (j:=2) (u:=.string ip) rfl;have d3:=aa c8 (j:=0) (u:=.string m7) rfl;have g6:=aG (H1.out.below (ak c6.out (ak a0 a1)));have f5:=aG (g0.out.below (ak b1.out (ak a0 a1)));have g8:=fun W=>eT aN W
 have i4:∀W,(binOp .eql 46 (.agg #[.string ⟨#[]⟩,.string ⟨#[]⟩,.string ip]) (.agg #[.string ⟨#[]⟩,.string ⟨#[]⟩,.string ⟨#[114,101,113,117,105,114,101,100]⟩])).run Tryz.prog W =.ok (.bool true) W:=fun W=>by kernel_rfl
 have i0:(⟨yN.toArray⟩:ByteArray).toList = [123,34,101,110,116,114,105,101,115,34,58,91,123,34,97,116,34,58,34,34,44,34,107,101,121,119,111,114,100,34,58,34,114,101,113,117,105,114,101,100,34,44,34,115,99,104,101,109,97,34,58,34,34,125,44,123,34,97,116,34,58,34,47,98,34,44,34,107,101,121,119,111,114,100,34,58,34,116,121,112,101,34,44,34,115,99,104,101,109,97,34,58,34,47,112,114,111,112,101,114,116,105,101,115,47,98,34,125,44,123,34,97,116,34,58,34,47,112,119,34,44,34,107,101,121,119,111,114,100,34,58,34,120,45,115,101,99,114,101,116,34,44,34,115,99,104,101,109,97,34,58,34,34,125,93,44,34,111,117,116,99,111,109,101,34,58,34,105,110,118,97,108,105,100,34,125]:=by rw[ByteArray.toList_eq];exact GO
 have h9:(⟨AO.toArray⟩:ByteArray).toList = [123,34,101,110,116,114,105,101,115,34,58,91,93,44,34,111,117,116,99,111,109,101,34,58,34,111,118,101,114,32,108,105,109,105,116,34,125]:=by rw[ByteArray.toList_eq];exact Gw
 have i3:m7.toList = [47,112,119]:=by rw[ByteArray.toList_eq];rfl
 have g3:=Qa a5;have h7:=Qa c8;have g5:=Qa (fun W (hb:Below w7.heap.size w7 W)=>aG (g0.out.below (ak b1.out (ak a0 (ak a1 hb)))));clear a0 a1 c3 b2 c8 f3 e5 f5;generalize (⟨yN.toArray⟩:ByteArray)=S3 at *;generalize (⟨AO.toArray⟩:ByteArray)=S0 at *;go_wp2_with fail;refine od.mono ?_;rintro e w8 ⟨rfl,c0⟩;have f2:=Qa c0;have d3:=aa (ah h7.out c0) (j:=0) (u:=.string m7) rfl;clear c0 d0 d1 d2 g6 a5;go_wp2_with fail;refine kV.mono ?_;rintro e w9 ⟨rfl,f0⟩;have c7:=Qa (ak f2.out f0);have h0:=Zg c7.out g3.out;have f5:=g5.out w9 c7.out;have i2:=AH;clear f0 d3 f2;go_wp2_with fail;go_ret;exact⟨rfl,ak h2.out c7.out⟩
