import Derived.Test.YtgkkffeagolnpaaGreatDoorGZ16bi
set_option linter.unusedVariables false
set_option linter.unusedSimpArgs false
set_option maxHeartbeats 64000000
set_option maxRecDepth 100000
namespace Go.Proofs.YtgkkffeagolnpaaGreatDoor
open Go.RowKit Go.Shelf
variable {l y:List ByteArray}{b1 b2 base g oc:Nat}{u v:Value}{w w':World}
theorem tX {s:ByteArray}(h:s=lK):s.toList = [120,45,115,101,99,114,101,116]:=by rw[h,ByteArray.toList_eq];rfl
theorem zO {s:ByteArray}(h:¬s=lK):¬s.toList = [120,45,115,101,99,114,101,116]:=fun e=>h (by
 rw[ByteArray.toList_eq] at e
 cases s with
 |mk d=>
  cases d with
  |mk l=>simp at e;subst e;rfl)
theorem fg (l:List En)(e:En):dn (l ++ [e])=dn l++ (if e.eKw=lK then [] else [e]):=by
 unfold dn;rw[List.filter_append]
 by_cases h:e.eKw=lK <;> simp[h]
theorem fi (l:List En)(e:En):db (l ++ [e])=db l++ (if e.eKw=lK then [e.eAt] else []):=by
 unfold db;rw[List.filter_append]
 by_cases h:e.eKw=lK <;> simp[h]
theorem cB (l:List En):(dn l).length+ (db l).length=l.length:=by
 unfold dn db;rw[List.length_map]
 induction l with
 |nil=>rfl
 |cons a l ih=>by_cases h:a.eKw=lK <;> simp[h] <;> omega
theorem aV.slt (h:aV w base v l)(hl:l.length<=1000000):kh w v l:=by
 obtain⟨A,q,rfl,h1,-,-⟩:=ag h;exact⟨hl,A,q,rfl,h1,fun i a ha=>by obtain⟨g,e,hc⟩:=(aV.read h).2 i a ha;exact⟨g,0,e,by rw[Nat.zero_add];exact hc⟩⟩
theorem ky {es:List En}(h:aV w b1 v l)(he:bG w b2 u es)(hg:w.grownBy w' u.ownBlock):aV w' b1 v l:=by
 refine World.ownsRow.kept h hg ?_
 cases hv:v.ownBlock with
 |none=>exact .inl rfl
 |some k=>
  refine .inr fun e=>?_
  obtain⟨-,c1,h1⟩:=ao h hv;obtain⟨-,c2,h2⟩:=ao he e.symm;rw[h1] at h2;injection h2 with h2
  injection h2 with _ h2 _
  exact absurd h2 (by decide)
theorem na {es:List En}(h:aV w b1 v l)(he:bG w b2 u es)(hg:w.grownBy w' v.ownBlock):bG w' b2 u es:=by
 refine World.ownsRow.kept he hg ?_
 cases hv:u.ownBlock with
 |none=>exact .inl rfl
 |some k=>
  refine .inr fun e=>?_
  obtain⟨-,c1,h1⟩:=ao he hv;obtain⟨-,c2,h2⟩:=ao h e.symm;rw[h1] at h2;injection h2 with h2
  injection h2 with _ h2 _
  exact absurd h2 (by decide)
def DL (l:List En)(w:World)(e:Ending)(w':World):Prop:= ∃u v,e =.returned (.tuple #[u,v])/\bG w' w.heap.size u (dn l)/\aV w' w.heap.size v (db l)/\Below w.heap.size w w'
theorem nS {l:List En}(hv:qV w v l):Calls Tryz.prog 25 #[v] w (DL l w):=by
 obtain⟨hl,A,c,rfl,-,hc⟩:=hv;have Hc:=Qa hc;clear hc;go_enter Tryz.func25,Tryz.ntmps25;go_wp2_with fail
 go_loopg [4,5,10] l.length (fun m s4 s5 s10 wr=> ∃i:Nat,m+i=l.length/\s10 =.int .i64 i/\Hid (bG wr w.heap.size s4 (dn (l.take i)))/\Hid (aV wr w.heap.size s5 (db (l.take i)))/\Hid (Below w.heap.size w wr))
 case atStart=>exact⟨0,rfl,rfl,Qa (by simpa [dn] using bG.nil _ _),Qa (by simpa [db] using aV.nil _ _),Qa (Ze _ _)⟩
 case round=>
  obtain⟨i,hm,rfl,HE,HS,Hb⟩:=hrel;have Hm:=Qa hm
  by_cases hlt:i<l.length
  ·have c0:(i:Int)<l.length:=by omega
   obtain⟨e,he⟩:∃e,l[i]?=some e:=⟨_,Zd hlt⟩;obtain⟨g,o,rfl,k1,k2,k3⟩:=Hc.out i e he;have c1:=Zg Hb.out k1;have c2:=Zg Hb.out k2;have c3:=Zg Hb.out k3;have b1:=Qa (show l.take (i+1)=l.take i ++ [e] by
    obtain⟨h1,h3⟩:=List.getElem?_eq_some_iff.1 he;rw[List.take_succ_eq_append_getElem h1,h3])
   have a3:=aa wr (.cells #[.string e.eAt,.string e.eSch,.string e.eKw] 45);have b2:=Zf wr (.cells #[.string e.eAt,.string e.eSch,.string e.eKw] 45);have d1:=ac b2 (j:=0) (u:=.string e.eAt) rfl;have d2:=ac b2 (j:=1) (u:=.string e.eSch) rfl;have d3:=ac b2 (j:=2) (u:=.string e.eKw) rfl;have a4:=Qa (show bG (wr.alloc (.cells #[.string e.eAt,.string e.eSch,.string e.eKw] 45)) w.heap.size u4 (dn (l.take i)) from ai HE.out a3 (Zb _));have a5:=Qa (show aV (wr.alloc (.cells #[.string e.eAt,.string e.eSch,.string e.eKw] 45)) w.heap.size u5 (db (l.take i)) from ai HS.out a3 (Zb _));have b0:=Qa (aj Hb.out a3);have c4:=cB (l.take i);rw[List.length_take] at c4;have a9:=Qa (show(dn (l.take i)).length<=1000000/\(db (l.take i)).length<=1000000 by omega);clear c4 he k1 k2 k3 hm a3 b2 HE HS Hb
   by_cases hq:e.eKw=lK
   ·have c7:=tX hq;have b9:=Qa (show dn (l.take (i+1))=dn (l.take i) by rw[b1.out,fg,if_pos hq,List.append_nil]);have b4:=Qa (show db (l.take (i+1))=db (l.take i) ++ [e.eAt] by rw[b1.out,fi,if_pos hq]);clear hq;have a0:=Qa (aj b0.out (aa (wr.alloc (.cells #[.string e.eAt,.string e.eSch,.string e.eKw] 45)) (.cells #[.string e.eAt] 9)));have a2:=Qa (show bG ((wr.alloc (.cells #[.string e.eAt,.string e.eSch,.string e.eKw] 45)).alloc (.cells #[.string e.eAt] 9)) w.heap.size u4 (dn (l.take i)) from ai a4.out (aa _ _) (Zb _));have a1:=Qa (show aV ((wr.alloc (.cells #[.string e.eAt,.string e.eSch,.string e.eKw] 45)).alloc (.cells #[.string e.eAt] 9)) w.heap.size u5 (db (l.take i)) from ai a5.out (aa _ _) (Zb _));have b5:=Qa (show ∀ (j:Nat) u, [cn e.eAt][j]?=some u->((wr.alloc (.cells #[.string e.eAt,.string e.eSch,.string e.eKw] 45)).alloc (.cells #[.string e.eAt] 9)).cell? ⟨wr.heap.size+1,j,none⟩=some u from by
     have:=av (wr.alloc (.cells #[.string e.eAt,.string e.eSch,.string e.eKw] 45)) [cn e.eAt] 9
     rwa[World.size_alloc] at this)
    clear a4 a5 b0;go_wp2_with (at_builtin;refine j3 jx a1.out b5.out a0.out.size ?_ (h1:=(by simp[cn,Value.oneCell'])) (hlen:=by have:=a9.out;unfold maxLen;omega) (hby:=by have:=a9.out;omega);intro v' w5 p1 p2 p3;have b8:=Qa p1;have b3:=Qa (aF a0.out a1.out a0.out.size p2);have c5:=Qa (na a1.out a2.out p2);clear p1 p2 p3);go_roundg (l.length - (i+1))
    case measure=>have:=Hm.out;omega
    case rel=>
     refine⟨i+1,by omega,by go_num,Qa (by rw[b9.out];exact c5.out),Qa ?_,b3⟩;rw[b4.out];unfold aV;rw[List.map_append,List.length_append];exact b8.out
   ·have c7:(e.eKw.toList == [120,45,115,101,99,114,101,116])=false:=by rw[beq_eq_false_iff_ne];exact zO hq
    have b9:=Qa (show dn (l.take (i+1))=dn (l.take i) ++ [e] by rw[b1.out,fg,if_neg hq]);have b4:=Qa (show db (l.take (i+1))=db (l.take i) by rw[b1.out,fi,if_neg hq,List.append_nil]);clear hq;have a0:=Qa (aj b0.out (aa (wr.alloc (.cells #[.string e.eAt,.string e.eSch,.string e.eKw] 45)) (.cells #[.string e.eAt,.string e.eSch,.string e.eKw] 45)));have a2:=Qa (show bG ((wr.alloc (.cells #[.string e.eAt,.string e.eSch,.string e.eKw] 45)).alloc (.cells #[.string e.eAt,.string e.eSch,.string e.eKw] 45)) w.heap.size u4 (dn (l.take i)) from ai a4.out (aa _ _) (Zb _));have a1:=Qa (show aV ((wr.alloc (.cells #[.string e.eAt,.string e.eSch,.string e.eKw] 45)).alloc (.cells #[.string e.eAt,.string e.eSch,.string e.eKw] 45)) w.heap.size u5 (db (l.take i)) from ai a5.out (aa _ _) (Zb _));have b5:=Qa (show ∀ (j:Nat) u,(dW e)[j]?=some u->((wr.alloc (.cells #[.string e.eAt,.string e.eSch,.string e.eKw] 45)).alloc (.cells #[.string e.eAt,.string e.eSch,.string e.eKw] 45)).cell? ⟨wr.heap.size+1,j,none⟩=some u from by
     have:=av (wr.alloc (.cells #[.string e.eAt,.string e.eSch,.string e.eKw] 45)) (dW e) 45
     rwa[World.size_alloc] at this)
    clear a4 a5 b0;go_wp2_with (at_builtin;refine j3 tz a2.out b5.out a0.out.size ?_ (h1:=(by simp[dW,Value.oneCell'])) (hlen:=by have:=a9.out;unfold maxLen;omega) (hby:=by have:=a9.out;omega);intro v' w5 p1 p2 p3;have b8:=Qa p1;have b3:=Qa (aF a0.out a2.out a0.out.size p2);have c6:=Qa (ky a1.out a2.out p2);clear p1 p2 p3);go_roundg (l.length - (i+1))
    case measure=>have:=Hm.out;omega
    case rel=>
     refine⟨i+1,by omega,by go_num,Qa ?_,Qa (by rw[b4.out];exact c6.out),b3⟩;rw[b9.out];unfold bG;rw[<-de,List.length_append];exact b8.out
  ·have c0:¬ (i:Int)<l.length:=by omega
   obtain rfl:i=l.length:=by omega
   rw[List.take_length] at HE HS;obtain⟨A1,q1,rfl,-⟩:=ag HE.out;obtain⟨A2,q2,rfl,-⟩:=ag HS.out;clear hm;go_wp2_with fail;go_ret2;exact⟨_,_,rfl,HE.out,HS.out,Hb.out⟩
theorem Ji {k:ByteArray}(h:AF k):k≠lK:=by
 rcases h with rfl|h
 ·decide
 ·have h2:bP.all (fun r=>decide (r≠lK))=true:=by decide
  exact of_decide_eq_true (List.all_eq_true.1 h2 k h)
theorem dM.ne {x:List En}(h:dM x y):∀e∈x,e.eKw≠lK:=fun e he=>Ji (h.bl e he).1.2.2
theorem dM.again {x:List En}{es:List En}(h:dM x y)(k:bu x y es):dM (dn es) (db es):=
 ⟨fun e he=>h.bl e ((k.bl h.ne).1 he).1,fun p hp=>h.pl p ((k.pl h.ne).1 hp).1,by have:=cB es;have:=(h.ents k).2.2;omega⟩
theorem bu.some {x:List En}{es:List En}(k:bu x y es):0<x.length+y.length↔0<es.length:=by
 constructor
 ·intro h;refine List.length_pos_iff.2 (k.ne ?_);rcases x with _|⟨a,x⟩
  ·right
   intro e;subst e;simp at h
  ·left
   simp
 ·intro h;obtain⟨e,he⟩:=List.exists_mem_of_length_pos h;rcases co.1 ((k.mem e).1 he) with h1|⟨p,hp,-,-⟩
  ·have:=List.length_pos_of_mem h1.1;omega
  ·have:=List.length_pos_of_mem hp;omega
def Fs (oc:Nat)(l:List En)(w:World)(e:Ending)(w':World):Prop:= ∃u,e =.returned (.tuple #[.int .i64 oc,u,.nilIface])/\bG w' w.heap.size u l/\Below w.heap.size w w'
theorem fI {x:List En}{l:List En}(hA:jt w)(hin:dM x y)(hi:bu x y l)(ho:1<=oc/\oc<6)(hq:oc=2↔0<x.length+y.length)(hv:Bs w v (bU oc l).txt)(hl:(bU oc l).txt.length<=1000000000) :
  Calls Tryz.prog 8 #[v] w (Fs oc l w):=by
 obtain⟨e1,e2,e3⟩:=hin.ents hi;have b2:=Qa (zN hA hv hl e1 ho (by omega));have b1:=Qa (fun W u1 u2 (hb:Below w.heap.size w W) (h1:qV W u1 (dn l)) (h2:kh W u2 (db l))=>dT (oc:=oc) (hA.below hb).lr (hA.below hb).lw h1 h2 (hin.again hi) ho (by rw[hq,hi.some,cB]));have c0:=Qa (fun es (h:bu (dn l) (db l) es)=>h.uniq (hi.again hin.ne) (fun e=>Iff.rfl));have Hv:=Qa hv;have Hl:=Qa (show l.length<=1000000 by omega);have a3:=Qa (show(dn l).length<=1000000/\(db l).length<=1000000 by have:=cB l;omega);obtain⟨-,A,c,rfl,-,-⟩:=id hv;clear hA hin hi ho hq hv hl e1 e2 e3;go_enter Tryz.func8,Tryz.ntmps8;go_wp2_with fail;refine Za b2 ?_;rintro e w1 ⟨u,rfl,hE,b0⟩;obtain⟨A1,q1,rfl,-⟩:=ag hE;have b5:=Qa (nS (hE.sl Hl.out));have HE:=Qa hE;have b8:=Qa b0;clear hE b0;go_wp2_with fail;refine Za b5 ?_;rintro e w2 ⟨u1,u2,rfl,h1,h2,a1⟩;have a5:=Qa (aj b8.out a1);have b3:=Qa (show bG w2 w.heap.size (.slice A1 l.length q1) l from ai HE.out a1 (Zb _));have HM:=Qa (b1.out w2 u1 u2 a5.out (h1.sl a3.out.1) (h2.slt a3.out.2));obtain⟨A2,q2,rfl,-⟩:=ag h1;obtain⟨A3,q3,rfl,-⟩:=ag h2;clear h1 h2 a1 HE b1;go_wp2_with fail;refine Za HM ?_;rintro e w3 ⟨es,u3,a2,rfl,h3,a0⟩;obtain rfl:=c0.out es a2;have a9:=Qa (aj a5.out a0);have b9:=Qa (show bG w3 w.heap.size (.slice A1 es.length q1) es from ai b3.out a0 (Zb _));have a4:=Qa (gD (Hv.out.below a9.out) h3.bs);rw[decide_eq_true rfl] at a4;obtain⟨A4,q4,b4,-⟩:=ag h3;clear h3 a0 a2;subst b4;generalize (bU oc es).txt.length=tn at *;go_wp2_with fail;refine Za a4 ?_;rintro e w' ⟨rfl,rfl⟩;go_wp2_with fail;refine Zh (v:=.tuple #[.int .i64 oc,.slice A1 es.length q1,.nilIface]) (by simp[results,Tryz.results8,go_sem]) rfl ⟨_,rfl,b9.out,a9.out⟩
def kN (e:En):Value:=if e.eKw=lK then .iface 52 (.agg #[.string e.eAt]) else .iface 47 (.agg #[.string e.eAt,.string e.eSch,.string e.eKw])
theorem Bi:da 37 50 .nilIface 1 16:=⟨Tryz.underlying37,by kernel_rfl,rfl,by decide⟩
def mK (w:World)(base:Nat)(v:Value)(l:List En):Prop:=w.ownsRow base 50 1 v l.length (l.map kN)
def Gj (l:List En)(w:World)(e:Ending)(w':World):Prop:= ∃u,e =.returned (.tuple #[u,.nilIface])/\mK w' w.heap.size u l/\Below w.heap.size w w'
theorem oI {x:List En}{l:List En}(hA:jt w)(hin:dM x y)(hi:bu x y l)(ho:1<=oc/\oc<6)(hq:oc=2↔0<x.length+y.length)(hv:Bs w v (bU oc l).txt)(hl:(bU oc l).txt.length<=1000000000) :
  Calls Tryz.prog 11 #[v] w (Gj l w):=by
 have Hp:=Qa (fI hA hin hi ho hq hv hl);have Hl:=Qa (show l.length<=1000000 by have:=(hin.ents hi).2.2;omega);clear hA hin hi ho hq hv hl;go_enter Tryz.func11,Tryz.ntmps11;go_wp2_with fail;refine Za Hp ?_;rintro e w1 ⟨u,rfl,hE,b5⟩;obtain⟨c0,A,c,rfl,-,hc⟩:=hE.sl Hl.out;have Hc:=Qa hc;have b8:=Qa b5;clear hE hc b5;go_wp2_with fail
 go_loopg [7,21] l.length (fun m s7 s21 wr=> ∃i:Nat,m+i=l.length/\s21 =.int .i64 i/\Hid (mK wr w1.heap.size s7 (l.take i))/\Hid (Below w1.heap.size w1 wr))
 case atStart=>exact⟨0,rfl,rfl,Qa (by simpa [mK] using World.ownsRow_nil ..),Qa (Ze _ _)⟩
 case round=>
  obtain⟨i,hm,rfl,HE,Hb⟩:=hrel;have Hm:=Qa hm
  by_cases hlt:i<l.length
  ·have b3:(i:Int)<l.length:=by omega
   obtain⟨e,he⟩:∃e,l[i]?=some e:=⟨_,Zd hlt⟩;obtain⟨g,o,rfl,k1,k2,k3⟩:=Hc.out i e he;have c1:=Zg Hb.out k1;have c2:=Zg Hb.out k2;have c3:=Zg Hb.out k3;have b4:=Qa (show l.take (i+1)=l.take i ++ [e] by
    obtain⟨h1,h3⟩:=List.getElem?_eq_some_iff.1 he;rw[List.take_succ_eq_append_getElem h1,h3])
   have a4:=aa wr (.cells #[.string e.eAt,.string e.eSch,.string e.eKw] 45);have a3:=Zf wr (.cells #[.string e.eAt,.string e.eSch,.string e.eKw] 45);have d1:=ac a3 (j:=0) (u:=.string e.eAt) rfl;have d2:=ac a3 (j:=1) (u:=.string e.eSch) rfl;have d3:=ac a3 (j:=2) (u:=.string e.eKw) rfl;have a5:=Qa (show(l.take i).length=i by rw[List.length_take];omega);clear he k1 k2 k3 hm
   by_cases hq:e.eKw=lK
   ·have b9:=tX hq;have a9:kN e =.iface 52 (.agg #[.string e.eAt]):=if_pos hq;clear hq;have a1:=aj a4 (aa _ (.cells #[.iface 52 (.agg #[.string e.eAt])] 50));have a0:=Qa (show mK ((wr.alloc (.cells #[.string e.eAt,.string e.eSch,.string e.eKw] 45)).alloc (.cells #[.iface 52 (.agg #[.string e.eAt])] 50)) w1.heap.size u7 (l.take i) from ai HE.out a1 (Zb _));have b1:=Qa (show ∀ (j:Nat) u, [Value.iface 52 (.agg #[.string e.eAt])][j]?=some u->((wr.alloc (.cells #[.string e.eAt,.string e.eSch,.string e.eKw] 45)).alloc (.cells #[.iface 52 (.agg #[.string e.eAt])] 50)).cell? ⟨wr.heap.size+1,j,none⟩=some u from by
     have:=av (wr.alloc (.cells #[.string e.eAt,.string e.eSch,.string e.eKw] 45)) [Value.iface 52 (.agg #[.string e.eAt])] 50
     rwa[World.size_alloc] at this)
    have a2:=Qa (aj Hb.out a1);unfold mK at a0;rw[a5.out] at a0;clear a4 a3 a1 HE Hb;go_wp2_with (at_builtin;refine j3 Bi a0.out b1.out a2.out.size ?_ (h1:=(by simp[Value.oneCell'])) (hlen:=by have:=Hm.out;unfold maxLen;omega) (hby:=by have:=Hm.out;omega);intro v' w5 p1 p2 p3;have b2:=Qa p1;have b0:=Qa (aF a2.out a0.out a2.out.size p2);clear p1 p2 p3);go_roundg (l.length - (i+1))
    case measure=>have:=Hm.out;omega
    case rel=>
     refine⟨i+1,by omega,by go_num,Qa ?_,b0⟩;unfold mK;rw[b4.out,List.map_append,List.length_append,a5.out,List.map_cons,a9];exact b2.out
   ·have b9:(e.eKw.toList == [120,45,115,101,99,114,101,116])=false:=by rw[beq_eq_false_iff_ne];exact zO hq
    have a9:kN e =.iface 47 (.agg #[.string e.eAt,.string e.eSch,.string e.eKw]):=if_neg hq;clear hq;have a1:=aj a4 (aa _ (.cells #[.iface 47 (.agg #[.string e.eAt,.string e.eSch,.string e.eKw])] 50));have a0:=Qa (show mK ((wr.alloc (.cells #[.string e.eAt,.string e.eSch,.string e.eKw] 45)).alloc (.cells #[.iface 47 (.agg #[.string e.eAt,.string e.eSch,.string e.eKw])] 50)) w1.heap.size u7 (l.take i) from ai HE.out a1 (Zb _));have b1:=Qa (show ∀ (j:Nat) u, [Value.iface 47 (.agg #[.string e.eAt,.string e.eSch,.string e.eKw])][j]?=some u->((wr.alloc (.cells #[.string e.eAt,.string e.eSch,.string e.eKw] 45)).alloc (.cells #[.iface 47 (.agg #[.string e.eAt,.string e.eSch,.string e.eKw])] 50)).cell? ⟨wr.heap.size+1,j,none⟩=some u from by
     have:=av (wr.alloc (.cells #[.string e.eAt,.string e.eSch,.string e.eKw] 45)) [Value.iface 47 (.agg #[.string e.eAt,.string e.eSch,.string e.eKw])] 50
     rwa[World.size_alloc] at this)
    have a2:=Qa (aj Hb.out a1);unfold mK at a0;rw[a5.out] at a0;clear a4 a3 a1 HE Hb;go_wp2_with (at_builtin;refine j3 Bi a0.out b1.out a2.out.size ?_ (h1:=(by simp[Value.oneCell'])) (hlen:=by have:=Hm.out;unfold maxLen;omega) (hby:=by have:=Hm.out;omega);intro v' w5 p1 p2 p3;have b2:=Qa p1;have b0:=Qa (aF a2.out a0.out a2.out.size p2);clear p1 p2 p3);go_roundg (l.length - (i+1))
    case measure=>have:=Hm.out;omega
    case rel=>
     refine⟨i+1,by omega,by go_num,Qa ?_,b0⟩;unfold mK;rw[b4.out,List.map_append,List.length_append,a5.out,List.map_cons,a9];exact b2.out
  ·have b3:¬ (i:Int)<l.length:=by omega
   obtain rfl:i=l.length:=by omega
   rw[List.take_length] at HE;obtain⟨A1,q1,rfl,-⟩:=ag HE.out;clear hm;go_wp2_with fail;go_ret2;exact⟨_,rfl,bj HE.out b8.out.size,aj b8.out Hb.out⟩
theorem z7 {a:Addr}(hA:w.cell? ⟨1,0,none⟩=some (bp a))(hg:w.cell? ⟨g,0,none⟩=some .nilIface):Calls Tryz.prog 12 #[.slice (some ⟨g,0,none⟩) 1 1] w fun e w'=>e =.returned (.tuple #[.slice none 0 0,bp a])/\Below w.heap.size w w':=by
 have H:Calls Tryz.prog 27 #[.slice (some ⟨g,0,none⟩) 1 1] w fun e w'=>e =.returned (.tuple #[.slice none 0 0,bp a])/\Below w.heap.size w w':=by
  have hq:∀w,(binOp .eql 50 .nilIface .nilIface).run Tryz.prog w =.ok (.bool true) w:=fun w=>by kernel_rfl
  go_enter Tryz.func27,Tryz.ntmps27;go_wp2
  go_loopg [14] 1 (fun m s14 wr=>s14 =.int .i64 0/\wr=w)
  case atStart=>exact⟨rfl,rfl⟩
  case round=>
   obtain⟨rfl,rfl⟩:=hrel;go_wp2_with fail;go_quiet (fail);go_wp2_with fail;go_ret2;exact⟨rfl,ap (Ze _ _) nq⟩
 have H2:=Qa H;clear H hA hg;go_enter Tryz.func12,Tryz.ntmps12;go_wp2_with fail;refine Za H2 ?_;rintro e w1 ⟨rfl,a0⟩;have a1:=Qa a0;clear a0;go_wp2_with fail;go_ret2;exact⟨rfl,a1.out⟩
def pB:ByteArray:=⟨#[47,98]⟩
def Ir:ByteArray:=⟨#[47,112,114,111,112,101,114,116,105,101,115,47,98]⟩
def nI:ByteArray:=⟨#[47,112,119]⟩
def lX:ByteArray:=⟨#[116,121,112,101]⟩
def jj:ByteArray:=⟨#[114,101,113,117,105,114,101,100]⟩
def e0:En:=⟨⟨#[]⟩,⟨#[]⟩,jj⟩
def e1:En:=⟨pB,Ir,lX⟩
def e2:En:=eH nI
theorem jN {s:ByteArray}(h0:s.data.toList[0]?=some 47)(h:∀c∈s.data.toList,c.toNat<126):aW s:=by
 obtain⟨cs,h1,h2⟩:=cd (s:=s) fun c hc=>by have:=h c hc;omega
 refine .inr ⟨h0,⟨cs,h1,h2⟩,?_⟩;have:=(xC (a:=s.data.toList) (b:= []) (fun c hc e=>by have:=h c hc;rw[e] at this;exact absurd this (by decide))).2 .nil
 rwa[List.append_nil] at this
theorem G9:aW pB/\aW Ir/\aW nI:=⟨jN rfl (by decide),jN rfl (by decide),jN rfl (by decide)⟩
theorem JE:dM [e1,e0] [nI]:=by
 have k1:lX∈bP:=Zk (i:=6) rfl;have k2:∃i:Nat,bP[i]?=some jj:=⟨27,rfl⟩;refine⟨fun e he=>?_,fun p hp=>?_,by decide⟩
 ·simp only[List.mem_cons,List.mem_nil_iff,or_false] at he;rcases he with rfl|rfl
  ·exact⟨⟨G9.1,G9.2.1,.inr k1⟩,by decide,by decide⟩
  ·obtain⟨i,hi⟩:=k2;exact⟨⟨ig,ig,.inr (Zk hi)⟩,by decide,by decide⟩
 ·simp only[List.mem_cons,List.mem_nil_iff,or_false] at hp;subst hp;exact⟨G9.2.2,by decide⟩
theorem Kl:dM [] []:=⟨fun e he=>by simp at he,fun p hp=>by simp at hp,by decide⟩
theorem JU:bu [] [] []:=⟨List.Pairwise.nil,fun e=>by
 have h:fu [] [] = []:=rfl;rw[h]⟩
theorem GK:bu [e1,e0] [nI] [e0,e1,e2]:=by
 refine⟨?_,?_⟩
 ·have a1:xw e0 e1<0:=by decide
  have a2:xw e0 e2<0:=by decide
  have a3:xw e1 e2<0:=by decide
  simp[a1,a2,a3]
 ·have h:fu [e1,e0] [nI] = [e1,e0,e2]:=by rfl
  intro e;rw[h];simp only[List.mem_cons,List.mem_nil_iff,or_false]
  constructor
  ·rintro(h|h|h) <;> simp[h]
  ·rintro(h|h|h) <;> simp[h]
theorem Ju:(bU 2 [e0,e1,e2]).txt = [123,34,101,110,116,114,105,101,115,34,58,91,123,34,97,116,34,58,34,34,44,34,107,101,121,119,111,114,100,34,58,34,114,101,113,117,105,114,101,100,34,44,34,115,99,104,101,109,97,34,58,34,34,125,44,123,34,97,116,34,58,34,47,98,34,44,34,107,101,121,119,111,114,100,34,58,34,116,121,112,101,34,44,34,115,99,104,101,109,97,34,58,34,47,112,114,111,112,101,114,116,105,101,115,47,98,34,125,44,123,34,97,116,34,58,34,47,112,119,34,44,34,107,101,121,119,111,114,100,34,58,34,120,45,115,101,99,114,101,116,34,44,34,115,99,104,101,109,97,34,58,34,34,125,93,44,34,111,117,116,99,111,109,101,34,58,34,105,110,118,97,108,105,100,34,125]:=by
 kernel_rfl
theorem Jy:(bU 5 []).txt = [123,34,101,110,116,114,105,101,115,34,58,91,93,44,34,111,117,116,99,111,109,101,34,58,34,111,118,101,114,32,108,105,109,105,116,34,125]:=by
 kernel_rfl
theorem yY {a:Addr}(hR:kn w)(he:w.cell? ⟨0,0,none⟩=some (bp a)):Calls Tryz.prog 7 #[.int .i64 2,.slice none 0 0,.slice none 0 0] w fun e w'=>e =.returned (.tuple #[.slice none 0 0,bp a])/\Below w.heap.size w w':=by
 have a2:=Qa (show Calls Tryz.prog 19 #[.int .i64 2] w _ from gT (o:=2) hR (by decide));have a4:(bw 2).toList.isEmpty=false:=by rw[ByteArray.toList_eq];decide
 have a5:=pS (oc:=2) (by decide);have a1:=Qa he;clear hR he;generalize bw 2=wd at *;go_enter Tryz.func7,Tryz.ntmps7;go_wp2_with fail;refine Za a2 ?_;rintro e w1 ⟨rfl,m,rfl⟩;have a0:=ap (Ze w.heap.size w) m;have c1:=Zg a0 a1.out;have a3:=Qa a0;clear a0;generalize w.drewN m=w1 at *;go_wp2_with fail
 go_loopg [18] 1 (fun m s18 wr=>s18 =.int .i64 0/\wr=w1)
 case atStart=>exact⟨rfl,rfl⟩
 case round=>
  obtain⟨rfl,rfl⟩:=hrel;go_wp2_with fail
  go_loopg [29] 1 (fun m s29 wr'=>s29 =.int .i64 0/\wr'=wr)
  case atStart=>exact⟨rfl,rfl⟩
  case round=>
   obtain⟨rfl,rfl⟩:=hrel;go_wp2_with fail;go_quiet (fail);go_wp2_with fail;go_ret2;exact⟨rfl,ap a3.out nq⟩
theorem Em {l:List En}(hl:l.length<=1000000):qV (w.alloc (.cells (bJ l).toArray 45)) (.slice (some ⟨w.heap.size,0,none⟩) l.length l.length) l:=by
 refine⟨hl,_,_,rfl,Zb _,fun i e he=>⟨w.heap.size,0,rfl,?_⟩⟩;have h:=it l i e he;exact⟨av w (bJ l) 45 _ _ (by rw[Nat.zero_add];exact h.1),av w (bJ l) 45 _ _ (by rw[Nat.zero_add];exact h.2.1),av w (bJ l) 45 _ _ (by rw[Nat.zero_add];exact h.2.2)⟩
theorem EN (hl:l.length<=1000000):kh (w.alloc (.cells (l.map cn).toArray 9)) (.slice (some ⟨w.heap.size,0,none⟩) l.length l.length) l:=
 ⟨hl,_,_,rfl,Zb _,fun i a ha=>⟨w.heap.size,0,rfl,av w (l.map cn) 9 _ _ (by rw[Nat.zero_add,List.getElem?_map,ha];rfl)⟩⟩
theorem wX (w:World):kh w (.slice none 0 0) []:=⟨by decide,none,0,rfl,Zb _,fun i a ha=>by simp at ha⟩
theorem wN (w:World):qV w (.slice none 0 0) []:=⟨by decide,none,0,rfl,Zb _,fun i a ha=>by simp at ha⟩
def zZ:List UInt8:=(bU 2 [e0,e1,e2]).txt
def Dj:List UInt8:=(bU 5 []).txt
theorem JS {e:Ending}(h:zI [e1,e0] [nI] 2 w e w'):∃v,e =.returned (.tuple #[v,.nilIface])/\aq w' w.heap.size v zZ/\Below w.heap.size w w':=by
 obtain⟨es,v,h1,rfl,h2,h3⟩:=h;obtain rfl:=h1.uniq GK (fun e=>Iff.rfl);exact⟨v,rfl,h2,h3⟩
theorem J1 {e:Ending}(h:zI [] [] 5 w e w'):∃v,e =.returned (.tuple #[v,.nilIface])/\aq w' w.heap.size v Dj/\Below w.heap.size w w':=by
 obtain⟨es,v,h1,rfl,h2,h3⟩:=h;obtain rfl:=h1.uniq JU (fun e=>Iff.rfl);exact⟨v,rfl,h2,h3⟩
theorem I6:(bU 2 [e0,e1,e2]).txt.length<=1000000000:=of_decide_eq_true (by kernel_rfl)
theorem rG (a:Addr)(W:World):(binOp .neq 30 (bp a) (bp a)).run Tryz.prog W =.ok (.bool false) W:=by
 obtain⟨i,hi,hc⟩:=Option.map_eq_some_iff.1 Bf;obtain⟨j,hj,hs⟩:=Option.map_eq_some_iff.1 By;simp only[binOp];simp[Op.equal,Op.maxDepth,run_equalIn_iface_ptr_same W 9998 a Tryz.underlying30 Tryz.underlying408 hi hc hj]
theorem sR (x:Value)(W:World):(Instr.typeAssert (.iface 47 x) 50 47 true).run Tryz.prog W =.ok (.tuple #[x,.bool true]) W:=by kernel_rfl
theorem ol (x:Value)(W:World):(Instr.typeAssert (.iface 52 x) 50 52 true).run Tryz.prog W =.ok (.tuple #[x,.bool true]) W:=by kernel_rfl
theorem BV (a b c:Value)(W:World):(Instr.field 45 (.agg #[a,b,c]) 2).run Tryz.prog W =.ok c W:=by kernel_rfl
theorem IS:kN e0 =.iface 47 (.agg #[.string ⟨#[]⟩,.string ⟨#[]⟩,.string jj]):=if_neg (by decide)
theorem I5:kN e2 =.iface 52 (.agg #[.string nI]):=if_pos rfl
theorem pE {p:ByteArray}:Calls Tryz.prog 15 #[.agg #[.string p]] w fun e w'=>e =.returned (.string p)/\Below w.heap.size w w':=by
 go_enter Tryz.func15,Tryz.ntmps15;go_wp2_with fail;go_ret;exact⟨rfl,(Ze _ _).alloc (Zb _) _⟩
theorem qO (hA:jt w):Calls Tryz.prog 4 #[] w fun e w'=>e =.returned (.bool true)/\Below w.heap.size w w':=by
 have b5:=aj (aa w (.cells #[.string pB,.string Ir,.string lX,.string ⟨#[]⟩,.string ⟨#[]⟩,.string jj] 45)) (aa _ (.cells #[.string nI] 9));have f4:qV ((w.alloc (.cells #[.string pB,.string Ir,.string lX,.string ⟨#[]⟩,.string ⟨#[]⟩,.string jj] 45)).alloc (.cells #[.string nI] 9)) (.slice (some ⟨w.heap.size,0,none⟩) 2 2) [e1,e0]:=(Em (w:=w) (l:= [e1,e0]) (by decide)).below (aa _ _);have f3:kh ((w.alloc (.cells #[.string pB,.string Ir,.string lX,.string ⟨#[]⟩,.string ⟨#[]⟩,.string jj] 45)).alloc (.cells #[.string nI] 9)) (.slice (some ⟨w.heap.size+1,0,none⟩) 1 1) [nI]:=by
  have:=EN (w:=w.alloc (.cells #[.string pB,.string Ir,.string lX,.string ⟨#[]⟩,.string ⟨#[]⟩,.string jj] 45)) (l:= [nI]) (by decide)
  rwa[World.size_alloc] at this
 have e3:=dT (oc:=2) (hA.below b5).lr (hA.below b5).lw f4 f3 JE (by decide) (by decide);have HA:=Qa hA;have f5:=Qa e3;have e5:=Qa b5;clear hA f4 f3 e3 b5;go_enter Tryz.func4,Tryz.ntmps4;go_wp2_with fail;refine Za f5 ?_;intro e wx hx;obtain⟨v1,rfl,h1,f0⟩:=JS hx;have d5:=Qa (aj e5.out f0);have H1:=Qa h1.bs;obtain⟨A1,q1,rfl,-⟩:=ag h1;clear hx h1 f0 f5 e5;go_wp2_with fail;obtain⟨aR,d4⟩:=(HA.out.below d5.out).lr.eRep;refine(yY (HA.out.below d5.out).lr d4).mono ?_;rintro e w2 ⟨rfl,b4⟩;have c2:=Qa (aj d5.out b4);have c9:=Qa b4;have g7:=Qa (Zg b4 d4);clear b4 d4;go_wp2_with fail;refine(dT (oc:=5) (HA.out.below c2.out).lr (HA.out.below c2.out).lw (wN w2) (wX w2) Kl (by decide) (by decide)).mono ?_;intro e wx hx;obtain⟨v3,rfl,h3,b2⟩:=J1 hx;have e6:=Qa (aj c2.out b2);have b1:=Qa (aj c9.out b2);have c3:=Qa (Zg b2 g7.out);have H3:=Qa h3.bs;obtain⟨A3,q3,rfl,-⟩:=ag h3;clear hx h3 b2;go_wp2_with fail;refine(oI (oc:=2) (HA.out.below e6.out) JE GK (by decide) (by decide) (H1.out.below b1.out) I6).mono ?_;rintro e w4 ⟨v4,rfl,h4,b0⟩;obtain⟨A4,q4,rfl,-,-,f7⟩:=ag h4;obtain⟨g4,rfl⟩:=f7 (by decide);have t0:w4.cell? ⟨g4,0,none⟩=some (.iface 47 (.agg #[.string ⟨#[]⟩,.string ⟨#[]⟩,.string jj])):=(aH h4 rfl 0 (by decide)).trans (congrArg some IS);have t2:w4.cell? ⟨g4,2,none⟩=some (.iface 52 (.agg #[.string nI])):=(aH h4 rfl 2 (by decide)).trans (congrArg some I5);have b9:=Qa (aj e6.out b0);have a2:=Qa (aj b1.out b0);have b8:=Zg b0 c3.out;have f6:=Qa (H3.out.below b0);have g2:=sR;have h0:=ol;have h8:=fun W=>rG aR W
 have c1:=aa w4 (.cells #[.string ⟨#[]⟩,.string ⟨#[]⟩,.string jj] 47);have d9:=aa (w4.alloc (.cells #[.string ⟨#[]⟩,.string ⟨#[]⟩,.string jj] 47)) (.cells #[.string nI] 52);have t2':=Zg c1 t2;have c7:=Zf w4 (.cells #[.string ⟨#[]⟩,.string ⟨#[]⟩,.string jj] 47);have c0:=Zf (w4.alloc (.cells #[.string ⟨#[]⟩,.string ⟨#[]⟩,.string jj] 47)) (.cells #[.string nI] 52);rw[World.size_alloc] at c0;have f2:=Qa ((Below.heap_alloc _ (.cells #[.string nI] 52) _ (ak c7)).trans c7);have e2:=Qa c0;have a5:=Qa (aj c1 d9);clear h4 b0 f7 c1 d9 c7 c0;go_wp2_with fail;clear t0 t2 t2' b8;generalize (w4.alloc (.cells #[.string ⟨#[]⟩,.string ⟨#[]⟩,.string jj] 47)).alloc (.cells #[.string nI] 52)=w5 at *;refine(fI (oc:=2) (HA.out.below (aj b9.out a5.out)) JE GK (by decide) (by decide) (H1.out.below (aj a2.out a5.out)) I6).mono ?_;rintro e w6 ⟨v6,rfl,h6,a3⟩;obtain⟨A6,q6,rfl,-⟩:=ag h6;have g1:=Qa (aj (aj b9.out a5.out) a3);have c5:=Qa (aj (aj a2.out a5.out) a3);have a9:=Qa (aj a5.out a3);have e4:=Qa (ah f2.out a3);have f9:=Qa (ah e2.out a3);clear h6 a3 f2 e2 b9 a2;go_wp2_with fail;obtain⟨aN,c4⟩:=(HA.out.below g1.out).eNil;have a0:=aa w6 (.cells #[.nilIface] 50);(with_reducible refine(z7 (g:=w6.heap.size) (Zg a0 c4) (ac (Zf w6 (.cells #[.nilIface] 50)) (j:=0) rfl)).mono ?_);rintro e w7 ⟨rfl,a1⟩;have h7:=Qa (aj g1.out (aj a0 a1));have a4:=Zg a1 (Zg a0 c4);have b3:=ah e4.out (aj a0 a1);have d6:=ah f9.out (aj a0 a1);have d0:=ac b3 (j:=0) (u:=.string ⟨#[]⟩) rfl;have d1:=ac b3 (j:=1) (u:=.string ⟨#[]⟩) rfl;have d2:=ac b3 (j:=2) (u:=.string jj) rfl;have d3:=ac d6 (j:=0) (u:=.string nI) rfl;have g8:=aI (H1.out.below (aj c5.out (aj a0 a1)));have g0:=aI (f6.out.below (aj a9.out (aj a0 a1)));have g3:=fun W=>dD aN W
 have i3:∀W,(binOp .eql 47 (.agg #[.string ⟨#[]⟩,.string ⟨#[]⟩,.string jj]) (.agg #[.string ⟨#[]⟩,.string ⟨#[]⟩,.string ⟨#[114,101,113,117,105,114,101,100]⟩])).run Tryz.prog W =.ok (.bool true) W:=fun W=>by kernel_rfl
 have i4:(⟨zZ.toArray⟩:ByteArray).toList = [123,34,101,110,116,114,105,101,115,34,58,91,123,34,97,116,34,58,34,34,44,34,107,101,121,119,111,114,100,34,58,34,114,101,113,117,105,114,101,100,34,44,34,115,99,104,101,109,97,34,58,34,34,125,44,123,34,97,116,34,58,34,47,98,34,44,34,107,101,121,119,111,114,100,34,58,34,116,121,112,101,34,44,34,115,99,104,101,109,97,34,58,34,47,112,114,111,112,101,114,116,105,101,115,47,98,34,125,44,123,34,97,116,34,58,34,47,112,119,34,44,34,107,101,121,119,111,114,100,34,58,34,120,45,115,101,99,114,101,116,34,44,34,115,99,104,101,109,97,34,58,34,34,125,93,44,34,111,117,116,99,111,109,101,34,58,34,105,110,118,97,108,105,100,34,125]:=by rw[ByteArray.toList_eq];exact Ju
 have i0:(⟨Dj.toArray⟩:ByteArray).toList = [123,34,101,110,116,114,105,101,115,34,58,91,93,44,34,111,117,116,99,111,109,101,34,58,34,111,118,101,114,32,108,105,109,105,116,34,125]:=by rw[ByteArray.toList_eq];exact Jy
 have h9:nI.toList = [47,112,119]:=by rw[ByteArray.toList_eq];rfl
 have h2:=Qa a4;have g6:=Qa d6;have h5:=Qa (fun W (hb:Below w7.heap.size w7 W)=>aI (f6.out.below (aj a9.out (aj a0 (aj a1 hb)))));clear a0 a1 c4 b3 d6 e4 f9 g0;generalize (⟨zZ.toArray⟩:ByteArray)=S3 at *;generalize (⟨Dj.toArray⟩:ByteArray)=S0 at *;go_wp2_with fail;refine pE.mono ?_;rintro e w8 ⟨rfl,c8⟩;have f8:=Qa c8;have d3:=ac (ah g6.out c8) (j:=0) (u:=.string nI) rfl;clear c8 d0 d1 d2 g8 a4;go_wp2_with fail;refine mh.mono ?_;rintro e w9 ⟨rfl,f1⟩;have c6:=Qa (aj f8.out f1);have g5:=Zg c6.out h2.out;have g0:=h5.out w9 c6.out;have i2:=BV;clear f1 d3 f8;go_wp2_with fail;go_ret;exact⟨rfl,aj h7.out c6.out⟩
