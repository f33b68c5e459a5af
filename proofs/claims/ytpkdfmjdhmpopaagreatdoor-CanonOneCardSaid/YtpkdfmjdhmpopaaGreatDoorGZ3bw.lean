import Derived.Test.YtpkdfmjdhmpopaaGreatDoorGZ3bv
import Derived.LaidMore
import Derived.Lib.LaidU8
import Derived.Stop.LaidErr
import Derived.Lay
import Derived.Deep.OwnShut
import Derived.Test.YtpkdfmjdhmpopaaGreatDoorCards
import Derived.Test.YtpkdfmjdhmpopaaGreatDoorTie
set_option linter.unusedVariables false
set_option linter.unusedSimpArgs false
set_option maxHeartbeats 64000000
set_option maxRecDepth 100000
namespace Go.Proofs.YtpkdfmjdhmpopaaGreatDoor
open Go.RowKit Go.Shelf
variable {args : Array Value} {d : Dc} {j : JV} {xs ys : List UInt8} {us : List Value} {base c cap fuel g m n : Nat} {P : Nat -> Prop} {A : Option Addr} {e t : TypeId} {u v x : Value} {W W' w : World}
theorem FO (x:Value)(W:World): (Instr.typeAssert (.iface 50 x) 32 50 true).run Tryz.prog W = .ok (.tuple #[x, .bool true]) W:=by kernel_rfl
def E4 (a b:JV):Prop:=a≠b/\a.txt.length<b.txt.length/\b.txt.take a.txt.length=a.txt
theorem E4.nums {a b:JV}(h:E4 a b)(ha:Tx a)(hb:Tx b): (∃d,a=cY d)/\∃d,b=cY d:=by
 have e:b.txt=a.txt++b.txt.drop a.txt.length:=by
  have:=(List.take_append_drop a.txt.length b.txt).symm;rw [h.2.2] at this;exact this
 rcases vF ha hb e with e | e
 ·exact absurd e h.1
 ·exact e
theorem Cq (h:VW P w u (cY d)):u = .iface 50 (.agg #[.bool d.neg, .string d.digits, .int .i64 d.exp]):=by
 generalize hj:cY d=j at h
 cases h with
 | num d'=>injection hj with _ _ _ e;subst e;rfl
 | null | bool | text | hole | bare | list | obj=>injection hj with e;exact absurd e (by decide)
theorem xS (h:bK dc j):Vl j:=(fe h).vl
theorem x8 (h:bK dc j):JB j:=(fe h).jb (pX h)
theorem zO {a b:JV}(ha:bK dc a)(hb:bK dc b): (nQ (some a) (some b)==0)=oD a b:=by
 have h:=yV (a:=some a) (b:=some b) (fun u e=>by cases e;exact xS ha) (fun u e=>by cases e;exact xS hb);rw [Bool.eq_iff_iff,bV,beq_iff_eq,h];exact⟨fun e=>Zh e,fun e=>by rw [e]⟩
theorem Cn {a b:JV}(ha:bK dc a)(hb:bK dc b):decide (a.txt=b.txt)=oD a b:=by
 rw [Bool.eq_iff_iff,bV,decide_eq_true_eq];exact⟨DZ (fe ha) (fe hb),fun e=>by rw [e]⟩
theorem xH (h:Bs w (.slice A n c) xs)(hm:m<=xs.length):Bs w (.slice A m c) (xs.take m):=by
 obtain⟨h1,A',c',e,h2,h3⟩:=h;obtain⟨rfl,rfl,rfl⟩:=Value.slice.inj e;have hl: (xs.take m).length=m:=by rw [List.length_take];omega
 refine⟨by omega,A,c,by rw [hl],by omega,fun h0=> ?_⟩;obtain⟨b,o,e,hc⟩:=h3 (by omega);refine⟨b,o,e,fun i hi=> ?_⟩;have a0:i<m:=by omega
 rw [hc i (by omega)];unfold am;rw [List.getD_eq_getElem?_getD,List.getD_eq_getElem?_getD,List.getElem?_take_of_lt a0]
theorem CH {j1 j2:JV}(h1:bK dc j1)(h2:bK dc j2): (oD j1 j2=true/\Hid True)\/(oD j1 j2=false/\¬ (j1.txt.length:Int)<j2.txt.length/\Hid True)\/(oD j1 j2=false/\(j1.txt.length:Int)<j2.txt.length/\Hid (¬j2.txt.take j1.txt.length=j1.txt))\/
  (oD j1 j2=false/\(j1.txt.length:Int)<j2.txt.length/\Hid (j2.txt.take j1.txt.length=j1.txt)/\∃d1 d2:Dc,Hid (∀ (P:Nat->Prop) (w:World) (u:Value),VW P w u j1->u = .iface 50 (.agg #[.bool d1.neg, .string d1.digits, .int .i64 d1.exp]))/\Hid (∀ (P:Nat->Prop) (w:World) (u:Value),VW P w u j2->u = .iface 50 (.agg #[.bool d2.neg, .string d2.digits, .int .i64 d2.exp]))):=by
 by_cases e1:j1=j2
 ·exact .inl ⟨bV.2 e1,Qa trivial⟩
 by_cases e2:j1.txt.length<j2.txt.length
 ·by_cases e3:j2.txt.take j1.txt.length=j1.txt
  ·obtain⟨⟨d1,f1⟩,d2,f2⟩:=E4.nums ⟨e1,e2,e3⟩ (fe h1) (fe h2)
   subst f1 f2;exact .inr (.inr (.inr ⟨fi.2 e1,by omega,Qa e3,d1,d2,Qa (fun _ _ _ h=>Cq h),Qa (fun _ _ _ h=>Cq h)⟩))
  ·exact .inr (.inr (.inl ⟨fi.2 e1,by omega,Qa e3⟩))
 ·exact .inr (.inl ⟨fi.2 e1,by omega,Qa trivial⟩)
theorem qG {ta tb:Value}{Ah Ab Ch Cb:Option Addr}{nh ch nb cb mh dh mb db:Nat}(hL:xg w)(h1:Bs w ta xs)(h2:Bs w tb ys) :
  Calls Tryz.prog 3 #[.agg #[ta, .slice Ah nh ch, .slice Ab nb cb], .agg #[tb, .slice Ch mh dh, .slice Cb mb db]] w (GV w):=by
 obtain⟨r2,A1,c1,rfl,q9, -⟩:=id h1;obtain⟨q7,A2,c2,rfl,r3, -⟩:=id h2;have i9:=ac w (.cells #[.slice A1 xs.length c1, .slice Ah nh ch, .slice Ab nb cb] 25);have g5:=ac (w.alloc (.cells #[.slice A1 xs.length c1, .slice Ah nh ch, .slice Ab nb cb] 25)) (.cells #[.slice A2 ys.length c2, .slice Ch mh dh, .slice Cb mb db] 25);have n1:=ai (Ze w (.cells #[.slice A1 xs.length c1, .slice Ah nh ch, .slice Ab nb cb] 25)) g5;have g4:=Ze (w.alloc (.cells #[.slice A1 xs.length c1, .slice Ah nh ch, .slice Ab nb cb] 25)) (.cells #[.slice A2 ys.length c2, .slice Ch mh dh, .slice Cb mb db] 25);rw [World.size_alloc] at g4;have ha:=i9.trans (g5.mono i9.size);have q5:=Qa n1;have m4:=Qa g4;have Ha:=Qa ha;have HL:=Qa hL;have m3:=Qa h1;have k9:=Qa h2;clear hL h1 h2 i9 g5 n1 g4 ha q9 r3 r2 q7;go_enter Tryz.func3,Tryz.ntmps3;go_wp2_with fail;generalize (w.alloc (.cells #[.slice A1 xs.length c1, .slice Ah nh ch, .slice Ab nb cb] 25)).alloc (.cells #[.slice A2 ys.length c2, .slice Ch mh dh, .slice Cb mb db] 25)=w0 at *;(with_reducible refine(yC (HL.out.below Ha.out)).mono ?_);rintro e w1 ⟨rfl,g3⟩;have g2:=Qa (Ha.out.trans (g3.mono Ha.out.size));have d1:=aa (ai q5.out g3) (j:=0) (u:= .slice A1 xs.length c1) rfl;have n8:=Qa (aa (ai m4.out g3) (j:=0) (u:= .slice A2 ys.length c2) rfl);have n2:=Qa (tP (m3.out.below g2.out));clear g3 q5 m4 Ha;go_wp2_with fail;(with_reducible refine n2.out.mono ?_);rintro e w2 ⟨Aa,na,qa,oka,rfl,j3,l5⟩;have f5:=Qa (g2.out.trans (j3.mono g2.out.size));have d2:=Zf j3 n8.out;have n6:=Qa l5;have o2:=Qa (tP (k9.out.below f5.out));clear j3 l5 d1 n8 g2 n2;go_wp2_with fail;(with_reducible refine o2.out.mono ?_);rintro e w3 ⟨Ac,nc,qc,okb,rfl,h9,l4⟩;have c3:=Qa (f5.out.trans (h9.mono f5.out.size));have e5:=Qa h9;have m1:=Qa l4;clear h9 l4 d2 o2 m3 k9
 cases oka with
 | false=>
  go_wp2_with fail;go_ret;exact⟨rfl,c3.out⟩
 | true=>
 cases okb with
 | false=>
  go_wp2_with fail;go_ret;exact⟨rfl,c3.out⟩
 | true=>
 by_cases hna:na=0
 ·have e2: ((na:Int)==0)=true:=by rw [hna];rfl
  clear hna;go_wp2_with fail;go_ret;exact⟨rfl,c3.out⟩
 by_cases hnc:nc=0
 ·have i0: ((nc:Int)==0)=true:=by rw [hnc];rfl
  have e2: ((na:Int)==0)=false:=by simp only [beq_eq_false_iff_ne];omega
  clear hnc hna;go_wp2_with fail;go_ret;exact⟨rfl,c3.out⟩
 have e2: ((na:Int)==0)=false:=by simp only [beq_eq_false_iff_ne];omega
 have i0: ((nc:Int)==0)=false:=by simp only [beq_eq_false_iff_ne];omega
 obtain⟨j1,d6,k4,m0⟩:∃j,bK dc j/\bG (w1.heap.size<= ·) w2 w1.heap.size (.slice Aa na qa) (j.flat 0)/\j.size<=6000+1:=(n6.out rfl).resolve_left fun h=>hna h.1
 obtain⟨j2,f3,n9,q3⟩:∃j,bK dc j/\bG (w2.heap.size<= ·) w3 w2.heap.size (.slice Ac nc qc) (j.flat 0)/\j.size<=6000+1:=(m1.out rfl).resolve_left fun h=>hnc h.1
 have m5:=Qa (sV ((k4.below e5.out (Za _)).flat.low (Zj _)) (by omega) (Ok.of_good (h:=True) (T:=fun _=>True) (fun _ _=>trivial) d6));have n3:=Qa (fun w4 (hb:Below w3.heap.size w3 w4)=>sV ((n9.below hb (Za _)).flat.low (Zj _)) (by omega) (Ok.of_good (h:=True) (T:=fun _=>True) (fun _ _=>trivial) f3));obtain⟨l1,l1b⟩:=ui d6 m0;obtain⟨l2,l2b⟩:=ui f3 q3;have f0:=Qa d6;have d0:=Qa f3;have d4:=CH d6 f3;clear d6 f3 k4 n9 m0 q3 n6 m1 hna hnc f5 e5;rcases d4 with ⟨heq,HF⟩ | ⟨heq,q2,HF⟩ | ⟨heq,q2,HF⟩ | ⟨heq,q2,HF,d1,d2,r5,r0⟩
 all_goals
  go_wp2_with fail;(with_reducible refine m5.out.mono ?_);rintro e w4 ⟨v,rfl,g9,g0⟩;have c9:=Qa (n3.out w4 g9);have i3:=Qa (c3.out.trans (g9.mono c3.out.size));have m9:=Qa g0;clear g9 m5 n3 c3
  first | (have g8:=r5.out _ _ _ g0;subst g8) | (obtain⟨tv,xv,g8⟩:=g0.iface;subst g8)
  clear g0;go_wp2_with fail;(with_reducible refine c9.out.mono ?_);rintro e w5 ⟨u,rfl,h5,hu⟩;have j0:=Qa (i3.out.trans (h5.mono i3.out.size));have hv:=m9.out.later h5;obtain⟨⟨aU,aE,hE⟩,hM,hP, -⟩:=HL.out.below j0.out;have t1:=fe f0.out;have t2:=fe d0.out;have z1:=pX f0.out;have z2:=pX d0.out;have n5:=Qa (eo hv hP hE.glob t1 z1 (Zb l1b (by decide)));have k5:=Qa (fun w' (hb:Below w5.heap.size w5 w')=>eo (hu.later hb) (hP.below hb) (hE.glob.below hb) t2 z2 (Zb l2b (by decide)));have g6:=Qa (fun w' (hb:Below w5.heap.size w5 w')=>kS (hv.later hb) (hu.later hb) (hP.below hb));have q1:=Qa (fun w' (hb:Below w5.heap.size w5 w')=>fT (a:=some j1) (b:=some j2) (hv.later hb) (hu.later hb) (hP.below hb) (hE.glob.below hb) (fun j e=>by cases e;exact x8 f0.out) (fun j e=>by cases e;exact x8 d0.out));have l0:=Qa (fun w' (hb:Below w5.heap.size w5 w')=>B6 (hv.later hb) (hP.below hb) (hE.glob.below hb) t1 z1 (Zb l1b (by decide)));have m2:=Qa (fun w' pv (hb:Below w5.heap.size w5 w') (hs:Bs w' pv j1.txt)=>zy (hE.below hb) (hM.below hb) hs l1 l1b (et t1));have p4:=Qa (fun w' pv (hb:Below w5.heap.size w5 w') (hs:Bs w' pv j1.txt)=>mW (hE.below hb) (hM.below hb) (hP.below hb) hs l1 l1b (et t1) t1 z1 (Zb l1b (by decide)));have i8:=Qa (fun w' pv (hb:Below w5.heap.size w5 w') (hs:Bs w' pv j1.txt)=>vc (hE.below hb) (hM.below hb) (hP.below hb) hs l1 l1b (et t1) t1 z1 (Zb l1b (by decide)));have h8:=Qa (fun (w':World) (B:Nat) (bv:Value) (hb:Below w5.heap.size w5 w') (hs:VW (B<= ·) w' bv j1)=>kS hs (hv.later hb) (hP.below hb));have q8:=zO f0.out d0.out;have l3:=Cn f0.out d0.out;rw [heq] at g6 q8 l3;rw [bV.2 rfl] at h8;rw [decide_eq_true rfl] at i8;generalize nQ (some j1) (some j2)=cz at *;generalize j1.txt=x1 at *;generalize j2.txt=x2 at *;clear h5 hv hE hM hP t1 t2 z1 z2 c9 i3 m9
  first | (have k2:=r0.out _ _ _ hu;subst k2) | (obtain⟨tu,xu,k2⟩:=hu.iface;subst k2)
  clear hu;go_wp2_with fail;(with_reducible refine n5.out.mono ?_);rintro e w6 ⟨p1,rfl,h3,i5⟩;have h0:=Qa i5;have p0:=Qa (au.bs h3);obtain⟨Ap,qp,rfl, -⟩:=ag h3;have d3:=Qa (k5.out w6 i5);clear h3 i5 n5 k5;go_wp2_with fail;(with_reducible refine d3.out.mono ?_);rintro e w7 ⟨p2,rfl,i2,h4⟩;have f8:=Qa (h0.out.trans (h4.mono h0.out.size));have q4:=Qa (p0.out.below h4);have n4:=Qa (au.bs i2);obtain⟨Aq,qq,rfl, -⟩:=ag i2;have c8:=Qa (g6.out w7 f8.out);clear i2 h4 d3 g6 p0 h0;go_wp2_with fail;(with_reducible refine c8.out.mono ?_);rintro e w8 ⟨rfl,f9⟩;have f6:=Qa (f8.out.trans (f9.mono f8.out.size));have h6:=Qa (q4.out.below f9);have k3:=Qa (n4.out.below f9);have g7:=Qa (jE h6.out k3.out);rw [l3] at g7;have e1:=Qa (q1.out w8 f6.out);clear f9 c8 q4 n4 f8 q1;go_wp2_with fail;(with_reducible refine g7.out.mono ?_);rintro e w9 ⟨rfl,rfl⟩;go_wp2_with fail;(with_reducible refine e1.out.mono ?_);rintro e w9 ⟨rfl,f4⟩;have g1:=Qa (f6.out.trans (f4.mono f6.out.size));have i4:=Qa (h6.out.below f4);have k6:=Qa (k3.out.below f4);have e4:=Qa (m2.out w9 _ g1.out i4.out);clear f4 g7 e1 h6 k3 f6 m2;go_wp2_with fail;(with_reducible refine e4.out.mono ?_);rintro e w10 ⟨bv,rfl,b0,h7⟩;have a7:=Qa (g1.out.trans (b0.mono g1.out.size));have c6:=Qa (i4.out.below b0);have e3:=Qa (k6.out.below b0);have q0:=Qa h7;obtain⟨tb,xb,r4⟩:=h7.iface;subst r4;have b9:=Qa (p4.out w10 _ a7.out c6.out);clear b0 h7 e4 i4 k6 g1 p4;go_wp2_with fail;(with_reducible refine b9.out.mono ?_);rintro e w11 ⟨p3,rfl,c5,a4⟩;have b2:=Qa (a7.out.trans (a4.mono a7.out.size));have e0:=Qa (c6.out.below a4);have d9:=Qa (e3.out.below a4);have b6:=Qa (q0.out.later a4);have d5:=Qa (au.bs c5);obtain⟨Ar,qr,rfl, -⟩:=ag c5;have b7:=Qa (l0.out w11 b2.out);clear c5 a4 b9 c6 e3 a7 q0 l0;go_wp2_with fail;(with_reducible refine b7.out.mono ?_);rintro e w12 ⟨rfl,a2⟩;have a6:=Qa (b2.out.trans (a2.mono b2.out.size));have b1:=Qa (e0.out.below a2);have e6:=Qa (d9.out.below a2);have b5:=Qa (b6.out.later a2);have c4:=Qa (jE (d5.out.below a2) b1.out);rw [decide_eq_true rfl] at c4;have c0:=Qa (i8.out w12 _ a6.out b1.out);clear a2 b7 e0 d9 b2 b6 d5 i8;go_wp2_with fail;(with_reducible refine c4.out.mono ?_);rintro e w13 ⟨rfl,rfl⟩;go_wp2_with fail;(with_reducible refine c0.out.mono ?_);rintro e w13 ⟨rfl,a5⟩;have b4:=Qa (a6.out.trans (a5.mono a6.out.size));have c7:=Qa (b1.out.below a5);have e8:=Qa (e6.out.below a5);have b8:=Qa (h8.out w13 _ _ b4.out (b5.out.later a5));clear a5 c4 c0 b1 e6 a6 b5 h8;go_wp2_with fail;(with_reducible refine b8.out.mono ?_);rintro e w14 ⟨rfl,b3⟩;have a1:=Qa (j0.out.trans ((b4.out.trans (b3.mono b4.out.size)).mono j0.out.size));have a9:=c7.out.below b3;have a3:=e8.out.below b3;clear b3 b8 c7 e8 b4;go_wp2_with fail
 ·clear HF
  refine aW (fun _=>True) (trivial) fun a0=> ?_
  refine tH 0 a0 ?_
  try simp only [Act.put,jP,jQ,jR]
  refine tH 1 a0 ?_
  try simp only [Act.put,jP,jQ,jR]
  refine tH 2 a0 ?_
  try simp only [Act.put,jP,jQ,jR]
  refine uH 3 a0 ?_
  try simp only [Act.put,jP,jQ,jR]
  refine uH 4 a0 ?_
  try simp only [Act.put,jP,jQ,jR]
  refine uH 5 a0 ?_
  try simp only [Act.put,jP,jQ,jR]
  refine uH 6 a0 ?_
  try simp only [Act.put,jP,jQ,jR]
  refine uH 7 a0 ?_
  try simp only [Act.put,jP,jQ,jR]
  refine tH 8 a0 ?_
  try simp only [Act.put,jP,jQ,jR]
  refine tH 9 a0 ?_
  try simp only [Act.put,jP,jQ,jR]
  refine uH 10 a0 ?_
  try simp only [Act.put,jP,jQ,jR]
  refine uH 11 a0 ?_
  try simp only [Act.put,jP,jQ,jR]
  refine uH 12 a0 ?_
  try simp only [Act.put,jP,jQ,jR]
  refine uH 13 a0 ?_
  try simp only [Act.put,jP,jQ,jR]
  refine uH 14 a0 ?_
  try simp only [Act.put,jP,jQ,jR]
  refine uH 15 a0 ?_
  try simp only [Act.put,jP,jQ,jR]
  refine uH 16 a0 ?_
  try simp only [Act.put,jP,jQ,jR]
  refine uH 17 a0 ?_
  try simp only [Act.put,jP,jQ,jR]
  refine tH 18 a0 ?_
  try simp only [Act.put,jP,jQ,jR]
  refine wpAnyH_done (by kernel_rfl) (NoPanic.normal ?_) _;clear a0;go_wp2_with fail;go_ret;exact⟨rfl,a1.out.drew⟩
 ·have n0:decide (x1.length<x2.length)=false:=decide_eq_false (by omega)
  refine aW (fun _=>True) (trivial) fun a0=> ?_
  refine tH 0 a0 ?_
  try simp only [Act.put,jP,jQ,jR]
  refine tH 1 a0 ?_
  try simp only [Act.put,jP,jQ,jR]
  refine tH 2 a0 ?_
  try simp only [Act.put,jP,jQ,jR]
  refine tH 3 a0 ?_
  try simp only [Act.put,jP,jQ,jR]
  refine tH 4 a0 ?_
  try simp only [Act.put,jP,jQ,jR]
  refine tH 5 a0 ?_
  try simp only [Act.put,jP,jQ,jR]
  refine tH 6 a0 ?_
  try simp only [Act.put,jP,jQ,jR]
  refine tH 7 a0 ?_
  try simp only [Act.put,jP,jQ,jR]
  refine tH 8 a0 ?_
  try simp only [Act.put,jP,jQ,jR]
  refine tH 9 a0 ?_
  try simp only [Act.put,jP,jQ,jR]
  refine uH 10 a0 ?_
  try simp only [Act.put,jP,jQ,jR]
  refine uH 11 a0 ?_
  try simp only [Act.put,jP,jQ,jR]
  refine uH 12 a0 ?_
  try simp only [Act.put,jP,jQ,jR]
  refine uH 13 a0 ?_
  try simp only [Act.put,jP,jQ,jR]
  refine uH 14 a0 ?_
  try simp only [Act.put,jP,jQ,jR]
  refine uH 15 a0 ?_
  try simp only [Act.put,jP,jQ,jR]
  refine uH 16 a0 ?_
  try simp only [Act.put,jP,jQ,jR]
  refine uH 17 a0 ?_
  try simp only [Act.put,jP,jQ,jR]
  refine tH 18 a0 ?_
  try simp only [Act.put,jP,jQ,jR]
  refine wpAnyH_done (by kernel_rfl) (NoPanic.normal ?_) _;clear a0;go_wp2_with fail;go_ret;exact⟨rfl,a1.out.drew⟩
 ·have n0:decide (x1.length<x2.length)=true:=decide_eq_true (by omega)
  have hlt:x1.length<=x2.length:=by omega
  have k0: (x1.length:Int)<=qq:=by
   obtain⟨-,Aq',qq',e,q6, -⟩:=id a3;obtain⟨-, -,rfl⟩:=Value.slice.inj e;omega
  obtain⟨sa,hsa⟩:∃sa,(⟨(x2.take x1.length).toArray⟩:ByteArray)=sa:=⟨_,rfl⟩;obtain⟨sb,hsb⟩:∃sb,(⟨x1.toArray⟩:ByteArray)=sb:=⟨_,rfl⟩;have f1: (convert 22 9 (.slice Aq x1.length qq)).run Tryz.prog w14.drew = .ok (.string sa) w14.drew:=by rw [<- hsa];exact aF (w:=w14.drew) (xH a3 hlt)
  have f2: (convert 22 9 (.slice Ap x1.length qp)).run Tryz.prog w14.drew = .ok (.string sb) w14.drew:=by rw [<- hsb];exact aF (w:=w14.drew) a9
  have r1: (sa.toList==sb.toList)=false:=by rw [<- hsa,<- hsb,fg,fg];simpa using HF.out
  clear hsa hsb a9 a3;refine aW (fun w'=>(convert 22 9 (.slice Aq x1.length qq)).run Tryz.prog w' = .ok (.string sa) w'/\(convert 22 9 (.slice Ap x1.length qp)).run Tryz.prog w' = .ok (.string sb) w') (⟨f1,f2⟩) fun a0=> ?_
  refine tH 0 a0 ?_
  try simp only [Act.put,jP,jQ,jR]
  refine tH 1 a0 ?_
  try simp only [Act.put,jP,jQ,jR]
  refine tH 2 a0 ?_
  try simp only [Act.put,jP,jQ,jR]
  refine tH 3 a0 ?_
  try simp only [Act.put,jP,jQ,jR]
  refine tH 4 a0 ?_
  try simp only [Act.put,jP,jQ,jR]
  refine tH 5 a0 ?_
  try simp only [Act.put,jP,jQ,jR]
  refine tH 6 a0 ?_
  try simp only [Act.put,jP,jQ,jR]
  refine tH 7 a0 ?_
  try simp only [Act.put,jP,jQ,jR]
  refine tH 8 a0 ?_
  try simp only [Act.put,jP,jQ,jR]
  refine tH 9 a0 ?_
  try simp only [Act.put,jP,jQ,jR]
  refine tH 10 a0 ?_
  try simp only [Act.put,jP,jQ,jR]
  refine tH 11 a0 ?_
  try simp only [Act.put,jP,jQ,jR]
  refine tH 12 a0 ?_
  try simp only [Act.put,jP,jQ,jR]
  refine tH 13 a0 ?_
  try simp only [Act.put,jP,jQ,jR]
  refine tH 14 a0 ?_
  try simp only [Act.put,jP,jQ,jR]
  refine tH 15 a0 ?_
  try simp only [Act.put,jP,jQ,jR]
  refine tH 16 a0 ?_
  try simp only [Act.put,jP,jQ,jR]
  refine tH 17 a0 ?_
  try simp only [Act.put,jP,jQ,jR]
  refine tH 18 a0 ?_
  try simp only [Act.put,jP,jQ,jR]
  refine wpAnyH_done (by kernel_rfl) (NoPanic.normal ?_) _;clear a0;go_wp2_with fail;go_ret;exact⟨rfl,a1.out.drew⟩
 ·have n0:decide (x1.length<x2.length)=true:=decide_eq_true (by omega)
  have hlt:x1.length<=x2.length:=by omega
  have k0: (x1.length:Int)<=qq:=by
   obtain⟨-,Aq',qq',e,q6, -⟩:=id a3;obtain⟨-, -,rfl⟩:=Value.slice.inj e;omega
  obtain⟨sa,hsa⟩:∃sa,(⟨(x2.take x1.length).toArray⟩:ByteArray)=sa:=⟨_,rfl⟩;obtain⟨sb,hsb⟩:∃sb,(⟨x1.toArray⟩:ByteArray)=sb:=⟨_,rfl⟩;have f1: (convert 22 9 (.slice Aq x1.length qq)).run Tryz.prog w14.drew = .ok (.string sa) w14.drew:=by rw [<- hsa];exact aF (w:=w14.drew) (xH a3 hlt)
  have f2: (convert 22 9 (.slice Ap x1.length qp)).run Tryz.prog w14.drew = .ok (.string sb) w14.drew:=by rw [<- hsb];exact aF (w:=w14.drew) a9
  have r1: (sa.toList==sb.toList)=true:=by rw [<- hsa,<- hsb,fg,fg,HF.out];simp
  clear hsa hsb a9 a3;have k1:=FO;refine aW (fun w'=>(convert 22 9 (.slice Aq x1.length qq)).run Tryz.prog w' = .ok (.string sa) w'/\(convert 22 9 (.slice Ap x1.length qp)).run Tryz.prog w' = .ok (.string sb) w') (⟨f1,f2⟩) fun a0=> ?_
  refine tH 0 a0 ?_
  try simp only [Act.put,jP,jQ,jR]
  refine tH 1 a0 ?_
  try simp only [Act.put,jP,jQ,jR]
  refine tH 2 a0 ?_
  try simp only [Act.put,jP,jQ,jR]
  refine tH 3 a0 ?_
  try simp only [Act.put,jP,jQ,jR]
  refine tH 4 a0 ?_
  try simp only [Act.put,jP,jQ,jR]
  refine tH 5 a0 ?_
  try simp only [Act.put,jP,jQ,jR]
  refine tH 6 a0 ?_
  try simp only [Act.put,jP,jQ,jR]
  refine tH 7 a0 ?_
  try simp only [Act.put,jP,jQ,jR]
  refine tH 8 a0 ?_
  try simp only [Act.put,jP,jQ,jR]
  refine tH 9 a0 ?_
  try simp only [Act.put,jP,jQ,jR]
  refine tH 10 a0 ?_
  try simp only [Act.put,jP,jQ,jR]
  refine tH 11 a0 ?_
  try simp only [Act.put,jP,jQ,jR]
  refine tH 12 a0 ?_
  try simp only [Act.put,jP,jQ,jR]
  refine tH 13 a0 ?_
  try simp only [Act.put,jP,jQ,jR]
  refine tH 14 a0 ?_
  try simp only [Act.put,jP,jQ,jR]
  refine tH 15 a0 ?_
  try simp only [Act.put,jP,jQ,jR]
  refine tH 16 a0 ?_
  try simp only [Act.put,jP,jQ,jR]
  refine tH 17 a0 ?_
  try simp only [Act.put,jP,jQ,jR]
  refine tH 18 a0 ?_
  try simp only [Act.put,jP,jQ,jR]
  refine wpAnyH_done (by kernel_rfl) (NoPanic.normal ?_) _;clear a0;go_wp2_with fail;go_ret;exact⟨rfl,(a1.out.drew.alloc a1.out.drew.size _).alloc (a1.out.drew.alloc a1.out.drew.size _).size _⟩
open Go.ChangeShapes Go.WideShapes Go.ChangeAt Go.WideMaps Go.WideElems Go.Lib
abbrev fH:List (String×DataW Unit):=Rows.canonOneRow.laid
theorem kU:Tryz.prog.cellsOf 408=1:=by kernel_rfl
theorem kI:Tryz.prog.cellsOf 9=1:=by kernel_rfl
theorem wg:∀u,Tryz.prog.typeName? 3 u=some "*errors.errorString" ->u=406:=typeName_ptr_named (nm:= "errors.errorString") (by kernel_rfl) (by kernel_rfl) (by decide)
theorem tX {H:Type}{enc:TypeId×Value->H}{P:Program}{sp:Nat->Bool}{a0:Bool}{cs:List Value}{ds:List (DataW H)}{p:List MemPlace}
  (ht:P.underlying t=some (.array n e)) (a3:P.cellsOf e=c) (a4:P.cellsOf t=n*c) (h:DataW.trod enc P w base sp a0 (fuel+1) t cs=some (.agg ds,p)) :
  ds.length=n/\∀ (i:Nat) (d:DataW H),ds[i]?=some d->∃q,DataW.trod enc P w base sp a0 fuel e ((cs.drop (i*c)).take c)=some (d,q):=by
 simp only [DataW.trod,ht,a3,a4] at h
 split at h
 ·obtain⟨xs,hm,hx⟩:=Option.map_eq_some_iff.1 h
  have a1:xs.map (·.1)=ds:=by
   have:=congrArg Prod.fst hx;simpa using this
  have a2:xs.length=n:=by simpa using mapM_length hm
  refine⟨by rw [<- a1];simpa using a2,fun i d hd=> ?_⟩;have hi:i<n:=by
   rw [<- a1] at hd;have:=(List.getElem?_eq_some_iff.1 hd).1;simpa [a2] using this
  obtain⟨b,hb,hf⟩:=mapM_at hm i i (by simp [hi]);rw [<- a1,List.getElem?_map,hb] at hd;obtain rfl:=Zh hd;exact⟨b.2,hf⟩
 ·cases h
section
variable {W : World}
theorem gB {n:String}{text:List UInt8}(h:laidMet Tryz.prog [(n, .iface "*errors.errorString" (.ptr (.agg [.lit (.string text)])))] W)(hg:Tryz.prog.globalNamed n=some g)(ht: (Tryz.prog.globals[g]?).map (·.type)=some 35):bu W g:=by
 obtain⟨a,s,hv, -⟩:=laid_sentinel h hg ht Tryz.underlying35 wg Tryz.underlying406 Tryz.underlying408 rfl rfl Tryz.underlying9 kU kI;exact⟨a,by simpa using World.var?_cell hg hv 0⟩
theorem eb {n:String}{d:DataW Unit}(h:laidMet Tryz.prog fH W)(hl:fH.filter (fun x=>x.1==n) = [(n,d)]):laidMet Tryz.prog [(n,d)] W:=by
 rw [<- hl];exact h.filter _
theorem Ca {n:String}{d:DataW Unit}(h:laidMet Tryz.prog [(n,d)] W)(hg:Tryz.prog.globalNamed n=some g)(ht: (Tryz.prog.globals[g]?).map (·.type)=some t):∃ (cs:Array Value) (fuel:Nat) (p:List MemPlace),(∀i:Nat,W.cell? ⟨g,i,none⟩=cs[i]?)/\DataW.trod (fun _=>()) Tryz.prog W 0 (fun _=>true) false fuel t cs.toList=some (d,p):=by
 obtain⟨ps,⟨g',t',cs,fuel,p,q,a2,a1,a0,hd,_,_⟩,_⟩:=h;obtain rfl:=Zh (hg.symm.trans a2);obtain rfl:=Zh (ht.symm.trans a1);exact⟨cs,fuel,p,fun i=>World.var?_cell hg a0 i,hd⟩
theorem ny {n:String}{l:List (List UInt8)}(h:laidMet Tryz.prog [(n, .agg (l.map fun s=> .lit (.string s)))] W)(hg:Tryz.prog.globalNamed n=some g)(ht: (Tryz.prog.globals[g]?).map (·.type)=some t)(hu:Tryz.prog.underlying t=some (.array m 9))(hc:Tryz.prog.cellsOf t=m*1) :
  ∀ (i:Nat) (s:List UInt8),l[i]?=some s->W.cell? ⟨g,i,none⟩=some (.string ⟨s.toArray⟩):=by
 obtain⟨cs,fuel,p,a0,hd⟩:=Ca h hg ht;intro i s hs
 cases fuel with
 | zero=>simp [DataW.trod] at hd
 | succ fuel=>
  obtain⟨-,hat⟩:=tX hu kI hc hd;obtain⟨q,hq⟩:=hat i (.lit (.string s)) (by rw [List.getElem?_map,hs];rfl);obtain⟨z,e1,e2, -⟩:=DataW.trod_string Tryz.underlying9 hq;have hz:s=z.data.toList:=by
   have:=congrArg Prod.fst e2;simpa using this
  rw [a0];have:=congrArg (·[0]?) e1;rw [hz];simpa [List.getElem?_take,List.getElem?_drop] using this
theorem CB (h:laidMet Tryz.prog fH W):ow W:=by
 obtain⟨cs,fuel,p,a0,hd⟩:=Ca (g:=15) (t:=362) (eb h (n:= "wicket/dec.goes") (d:=Rows.laid_wicket_dec_goes) (by kernel_rfl)) (by kernel_rfl) (by kernel_rfl)
 cases fuel with
 | zero=>simp [DataW.trod] at hd
 | succ fuel=>
  rw [show(Rows.laid_wicket_dec_goes:DataW Unit) = .agg ((List.range 9).map fun i=>tabData .u8 ((List.range 6).map fun k=>((nB.getD (i*6+k) 9:Nat):Int))) by kernel_rfl] at hd;obtain⟨-,hat⟩:=tX (c:=6) Tryz.underlying362 (by kernel_rfl) (by kernel_rfl) hd;intro i hi;obtain⟨q,hq⟩:=hat (i/6) (tabData .u8 ((List.range 6).map fun k=>((nB.getD (i/6*6+k) 9:Nat):Int))) (by rw [List.getElem?_map,List.getElem?_range (by omega)];rfl);have e:=cells_of_tab Tryz.underlying361 Tryz.underlying5 (by kernel_rfl) (by kernel_rfl) hq;have:=congrArg (·[i % 6]?) e;simp only [List.getElem?_take,List.getElem?_drop,List.getElem?_map,if_pos (show i % 6<6 by omega),List.getElem?_range (show i % 6<6 by omega),Option.map_some,show i/6*6+i % 6=i by omega] at this;rw [a0,<- Array.getElem?_toList];exact this
theorem yz (h:laidMet Tryz.prog fH W):lu W:=by
 have hs:=ny (l:=o0) (g:=9) (t:=316) (m:=6) (n:= "wicket/lex.begins") (eb h (by kernel_rfl)) (by kernel_rfl) (by kernel_rfl) Tryz.underlying316 (by kernel_rfl);intro i hi;refine hs i (o0.getD i []) ?_;rw [List.getD_eq_getElem?_getD,Zc (by exact hi)];rfl
theorem Ed (h:laidMet Tryz.prog fH W):jZ W:=by
 have hs:=ny (l:=(List.range 8).map y8) (g:=7) (t:=282) (m:=8) (n:= "wicket/parse.may") (eb h (by kernel_rfl)) (by kernel_rfl) (by kernel_rfl) Tryz.underlying282 (by kernel_rfl);intro i hi;exact hs i (y8 i) (by rw [List.getElem?_map,List.getElem?_range hi];rfl)
theorem FP (h:laidMet Tryz.prog fH W):dt W:=by
 have h1:=eb h (n:= "internal/strconv.uint64pow10") (d:=tabData .u64 pow10Tab) (by kernel_rfl);exact tabIs_of_head (g:=11) (t:=341) (e:=273) (n:=20) (by kernel_rfl) (by kernel_rfl) Tryz.underlying341 Tryz.underlying273 (by kernel_rfl) (by kernel_rfl) h1
theorem De (h:laidMet Tryz.prog fH W):∃aU aE,cG W aU aE:=by
 have h:laidMet Tryz.prog [("wicket/api.ErrUTF",Rows.laid_wicket_api_ErrUTF),("wicket/api.ErrEnd",Rows.laid_wicket_api_ErrEnd),("wicket/utf.lengths",Rows.laid_wicket_utf_lengths)] W:=by
  have:=h.filter fun x=>x.1 == "wicket/api.ErrUTF" || (x.1 == "wicket/api.ErrEnd" || x.1 == "wicket/utf.lengths")
  rwa [show(fH.filter fun x=>x.1 == "wicket/api.ErrUTF" || (x.1 == "wicket/api.ErrEnd" || x.1 == "wicket/utf.lengths")) = [("wicket/api.ErrUTF",Rows.laid_wicket_api_ErrUTF),("wicket/api.ErrEnd",Rows.laid_wicket_api_ErrEnd),("wicket/utf.lengths",Rows.laid_wicket_utf_lengths)] by kernel_rfl] at this
 have gUTF:Tryz.prog.globalNamed "wicket/api.ErrUTF" = some 6:=by kernel_rfl
 have gEnd:Tryz.prog.globalNamed "wicket/api.ErrEnd" = some 5:=by kernel_rfl
 have gLen:Tryz.prog.globalNamed "wicket/utf.lengths" = some 8:=by kernel_rfl
 have tUTF: (Tryz.prog.globals[6]?).map (·.type)=some 35:=by kernel_rfl
 have tEnd: (Tryz.prog.globals[5]?).map (·.type)=some 35:=by kernel_rfl
 have tLen: (Tryz.prog.globals[8]?).map (·.type)=some 315:=by kernel_rfl
 obtain⟨ps,⟨g0,t0,cs0,f0,p0,q0,a4,c3,a7,b9,⟨g1,t1,cs1,f1,p1,q1,a6,b5,a9,b8,⟨g2,t2,cs2,f2,p2,q2,b0,b6,b4,b2,b3,e2⟩,e1⟩,e0⟩,c2,a2⟩:=h;obtain rfl:=Zh (gUTF.symm.trans a4);obtain rfl:=Zh (gEnd.symm.trans a6);obtain rfl:=Zh (gLen.symm.trans b0);obtain rfl:=Zh (tUTF.symm.trans c3);obtain rfl:=Zh (tEnd.symm.trans b5);obtain rfl:=Zh (tLen.symm.trans b6);have a3:q2 = []:=b3;subst a3 e2 e1 e0;obtain⟨l0⟩:=cs0;obtain⟨l1⟩:=cs1;obtain⟨l2⟩:=cs2;have ok0:∀u v,l0 = [.iface u v]->Value.okWide Tryz.prog W .any 0 u v:=fun u v e=>by
  subst e;exact(a2 6 0 (by simp [MemPlace.row])).2 u v (by simpa using World.var?_cell a4 a7 0)
 have ok1:∀u v,l1 = [.iface u v]->Value.okWide Tryz.prog W .any 0 u v:=fun u v e=>by
  subst e;exact(a2 5 0 (by simp [MemPlace.row])).2 u v (by simpa using World.var?_cell a6 a9 0)
 obtain⟨a0,s0,rfl,c4,c5,c9,rfl⟩:=errorString_of_trod Tryz.underlying35 wg Tryz.underlying406 Tryz.underlying408 rfl rfl Tryz.underlying9 kU kI b9 ok0;obtain⟨a1,s1,rfl,c7,c6,c8,rfl⟩:=errorString_of_trod Tryz.underlying35 wg Tryz.underlying406 Tryz.underlying408 rfl rfl Tryz.underlying9 kU kI b8 ok1;obtain⟨c0,t0,b7⟩:=(a2 a0.block a0.off (by simp [MemPlace.row])).1;obtain⟨c1,t1,b1⟩:=(a2 a1.block a1.off (by simp [MemPlace.row])).1;have a5:=cells_of_tab (zs:=e7) Tryz.underlying315 Tryz.underlying314 (by kernel_rfl) (by kernel_rfl) b2;subst a5;refine⟨a0,a1,by simpa using World.var?_cell a4 a7 0,by simpa using World.var?_cell a6 a9 0,fun i hi=> ?_,⟨c0,t0,b7⟩,⟨c1,t1,b1⟩, ?_⟩
 ·have:=World.var?_cell b0 b4 i
  rw [this];have:i<e7.length:=hi;simp [Zc this]
 ·rintro rfl
  simp [MemPlace.row] at c2
theorem FG (h:laidMetH Tryz.prog fH W):xg W:=by
 rw [MakeChecks.laidMetH_plain _ _ _ (by kernel_rfl)] at h;obtain⟨aU,aE,hg⟩:=De h;exact⟨⟨aU,aE,⟨hg,CB h,yz h,gB (g:=12) (eb h (n:= "wicket/api.ErrNumber") (d:=Rows.laid_wicket_api_ErrNumber) (by kernel_rfl)) (by kernel_rfl) (by kernel_rfl),gB (g:=13) (eb h (n:= "wicket/api.ErrExponent") (d:=Rows.laid_wicket_api_ErrExponent) (by kernel_rfl)) (by kernel_rfl) (by kernel_rfl),gB (g:=14) (eb h (n:= "wicket/api.ErrQuote") (d:=Rows.laid_wicket_api_ErrQuote) (by kernel_rfl)) (by kernel_rfl) (by kernel_rfl),gB (g:=19) (eb h (n:= "wicket/api.ErrEscape") (d:=Rows.laid_wicket_api_ErrEscape) (by kernel_rfl)) (by kernel_rfl) (by kernel_rfl),gB (g:=20) (eb h (n:= "wicket/api.ErrSurrogate") (d:=Rows.laid_wicket_api_ErrSurrogate) (by kernel_rfl)) (by kernel_rfl) (by kernel_rfl),gB (g:=18) (eb h (n:= "wicket/api.ErrControl") (d:=Rows.laid_wicket_api_ErrControl) (by kernel_rfl)) (by kernel_rfl) (by kernel_rfl)⟩⟩,Ed h,FP h,gB (g:=0) (eb h (n:= "wicket/api.ErrNil") (d:=Rows.laid_wicket_api_ErrNil) (by kernel_rfl)) (by kernel_rfl) (by kernel_rfl),gB (g:=2) (eb h (n:= "wicket/api.ErrTwice") (d:=Rows.laid_wicket_api_ErrTwice) (by kernel_rfl)) (by kernel_rfl) (by kernel_rfl),gB (g:=1) (eb h (n:= "wicket/api.ErrHidden") (d:=Rows.laid_wicket_api_ErrHidden) (by kernel_rfl)) (by kernel_rfl) (by kernel_rfl),gB (g:=3) (eb h (n:= "wicket/api.ErrSyntax") (d:=Rows.laid_wicket_api_ErrSyntax) (by kernel_rfl)) (by kernel_rfl) (by kernel_rfl)⟩
end
theorem Tryz.laidOut:laidOutB Tryz.prog=true:=by kernel_rfl
theorem Tryz.own:ownKnob Tryz.prog.godebug=none:=by kernel_rfl
theorem IJ:mapsRowed Tryz.prog=true:=by kernel_rfl
theorem GZ:Tryz.prog.stopsHeard=true:=by kernel_rfl
theorem If:Tryz.prog.mayEnter=true:=by kernel_rfl
theorem dR {a b:Bool}(ha:a=true)(hb:b=true): (a&&b)=true:=by rw [ha,hb];rfl
theorem C4:Tryz.prog.cellsOf 5=1:=by kernel_rfl
theorem z6:Tryz.prog.cellsOf 3=1:=by kernel_rfl
section
variable {H : Type} {enc : TypeId × Value -> H}
theorem tF {a:Addr}{len:Nat}(hlen:us.length=len)(hl:len<=cap)(hm:len<=9223372036854775807)(h:∀i u,us[i]?=some u->W.cell? (a.add i)=some u)(hn:len<=n):Sl W (.slice (some a) len cap) us:=by
 refine⟨by omega,some a,cap,by rw [hlen],by omega,fun h0=> ?_⟩;obtain⟨u0,a1⟩:∃u,us[0]?=some u:=⟨_,Zc h0⟩;have a0:=h 0 u0 a1;obtain⟨b,o,sp⟩:=a;have a2:sp=none:=by
  cases sp with
  | none=>rfl
  | some s=>exfalso;simp [Addr.add,World.cell?] at a0;split at a0 <;> simp at a0
 subst a2;refine⟨b,o,rfl,fun i u hi=> ?_⟩;have h1:=h i u hi;have e1: (⟨b,o,none⟩:Addr).add i= ⟨b,o+i,none⟩:=by unfold Addr.add;split <;> simp_all
 rwa [e1] at h1
theorem uT {d:DataW H×List MemPlace}(hf:DataW.trod enc Tryz.prog W 0 (fun _=>true) true fuel 22 [x]=some d):∃xs,Bs W x xs:=by
 rcases open_ints Tryz.underlying22 Tryz.underlying5 C4 hf with ⟨a4,hx⟩ | ⟨a,len',cap',zs,a4,_,hl,hm,hz,hx,a0,a5⟩
 ·obtain rfl:=List.cons.inj a4 |>.1
  exact⟨[],⟨by simp,none,0,rfl,Za _,fun h=>by simp at h⟩⟩
 ·obtain rfl:=List.cons.inj a4 |>.1
  simp only [if_true] at hz;have a1: ((zs.take len').map fun z=>UInt8.ofNat z.toNat).length=len':=by simp;omega
  have a2:∀i,i<zs.length->W.cell? (a.add i)=some (.int .u8 (zs.getD i 0)):=a0;refine⟨(zs.take len').map fun z=>UInt8.ofNat z.toNat,⟨by rw [a1];unfold maxLen at hm;omega,some a,cap',by rw [a1],by rw [a1];exact hl,fun h0=> ?_⟩⟩;rw [a1] at h0;have a3:=a0 0 (by omega);obtain⟨b,o,sp⟩:=a;have a6:sp=none:=by
   cases sp with
   | none=>rfl
   | some s=>exfalso;simp [Addr.add,World.cell?] at a3;split at a3 <;> simp at a3
  subst a6;refine⟨b,o,rfl,fun i hi=> ?_⟩;rw [a1] at hi;have h1:=a0 i (by omega);have e1: (⟨b,o,none⟩:Addr).add i= ⟨b,o+i,none⟩:=by unfold Addr.add;split <;> simp_all
  rw [e1] at h1;rw [h1];have a7:0<=zs.getD i 0/\zs.getD i 0<=255:=bounds_u8 (a5 (zs.getD i 0) (by rw [List.getD_eq_getElem?_getD,Zc (show i<zs.length by omega)];exact List.getElem_mem _));have e2: (((am ((zs.take len').map fun z=>UInt8.ofNat z.toNat) i:Nat)):Int)=zs.getD i 0:=by
   unfold am;have: ((zs.take len').map fun z=>UInt8.ofNat z.toNat).getD i 0=UInt8.ofNat (zs.getD i 0).toNat:=by
    simp [List.getElem?_take,hi,Zc (show i<zs.length by omega)]
   rw [this];exact aL _ (by omega)
  rw [e2]
theorem ky {d:DataW H×List MemPlace}(hf:DataW.trod enc Tryz.prog W 0 (fun _=>true) true fuel 23 [x]=some d):∃zs:List Int,Sl W x (zs.map iV)/\∀z∈zs, -9223372036854775808<=z/\z<=9223372036854775807:=by
 rcases open_ints Tryz.underlying23 Tryz.underlying3 z6 hf with ⟨a2,hx⟩ | ⟨a,len',cap',zs,a2,_,hl,hm,hz,hx,a1,a4⟩
 ·obtain rfl:=List.cons.inj a2 |>.1
  exact⟨[],⟨Zj _,none,0,rfl,Za _,fun h=>by simp at h⟩,fun z hz=>by cases hz⟩
 ·obtain rfl:=List.cons.inj a2 |>.1
  simp only [if_true] at hz;have a3: (zs.take len').length=len':=by simp;omega
  have a0:∀i,i<zs.length->W.cell? (a.add i)=some (.int .i64 (zs.getD i 0)):=a1;refine⟨zs.take len',tF (n:=len') (by rw [List.length_map];exact a3) hl (by unfold maxLen at hm;omega) (fun i u hi=> ?_) (Za _),fun z hz=>bounds_i64 (a4 z (List.mem_of_mem_take hz))⟩;have hlt:=(List.getElem?_eq_some_iff.1 hi).1;rw [List.length_map,a3] at hlt;rw [a0 i (by omega)];rw [List.getElem?_map,List.getElem?_take,if_pos hlt,Zc (by omega)] at hi;rw [List.getD_eq_getElem?_getD,Zc (by omega)];simpa [iV] using hi
structure BL (W:World) (v:Value) (xs:List UInt8) (hs bs:List Int):Prop where
 ex:∃ta th tb,v = .agg #[ta,th,tb]/\Bs W ta xs/\Sl W th (hs.map iV)/\Sl W tb (bs.map iV)
 hb:∀z∈hs, -9223372036854775808<=z/\z<=9223372036854775807
 bb:∀z∈bs, -9223372036854775808<=z/\z<=9223372036854775807
theorem lT {d:DataW H}{ps:List MemPlace}(hv:Value.okWide Tryz.prog W .any base 25 v)(hj:DataW.Trod enc Tryz.prog W 0 (fun _=>true) true 25 v d ps):∃xs hs bs,BL W v xs hs bs:=by
 obtain⟨cs,rfl,a0⟩:=okWide_struct Tryz.underlying25 hv;obtain⟨fuel,hf⟩:=hj;obtain⟨y0,y1,y2,n,hy,hl,h0,h1,h2⟩:=Deep.trod_struct3 Tryz.underlying25 hf;obtain⟨l⟩:=cs;rw [show Tryz.prog.cellsOf 25=3 by kernel_rfl] at a0
 match l,a0 with
 | [a,b,c],_=>
  obtain⟨xs,hx⟩:=uT (x:=a) h0;obtain⟨hs,hh,a1⟩:=ky (x:=b) h1;obtain⟨bs,hb,a2⟩:=ky (x:=c) h2;exact⟨xs,hs,bs,⟨a,b,c,rfl,hx,hh,hb⟩,a1,a2⟩
theorem Ga (hr:Tryz.prog.readableRec t=true)(a1:t<Tryz.prog.types.size){d:DataW H}{ps before:List MemPlace}
  (h:DataW.Trod enc Tryz.prog W 0 (fun _=>true) true t v d ps) (hb:Below W.heap.size W W') (hlt:∀x∈ps,x.block<W.heap.size) (sp:Nat->Bool) (a0:∀x∈ps,x∈before) (a2:∀p∈before,sp p.block=true) :
  DataW.Trod enc Tryz.prog W' 0 sp true t v d ps:=
 Trod_stays Tryz.laidOut hr a1 h (fun x hx=>hb.same (hlt x hx)) (fun x hx=>a2 x (a0 x hx))
end
section
variable {H : Type} {enc : TypeId × Value -> H} {P : Program}
theorem oE {f:Func}{s:ChangeSpec}{apart fresh a0 again:Bool}{ds gs:List (DataW H)}{before pa pv:List MemPlace}
  (hW:DataW.Whole enc P f.params.toList s.vars apart W args.toList ds gs before)
  (a4:∀ (b:Nat) (sp:Nat->Bool) (hd:Bool),DataW.TrodAll enc P W' b sp hd f.resultTypes.toList (v.resultList f.resultTypes.size) (s.fn H (ds++gs)).results [])
  (a1:∀sp:Nat->Bool,(∀p∈before,sp p.block=true)->DataW.TrodAll enc P W' 0 sp true f.params.toList args.toList (s.fn H (ds++gs)).args pa)
  (a2:∀sp:Nat->Bool,(∀p∈before,sp p.block=true)->DataW.TrodVars enc P W' sp s.vars (s.fn H (ds++gs)).vars pv)
  (a5:before=pa++pv) (hb:Below W.heap.size W W')
  (a6:∀ (j:Nat) (t:TypeId) (r:Value),f.resultTypes[j]?=some t->(v.resultList f.resultTypes.size)[j]?=some r->Value.okWide P W' .any 0 t r) :
  s.post enc P f apart fresh a0 again W args v W':=by
 have hlt:∀p∈before,p.block<W.heap.size:=fun p hp=>hW.lt p hp
 have a3:∀p∈before,(fun b=>decide (b<W.heap.size)) p.block=true:=fun p hp=>by simpa using hlt p hp
 refine⟨ds,gs,before, [],pa,pv,hW,a4 _ _ _,a1 _ a3,a2 _ a3,World.keptBut_mono (fun p hp=>⟨hp, ?_⟩) (hb.frame (· ∈before)),fun _=> ?_⟩
 ·rw [a5,List.mem_append] at hp
  exact Or.inr hp
 ·obtain⟨_,_,_,_,_,hz,hn⟩:=hW
  refine⟨a6,_,_,([]++pa)++pv,⟨[]++pa,pv,trodAll_append (a1 _ (fun _ _=>rfl)) (a4 _ _ _),a2 _ (fun _ _=>rfl),rfl, ?_, ?_⟩, ?_⟩
  ·intro b off hp
   have hin:MemPlace.cell b off∈before:=by rw [a5];simpa using hp
   rw [hb.frozen (hlt _ hin)];exact hz b off hin
  ·intro ha
   have:=hn ha;rw [a5] at this;simpa using this
  ·intro p hp _
   rw [a5];simpa using hp
end
theorem EM (hL:xg W){hs bs a0 bs':List Int}(h1:BL W v xs hs bs)(h2:BL W u ys a0 bs'):Calls Tryz.prog 3 #[v,u] W (GV W):=by
 obtain⟨ta,th,tb,rfl,x1,x2,x3⟩:=h1.ex;obtain⟨ua,uh,ub,rfl,y1,y2,y3⟩:=h2.ex;obtain⟨-,_,_,rfl, -⟩:=x2;obtain⟨-,_,_,rfl, -⟩:=x3;obtain⟨-,_,_,rfl, -⟩:=y2;obtain⟨-,_,_,rfl, -⟩:=y3;exact qG hL x1 y1
theorem zF (os:Os)(args:Array Value):laidMetH Tryz.prog fH ((World.laidAll Tryz.prog os fH).forCall (fun _ _=>0) ⟨#[],args, []⟩).memory:=by
 rw [MakeChecks.laidMetH_plain _ _ _ (by kernel_rfl)];exact laidMet_laidAll _ (by kernel_rfl) (by kernel_rfl)
