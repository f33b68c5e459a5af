import Derived.Test.YtohibglohlfjfaaGreatDoorGZ6bh
set_option linter.unusedVariables false
set_option linter.unusedSimpArgs false
set_option maxHeartbeats 64000000
set_option maxRecDepth 100000
namespace Go.Proofs.YtohibglohlfjfaaGreatDoor
open Go.RowKit Go.Shelf
variable {aE aU:Addr}{cs:Array Value}{d:Dc}{j:JV}{ns:List ByteArray}{ks:List JV}{us:List Value}{P Q:Nat->Prop}{A:Option Addr}{v v' x:Value}{W X w w':World}
inductive Sz:JV->Prop
 |mk (k:Int) (t:Bool) (x:ByteArray) (d:Dc) (ns:List ByteArray) (ks:List JV):x.size<=1000000000->d.digits.size<=1000000000->(∀n∈ns,n.size<=1000000000)->(∀u∈ks,Sz u)->Sz (.mk k t x d ns ks)
theorem Sz.kids {k:Int}{t:Bool}{x:ByteArray}(h:Sz (.mk k t x d ns ks)):x.size<=1000000000/\d.digits.size<=1000000000/\(∀n∈ns,n.size<=1000000000)/\∀u∈ks,Sz u:=by
 cases h with
 |mk _ _ _ _ _ _ h1 h2 h3 h4=>exact⟨h1,h2,h3,h4⟩
theorem jM.exp (h:jM d): -1000000000<=d.exp/\d.exp<=1000000000:=by
 rcases h with rfl|⟨-,h⟩
 ·exact⟨by decide,by decide⟩
 ·exact h
theorem Tx.jb (h:Tx j)(hs:Sz j):JB j:=by
 induction h with
 |null=>exact .mk _ _ _ _ _ _ (by decide) ⟨by decide,by decide,by decide⟩ (fun n h=>by cases h) (fun u h=>by cases h)
 |bool b=>exact .mk _ _ _ _ _ _ (by decide) ⟨by decide,by decide,by decide⟩ (fun n h=>by cases h) (fun u h=>by cases h)
 |num d hd=>
  have h1:=hs.kids;have h2:=hd.exp;exact .mk _ _ _ _ _ _ (by decide) ⟨by have:=h1.2.1;omega,by omega,by omega⟩ (fun n h=>by cases h) (fun u h=>by cases h)
 |text s _=>
  have h1:=hs.kids;exact .mk _ _ _ _ _ _ (by have:=h1.1;omega) ⟨by decide,by decide,by decide⟩ (fun n h=>by cases h) (fun u h=>by cases h)
 |list ks _ ih=>
  have h1:=hs.kids;exact .mk _ _ _ _ _ _ (by decide) ⟨by decide,by decide,by decide⟩ (fun n h=>by cases h) (fun u h=>ih u h (h1.2.2.2 u h))
 |obj ns ks _ _ _ _ ih=>
  have h1:=hs.kids;exact .mk _ _ _ _ _ _ (by decide) ⟨by decide,by decide,by decide⟩ (fun n h=>by have:=h1.2.2.1 n h;omega) (fun u h=>ih u h (h1.2.2.2 u h))
theorem CK (h:VW P W v j)(hT:cG W)(hG:ce W aU aE):Tx j->Sz j->∀w u xs,Below W.heap.size W w->aq w W.heap.size u xs->xs.length+ (JV.txt j).length<=140737488355328->Calls Tryz.prog 32 #[u,v] w (kR W (xs++JV.txt j)):=by
 induction h with
 |null=>
  intro tx sz w u xs hb ho hx;rw[show JV.txt (.mk 1 false es ⟨false,es,0⟩ [] [])=uF from rfl] at hx ⊢;exact zX hb ho hx
 |bool b=>
  intro tx sz w u xs hb ho hx;rw[show JV.txt (.mk 2 b es ⟨false,es,0⟩ [] [])=uz b from rfl] at hx ⊢;exact AI hb ho hx
 |num d=>
  intro tx sz w u xs hb ho hx;rw[show JV.txt (.mk 3 false es d [] [])=eT d from rfl] at hx ⊢;have hd:jM d:=by cases tx;assumption
  exact DV hT (by have:=sz.kids.2.1;omega) hd.exp.1 hd.exp.2 hb ho hx
 |text s=>
  intro tx sz w u xs hb ho hx;rw[show JV.txt (.mk 4 false s ⟨false,es,0⟩ [] [])=ea s from rfl] at hx ⊢;have hd:du s:=by cases tx;assumption
  exact Be hd hG sz.kids.1 hb ho hx
 |hole=>intro tx;cases tx
 |bare=>
  intro tx sz w u xs hb ho hx;rw[show JV.txt (.mk 5 false es ⟨false,es,0⟩ [] [])=91:: (JV.txts false true [] [] ++ [93]) by simp[JV.txt]] at hx ⊢;refine pK (P:=P) (us:= []) (.inl ⟨rfl,rfl,rfl⟩) hT hb ho hx fun i v k e1=>?_
  simp at e1
 |list g A c us ks hp hg hr hl hks ih=>
  intro tx sz w u xs hb ho hx;have hk:∀u∈ks,Tx u:=by cases tx;assumption
  rw[show JV.txt (.mk 5 false es ⟨false,es,0⟩ [] ks)=91:: (JV.txts false true [] ks ++ [93]) by simp[JV.txt]] at hx ⊢;refine pK (P:=P) (.inr ⟨g,A,c,rfl,hg,hr,hl⟩) hT hb ho hx fun i v k e1 e2 w1 u1 xs1 a0 a2 a1=>?_
  exact ih i v k e1 e2 (hk k (Zl e2)) (sz.kids.2.2.2 k (Zl e2)) w1 u1 xs1 a0 a2 a1
 |obj g A c us ns ks hp hg hr hl hn hks ih=>
  intro tx sz w u xs hb ho hx;have hk:(∀s∈ns,du s)/\∀u∈ks,Tx u:=by cases tx;exact⟨by assumption,by assumption⟩
  rw[show JV.txt (.mk 6 false es ⟨false,es,0⟩ ns ks)=123:: (JV.txts true true ns ks ++ [125]) by simp[JV.txt]] at hx ⊢;refine DT (P:=P) ⟨g,A,c,rfl,hg,hr,hl,hn⟩ hG (fun s hs=>⟨hk.1 s hs,sz.kids.2.2.1 s hs⟩) hb ho hx fun i v k e1 e2 w1 u1 xs1 a0 a2 a1=>?_
  exact ih i v k e1 e2 (hk.2 k (Zl e2)) (sz.kids.2.2.2 k (Zl e2)) w1 u1 xs1 a0 a2 a1
def OV (P:Nat->Prop)(w:World)(v:Value):Option JV->Prop
 |none=>v =.nilIface
 |some j=>VW P w v j
theorem OV.later {j:Option JV}(h:OV P w v j)(hb:Below w.heap.size w w'):OV P w' v j:=by
 cases j with
 |none=>exact h
 |some j=>exact VW.later h hb
theorem VW.kind_pos (h:VW P w v j):0<j.kindOf:=by cases h <;> simp[JV.kindOf]
theorem rN {a:JV}(ha:VW P w v a):Calls Tryz.prog 24 #[v,.nilIface] w (gI 1 w):=by
 have hp:=ha.kind_pos;have H1:=Qa (ee ha);obtain⟨t1,x1,rfl⟩:=ha.iface;clear ha;generalize a.kindOf=ka at *;have Hs:Hid (sg ka 0=1):=Qa (by unfold sg;rw[if_neg (by omega),if_pos hp]);clear hp;go_enter Tryz.func24,Tryz.ntmps24;go_wp2_with fail;refine Za H1 ?_;rintro e w1 ⟨rfl,a1⟩;have a0:=Qa a1;clear a1;go_wp2_with fail;refine fZ.mono ?_;rintro e w2 ⟨rfl,a2⟩;have a3:=Qa (a0.out.trans (a2.mono a0.out.size));clear a2;go_wp2_with fail;refine a8.mono ?_;rintro e w3 ⟨rfl,rfl⟩;rw[Hs.out];go_wp2_with fail;go_ret;exact⟨rfl,a3.out⟩
theorem qH {a:JV}(ha:VW P w v a):Calls Tryz.prog 24 #[.nilIface,v] w (gI (-1) w):=by
 have hp:=ha.kind_pos;have H1:=Qa (fun w1 (h:Below w.heap.size w w1)=>ee (ha.later h));obtain⟨t1,x1,rfl⟩:=ha.iface;clear ha;generalize a.kindOf=ka at *;have Hs:Hid (sg 0 ka = -1):=Qa (by unfold sg;rw[if_pos hp]);clear hp;go_enter Tryz.func24,Tryz.ntmps24;go_wp2_with fail;refine fZ.mono ?_;rintro e w1 ⟨rfl,a0⟩;have H2:=Qa (H1.out w1 a0);have a1:=Qa a0;clear a0;go_wp2_with fail;refine Za H2 ?_;rintro e w2 ⟨rfl,a2⟩;have a3:=Qa (a1.out.trans (a2.mono a1.out.size));clear a2;go_wp2_with fail;refine a8.mono ?_;rintro e w3 ⟨rfl,rfl⟩;rw[Hs.out];go_wp2_with fail;go_ret;exact⟨rfl,a3.out⟩
theorem E4 (W:World):(Instr.typeAssert .nilIface 32 50 true).run Tryz.prog W =.ok (.tuple #[.bool false,.bool false]) W:=by kernel_rfl
theorem GJ (W:World):(Instr.typeAssert .nilIface 32 113 true).run Tryz.prog W =.ok (.tuple #[.agg #[.bool false,.string ⟨#[]⟩,.int .i64 0],.bool false]) W:=by kernel_rfl
theorem Ey (W:World):(Instr.typeAssert .nilIface 32 51 true).run Tryz.prog W =.ok (.tuple #[.string ⟨#[]⟩,.bool false]) W:=by kernel_rfl
theorem GO (W:World):(Instr.typeAssert .nilIface 32 124 true).run Tryz.prog W =.ok (.tuple #[.nilIface,.bool false]) W:=by kernel_rfl
theorem Dd:Calls Tryz.prog 24 #[.nilIface,.nilIface] w (gI 0 w):=by
 have n1:=E4;have n2:=GJ;have n3:=Ey;have n4:=GO;go_enter Tryz.func24,Tryz.ntmps24;go_wp2_with fail;refine fZ.mono ?_;rintro e w1 ⟨rfl,a1⟩;have a0:=Qa a1;clear a1;go_wp2_with fail;refine fZ.mono ?_;rintro e w2 ⟨rfl,a2⟩;have a3:=Qa (a0.out.trans (a2.mono a0.out.size));clear a2;go_wp2_with fail;refine a8.mono ?_;rintro e w3 ⟨rfl,rfl⟩;rw[show sg 0 0=0 from rfl];go_wp2_with fail;go_ret;exact⟨rfl,a3.out⟩
theorem tS (j:JV):∃t,j.key=j.kindOf::t:=by obtain⟨k,t,x,n,ns,ks⟩:=j;unfold JV.key;exact⟨_,rfl⟩
theorem kz {a b:Option JV}(ha:OV P w v a)(hb:OV Q w v' b)(hT:cG w)(hG:ce w aU aE)(ja:∀j,a=some j->JB j)(jb:∀j,b=some j->JB j):Calls Tryz.prog 24 #[v,v'] w (gI (bY a b) w):=by
 cases a with
 |none=>
  obtain rfl:v =.nilIface:=ha
  cases b with
  |none=>obtain rfl:v' =.nilIface:=hb;exact Dd
  |some b=>
   have hb:VW Q w v' b:=hb;have e:bY none (some b) = -1:=by
    obtain⟨t,ht⟩:=tS b
    show aw [0] b.key = -1
    rw[ht,bh,if_pos hb.kind_pos]
   rw[e];exact qH hb
 |some a=>
  have ha:VW P w v a:=ha
  cases b with
  |none=>
   obtain rfl:v' =.nilIface:=hb;have e:bY (some a) none=1:=by
    obtain⟨t,ht⟩:=tS a;have:=ha.kind_pos
    show aw a.key [0]=1
    rw[ht,bh,if_neg (by omega),if_pos this]
   rw[e];exact rN ha
  |some b=>exact vj ha hT hG (ja a rfl) hb (jb b rfl) w (Ze _ _)
theorem fP {a b:Option JV}(ha:OV P w v a)(hb:OV Q w v' b)(hT:cG w)(hG:ce w aU aE)(ja:∀j,a=some j->JB j)(jb:∀j,b=some j->JB j):Calls Tryz.prog 7 #[v,v'] w (gI (bY a b) w):=by
 have H:=Qa (kz ha hb hT hG ja jb);clear ha hb hT hG ja jb;generalize bY a b=c at *;go_enter Tryz.func7,Tryz.ntmps7;go_wp2_with fail;refine Za H ?_;rintro e w2 ⟨rfl,a0⟩;go_wp2_with fail;go_ret;exact⟨rfl,a0⟩
attribute [local go_sem] Oper.semAt_some
theorem CO (n:Nat)(hn:1<=n)(l sb:Nat)(A:Option Addr)(E:List (ByteArray×Value))(hE:E.length<=maxLen)(B B2:Nat)(cF:World->Prop)(a6:∀X Y,cF X->fQ B B2 X Y->cF Y)
  (a2:∀X,cF X->X.cell? ⟨sb,0,none⟩=some (.iface 48 (.pointer A)))
  (HL:∀X,cF X->Calls Tryz.prog 55 #[.pointer A] X fun e w'=>e =.returned (.int .i64 E.length)/\X=w')
  (HP:∀X (i:Fin E.length),cF X->Calls Tryz.prog 56 #[.pointer A,.int .i64 i.val] X fun e w'=>e =.returned (.tuple #[.string (E.get i).1,(E.get i).2])/\Below X.heap.size X w')
  (J Jx:List (Fin E.length)->World->Prop) (W:World) (hG:cF W) (hJ:AbidesFrom W.heap.size J) (b6:AbidesFrom W.heap.size Jx)
  (hY:∀pre (x:Fin E.length) W1,J pre W1->pre.length<E.length->YieldAt Fence.wide (n - 1) Tryz.prog l #[.string (E.get x).1,(E.get x).2] W1 fun e W'=>
   (e =.returned (.bool true)/\J (pre ++ [x]) W'/\fQ B B2 W1 W')\/(e =.returned (.bool false)/\Jx (pre ++ [x]) W'))
  (h0:J [] W) :
  CallsIn Fence.wide n Tryz.prog 76 #[.func (.yield l) #[] #[],.pointer (some ⟨sb,0,none⟩)] W fun e W'=>(∃v,e =.returned v)/\
   ((∃ys:List (Fin E.length),True/\J ys W')\/(∃pre:List (Fin E.length),True/\Jx pre W')):=by
 refine callsIn_of_wp Tryz.func76 rfl trivial ?_ rfl;simp only[Tryz.ntmps76,List.size_toArray,List.length_cons,List.length_nil,Nat.reduceAdd,Nat.reduceSub,Array.replicate_succ,Array.replicate_zero,List.push_toArray,List.append_toArray,List.nil_append,List.cons_append];have Hk:=Qa a6;have b2:=Qa a2;have b1:=Qa HL;have b3:=Qa HP;have HJ:=Qa hJ;have HY:=Qa hY;have Hg:=Qa hG;have H0:=Qa h0;have c0:=a2 W hG;unfold maxLen at hE;clear a6 a2 HL HP hJ hY hG h0 b6
 gi_wp2_with fail
 refine⟨fun _ _=>trivial,?_⟩;go_invoke
 gi_wp2_with fail
 refine(callsIn_wide.2 (b1.out W Hg.out)).mono ?_;rintro e w' ⟨rfl,rfl⟩
 gi_wp2_with fail
 gi_loopw [8] (fun s8 wr=> ∃ (i:Nat) (pre:List (Fin E.length)),s8 =.int .i64 i/\i<=E.length/\pre.length=i/\J pre wr/\cF wr) (fun s8 _=>E.length - (intOf s8).toNat)
 case atStart=>exact⟨0, [],rfl,Zk _,rfl,H0.out,Hg.out⟩
 case round=>
  obtain⟨i,pre,rfl,hi,a9,hj,hg⟩:=hrel;have Hj:=Qa hj;have a7:=Qa hg;have a5:=Qa a9;have c1:=b2.out wr hg;clear a9 hj hg
  by_cases hin:i<E.length
  ·have hp:=b3.out wr ⟨i,hin⟩ a7.out;have hy:=HY.out pre ⟨i,hin⟩
   dsimp only at hp
   generalize E.get ⟨i,hin⟩=x at hp hy;obtain⟨s,u⟩:=x
   dsimp only at hp hy
   have Hp:=Qa hp;have Hy:=Qa hy;have a1:=Qa hin;clear hp hy;have h':(i:Int)<E.length:=by omega
   have w1:IntKind.i64.wrap ((i:Int)+1)= (i:Int)+1:=IntWalk.i64_in _ (by omega)
   gi_wp2_with fail
   refine⟨fun _ _=>trivial,?_⟩;go_invoke
   gi_wp2_with fail
   refine(callsIn_wide.2 Hp.out).mono ?_;rintro e w3 ⟨rfl,a0⟩;have a3:J pre w3:=HJ.out _ _ _ none Hj.out ⟨a0.os,a0.tape,a0.output,a0.size,fun k hk _=>a0.block k hk⟩ (fun r e=>by cases e);have b5:=Qa (Hk.out _ _ a7.out (fQ.of_below a0));obtain⟨fn,tmps,assign,body,hy,b0⟩:=Hy.out w3 a3 (by rw[a5.out];exact a1.out);clear a0
   gi_wp2_with fail
   refine b0.mono ?_;rintro e W3 (⟨rfl,a3,b4⟩|⟨rfl,a4⟩)
   ·gi_wp2
    refine⟨⟨i+1,_,rfl,a1.out,by rw[List.length_append,a5.out];rfl,a3,Hk.out _ _ b5.out b4⟩,?_⟩
    show E.length - ((i:Int)+1).toNat<E.length - ((i:Int)).toNat
    have:=a1.out;omega
   ·gi_wp2
    refine Zh (results_none rfl ..) rfl ?_;exact⟨⟨_,rfl⟩,.inr ⟨_,trivial,a4⟩⟩
  ·have h':¬ (i:Int)<E.length:=by omega
   gi_wp2_with fail
   go_end0;exact⟨⟨_,rfl⟩,.inl ⟨_,Hj.out⟩⟩
theorem B7 (n:Nat)(hn:1<=n)(l sb:Nat)(A:Option Addr)(E:List (ByteArray×Value))(hE:E.length<=maxLen)(B B2:Nat)(cF:World->Prop)(a6:∀X Y,cF X->fQ B B2 X Y->cF Y)
  (a2:∀X,cF X->X.cell? ⟨sb,0,none⟩=some (.iface 116 (.pointer A)))
  (HL:∀X,cF X->Calls Tryz.prog 57 #[.pointer A] X fun e w'=>e =.returned (.int .i64 E.length)/\X=w')
  (HP:∀X (i:Fin E.length),cF X->Calls Tryz.prog 58 #[.pointer A,.int .i64 i.val] X fun e w'=>e =.returned (.tuple #[.string (E.get i).1,(E.get i).2])/\Below X.heap.size X w')
  (J Jx:List (Fin E.length)->World->Prop) (W:World) (hG:cF W) (hJ:AbidesFrom W.heap.size J) (b6:AbidesFrom W.heap.size Jx)
  (hY:∀pre (x:Fin E.length) W1,J pre W1->pre.length<E.length->YieldAt Fence.wide (n - 1) Tryz.prog l #[.string (E.get x).1,(E.get x).2] W1 fun e W'=>
   (e =.returned (.bool true)/\J (pre ++ [x]) W'/\fQ B B2 W1 W')\/(e =.returned (.bool false)/\Jx (pre ++ [x]) W'))
  (h0:J [] W) :
  CallsIn Fence.wide n Tryz.prog 76 #[.func (.yield l) #[] #[],.pointer (some ⟨sb,0,none⟩)] W fun e W'=>(∃v,e =.returned v)/\
   ((∃ys:List (Fin E.length),True/\J ys W')\/(∃pre:List (Fin E.length),True/\Jx pre W')):=by
 refine callsIn_of_wp Tryz.func76 rfl trivial ?_ rfl;simp only[Tryz.ntmps76,List.size_toArray,List.length_cons,List.length_nil,Nat.reduceAdd,Nat.reduceSub,Array.replicate_succ,Array.replicate_zero,List.push_toArray,List.append_toArray,List.nil_append,List.cons_append];have Hk:=Qa a6;have b2:=Qa a2;have b1:=Qa HL;have b3:=Qa HP;have HJ:=Qa hJ;have HY:=Qa hY;have Hg:=Qa hG;have H0:=Qa h0;have c0:=a2 W hG;unfold maxLen at hE;clear a6 a2 HL HP hJ hY hG h0 b6
 gi_wp2_with fail
 refine⟨fun _ _=>trivial,?_⟩;go_invoke
 gi_wp2_with fail
 refine(callsIn_wide.2 (b1.out W Hg.out)).mono ?_;rintro e w' ⟨rfl,rfl⟩
 gi_wp2_with fail
 gi_loopw [8] (fun s8 wr=> ∃ (i:Nat) (pre:List (Fin E.length)),s8 =.int .i64 i/\i<=E.length/\pre.length=i/\J pre wr/\cF wr) (fun s8 _=>E.length - (intOf s8).toNat)
 case atStart=>exact⟨0, [],rfl,Zk _,rfl,H0.out,Hg.out⟩
 case round=>
  obtain⟨i,pre,rfl,hi,a9,hj,hg⟩:=hrel;have Hj:=Qa hj;have a7:=Qa hg;have a5:=Qa a9;have c1:=b2.out wr hg;clear a9 hj hg
  by_cases hin:i<E.length
  ·have hp:=b3.out wr ⟨i,hin⟩ a7.out;have hy:=HY.out pre ⟨i,hin⟩
   dsimp only at hp
   generalize E.get ⟨i,hin⟩=x at hp hy;obtain⟨s,u⟩:=x
   dsimp only at hp hy
   have Hp:=Qa hp;have Hy:=Qa hy;have a1:=Qa hin;clear hp hy;have h':(i:Int)<E.length:=by omega
   have w1:IntKind.i64.wrap ((i:Int)+1)= (i:Int)+1:=IntWalk.i64_in _ (by omega)
   gi_wp2_with fail
   refine⟨fun _ _=>trivial,?_⟩;go_invoke
   gi_wp2_with fail
   refine(callsIn_wide.2 Hp.out).mono ?_;rintro e w3 ⟨rfl,a0⟩;have a3:J pre w3:=HJ.out _ _ _ none Hj.out ⟨a0.os,a0.tape,a0.output,a0.size,fun k hk _=>a0.block k hk⟩ (fun r e=>by cases e);have b5:=Qa (Hk.out _ _ a7.out (fQ.of_below a0));obtain⟨fn,tmps,assign,body,hy,b0⟩:=Hy.out w3 a3 (by rw[a5.out];exact a1.out);clear a0
   gi_wp2_with fail
   refine b0.mono ?_;rintro e W3 (⟨rfl,a3,b4⟩|⟨rfl,a4⟩)
   ·gi_wp2
    refine⟨⟨i+1,_,rfl,a1.out,by rw[List.length_append,a5.out];rfl,a3,Hk.out _ _ b5.out b4⟩,?_⟩
    show E.length - ((i:Int)+1).toNat<E.length - ((i:Int)).toNat
    have:=a1.out;omega
   ·gi_wp2
    refine Zh (results_none rfl ..) rfl ?_;exact⟨⟨_,rfl⟩,.inr ⟨_,trivial,a4⟩⟩
  ·have h':¬ (i:Int)<E.length:=by omega
   gi_wp2_with fail
   go_end0;exact⟨⟨_,rfl⟩,.inl ⟨_,Hj.out⟩⟩
theorem pp {t:TypeId}:Calls Tryz.prog 53 #[.iface t x] w fun e w'=>e =.returned (.func (.func 76) #[] #[.pointer (some ⟨w.heap.size,0,none⟩)])/\w.alloc (.cells #[.iface t x] 124)=w':=by
 go_enter Tryz.func53,Tryz.ntmps53;go_wp2;go_ret;exact⟨rfl,rfl⟩
attribute [local go_sem] Oper.semAt_some
def ut (us:List Value):List (ByteArray×Value):=us.mapIdx fun i u=>(⟨(Lib.itoa i).toArray⟩,u)
theorem yW (us:List Value):(ut us).length=us.length:=by simp[ut]
theorem Er (us:List Value)(i:Fin (ut us).length):∃u,us[i.val]?=some u/\(ut us).get i= (⟨(Lib.itoa i.val).toArray⟩,u):=by
 have hi:i.val<us.length:=by have h1:=i.isLt;have h2:=yW us;omega
 exact⟨us[i.val],Zd hi,by
  show(ut us)[i.val]'i.isLt=_
  simp only[ut,List.getElem_mapIdx]⟩
def IX (w X:World):Prop:= ∀ (g:Nat) cs t z,w.heap[g]?=some (Obj.cells cs t z)->X.heap[g]?=some (Obj.cells cs t z)
theorem de.kp (h:de P w A us ks)(hk:IX w X):de P X A us ks:=by
 rcases h with h|⟨g,R,c,e,hg,hr,hl⟩
 ·exact .inl h
 ·exact .inr ⟨g,R,c,e,hk _ _ _ _ hg,hr.stay fun g o hp hg _ ⟨cs,z,ho⟩=>⟨hp,by subst ho;exact hk _ _ _ _ hg⟩,hl⟩
theorem eD.kp (h:eD P w A us ns ks)(hk:IX w X):eD P X A us ns ks:=by
 obtain⟨g,R,c,e,hg,hr,hl⟩:=h;exact⟨g,R,c,e,hk _ _ _ _ hg,hr.stay fun g o hp hg _ ⟨cs,z,ho⟩=>⟨hp,by subst ho;exact hk _ _ _ _ hg⟩,hl⟩
theorem cG.kp (h:cG w)(hk:IX w X):cG X:=by
 have hg:Tryz.prog.globalNamed "internal/strconv.uint64pow10" = some 11:=by kernel_rfl
 unfold cG Lib.TabIs World.var? at h ⊢;rw[hg] at h ⊢;simp only[Option.bind_some] at h ⊢;rcases ho:w.heap[(11:Nat)]? with _|o
 ·rw[ho] at h;cases h
 ·rw[ho] at h
  cases o with
  |cells cs t z=>rw[hk _ _ _ _ ho];exact h
  |_=>cases h
def FJ (w:World)(n:Nat)(pre:List (Fin n))(W:World):Prop:=Bx W w.heap.size 4 (.bool false)/\Below w.heap.size w W
theorem ow (h:de P w A us ks)(hT:cG w)
  (H:∀ (i:Nat) v k,us[i]?=some v->ks[i]?=some k->∀w1,Below w.heap.size w w1->Calls Tryz.prog 30 #[v] w1 fun e w'=>e =.returned (.bool false)/\Below w1.heap.size w1 w') :
  CallsIn Fence.wide 9 Tryz.prog 30 #[.iface 48 (.pointer A)] w fun e w'=>e =.returned (.bool false)/\Below w.heap.size w w':=by
 have k1:=iL;have Hh:=Qa h;have HT:=Qa hT;have HH:=Qa H;clear h hT H;refine callsIn_of_wp_marks Tryz.func30 rfl trivial ?_ rfl;simp only[Tryz.ntmps30,List.size_toArray,List.length_cons,List.length_nil,Nat.reduceAdd,Nat.reduceSub,Array.replicate_succ,Array.replicate_zero,List.push_toArray,List.append_toArray,List.nil_append,List.cons_append];have Hk:=Qa (Bx.new w 4 (.bool false));have a2:=Qa (show Below w.heap.size w (w.alloc (.cells #[.bool false] 4)) from(Ze _ _).alloc (Zb _) _)
 gi_wp2_with fail
 obtain⟨W0,b1⟩:∃W0,w.alloc (.cells #[.bool false] 4)=W0:=⟨_,rfl⟩;have a4:W0.heap.size=w.heap.size+1:=by rw[<-b1];simp
 rw[b1] at Hk a2 ⊢;have a5:=Qa a4;clear b1 a4;refine⟨fun _ _=>trivial,?_⟩;go_invoke
 gi_wp2_with fail
 refine(callsIn_wide.2 et).mono ?_;rintro e w1 ⟨rfl,c0⟩;have a0:=Qa c0;clear c0
 gi_wp2_with fail
 refine⟨trivial,?_⟩;refine(callsIn_wide.2 pp).mono ?_;rintro e w2 ⟨rfl,rfl⟩;have a7:W0.heap.size<=w1.heap.size:=a0.out.size;have a9:=ac w1 (.cells #[.iface 48 (.pointer A)] 124);have b4:=Zf w1 (.cells #[.iface 48 (.pointer A)] 124);obtain⟨W1,b8⟩:∃W1,w1.alloc (.cells #[.iface 48 (.pointer A)] 124)=W1:=⟨_,rfl⟩;have a6:W1.heap.size=w1.heap.size+1:=by rw[<-b8];simp
 rw[b8] at a9 b4 ⊢;clear b8;have c5:FJ w (ut us).length [] W1:=⟨(Hk.out.later a0.out).later a9,a2.out.trans ((a0.out.mono a2.out.size).trans (a9.mono (Zc a2.out.size a0.out.size)))⟩;have c2:=Qa c5;have b6:=Qa a6;have d1:=Qa b4;have a3:=Qa a7;clear a9 b4 c5 a6 a7 Hk a2 a0
 gi_wp2
 have b7:∀X,fQ w.heap.size (w.heap.size+1) W1 X->IX w X:=fun X hX g cs t z hg=>hX g cs t z (.inl (ae hg)) ((c2.out.2.block g (ae hg)).trans hg)
 have b5:=Qa b7;have c1:=Qa (yW us);have c7:=Qa Hh.out.bd;have a1:SeqStopsK Fence.wide (9 - 1) Tryz.prog 76 #[.pointer (some ⟨w1.heap.size,0,none⟩)] (fun x:Fin (ut us).length=> #[.string ((ut us).get x).1,((ut us).get x).2]) (fQ w.heap.size (w.heap.size+1)) (fun _=>True) (fun _=>True) (ut us).length W1:=by
  intro l J Jx W hW hJ d2 hY h0;refine CO (9 - 1) (by omega) l w1.heap.size A (ut us) (by rw[c1.out];exact c7.out) w.heap.size (w.heap.size+1) (fQ w.heap.size (w.heap.size+1) W1) (fun X Y h1 h2=>h1.t h2) (fun X hX=>?_) (fun X hX=>?_) (fun X k hX=>?_) J Jx W (fQ.of_below hW) hJ d2 hY h0
  ·exact aa (hX _ _ _ _ (.inr (by have:=a3.out;have:=a5.out;omega)) d1.out) (j:=0) rfl
  ·rw[c1.out];exact dR (Hh.out.kp (b5.out X hX))
  ·obtain⟨u,hu,he⟩:=Er us k;rw[he];exact ew (Hh.out.kp (b5.out X hX)) (HT.out.kp (b5.out X hX)) k.val hu
 have b2:=Qa a1;clear b7 a1;have c6:w.heap.size+2<=W1.heap.size:=by have:=b6.out;have:=a3.out;have:=a5.out;omega
 refine wpIn_rangeFunc_ownF rfl (by omega) (gf:=76) (lb:= #[.pointer (some ⟨w1.heap.size,0,none⟩)]) (by simp[Act.eval]) trivial (enters_of Tryz.func76 (by kernel_rfl) rfl)
  b2.out
  (fun h k=>h.t k) (fun W l o o' _ h ho _=>fQ.b W l o o' h ho) (Ze _ _) (fun _=>rfl)
  (FJ w (ut us).length) (fun _ _ _=>False) ?hI ?hIx c2.out
  (fun x=>{tmps:= #[.iface 48 (.pointer A),undef,.pointer (some ⟨w.heap.size,0,none⟩),.iface 48 (.pointer A),.bool true,undef,((ut us).get x).2,.iface 48 (.pointer A),.int .i64 5,.bool false,.tuple #[.iface 48 (.pointer A),.bool true],.iface 48 (.pointer A),.tuple #[.iface 48 (.pointer A),.bool true],.iface 48 (.pointer A),.bool true,.bool true,.iface 48 (.pointer A),.func (.func 76) #[] #[.pointer (some ⟨w1.heap.size,0,none⟩)],.string ((ut us).get x).1,((ut us).get x).2,undef,undef],defers:= []}) ?assign ?body ?done ?stop
 case hI=>
  intro s A B row hs hg hr;exact⟨hs.1.kept hg (fun r e=>(hr r e).2),hs.2.grown hg hs.2.size (fun k e=>by have:=(hr k e).1;omega)⟩
 case hIx=>exact fun _ _ _ _ _ hs _ _=>hs
 case assign=>
  intro l x W K hK;generalize (ut us).get x=y at hK ⊢;obtain⟨y1,y2⟩:=y
  dsimp only at hK ⊢
  gi_wp2
  exact hK
 case body=>
  rintro l pre x W ⟨hk,hB⟩ hN;obtain⟨u,hu,he⟩:=Er us x;have c9:x.val<ks.length:=by rw[<-Hh.out.len];exact(List.getElem?_eq_some_iff.1 hu).1
  have Hc:=Qa (HH.out x.val u _ hu (Zd c9) W hB)
  try dsimp only
  rw[he];have d0:=Qa hk;have c4:=Qa hB;clear hk hB
  gi_wp2_with fail
  refine⟨trivial,?_⟩;refine(CallsIn.inRound l (callsIn_wide.2 Hc.out)).mono ?_;rintro e W2 ⟨rfl,b9⟩;have b0:=Qa b9;clear b9
  gi_wp2
  exact⟨nV b0.out,fQ.of_below b0.out,d0.out.later b0.out,c4.out.trans (b0.out.mono c4.out.size)⟩
 case done=>
  rintro D ys W hD - ⟨hk,hB⟩ hK;have b7:=hk.cell;have d3:=hk.frozen
  gi_wp2
  have hne:w.heap.size≠D:=by omega
  have c3:(W.setCell ⟨w.heap.size,0,none⟩ (.bool false)).heap[D]?=some (.deferred (some [])):=(Below.heap_setCell W _ _ D (fun e=>hne e.symm)).trans hK;have b3:=hk.set (.bool false);refine⟨by simp,.inl ⟨_,_,rfl,run_takeDeferred c3,?_⟩⟩;have c8:((W.setCell ⟨w.heap.size,0,none⟩ (.bool false)).putObj D (.deferred none)).cell? ⟨w.heap.size,0,none⟩=some (.bool false):=by
   rw[World.cell?_of_block (w:=W.setCell ⟨w.heap.size,0,none⟩ (.bool false)) (World.putObj_heap_other hne)];exact b3.cell
  refine⟨.bool false,?_,rfl,?_⟩
  ·simp[results,Tryz.results30,go_sem,c8]
  ·exact(hB.setCell (p:=⟨w.heap.size,0,none⟩) (Zb _) _).trans (belowK_b (w:=w) (Zb _) _ D _ _ (by omega) c3 rfl rfl)
 case stop=>
  rintro D c pre W hD _ h _;exact h.elim
attribute [local go_sem] Oper.semAt_some
def sy (ns:List ByteArray)(us:List Value):List (ByteArray×Value):=ns.zip us
theorem zk (h:ns.length=us.length):(sy ns us).length=us.length:=by simp[sy,h]
theorem Du (h:ns.length=us.length)(i:Fin (sy ns us).length):∃u s,us[i.val]?=some u/\ns[i.val]?=some s/\(sy ns us).get i= (s,u):=by
 have hi:i.val<us.length:=by have h1:=i.isLt;have h2:=zk h;omega
 have hj:i.val<ns.length:=by omega
 exact⟨us[i.val],ns[i.val],Zd hi,Zd hj,by
  show(sy ns us)[i.val]'i.isLt=_
  simp only[sy,List.getElem_zip]⟩
theorem zp (h:eD P w A us ns ks)
  (H:∀ (i:Nat) v k,us[i]?=some v->ks[i]?=some k->∀w1,Below w.heap.size w w1->Calls Tryz.prog 30 #[v] w1 fun e w'=>e =.returned (.bool false)/\Below w1.heap.size w1 w') :
  CallsIn Fence.wide 9 Tryz.prog 30 #[.iface 116 (.pointer A)] w fun e w'=>e =.returned (.bool false)/\Below w.heap.size w w':=by
 have k1:=kc;have Hh:=Qa h;have b5:=Qa (show ns.length=us.length by rw[h.names,h.len]);have HH:=Qa H;clear h H;refine callsIn_of_wp_marks Tryz.func30 rfl trivial ?_ rfl;simp only[Tryz.ntmps30,List.size_toArray,List.length_cons,List.length_nil,Nat.reduceAdd,Nat.reduceSub,Array.replicate_succ,Array.replicate_zero,List.push_toArray,List.append_toArray,List.nil_append,List.cons_append];have Hk:=Qa (Bx.new w 4 (.bool false));have a2:=Qa (show Below w.heap.size w (w.alloc (.cells #[.bool false] 4)) from(Ze _ _).alloc (Zb _) _)
 gi_wp2_with fail
 obtain⟨W0,b1⟩:∃W0,w.alloc (.cells #[.bool false] 4)=W0:=⟨_,rfl⟩;have a4:W0.heap.size=w.heap.size+1:=by rw[<-b1];simp
 rw[b1] at Hk a2 ⊢;have a5:=Qa a4;clear b1 a4;refine⟨fun _ _=>trivial,?_⟩;go_invoke
 gi_wp2_with fail
 refine(callsIn_wide.2 gE).mono ?_;rintro e w1 ⟨rfl,c0⟩;have a0:=Qa c0;clear c0
 gi_wp2_with fail
 refine⟨trivial,?_⟩;refine(callsIn_wide.2 pp).mono ?_;rintro e w2 ⟨rfl,rfl⟩;have a7:W0.heap.size<=w1.heap.size:=a0.out.size;have a9:=ac w1 (.cells #[.iface 116 (.pointer A)] 124);have b4:=Zf w1 (.cells #[.iface 116 (.pointer A)] 124);obtain⟨W1,b8⟩:∃W1,w1.alloc (.cells #[.iface 116 (.pointer A)] 124)=W1:=⟨_,rfl⟩;have a6:W1.heap.size=w1.heap.size+1:=by rw[<-b8];simp
 rw[b8] at a9 b4 ⊢;clear b8;have c6:FJ w (sy ns us).length [] W1:=⟨(Hk.out.later a0.out).later a9,a2.out.trans ((a0.out.mono a2.out.size).trans (a9.mono (Zc a2.out.size a0.out.size)))⟩;have c2:=Qa c6;have b6:=Qa a6;have d2:=Qa b4;have a3:=Qa a7;clear a9 b4 c6 a6 a7 Hk a2 a0
 gi_wp2
 have b7:∀X,fQ w.heap.size (w.heap.size+1) W1 X->IX w X:=fun X hX g cs t z hg=>hX g cs t z (.inl (ae hg)) ((c2.out.2.block g (ae hg)).trans hg)
 have c3:=Qa b7;have c1:=Qa (zk b5.out);have c8:=Qa Hh.out.bd;have a1:SeqStopsK Fence.wide (9 - 1) Tryz.prog 76 #[.pointer (some ⟨w1.heap.size,0,none⟩)] (fun x:Fin (sy ns us).length=> #[.string ((sy ns us).get x).1,((sy ns us).get x).2]) (fQ w.heap.size (w.heap.size+1)) (fun _=>True) (fun _=>True) (sy ns us).length W1:=by
  intro l J Jx W hW hJ d3 hY h0;refine B7 (9 - 1) (by omega) l w1.heap.size A (sy ns us) (by rw[c1.out];exact c8.out) w.heap.size (w.heap.size+1) (fQ w.heap.size (w.heap.size+1) W1) (fun X Y h1 h2=>h1.t h2) (fun X hX=>?_) (fun X hX=>?_) (fun X k hX=>?_) J Jx W (fQ.of_below hW) hJ d3 hY h0
  ·exact aa (hX _ _ _ _ (.inr (by have:=a3.out;have:=a5.out;omega)) d2.out) (j:=0) rfl
  ·rw[c1.out];exact eN (Hh.out.kp (c3.out X hX))
  ·obtain⟨u,s,hu,hs,he⟩:=Du b5.out k;rw[he];exact fe (Hh.out.kp (c3.out X hX)) k.val hu hs
 have b2:=Qa a1;clear b7 a1;have c7:w.heap.size+2<=W1.heap.size:=by have:=b6.out;have:=a3.out;have:=a5.out;omega
 refine wpIn_rangeFunc_ownF rfl (by omega) (gf:=76) (lb:= #[.pointer (some ⟨w1.heap.size,0,none⟩)]) (by simp[Act.eval]) trivial (enters_of Tryz.func76 (by kernel_rfl) rfl)
  b2.out
  (fun h k=>h.t k) (fun W l o o' _ h ho _=>fQ.b W l o o' h ho) (Ze _ _) (fun _=>rfl)
  (FJ w (sy ns us).length) (fun _ _ _=>False) ?hI ?hIx c2.out
  (fun x=>{tmps:= #[.iface 116 (.pointer A),undef,.pointer (some ⟨w.heap.size,0,none⟩),.iface 116 (.pointer A),.bool true,undef,((sy ns us).get x).2,.iface 116 (.pointer A),.int .i64 6,.bool false,.tuple #[.iface 116 (.pointer A),.bool true],.iface 116 (.pointer A),.tuple #[.iface 116 (.pointer A),.bool true],.iface 116 (.pointer A),.bool true,.bool true,.iface 116 (.pointer A),.func (.func 76) #[] #[.pointer (some ⟨w1.heap.size,0,none⟩)],.string ((sy ns us).get x).1,((sy ns us).get x).2,undef,undef],defers:= []}) ?assign ?body ?done ?stop
 case hI=>
  intro s A B row hs hg hr;exact⟨hs.1.kept hg (fun r e=>(hr r e).2),hs.2.grown hg hs.2.size (fun k e=>by have:=(hr k e).1;omega)⟩
 case hIx=>exact fun _ _ _ _ _ hs _ _=>hs
 case assign=>
  intro l x W K hK;generalize (sy ns us).get x=y at hK ⊢;obtain⟨y1,y2⟩:=y
  dsimp only at hK ⊢
  gi_wp2
  exact hK
 case body=>
  rintro l pre x W ⟨hk,hB⟩ hN;obtain⟨u,s,hu,hs,he⟩:=Du b5.out x;have d0:x.val<ks.length:=by rw[<-Hh.out.len];exact(List.getElem?_eq_some_iff.1 hu).1
  have Hc:=Qa (HH.out x.val u _ hu (Zd d0) W hB)
  try dsimp only
  rw[he];have d1:=Qa hk;have c5:=Qa hB;clear hk hB
  gi_wp2_with fail
  refine⟨trivial,?_⟩;refine(CallsIn.inRound l (callsIn_wide.2 Hc.out)).mono ?_;rintro e W2 ⟨rfl,b9⟩;have b0:=Qa b9;clear b9
  gi_wp2
  exact⟨nV b0.out,fQ.of_below b0.out,d1.out.later b0.out,c5.out.trans (b0.out.mono c5.out.size)⟩
 case done=>
  rintro D ys W hD - ⟨hk,hB⟩ hK;have b7:=hk.cell;have d4:=hk.frozen
  gi_wp2
  have hne:w.heap.size≠D:=by omega
  have c4:(W.setCell ⟨w.heap.size,0,none⟩ (.bool false)).heap[D]?=some (.deferred (some [])):=(Below.heap_setCell W _ _ D (fun e=>hne e.symm)).trans hK;have b3:=hk.set (.bool false);refine⟨by simp,.inl ⟨_,_,rfl,run_takeDeferred c4,?_⟩⟩;have c9:((W.setCell ⟨w.heap.size,0,none⟩ (.bool false)).putObj D (.deferred none)).cell? ⟨w.heap.size,0,none⟩=some (.bool false):=by
   rw[World.cell?_of_block (w:=W.setCell ⟨w.heap.size,0,none⟩ (.bool false)) (World.putObj_heap_other hne)];exact b3.cell
  refine⟨.bool false,?_,rfl,?_⟩
  ·simp[results,Tryz.results30,go_sem,c9]
  ·exact(hB.setCell (p:=⟨w.heap.size,0,none⟩) (Zb _) _).trans (belowK_b (w:=w) (Zb _) _ D _ _ (by omega) c4 rfl rfl)
 case stop=>
  rintro D c pre W hD _ h _;exact h.elim
theorem vK:Calls Tryz.prog 30 #[.iface 49 (.agg #[])] w fun e w'=>e =.returned (.bool false)/\Below w.heap.size w w':=by
 have k1:=iE;have a2:=Qa (show Below w.heap.size w (w.alloc (.cells #[.bool false] 4)) from(Ze _ _).alloc (Zb _) _);have Hk:=Qa (Bx.new w 4 (.bool false));go_enter Tryz.func30,Tryz.ntmps30;go_wp2_with fail;refine gP.mono ?_;rintro e w1 ⟨rfl,a1⟩;have a3:=Qa (a2.out.trans (a1.mono a2.out.size));have a0:=Hk.out.later a1;have a6:=a0.cell;have a7:=a0.frozen;have a5:=Qa (a0.set (.bool false)).cell;clear a1 a0;go_wp2_with fail;refine Zh (v:=.bool false) ?_ rfl ⟨rfl,a3.out.setCell (p:=⟨w.heap.size,0,none⟩) (Zb _) _⟩;have a4:=a5.out;simp[results,Tryz.results30,go_sem,a4]
theorem yj {b:Bool}:Calls Tryz.prog 30 #[.iface 50 (.bool b)] w fun e w'=>e =.returned (.bool false)/\Below w.heap.size w w':=by
 have k1:=mj;have a2:=Qa (show Below w.heap.size w (w.alloc (.cells #[.bool false] 4)) from(Ze _ _).alloc (Zb _) _);have Hk:=Qa (Bx.new w 4 (.bool false));go_enter Tryz.func30,Tryz.ntmps30;go_wp2_with fail;refine gD.mono ?_;rintro e w1 ⟨rfl,a1⟩;have a3:=Qa (a2.out.trans (a1.mono a2.out.size));have a0:=Hk.out.later a1;have a6:=a0.cell;have a7:=a0.frozen;have a5:=Qa (a0.set (.bool false)).cell;clear a1 a0;go_wp2_with fail;refine Zh (v:=.bool false) ?_ rfl ⟨rfl,a3.out.setCell (p:=⟨w.heap.size,0,none⟩) (Zb _) _⟩;have a4:=a5.out;simp[results,Tryz.results30,go_sem,a4]
theorem Ax:Calls Tryz.prog 30 #[.iface 113 (.agg cs)] w fun e w'=>e =.returned (.bool false)/\Below w.heap.size w w':=by
 have k1:=mZ;have a2:=Qa (show Below w.heap.size w (w.alloc (.cells #[.bool false] 4)) from(Ze _ _).alloc (Zb _) _);have Hk:=Qa (Bx.new w 4 (.bool false));go_enter Tryz.func30,Tryz.ntmps30;go_wp2_with fail;refine iP.mono ?_;rintro e w1 ⟨rfl,a1⟩;have a3:=Qa (a2.out.trans (a1.mono a2.out.size));have a0:=Hk.out.later a1;have a6:=a0.cell;have a7:=a0.frozen;have a5:=Qa (a0.set (.bool false)).cell;clear a1 a0;go_wp2_with fail;refine Zh (v:=.bool false) ?_ rfl ⟨rfl,a3.out.setCell (p:=⟨w.heap.size,0,none⟩) (Zb _) _⟩;have a4:=a5.out;simp[results,Tryz.results30,go_sem,a4]
theorem vI {s:ByteArray}:Calls Tryz.prog 30 #[.iface 51 (.string s)] w fun e w'=>e =.returned (.bool false)/\Below w.heap.size w w':=by
 have k1:=lM;have a2:=Qa (show Below w.heap.size w (w.alloc (.cells #[.bool false] 4)) from(Ze _ _).alloc (Zb _) _);have Hk:=Qa (Bx.new w 4 (.bool false));go_enter Tryz.func30,Tryz.ntmps30;go_wp2_with fail;refine gT.mono ?_;rintro e w1 ⟨rfl,a1⟩;have a3:=Qa (a2.out.trans (a1.mono a2.out.size));have a0:=Hk.out.later a1;have a6:=a0.cell;have a7:=a0.frozen;have a5:=Qa (a0.set (.bool false)).cell;clear a1 a0;go_wp2_with fail;refine Zh (v:=.bool false) ?_ rfl ⟨rfl,a3.out.setCell (p:=⟨w.heap.size,0,none⟩) (Zb _) _⟩;have a4:=a5.out;simp[results,Tryz.results30,go_sem,a4]
theorem zO (h:VW P w v j)(hT:cG w):Tx j->∀w1,Below w.heap.size w w1->Calls Tryz.prog 30 #[v] w1 fun e w'=>e =.returned (.bool false)/\Below w1.heap.size w1 w':=by
 induction h with
 |null=>intro _ w1 _;exact vK
 |bool b=>intro _ w1 _;exact yj
 |num d=>intro _ w1 _;exact Ax
 |text s=>intro _ w1 _;exact vI
 |hole=>intro tx;cases tx
 |bare=>
  intro tx w1 h1;refine callsIn_wide.1 (ow (P:=P) (us:= []) (ks:= []) (.inl ⟨rfl,rfl,rfl⟩) (hT.below h1) fun i v k e1=>?_);simp at e1
 |list g A c us ks hp hg hr hl hks ih=>
  intro tx w1 h1;have hk:∀u∈ks,Tx u:=by cases tx;assumption
  have hL:de P w (some ⟨g,0,none⟩) us ks:=.inr ⟨g,A,c,rfl,hg,hr,hl⟩;exact callsIn_wide.1 (ow (hL.below h1) (hT.below h1) fun i v k e1 e2 w2 h2=>ih i v k e1 e2 (hk k (Zl e2)) w2 (h1.trans (h2.mono h1.size)))
 |obj g A c us ns ks hp hg hr hl hn hks ih=>
  intro tx w1 h1;have hk:∀u∈ks,Tx u:=by cases tx;assumption
  have hL:eD P w (some ⟨g,0,none⟩) us ns ks:=⟨g,A,c,rfl,hg,hr,hl,hn⟩;exact callsIn_wide.1 (zp (hL.below h1) fun i v k e1 e2 w2 h2=>ih i v k e1 e2 (hk k (Zl e2)) w2 (h1.trans (h2.mono h1.size)))
