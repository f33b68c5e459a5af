import Derived.Test.YtgkkffeagolnpaaGreatDoorGZ16ar
set_option linter.unusedVariables false
set_option linter.unusedSimpArgs false
set_option maxHeartbeats 64000000
set_option maxRecDepth 100000
namespace Go.Proofs.YtgkkffeagolnpaaGreatDoor
open Go.RowKit Go.Shelf
variable {aE aU:Addr}{d:Dc}{j:JV}{ns:List ByteArray}{ks:List JV}{xs ys:List UInt8}{us:List Value}{i n:Nat}{P:Nat->Prop}{A:Option Addr}{u v x:Value}{W X w:World}
theorem qR (x:Value)(W:World):(Instr.typeAssert (.iface 95 x) 80 220 true).run Tryz.prog W =.ok (.tuple #[.nilIface,.bool false]) W:=run_typeAssert_lacksB Tryz.underlying220 (by kernel_rfl) (by kernel_rfl) x _ W
theorem rz (x:Value)(W:World):(Instr.typeAssert (.iface 95 x) 80 104 true).run Tryz.prog W =.ok (.tuple #[.pointer none,.bool false]) W:=by kernel_rfl
theorem vv (x:Value)(W:World):(Instr.typeAssert (.iface 95 x) 80 95 true).run Tryz.prog W =.ok (.tuple #[x,.bool true]) W:=by kernel_rfl
theorem dt.nextO {full:List UInt8}{tail:UInt8}{k:JV}{s:ByteArray}(h:dt true full tail ns ks i ys)(hk:ks[i]?=some k)(hs:ns[i]?=some s):dt true full tail ns ks (i+1) (ys++ ((if i=0 then [] else [44])++ (bW s++ ([58]++JV.txt k)))):=by
 unfold dt at h ⊢;obtain⟨h1,h2⟩:=List.getElem?_eq_some_iff.1 hk;obtain⟨h3,h4⟩:=List.getElem?_eq_some_iff.1 hs;rw[List.drop_eq_getElem_cons h1,h2,List.drop_eq_getElem_cons h3,h4] at h;rw[<-h]
 conv=>rhs;unfold JV.txts
 by_cases e:i=0 <;> simp[e]
theorem BH (h:eJ P W A us ns ks)(hT:cD W aU aE)(hU:∀s∈ns,bi s/\s.size<=1000000000)(hb:Below W.heap.size W w)(ho:aq w W.heap.size u xs)(hx:xs.length+ (123:: (JV.txts true true ns ks ++ [125])).length<=140737488355328)
  (H:∀ (i:Nat) v k,us[i]?=some v->ks[i]?=some k->∀w1 u1 xs1,Below W.heap.size W w1->aq w1 W.heap.size u1 xs1->xs1.length+ (JV.txt k).length<=140737488355328->Calls Tryz.prog 99 #[u1,v] w1 (jY W (xs1++JV.txt k))) :
  Calls Tryz.prog 99 #[u,.iface 95 (.pointer A)] w fun e w'=>jY W (xs++ (123:: (JV.txts true true ns ks ++ [125]))) e w':=by
 have k1:=sX;have k2:=qR;have k3:=rz;have k4:=vv;have hl:=h.len;have g6:=h.bd;unfold maxLen at g6;obtain⟨q1,q2,q3⟩:=ho.lit 123 hb;have d2:=Qa q1;have g1:=Qa q2;have c7:=Qa q3;have HH:=Qa H;have Hh:=Qa h;have HT:=Qa hT;have HU:=Qa hU;have g8:=Qa h.names;obtain⟨A0,q0,rfl,-⟩:=ag ho;have Hx:=Qa hx;have f6:=Qa (show xs.length+ ([123]:List UInt8).length<=140737488355328 by simp at hx ⊢;omega);obtain⟨full,a1⟩:∃full,xs++ (123:: (JV.txts true true ns ks ++ [125]))=full:=⟨_,rfl⟩;have Hf:Hid (dt true full 125 ns ks 0 (xs ++ [123])):=Qa (by unfold dt;rw[<-a1];simp);have g3:=Qa (show full.length<=140737488355328 by rw[<-a1,List.length_append];exact hx);rw[a1];have c1:=Qa hl;have g7:=Qa (fun w1 (hw:Below W.heap.size W w1)=>eF (h.below hw));clear q1 q2 q3 ho hb h hT hU H hx a1 hl;generalize hn:us.length=n at *;have Hn:=Qa hn;clear hn;go_enter Tryz.func99,Tryz.ntmps99;go_wp2_with (at_builtin;refine tF d2.out g1.out f6.out c7.out.size ?_;intro v' w3 h1 h2 h3;have HK:=Qa h1;have b3:=Qa h2;clear h1 h2 h3);generalize hz:xs ++ [123]=zs at *;clear hz;have Hb3:=Qa (c7.out.grown b3.out c7.out.size (fun g e=>(aq.blk d2.out e).1));have Ho3:=Qa HK.out;obtain⟨A3,q3,rfl,-⟩:=ag HK.out;have g0:=Qa (g7.out w3 Hb3.out);clear HK b3 d2 g1 c7 Hx f6;go_wp2_with fail;refine Za g0 ?_;rintro e w4 ⟨rfl,rfl⟩;go_wp2_with fail;clear g0
 go_loopw [0,67] (fun s0 s38 wr=>xl W true full 125 ns ks s0 s38 wr) (fun _ s38 _=>n - (intOf s38).toNat)
 case atStart=>exact⟨0,_,rfl,Zj _,Ho3.out,Hb3.out,Hf.out⟩
 case round=>
  clear Hf Ho3 Hb3;obtain⟨i,ys,rfl,hi,ho,hb,hf⟩:=hrel;have Ho:=Qa ho;have Hb:=Qa hb;have Hf:=Qa hf;have Hi:=Qa hi;obtain⟨A4,q4,rfl,-⟩:=ag ho;have f3:ys.length+1<=140737488355328:=by have:=hf.le;have:=g3.out;omega
  have f4:=Qa f3;clear ho hb hf hi f3
  by_cases hin:i<n
  ·have f9:i<us.length:=by have:=Hn.out;omega
   have e2:i<ks.length:=by have:=c1.out;omega
   obtain⟨v,hv⟩:∃u,us[i]?=some u:=⟨_,Zd f9⟩;obtain⟨k,hk⟩:∃u,ks[i]?=some u:=⟨_,Zd e2⟩;have g2:i<ns.length:=by have:=g8.out;omega
   obtain⟨s,hs⟩:∃u,ns[i]?=some u:=⟨_,Zd g2⟩;have e6:=Hf.out.nextO hk hs;obtain⟨f8,f7⟩:=HU.out s (Zk hs);have g5:=Qa (fun w5 (hw:Below W.heap.size W w5)=>mx (w:=w5) f8 (HT.out.below hw) f7);have c8:=Qa e6;have hle:=e6.le;have Hp:=Qa (fun w5 (hw:Below W.heap.size W w5)=>oU (Hh.out.below hw) i hv hs);have Hc:=Qa (HH.out i v k hv hk);generalize bW s=qs at *;have hkl:(ys++if i=0 then [] else [44]).length+qs.length<=140737488355328/\(ys++if i=0 then [] else [44]).length+qs.length+1+ (JV.txt k).length<=140737488355328:=by
    have h1:=g3.out;rw[List.length_append,List.length_append,List.length_append,List.length_append] at hle;simp only[List.length_cons,List.length_nil] at hle;rw[List.length_append];omega
   have a3:=Qa hkl;have g4:=Qa e2;have h':(i:Int)<n:=by omega
   have w1:IntKind.i64.wrap ((i:Int)+1)= (i:Int)+1:=IntWalk.i64_in _ (by omega);clear e6 hle hkl f9 e2 hv hk Hf hs f8 f7 g2
   by_cases hi0:i=0
   ·subst hi0;rw[if_pos rfl,List.append_nil] at a3;rw[if_pos rfl,List.nil_append] at c8;go_wp2_with fail;have d9:=Qa (show Calls Tryz.prog 127 #[.pointer A,.int .i64 0] wr (fun e w'=>e =.returned (.tuple #[.string s,v])/\Below wr.heap.size wr w') from Hp.out wr Hb.out);refine Za d9 ?_;rintro e w6 ⟨rfl,b2⟩;have a9:=Qa (Hb.out.trans (b2.mono Hb.out.size));have d6:=Qa (Ho.out.below b2 (Zb _));have f0:=Qa (g5.out w6 a9.out);clear b2;go_wp2_with fail;refine Za f0 ?_;rintro e wq ⟨vq,rfl,a5,b4⟩;have b0:=Qa (a9.out.trans (b4.mono a9.out.size));have c5:=Qa (d6.out.below b4 (Zb _));have f2:=Qa (aq.bs a5);obtain⟨Aq,qq,rfl,-⟩:=ag a5;clear a5 b4;go_wp2_with (first|(at_builtin;refine tF c5.out f2.out a3.out.1 b0.out.size ?_;intro v' wa h1 h2 h3;have c0:=Qa h1;have e3:=Qa h2;clear h1 h2 h3;have d5:=Qa (b0.out.grown e3.out b0.out.size (fun g e=>(aq.blk c5.out e).1));generalize hza:ys++qs=za at *;have c3:=Qa hza;obtain⟨Aa,qa,rfl,-⟩:=ag c0.out;obtain⟨ra1,ra2,ra3⟩:=c0.out.lit 58 d5.out;have a2:=Qa ra1;have b8:=Qa ra2;have a0:=Qa ra3;have c9:=Qa (show za.length+ ([58]:List UInt8).length<=140737488355328 from by rw[<-hza,List.length_append];have:=a3.out.2;simp only[List.length_cons,List.length_nil];omega);clear ra1 ra2 ra3 hza)|(at_builtin;refine tF a2.out b8.out c9.out a0.out.size ?_;intro v' wb h1 h2 h3;have c2:=Qa h1;have d0:=Qa h2;clear h1 h2 h3;have d3:=Qa (a0.out.grown d0.out a0.out.size (fun g e=>(aq.blk a2.out e).1));generalize hzb:za ++ [58]=zb at *;have d4:=Qa hzb;obtain⟨Ab,qb,rfl,-⟩:=ag c2.out;have e5:=Qa (show zb.length+ (JV.txt k).length<=140737488355328 from by rw[<-hzb,<-c3.out,List.length_append,List.length_append];have:=a3.out.2;simp only[List.length_cons,List.length_nil];omega);have e0:=Qa (Hc.out wb _ _ d3.out c2.out e5.out);clear hzb));refine Za e0 ?_;rintro e w7 ⟨v7,rfl,b1,b9⟩;have e1:=Qa b1;have f1:=Qa b9;generalize hr:zb++JV.txt k=rs at *;have Hr:=Qa hr;clear hr;obtain⟨A7,q7,rfl,-⟩:=ag b1;clear b1 b9;go_wp2_with fail;refine⟨⟨1,_,rfl,g4.out,e1.out,f1.out,by rw[<-Hr.out,<-d4.out,<-c3.out];have:=c8.out;simp only[List.append_assoc] at this ⊢;exact this⟩,?_⟩
    show n - ((0:Int)+1).toNat<n - ((0:Int)).toNat
    omega
   ·have h4:(0:Int)<i:=by omega
    rw[if_neg hi0] at a3 c8;clear hi0;obtain⟨r1,r2,r3⟩:=Ho.out.lit 44 Hb.out;have c4:=Qa r1;have d1:=Qa r2;have a4:=Qa r3;have b5:=Qa (show ys.length+ ([44]:List UInt8).length<=140737488355328 from f4.out);clear r1 r2 r3;go_wp2_with (at_builtin;refine tF c4.out d1.out b5.out a4.out.size ?_;intro v' w5 h1 h2 h3;have HK:=Qa h1;have b3:=Qa h2;clear h1 h2 h3);generalize hz:ys ++ [44]=zs at *;have Hz:=Qa hz;clear hz;have c6:=Qa (a4.out.grown b3.out a4.out.size (fun g e=>(aq.blk c4.out e).1));have h0:=Qa HK.out;obtain⟨A5,q5,rfl,-⟩:=ag HK.out;have d9:=Qa (Hp.out w5 c6.out);clear HK b3;go_wp2_with fail;refine Za d9 ?_;rintro e w6 ⟨rfl,b2⟩;have a9:=Qa (c6.out.trans (b2.mono c6.out.size));have d6:=Qa (h0.out.below b2 (Zb _));have f0:=Qa (g5.out w6 a9.out);clear b2;go_wp2_with fail;refine Za f0 ?_;rintro e wq ⟨vq,rfl,a5,b4⟩;have b0:=Qa (a9.out.trans (b4.mono a9.out.size));have c5:=Qa (d6.out.below b4 (Zb _));have f2:=Qa (aq.bs a5);obtain⟨Aq,qq,rfl,-⟩:=ag a5;clear a5 b4;go_wp2_with (first|(at_builtin;refine tF c5.out f2.out a3.out.1 b0.out.size ?_;intro v' wa h1 h2 h3;have c0:=Qa h1;have e3:=Qa h2;clear h1 h2 h3;have d5:=Qa (b0.out.grown e3.out b0.out.size (fun g e=>(aq.blk c5.out e).1));generalize hza:zs++qs=za at *;have c3:=Qa hza;obtain⟨Aa,qa,rfl,-⟩:=ag c0.out;obtain⟨ra1,ra2,ra3⟩:=c0.out.lit 58 d5.out;have a2:=Qa ra1;have b8:=Qa ra2;have a0:=Qa ra3;have c9:=Qa (show za.length+ ([58]:List UInt8).length<=140737488355328 from by rw[<-hza,List.length_append];have:=a3.out.2;simp only[List.length_cons,List.length_nil];omega);clear ra1 ra2 ra3 hza)|(at_builtin;refine tF a2.out b8.out c9.out a0.out.size ?_;intro v' wb h1 h2 h3;have c2:=Qa h1;have d0:=Qa h2;clear h1 h2 h3;have d3:=Qa (a0.out.grown d0.out a0.out.size (fun g e=>(aq.blk a2.out e).1));generalize hzb:za ++ [58]=zb at *;have d4:=Qa hzb;obtain⟨Ab,qb,rfl,-⟩:=ag c2.out;have e5:=Qa (show zb.length+ (JV.txt k).length<=140737488355328 from by rw[<-hzb,<-c3.out,List.length_append,List.length_append];have:=a3.out.2;simp only[List.length_cons,List.length_nil];omega);have e0:=Qa (Hc.out wb _ _ d3.out c2.out e5.out);clear hzb));refine Za e0 ?_;rintro e w7 ⟨v7,rfl,b1,b9⟩;have e1:=Qa b1;have f1:=Qa b9;generalize hr:zb++JV.txt k=rs at *;have Hr:=Qa hr;clear hr;obtain⟨A7,q7,rfl,-⟩:=ag b1;clear b1 b9;go_wp2_with fail;refine⟨⟨i+1,_,rfl,g4.out,e1.out,f1.out,by rw[<-Hr.out,<-d4.out,<-c3.out,<-Hz.out];have:=c8.out;simp only[List.append_assoc] at this ⊢;exact this⟩,?_⟩
    show n - ((i:Int)+1).toNat<n - ((i:Int)).toNat
    omega
  ·have h':¬ (i:Int)<n:=by omega
   have f5:i=ks.length:=by have:=Hi.out;have:=c1.out;omega
   have e4:=Qa (show ys ++ [125]=full by have:=Hf.out;rw[f5] at this;exact this.stop);clear f5 Hf;obtain⟨r1,r2,r3⟩:=Ho.out.lit 125 Hb.out;have c4:=Qa r1;have d1:=Qa r2;have a4:=Qa r3;have b5:=Qa (show ys.length+ ([125]:List UInt8).length<=140737488355328 from f4.out);clear r1 r2 r3;go_wp2_with (at_builtin;refine tF c4.out d1.out b5.out a4.out.size ?_;intro v' w5 h1 h2 h3;have HK:=Qa h1;have b3:=Qa h2;clear h1 h2 h3);have c6:=Qa (a4.out.grown b3.out a4.out.size (fun g e=>(aq.blk c4.out e).1));rw[e4.out] at HK;obtain⟨A5,q5,rfl,-⟩:=ag HK.out;go_ret;exact⟨_,rfl,HK.out,c6.out⟩
inductive Sz:JV->Prop
 |mk (k:Int) (t:Bool) (x:ByteArray) (d:Dc) (ns:List ByteArray) (ks:List JV):x.size<=1000000000->d.digits.size<=1000000000->(∀n∈ns,n.size<=1000000000)->(∀u∈ks,Sz u)->Sz (.mk k t x d ns ks)
theorem Sz.kids {k:Int}{t:Bool}{x:ByteArray}(h:Sz (.mk k t x d ns ks)):x.size<=1000000000/\d.digits.size<=1000000000/\(∀n∈ns,n.size<=1000000000)/\∀u∈ks,Sz u:=by
 cases h with
 |mk _ _ _ _ _ _ h1 h2 h3 h4=>exact⟨h1,h2,h3,h4⟩
theorem j1.exp (h:j1 d): -1000000000<=d.exp/\d.exp<=1000000000:=by
 rcases h with rfl|⟨-,h⟩
 ·exact⟨by decide,by decide⟩
 ·exact h
theorem BL (h:VW P W v j)(hT:ek W)(hG:cD W aU aE):Tx j->Sz j->∀w u xs,Below W.heap.size W w->aq w W.heap.size u xs->xs.length+ (JV.txt j).length<=140737488355328->Calls Tryz.prog 99 #[u,v] w (jY W (xs++JV.txt j)):=by
 induction h with
 |null=>
  intro tx sz w u xs hb ho hx;rw[show JV.txt (.mk 1 false es ⟨false,es,0⟩ [] [])=rI from rfl] at hx ⊢;exact yF hb ho hx
 |bool b=>
  intro tx sz w u xs hb ho hx;rw[show JV.txt (.mk 2 b es ⟨false,es,0⟩ [] [])=rc b from rfl] at hx ⊢;exact yJ hb ho hx
 |num d=>
  intro tx sz w u xs hb ho hx;rw[show JV.txt (.mk 3 false es d [] [])=eb d from rfl] at hx ⊢;have hd:j1 d:=by cases tx;assumption
  exact z6 hT (by have:=sz.kids.2.1;omega) hd.exp.1 hd.exp.2 hb ho hx
 |text s=>
  intro tx sz w u xs hb ho hx;rw[show JV.txt (.mk 4 false s ⟨false,es,0⟩ [] [])=bW s from rfl] at hx ⊢;have hd:bi s:=by cases tx;assumption
  exact zh hd hG sz.kids.1 hb ho hx
 |bare=>
  intro tx sz w u xs hb ho hx;rw[show JV.txt (.mk 5 false es ⟨false,es,0⟩ [] [])=91:: (JV.txts false true [] [] ++ [93]) by simp[JV.txt]] at hx ⊢;refine oR (P:=P) (us:= []) (.inl ⟨rfl,rfl,rfl⟩) hT hb ho hx fun i v k e1=>?_
  simp at e1
 |list g A c us ks hp hg hr hl hks ih=>
  intro tx sz w u xs hb ho hx;have hk:∀u∈ks,Tx u:=by cases tx;assumption
  rw[show JV.txt (.mk 5 false es ⟨false,es,0⟩ [] ks)=91:: (JV.txts false true [] ks ++ [93]) by simp[JV.txt]] at hx ⊢;refine oR (P:=P) (.inr ⟨g,A,c,rfl,hg,hr,hl⟩) hT hb ho hx fun i v k e1 e2 w1 u1 xs1 a1 a2 a0=>?_
  exact ih i v k e1 e2 (hk k (Zk e2)) (sz.kids.2.2.2 k (Zk e2)) w1 u1 xs1 a1 a2 a0
 |obj g A c us ns ks hp hg hr hl hn hks ih=>
  intro tx sz w u xs hb ho hx;have hk:(∀s∈ns,bi s)/\∀u∈ks,Tx u:=by cases tx;exact⟨by assumption,by assumption⟩
  rw[show JV.txt (.mk 6 false es ⟨false,es,0⟩ ns ks)=123:: (JV.txts true true ns ks ++ [125]) by simp[JV.txt]] at hx ⊢;refine BH (P:=P) ⟨g,A,c,rfl,hg,hr,hl,hn⟩ hG (fun s hs=>⟨hk.1 s hs,sz.kids.2.2.1 s hs⟩) hb ho hx fun i v k e1 e2 w1 u1 xs1 a1 a2 a0=>?_
  exact ih i v k e1 e2 (hk.2 k (Zk e2)) (sz.kids.2.2.2 k (Zk e2)) w1 u1 xs1 a1 a2 a0
attribute [local go_sem] Oper.semAt_some
theorem CD (i:Nat)(h:i<n):(List.finRange n).take (i+1)= (List.finRange n).take i ++ [⟨i,h⟩]:=by
 rw[List.take_succ_eq_append_getElem (by rw[List.length_finRange];exact h),List.getElem_finRange];rfl
theorem mV (n:Nat)(hn:1<=n)(l sb:Nat)(A:Option Addr)(E:List (ByteArray×Value))(hE:E.length<=maxLen)(Kp:World->World->Prop)(b0:∀X Y,Below X.heap.size X Y->Kp X Y)(ej:World->Prop)(b2:∀X Y,ej X->Kp X Y->ej Y)
  (a3:∀X,ej X->X.cell? ⟨sb,0,none⟩=some (.iface 104 (.pointer A)))
  (HL:∀X,ej X->Calls Tryz.prog 125 #[.pointer A] X fun e w'=>e =.returned (.int .i64 E.length)/\X=w')
  (HP:∀X (i:Fin E.length),ej X->Calls Tryz.prog 126 #[.pointer A,.int .i64 i.val] X fun e w'=>e =.returned (.tuple #[.string (E.get i).1,(E.get i).2])/\Below X.heap.size X w')
  (J Jx:List (Fin E.length)->World->Prop) (W:World) (hG:ej W) (hJ:AbidesFrom W.heap.size J) (b5:AbidesFrom W.heap.size Jx)
  (hY:∀pre (x:Fin E.length) W1,J pre W1->pre.length<E.length->YieldAt Fence.wide (n - 1) Tryz.prog l #[.string (E.get x).1,(E.get x).2] W1 fun e W'=>
   (e =.returned (.bool true)/\J (pre ++ [x]) W'/\Kp W1 W')\/(e =.returned (.bool false)/\Jx (pre ++ [x]) W'))
  (h0:J [] W) :
  CallsIn Fence.wide n Tryz.prog 90 #[.func (.yield l) #[] #[],.pointer (some ⟨sb,0,none⟩)] W fun e W'=>(∃v,e =.returned v)/\
   ((∃ys:List (Fin E.length),ys=List.finRange E.length/\J ys W')\/(∃pre:List (Fin E.length),True/\Jx pre W')):=by
 refine callsIn_of_wp Tryz.func90 rfl trivial ?_ rfl;simp only[Tryz.ntmps90,List.size_toArray,List.length_cons,List.length_nil,Nat.reduceAdd,Nat.reduceSub,Array.replicate_succ,Array.replicate_zero,List.push_toArray,List.append_toArray,List.nil_append,List.cons_append];have Hk:=Qa b2;have c2:=Qa b0;have b8:=Qa a3;have c4:=Qa HL;have b4:=Qa HP;have HJ:=Qa hJ;have HY:=Qa hY;have Hg:=Qa hG;have H0:=Qa h0;have c0:=a3 W hG;unfold maxLen at hE;clear b2 b0 a3 HL HP hJ hY hG h0 b5
 gi_wp2_with fail
 refine⟨fun _ _=>trivial,?_⟩;go_invoke
 gi_wp2_with fail
 refine(callsIn_wide.2 (c4.out W Hg.out)).mono ?_;rintro e w' ⟨rfl,rfl⟩
 gi_wp2_with fail
 gi_loopw [8] (fun s8 wr=> ∃ (i:Nat) (pre:List (Fin E.length)),s8 =.int .i64 i/\i<=E.length/\Hid (pre= (List.finRange E.length).take i)/\J pre wr/\ej wr) (fun s8 _=>E.length - (intOf s8).toNat)
 case atStart=>exact⟨0, [],rfl,Zj _,Qa (List.take_zero).symm,H0.out,Hg.out⟩
 case round=>
  obtain⟨i,pre,rfl,hi,a4,hj,hg⟩:=hrel;have b1:pre.length=i:=by rw[a4.out,List.length_take,List.length_finRange];omega
  have Hj:=Qa hj;have a9:=Qa hg;have b3:=Qa b1;have c1:=b8.out wr hg;clear b1 hj hg
  by_cases hin:i<E.length
  ·have hp:=b4.out wr ⟨i,hin⟩ a9.out;have hy:=HY.out pre ⟨i,hin⟩
   dsimp only at hp
   generalize E.get ⟨i,hin⟩=x at hp hy;obtain⟨s,u⟩:=x
   dsimp only at hp hy
   have Hp:=Qa hp;have Hy:=Qa hy;have a1:=Qa hin;clear hp hy;have h':(i:Int)<E.length:=by omega
   have w1:IntKind.i64.wrap ((i:Int)+1)= (i:Int)+1:=IntWalk.i64_in _ (by omega)
   gi_wp2_with fail
   refine⟨fun _ _=>trivial,?_⟩;go_invoke
   gi_wp2_with fail
   refine(callsIn_wide.2 Hp.out).mono ?_;rintro e w3 ⟨rfl,a0⟩;have a2:J pre w3:=HJ.out _ _ _ none Hj.out ⟨a0.os,a0.tape,a0.output,a0.size,fun k hk _=>a0.block k hk⟩ (fun r e=>by cases e);have c3:=Qa (Hk.out _ _ a9.out (c2.out _ _ a0));obtain⟨fn,tmps,assign,body,hy,b9⟩:=Hy.out w3 a2 (by rw[b3.out];exact a1.out);clear a0
   gi_wp2_with fail
   refine b9.mono ?_;rintro e W3 (⟨rfl,a2,c5⟩|⟨rfl,a5⟩)
   ·gi_wp2
    refine⟨⟨i+1,_,rfl,a1.out,Qa (by rw[a4.out];exact(CD i a1.out).symm),a2,Hk.out _ _ c3.out c5⟩,?_⟩
    show E.length - ((i:Int)+1).toNat<E.length - ((i:Int)).toNat
    have:=a1.out;omega
   ·gi_wp2
    refine Zh (results_none rfl ..) rfl ?_;exact⟨⟨_,rfl⟩,.inr ⟨_,trivial,a5⟩⟩
  ·have h':¬ (i:Int)<E.length:=by omega
   gi_wp2_with fail
   go_end0;exact⟨⟨_,rfl⟩,.inl (by have:=Hj.out;rwa[a4.out,List.take_of_length_le (by rw[List.length_finRange];omega)] at this)⟩
theorem BK (n:Nat)(hn:1<=n)(l sb:Nat)(A:Option Addr)(E:List (ByteArray×Value))(hE:E.length<=maxLen)(B B2:Nat)(ej:World->Prop)(b1:∀X Y,ej X->eW B B2 X Y->ej Y)
  (a3:∀X,ej X->X.cell? ⟨sb,0,none⟩=some (.iface 95 (.pointer A)))
  (HL:∀X,ej X->Calls Tryz.prog 50 #[.pointer A] X fun e w'=>e =.returned (.int .i64 E.length)/\X=w')
  (HP:∀X (i:Fin E.length),ej X->Calls Tryz.prog 127 #[.pointer A,.int .i64 i.val] X fun e w'=>e =.returned (.tuple #[.string (E.get i).1,(E.get i).2])/\Below X.heap.size X w')
  (J Jx:List (Fin E.length)->World->Prop) (W:World) (hG:ej W) (hJ:AbidesFrom W.heap.size J) (b5:AbidesFrom W.heap.size Jx)
  (hY:∀pre (x:Fin E.length) W1,J pre W1->pre.length<E.length->YieldAt Fence.wide (n - 1) Tryz.prog l #[.string (E.get x).1,(E.get x).2] W1 fun e W'=>
   (e =.returned (.bool true)/\J (pre ++ [x]) W'/\eW B B2 W1 W')\/(e =.returned (.bool false)/\Jx (pre ++ [x]) W'))
  (h0:J [] W) :
  CallsIn Fence.wide n Tryz.prog 90 #[.func (.yield l) #[] #[],.pointer (some ⟨sb,0,none⟩)] W fun e W'=>(∃v,e =.returned v)/\
   ((∃ys:List (Fin E.length),True/\J ys W')\/(∃pre:List (Fin E.length),True/\Jx pre W')):=by
 refine callsIn_of_wp Tryz.func90 rfl trivial ?_ rfl;simp only[Tryz.ntmps90,List.size_toArray,List.length_cons,List.length_nil,Nat.reduceAdd,Nat.reduceSub,Array.replicate_succ,Array.replicate_zero,List.push_toArray,List.append_toArray,List.nil_append,List.cons_append];have Hk:=Qa b1;have b8:=Qa a3;have b3:=Qa HL;have b4:=Qa HP;have HJ:=Qa hJ;have HY:=Qa hY;have Hg:=Qa hG;have H0:=Qa h0;have c0:=a3 W hG;unfold maxLen at hE;clear b1 a3 HL HP hJ hY hG h0 b5
 gi_wp2_with fail
 refine⟨fun _ _=>trivial,?_⟩;go_invoke
 gi_wp2_with fail
 refine(callsIn_wide.2 (b3.out W Hg.out)).mono ?_;rintro e w' ⟨rfl,rfl⟩
 gi_wp2_with fail
 gi_loopw [8] (fun s8 wr=> ∃ (i:Nat) (pre:List (Fin E.length)),s8 =.int .i64 i/\i<=E.length/\pre.length=i/\J pre wr/\ej wr) (fun s8 _=>E.length - (intOf s8).toNat)
 case atStart=>exact⟨0, [],rfl,Zj _,rfl,H0.out,Hg.out⟩
 case round=>
  obtain⟨i,pre,rfl,hi,a9,hj,hg⟩:=hrel;have Hj:=Qa hj;have b0:=Qa hg;have a5:=Qa a9;have c1:=b8.out wr hg;clear a9 hj hg
  by_cases hin:i<E.length
  ·have hp:=b4.out wr ⟨i,hin⟩ b0.out;have hy:=HY.out pre ⟨i,hin⟩
   dsimp only at hp
   generalize E.get ⟨i,hin⟩=x at hp hy;obtain⟨s,u⟩:=x
   dsimp only at hp hy
   have Hp:=Qa hp;have Hy:=Qa hy;have a2:=Qa hin;clear hp hy;have h':(i:Int)<E.length:=by omega
   have w1:IntKind.i64.wrap ((i:Int)+1)= (i:Int)+1:=IntWalk.i64_in _ (by omega)
   gi_wp2_with fail
   refine⟨fun _ _=>trivial,?_⟩;go_invoke
   gi_wp2_with fail
   refine(callsIn_wide.2 Hp.out).mono ?_;rintro e w3 ⟨rfl,a0⟩;have a1:J pre w3:=HJ.out _ _ _ none Hj.out ⟨a0.os,a0.tape,a0.output,a0.size,fun k hk _=>a0.block k hk⟩ (fun r e=>by cases e);have b2:=Qa (Hk.out _ _ b0.out (eW.of_below a0));obtain⟨fn,tmps,assign,body,hy,b9⟩:=Hy.out w3 a1 (by rw[a5.out];exact a2.out);clear a0
   gi_wp2_with fail
   refine b9.mono ?_;rintro e W3 (⟨rfl,a1,c2⟩|⟨rfl,a4⟩)
   ·gi_wp2
    refine⟨⟨i+1,_,rfl,a2.out,by rw[List.length_append,a5.out];rfl,a1,Hk.out _ _ b2.out c2⟩,?_⟩
    show E.length - ((i:Int)+1).toNat<E.length - ((i:Int)).toNat
    have:=a2.out;omega
   ·gi_wp2
    refine Zh (results_none rfl ..) rfl ?_;exact⟨⟨_,rfl⟩,.inr ⟨_,trivial,a4⟩⟩
  ·have h':¬ (i:Int)<E.length:=by omega
   gi_wp2_with fail
   go_end0;exact⟨⟨_,rfl⟩,.inl ⟨_,Hj.out⟩⟩
theorem ij {t:TypeId}:Calls Tryz.prog 55 #[.iface t x] w fun e w'=>e =.returned (.func (.func 90) #[] #[.pointer (some ⟨w.heap.size,0,none⟩)])/\w.alloc (.cells #[.iface t x] 168)=w':=by
 go_enter Tryz.func55,Tryz.ntmps55;go_wp2;go_ret;exact⟨rfl,rfl⟩
attribute [local go_sem] Oper.semAt_some
def fa (us:List Value):List (ByteArray×Value):=us.mapIdx fun i u=>(⟨(Lib.itoa i).toArray⟩,u)
theorem dL (us:List Value):(fa us).length=us.length:=by simp[fa]
theorem j5 (us:List Value)(i:Fin (fa us).length):∃u,us[i.val]?=some u/\(fa us).get i= (⟨(Lib.itoa i.val).toArray⟩,u):=by
 have hi:i.val<us.length:=by have h1:=i.isLt;have h2:=dL us;omega
 exact⟨us[i.val],Zd hi,by
  show(fa us)[i.val]'i.isLt=_
  simp only[fa,List.getElem_mapIdx]⟩
def Ig (w X:World):Prop:= ∀ (g:Nat) cs t z,w.heap[g]?=some (Obj.cells cs t z)->X.heap[g]?=some (Obj.cells cs t z)
theorem d7.kp (h:d7 P w A us ks)(hk:Ig w X):d7 P X A us ks:=by
 rcases h with h|⟨g,R,c,e,hg,hr,hl⟩
 ·exact .inl h
 ·exact .inr ⟨g,R,c,e,hk _ _ _ _ hg,hr.stay fun g o hp hg _ ⟨cs,z,ho⟩=>⟨hp,by subst ho;exact hk _ _ _ _ hg⟩,hl⟩
theorem eJ.kp (h:eJ P w A us ns ks)(hk:Ig w X):eJ P X A us ns ks:=by
 obtain⟨g,R,c,e,hg,hr,hl⟩:=h;exact⟨g,R,c,e,hk _ _ _ _ hg,hr.stay fun g o hp hg _ ⟨cs,z,ho⟩=>⟨hp,by subst ho;exact hk _ _ _ _ hg⟩,hl⟩
theorem ek.kp (h:ek w)(hk:Ig w X):ek X:=by
 have hg:Tryz.prog.globalNamed "internal/strconv.uint64pow10" = some 21:=by kernel_rfl
 unfold ek Lib.TabIs World.var? at h ⊢;rw[hg] at h ⊢;simp only[Option.bind_some] at h ⊢;rcases ho:w.heap[(21:Nat)]? with _|o
 ·rw[ho] at h;cases h
 ·rw[ho] at h
  cases o with
  |cells cs t z=>rw[hk _ _ _ _ ho];exact h
  |_=>cases h
def FF (w:World)(n:Nat)(pre:List (Fin n))(W:World):Prop:=Bx W w.heap.size 4 (.bool false)/\Below w.heap.size w W
theorem lY (h:d7 P w A us ks)(hT:ek w)
  (H:∀ (i:Nat) v k,us[i]?=some v->ks[i]?=some k->∀w1,Below w.heap.size w w1->Calls Tryz.prog 97 #[v] w1 fun e w'=>e =.returned (.bool false)/\Below w1.heap.size w1 w') :
  CallsIn Fence.wide 9 Tryz.prog 97 #[.iface 104 (.pointer A)] w fun e w'=>e =.returned (.bool false)/\Below w.heap.size w w':=by
 have k1:=sT;have Hh:=Qa h;have HT:=Qa hT;have HH:=Qa H;clear h hT H;refine callsIn_of_wp_marks Tryz.func97 rfl trivial ?_ rfl;simp only[Tryz.ntmps97,List.size_toArray,List.length_cons,List.length_nil,Nat.reduceAdd,Nat.reduceSub,Array.replicate_succ,Array.replicate_zero,List.push_toArray,List.append_toArray,List.nil_append,List.cons_append];have Hk:=Qa (Bx.new w 4 (.bool false));have a1:=Qa (show Below w.heap.size w (w.alloc (.cells #[.bool false] 4)) from(Ze _ _).alloc (Zb _) _)
 gi_wp2_with fail
 obtain⟨W0,c1⟩:∃W0,w.alloc (.cells #[.bool false] 4)=W0:=⟨_,rfl⟩;have a0:W0.heap.size=w.heap.size+1:=by rw[<-c1];simp
 rw[c1] at Hk a1 ⊢;have b0:=Qa a0;clear c1 a0;refine⟨fun _ _=>trivial,?_⟩;go_invoke
 gi_wp2_with fail
 refine(callsIn_wide.2 nH).mono ?_;rintro e w1 ⟨rfl,c5⟩;have a9:=Qa c5;clear c5
 gi_wp2_with fail
 refine⟨trivial,?_⟩;refine(callsIn_wide.2 ij).mono ?_;rintro e w2 ⟨rfl,rfl⟩;have a2:W0.heap.size<=w1.heap.size:=a9.out.size;have b2:=aa w1 (.cells #[.iface 104 (.pointer A)] 168);have c2:=Zf w1 (.cells #[.iface 104 (.pointer A)] 168);obtain⟨W1,b4⟩:∃W1,w1.alloc (.cells #[.iface 104 (.pointer A)] 168)=W1:=⟨_,rfl⟩;have a4:W1.heap.size=w1.heap.size+1:=by rw[<-b4];simp
 rw[b4] at b2 c2 ⊢;clear b4;have c6:FF w (fa us).length [] W1:=⟨(Hk.out.later a9.out).later b2,a1.out.trans ((a9.out.mono a1.out.size).trans (b2.mono (Zc a1.out.size a9.out.size)))⟩;have c9:=Qa c6;have c0:=Qa a4;have d1:=Qa c2;have a3:=Qa a2;clear b2 c2 c6 a4 a2 Hk a1 a9
 gi_wp2
 have b3:∀X,eW w.heap.size (w.heap.size+1) W1 X->Ig w X:=fun X hX g cs t z hg=>hX g cs t z (.inl (ak hg)) ((c9.out.2.block g (ak hg)).trans hg)
 have b5:=Qa b3;have c3:=Qa (dL us);have d4:=Qa Hh.out.bd;have a5:SeqStopsK Fence.wide (9 - 1) Tryz.prog 90 #[.pointer (some ⟨w1.heap.size,0,none⟩)] (fun x:Fin (fa us).length=> #[.string ((fa us).get x).1,((fa us).get x).2]) (eW w.heap.size (w.heap.size+1)) (fun ys=>ys=List.finRange (fa us).length) (fun _=>True) (fa us).length W1:=by
  intro l J Jx W hW hJ d0 hY h0;refine mV (9 - 1) (by omega) l w1.heap.size A (fa us) (by rw[c3.out];exact d4.out) (eW w.heap.size (w.heap.size+1)) (fun _ _ h=>eW.of_below h) (eW w.heap.size (w.heap.size+1) W1) (fun X Y h1 h2=>h1.t h2) (fun X hX=>?_) (fun X hX=>?_) (fun X k hX=>?_) J Jx W (eW.of_below hW) hJ d0 hY h0
  ·exact ac (hX _ _ _ _ (.inr (by have:=a3.out;have:=b0.out;omega)) d1.out) (j:=0) rfl
  ·rw[c3.out];exact im (Hh.out.kp (b5.out X hX))
  ·obtain⟨u,hu,he⟩:=j5 us k;rw[he];exact fM (Hh.out.kp (b5.out X hX)) (HT.out.kp (b5.out X hX)) k.val hu
 have b9:=Qa a5;clear b3 a5;have d5:w.heap.size+2<=W1.heap.size:=by have:=c0.out;have:=a3.out;have:=b0.out;omega
 refine wpIn_rangeFunc_ownF rfl (by omega) (gf:=90) (lb:= #[.pointer (some ⟨w1.heap.size,0,none⟩)]) (by simp[Act.eval]) trivial (enters_of Tryz.func90 (by kernel_rfl) rfl)
  b9.out
  (fun h k=>h.t k) (fun W l o o' _ h ho _=>eW.b W l o o' h ho) (Ze _ _) (fun _=>rfl)
  (FF w (fa us).length) (fun _ _ _=>False) ?hI ?hIx c9.out
  (fun x=>{tmps:= #[.iface 104 (.pointer A),undef,.pointer (some ⟨w.heap.size,0,none⟩),.iface 104 (.pointer A),.bool true,undef,((fa us).get x).2,.iface 104 (.pointer A),.int .i64 5,.bool false,.tuple #[.iface 104 (.pointer A),.bool true],.iface 104 (.pointer A),.tuple #[.iface 104 (.pointer A),.bool true],.iface 104 (.pointer A),.bool true,.bool true,.iface 104 (.pointer A),.func (.func 90) #[] #[.pointer (some ⟨w1.heap.size,0,none⟩)],.string ((fa us).get x).1,((fa us).get x).2,undef,undef],defers:= []}) ?assign ?body ?done ?stop
 case hI=>
  intro s A B row hs hg hr;exact⟨hs.1.kept hg (fun r e=>(hr r e).2),hs.2.grown hg hs.2.size (fun k e=>by have:=(hr k e).1;omega)⟩
 case hIx=>exact fun _ _ _ _ _ hs _ _=>hs
 case assign=>
  intro l x W K hK;generalize (fa us).get x=y at hK ⊢;obtain⟨y1,y2⟩:=y
  dsimp only at hK ⊢
  gi_wp2
  exact hK
 case body=>
  rintro l pre x W ⟨hk,hB⟩ hN;obtain⟨u,hu,he⟩:=j5 us x;have d6:x.val<ks.length:=by rw[<-Hh.out.len];exact(List.getElem?_eq_some_iff.1 hu).1
  have Hc:=Qa (HH.out x.val u _ hu (Zd d6) W hB)
  try dsimp only
  rw[he];have d3:=Qa hk;have c8:=Qa hB;clear hk hB
  gi_wp2_with fail
  refine⟨trivial,?_⟩;refine(CallsIn.inRound l (callsIn_wide.2 Hc.out)).mono ?_;rintro e W2 ⟨rfl,c7⟩;have b1:=Qa c7;clear c7
  gi_wp2
  exact⟨fB b1.out,eW.of_below b1.out,d3.out.later b1.out,c8.out.trans (b1.out.mono c8.out.size)⟩
 case done=>
  rintro D ys W hD - ⟨hk,hB⟩ hK;have b3:=hk.cell;have d9:=hk.frozen
  gi_wp2
  have hne:w.heap.size≠D:=by omega
  have c4:(W.setCell ⟨w.heap.size,0,none⟩ (.bool false)).heap[D]?=some (.deferred (some [])):=(Below.heap_setCell W _ _ D (fun e=>hne e.symm)).trans hK;have b8:=hk.set (.bool false);refine⟨by simp,.inl ⟨_,_,rfl,run_takeDeferred c4,?_⟩⟩;have d2:((W.setCell ⟨w.heap.size,0,none⟩ (.bool false)).putObj D (.deferred none)).cell? ⟨w.heap.size,0,none⟩=some (.bool false):=by
   rw[World.cell?_of_block (w:=W.setCell ⟨w.heap.size,0,none⟩ (.bool false)) (World.putObj_heap_other hne)];exact b8.cell
  refine⟨.bool false,?_,rfl,?_⟩
  ·simp[results,Tryz.results97,go_sem,d2]
  ·exact(hB.setCell (p:=⟨w.heap.size,0,none⟩) (Zb _) _).trans (belowK_b (w:=w) (Zb _) _ D _ _ (by omega) c4 rfl rfl)
 case stop=>
  rintro D c pre W hD _ h _;exact h.elim
