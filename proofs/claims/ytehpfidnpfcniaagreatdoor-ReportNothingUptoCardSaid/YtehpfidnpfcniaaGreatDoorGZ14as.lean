import Derived.Test.YtehpfidnpfcniaaGreatDoorGZ14ar
set_option linter.unusedVariables false
set_option linter.unusedSimpArgs false
set_option maxHeartbeats 64000000
set_option maxRecDepth 100000
namespace Go.Proofs.YtehpfidnpfcniaaGreatDoor
open Go.RowKit Go.Shelf
variable {aE aU:Addr}{d:Dc}{j:JV}{ns:List ByteArray}{ks:List JV}{xs ys:List UInt8}{us:List Value}{i n:Nat}{P:Nat->Prop}{A:Option Addr}{u v x:Value}{W X w:World}
theorem rz (x:Value)(W:World):(Instr.typeAssert (.iface 103 x) 85 227 true).run Tryz.prog W =.ok (.tuple #[.nilIface,.bool false]) W:=run_typeAssert_lacksB Tryz.underlying227 (by kernel_rfl) (by kernel_rfl) x _ W
theorem pn (x:Value)(W:World):(Instr.typeAssert (.iface 103 x) 85 112 true).run Tryz.prog W =.ok (.tuple #[.pointer none,.bool false]) W:=by kernel_rfl
theorem sN (x:Value)(W:World):(Instr.typeAssert (.iface 103 x) 85 103 true).run Tryz.prog W =.ok (.tuple #[x,.bool true]) W:=by kernel_rfl
theorem dc.nextO {full:List UInt8}{tail:UInt8}{k:JV}{s:ByteArray}(h:dc true full tail ns ks i ys)(hk:ks[i]?=some k)(hs:ns[i]?=some s):dc true full tail ns ks (i+1) (ys++ ((if i=0 then [] else [44])++ (cY s++ ([58]++JV.txt k)))):=by
 unfold dc at h ⊢;obtain⟨h1,h2⟩:=List.getElem?_eq_some_iff.1 hk;obtain⟨h3,h4⟩:=List.getElem?_eq_some_iff.1 hs;rw[List.drop_eq_getElem_cons h1,h2,List.drop_eq_getElem_cons h3,h4] at h;rw[<-h]
 conv=>rhs;unfold JV.txts
 by_cases e:i=0 <;> simp[e]
theorem Az (h:eG P W A us ns ks)(hT:cd W aU aE)(hU:∀s∈ns,bf s/\s.size<=1000000000)(hb:Below W.heap.size W w)(ho:ao w W.heap.size u xs)(hx:xs.length+ (123:: (JV.txts true true ns ks ++ [125])).length<=140737488355328)
  (H:∀ (i:Nat) v k,us[i]?=some v->ks[i]?=some k->∀w1 u1 xs1,Below W.heap.size W w1->ao w1 W.heap.size u1 xs1->xs1.length+ (JV.txt k).length<=140737488355328->Calls Tryz.prog 102 #[u1,v] w1 (iN W (xs1++JV.txt k))) :
  Calls Tryz.prog 102 #[u,.iface 103 (.pointer A)] w fun e w'=>iN W (xs++ (123:: (JV.txts true true ns ks ++ [125]))) e w':=by
 have k1:=p5;have k2:=rz;have k3:=pn;have k4:=sN;have hl:=h.len;have g8:=h.bd;unfold maxLen at g8;obtain⟨q1,q2,q3⟩:=ho.lit 123 hb;have e3:=H8 q1;have f6:=H8 q2;have c8:=H8 q3;have HH:=H8 H;have Hh:=H8 h;have HT:=H8 hT;have HU:=H8 hU;have g6:=H8 h.names;obtain⟨A0,q0,rfl,-⟩:=af ho;have Hx:=H8 hx;have g2:=H8 (show xs.length+ ([123]:List UInt8).length<=140737488355328 by simp at hx ⊢;omega);obtain⟨full,a1⟩:∃full,xs++ (123:: (JV.txts true true ns ks ++ [125]))=full:=⟨_,rfl⟩;have Hf:Hid (dc true full 125 ns ks 0 (xs ++ [123])):=H8 (by unfold dc;rw[<-a1];simp);have f4:=H8 (show full.length<=140737488355328 by rw[<-a1,List.length_append];exact hx);rw[a1];have b9:=H8 hl;have h0:=H8 (fun w1 (hw:Below W.heap.size W w1)=>iE (h.below hw));clear q1 q2 q3 ho hb h hT hU H hx a1 hl;generalize hn:us.length=n at *;have Hn:=H8 hn;clear hn;go_enter Tryz.func102,Tryz.ntmps102;go_wp2_with (at_builtin;refine p9 e3.out f6.out g2.out c8.out.size ?_;intro v' w3 h1 h2 h3;have HK:=H8 h1;have b2:=H8 h2;clear h1 h2 h3);generalize hz:xs ++ [123]=zs at *;clear hz;have Hb3:=H8 (c8.out.grown b2.out c8.out.size (fun g e=>(ao.blk e3.out e).1));have Ho3:=H8 HK.out;obtain⟨A3,q3,rfl,-⟩:=af HK.out;have g5:=H8 (h0.out w3 Hb3.out);clear HK b2 e3 f6 c8 Hx g2;go_wp2_with fail;refine Za g5 ?_;rintro e w4 ⟨rfl,rfl⟩;go_wp2_with fail;clear g5
 go_loopw [0,67] (fun s0 s38 wr=>vY W true full 125 ns ks s0 s38 wr) (fun _ s38 _=>n - (intOf s38).toNat)
 case atStart=>exact⟨0,_,rfl,Zj _,Ho3.out,Hb3.out,Hf.out⟩
 case round=>
  clear Hf Ho3 Hb3;obtain⟨i,ys,rfl,hi,ho,hb,hf⟩:=hrel;have Ho:=H8 ho;have Hb:=H8 hb;have Hf:=H8 hf;have Hi:=H8 hi;obtain⟨A4,q4,rfl,-⟩:=af ho;have f5:ys.length+1<=140737488355328:=by have:=hf.le;have:=f4.out;omega
  have f7:=H8 f5;clear ho hb hf hi f5
  by_cases hin:i<n
  ·have f3:i<us.length:=by have:=Hn.out;omega
   have d5:i<ks.length:=by have:=b9.out;omega
   obtain⟨v,hv⟩:∃u,us[i]?=some u:=⟨_,Zd f3⟩;obtain⟨k,hk⟩:∃u,ks[i]?=some u:=⟨_,Zd d5⟩;have g3:i<ns.length:=by have:=g6.out;omega
   obtain⟨s,hs⟩:∃u,ns[i]?=some u:=⟨_,Zd g3⟩;have f1:=Hf.out.nextO hk hs;obtain⟨g0,g1⟩:=HU.out s (Zk hs);have g4:=H8 (fun w5 (hw:Below W.heap.size W w5)=>kO (w:=w5) g0 (HT.out.below hw) g1);have c7:=H8 f1;have hle:=f1.le;have Hp:=H8 (fun w5 (hw:Below W.heap.size W w5)=>nI (Hh.out.below hw) i hv hs);have Hc:=H8 (HH.out i v k hv hk);generalize cY s=qs at *;have hkl:(ys++if i=0 then [] else [44]).length+qs.length<=140737488355328/\(ys++if i=0 then [] else [44]).length+qs.length+1+ (JV.txt k).length<=140737488355328:=by
    have h1:=f4.out;rw[List.length_append,List.length_append,List.length_append,List.length_append] at hle;simp only[List.length_cons,List.length_nil] at hle;rw[List.length_append];omega
   have a3:=H8 hkl;have f9:=H8 d5;have h':(i:Int)<n:=by omega
   have w1:IntKind.i64.wrap ((i:Int)+1)= (i:Int)+1:=IntWalk.i64_in _ (by omega);clear f1 hle hkl f3 d5 hv hk Hf hs g0 g1 g3
   by_cases hi0:i=0
   ·subst hi0;rw[if_pos rfl,List.append_nil] at a3;rw[if_pos rfl,List.nil_append] at c7;go_wp2_with fail;have e0:=H8 (show Calls Tryz.prog 131 #[.pointer A,.int .i64 0] wr (fun e w'=>e =.returned (.tuple #[.string s,v])/\Below wr.heap.size wr w') from Hp.out wr Hb.out);refine Za e0 ?_;rintro e w6 ⟨rfl,b1⟩;have a4:=H8 (Hb.out.trans (b1.mono Hb.out.size));have e4:=H8 (Ho.out.below b1 (Zb _));have d0:=H8 (g4.out w6 a4.out);clear b1;go_wp2_with fail;refine Za d0 ?_;rintro e wq ⟨vq,rfl,b5,a9⟩;have b0:=H8 (a4.out.trans (a9.mono a4.out.size));have c5:=H8 (e4.out.below a9 (Zb _));have f2:=H8 (ao.bs b5);obtain⟨Aq,qq,rfl,-⟩:=af b5;clear b5 a9;go_wp2_with (first|(at_builtin;refine p9 c5.out f2.out a3.out.1 b0.out.size ?_;intro v' wa h1 h2 h3;have c1:=H8 h1;have e6:=H8 h2;clear h1 h2 h3;have c9:=H8 (b0.out.grown e6.out b0.out.size (fun g e=>(ao.blk c5.out e).1));generalize hza:ys++qs=za at *;have c0:=H8 hza;obtain⟨Aa,qa,rfl,-⟩:=af c1.out;obtain⟨ra1,ra2,ra3⟩:=c1.out.lit 58 c9.out;have a2:=H8 ra1;have a5:=H8 ra2;have a0:=H8 ra3;have d6:=H8 (show za.length+ ([58]:List UInt8).length<=140737488355328 from by rw[<-hza,List.length_append];have:=a3.out.2;simp only[List.length_cons,List.length_nil];omega);clear ra1 ra2 ra3 hza)|(at_builtin;refine p9 a2.out a5.out d6.out a0.out.size ?_;intro v' wb h1 h2 h3;have c3:=H8 h1;have d3:=H8 h2;clear h1 h2 h3;have d1:=H8 (a0.out.grown d3.out a0.out.size (fun g e=>(ao.blk a2.out e).1));generalize hzb:za ++ [58]=zb at *;have d2:=H8 hzb;obtain⟨Ab,qb,rfl,-⟩:=af c3.out;have e2:=H8 (show zb.length+ (JV.txt k).length<=140737488355328 from by rw[<-hzb,<-c0.out,List.length_append,List.length_append];have:=a3.out.2;simp only[List.length_cons,List.length_nil];omega);have e1:=H8 (Hc.out wb _ _ d1.out c3.out e2.out);clear hzb));refine Za e1 ?_;rintro e w7 ⟨v7,rfl,b8,c2⟩;have e5:=H8 b8;have f0:=H8 c2;generalize hr:zb++JV.txt k=rs at *;have Hr:=H8 hr;clear hr;obtain⟨A7,q7,rfl,-⟩:=af b8;clear b8 c2;go_wp2_with fail;refine⟨⟨1,_,rfl,f9.out,e5.out,f0.out,by rw[<-Hr.out,<-d2.out,<-c0.out];have:=c7.out;simp only[List.append_assoc] at this ⊢;exact this⟩,?_⟩
    show n - ((0:Int)+1).toNat<n - ((0:Int)).toNat
    omega
   ·have h4:(0:Int)<i:=by omega
    rw[if_neg hi0] at a3 c7;clear hi0;obtain⟨r1,r2,r3⟩:=Ho.out.lit 44 Hb.out;have c6:=H8 r1;have d9:=H8 r2;have b3:=H8 r3;have b4:=H8 (show ys.length+ ([44]:List UInt8).length<=140737488355328 from f7.out);clear r1 r2 r3;go_wp2_with (at_builtin;refine p9 c6.out d9.out b4.out b3.out.size ?_;intro v' w5 h1 h2 h3;have HK:=H8 h1;have b2:=H8 h2;clear h1 h2 h3);generalize hz:ys ++ [44]=zs at *;have Hz:=H8 hz;clear hz;have c4:=H8 (b3.out.grown b2.out b3.out.size (fun g e=>(ao.blk c6.out e).1));have g7:=H8 HK.out;obtain⟨A5,q5,rfl,-⟩:=af HK.out;have e0:=H8 (Hp.out w5 c4.out);clear HK b2;go_wp2_with fail;refine Za e0 ?_;rintro e w6 ⟨rfl,b1⟩;have a4:=H8 (c4.out.trans (b1.mono c4.out.size));have e4:=H8 (g7.out.below b1 (Zb _));have d0:=H8 (g4.out w6 a4.out);clear b1;go_wp2_with fail;refine Za d0 ?_;rintro e wq ⟨vq,rfl,b5,a9⟩;have b0:=H8 (a4.out.trans (a9.mono a4.out.size));have c5:=H8 (e4.out.below a9 (Zb _));have f2:=H8 (ao.bs b5);obtain⟨Aq,qq,rfl,-⟩:=af b5;clear b5 a9;go_wp2_with (first|(at_builtin;refine p9 c5.out f2.out a3.out.1 b0.out.size ?_;intro v' wa h1 h2 h3;have c1:=H8 h1;have e6:=H8 h2;clear h1 h2 h3;have c9:=H8 (b0.out.grown e6.out b0.out.size (fun g e=>(ao.blk c5.out e).1));generalize hza:zs++qs=za at *;have c0:=H8 hza;obtain⟨Aa,qa,rfl,-⟩:=af c1.out;obtain⟨ra1,ra2,ra3⟩:=c1.out.lit 58 c9.out;have a2:=H8 ra1;have a5:=H8 ra2;have a0:=H8 ra3;have d6:=H8 (show za.length+ ([58]:List UInt8).length<=140737488355328 from by rw[<-hza,List.length_append];have:=a3.out.2;simp only[List.length_cons,List.length_nil];omega);clear ra1 ra2 ra3 hza)|(at_builtin;refine p9 a2.out a5.out d6.out a0.out.size ?_;intro v' wb h1 h2 h3;have c3:=H8 h1;have d3:=H8 h2;clear h1 h2 h3;have d1:=H8 (a0.out.grown d3.out a0.out.size (fun g e=>(ao.blk a2.out e).1));generalize hzb:za ++ [58]=zb at *;have d2:=H8 hzb;obtain⟨Ab,qb,rfl,-⟩:=af c3.out;have e2:=H8 (show zb.length+ (JV.txt k).length<=140737488355328 from by rw[<-hzb,<-c0.out,List.length_append,List.length_append];have:=a3.out.2;simp only[List.length_cons,List.length_nil];omega);have e1:=H8 (Hc.out wb _ _ d1.out c3.out e2.out);clear hzb));refine Za e1 ?_;rintro e w7 ⟨v7,rfl,b8,c2⟩;have e5:=H8 b8;have f0:=H8 c2;generalize hr:zb++JV.txt k=rs at *;have Hr:=H8 hr;clear hr;obtain⟨A7,q7,rfl,-⟩:=af b8;clear b8 c2;go_wp2_with fail;refine⟨⟨i+1,_,rfl,f9.out,e5.out,f0.out,by rw[<-Hr.out,<-d2.out,<-c0.out,<-Hz.out];have:=c7.out;simp only[List.append_assoc] at this ⊢;exact this⟩,?_⟩
    show n - ((i:Int)+1).toNat<n - ((i:Int)).toNat
    omega
  ·have h':¬ (i:Int)<n:=by omega
   have f8:i=ks.length:=by have:=Hi.out;have:=b9.out;omega
   have d4:=H8 (show ys ++ [125]=full by have:=Hf.out;rw[f8] at this;exact this.stop);clear f8 Hf;obtain⟨r1,r2,r3⟩:=Ho.out.lit 125 Hb.out;have c6:=H8 r1;have d9:=H8 r2;have b3:=H8 r3;have b4:=H8 (show ys.length+ ([125]:List UInt8).length<=140737488355328 from f7.out);clear r1 r2 r3;go_wp2_with (at_builtin;refine p9 c6.out d9.out b4.out b3.out.size ?_;intro v' w5 h1 h2 h3;have HK:=H8 h1;have b2:=H8 h2;clear h1 h2 h3);have c4:=H8 (b3.out.grown b2.out b3.out.size (fun g e=>(ao.blk c6.out e).1));rw[d4.out] at HK;obtain⟨A5,q5,rfl,-⟩:=af HK.out;go_ret;exact⟨_,rfl,HK.out,c4.out⟩
inductive Sz:JV->Prop
 |mk (k:Int) (t:Bool) (x:ByteArray) (d:Dc) (ns:List ByteArray) (ks:List JV):x.size<=1000000000->d.digits.size<=1000000000->(∀n∈ns,n.size<=1000000000)->(∀u∈ks,Sz u)->Sz (.mk k t x d ns ks)
theorem Sz.kids {k:Int}{t:Bool}{x:ByteArray}(h:Sz (.mk k t x d ns ks)):x.size<=1000000000/\d.digits.size<=1000000000/\(∀n∈ns,n.size<=1000000000)/\∀u∈ks,Sz u:=by
 cases h with
 |mk _ _ _ _ _ _ h1 h2 h3 h4=>exact⟨h1,h2,h3,h4⟩
theorem iL.exp (h:iL d): -1000000000<=d.exp/\d.exp<=1000000000:=by
 rcases h with rfl|⟨-,h⟩
 ·exact⟨by decide,by decide⟩
 ·exact h
theorem AE (h:VW P W v j)(hT:dI W)(hG:cd W aU aE):Tx j->Sz j->∀w u xs,Below W.heap.size W w->ao w W.heap.size u xs->xs.length+ (JV.txt j).length<=140737488355328->Calls Tryz.prog 102 #[u,v] w (iN W (xs++JV.txt j)):=by
 induction h with
 |null=>
  intro tx sz w u xs hb ho hx;rw[show JV.txt (.mk 1 false es ⟨false,es,0⟩ [] [])=pA from rfl] at hx ⊢;exact wv hb ho hx
 |bool b=>
  intro tx sz w u xs hb ho hx;rw[show JV.txt (.mk 2 b es ⟨false,es,0⟩ [] [])=qt b from rfl] at hx ⊢;exact xP hb ho hx
 |num d=>
  intro tx sz w u xs hb ho hx;rw[show JV.txt (.mk 3 false es d [] [])=dN d from rfl] at hx ⊢;have hd:iL d:=by cases tx;assumption
  exact AU hT (by have:=sz.kids.2.1;omega) hd.exp.1 hd.exp.2 hb ho hx
 |text s=>
  intro tx sz w u xs hb ho hx;rw[show JV.txt (.mk 4 false s ⟨false,es,0⟩ [] [])=cY s from rfl] at hx ⊢;have hd:bf s:=by cases tx;assumption
  exact yq hd hG sz.kids.1 hb ho hx
 |bare=>
  intro tx sz w u xs hb ho hx;rw[show JV.txt (.mk 5 false es ⟨false,es,0⟩ [] [])=91:: (JV.txts false true [] [] ++ [93]) by simp[JV.txt]] at hx ⊢;refine m6 (P:=P) (us:= []) (.inl ⟨rfl,rfl,rfl⟩) hT hb ho hx fun i v k e1=>?_
  simp at e1
 |list g A c us ks hp hg hr hl hks ih=>
  intro tx sz w u xs hb ho hx;have hk:∀u∈ks,Tx u:=by cases tx;assumption
  rw[show JV.txt (.mk 5 false es ⟨false,es,0⟩ [] ks)=91:: (JV.txts false true [] ks ++ [93]) by simp[JV.txt]] at hx ⊢;refine m6 (P:=P) (.inr ⟨g,A,c,rfl,hg,hr,hl⟩) hT hb ho hx fun i v k e1 e2 w1 u1 xs1 a2 a1 a0=>?_
  exact ih i v k e1 e2 (hk k (Zk e2)) (sz.kids.2.2.2 k (Zk e2)) w1 u1 xs1 a2 a1 a0
 |obj g A c us ns ks hp hg hr hl hn hks ih=>
  intro tx sz w u xs hb ho hx;have hk:(∀s∈ns,bf s)/\∀u∈ks,Tx u:=by cases tx;exact⟨by assumption,by assumption⟩
  rw[show JV.txt (.mk 6 false es ⟨false,es,0⟩ ns ks)=123:: (JV.txts true true ns ks ++ [125]) by simp[JV.txt]] at hx ⊢;refine Az (P:=P) ⟨g,A,c,rfl,hg,hr,hl,hn⟩ hG (fun s hs=>⟨hk.1 s hs,sz.kids.2.2.1 s hs⟩) hb ho hx fun i v k e1 e2 w1 u1 xs1 a2 a1 a0=>?_
  exact ih i v k e1 e2 (hk.2 k (Zk e2)) (sz.kids.2.2.2 k (Zk e2)) w1 u1 xs1 a2 a1 a0
attribute [local go_sem] Oper.semAt_some
theorem AI (i:Nat)(h:i<n):(List.finRange n).take (i+1)= (List.finRange n).take i ++ [⟨i,h⟩]:=by
 rw[List.take_succ_eq_append_getElem (by rw[List.length_finRange];exact h),List.getElem_finRange];rfl
theorem rn (n:Nat)(hn:1<=n)(l sb:Nat)(A:Option Addr)(E:List (ByteArray×Value))(hE:E.length<=maxLen)(Kp:World->World->Prop)(a9:∀X Y,Below X.heap.size X Y->Kp X Y)(dP:World->Prop)(b2:∀X Y,dP X->Kp X Y->dP Y)
  (a3:∀X,dP X->X.cell? ⟨sb,0,none⟩=some (.iface 112 (.pointer A)))
  (HL:∀X,dP X->Calls Tryz.prog 129 #[.pointer A] X fun e w'=>e =.returned (.int .i64 E.length)/\X=w')
  (HP:∀X (i:Fin E.length),dP X->Calls Tryz.prog 130 #[.pointer A,.int .i64 i.val] X fun e w'=>e =.returned (.tuple #[.string (E.get i).1,(E.get i).2])/\Below X.heap.size X w')
  (J Jx:List (Fin E.length)->World->Prop) (W:World) (hG:dP W) (hJ:AbidesFrom W.heap.size J) (b8:AbidesFrom W.heap.size Jx)
  (hY:∀pre (x:Fin E.length) W1,J pre W1->pre.length<E.length->YieldAt Fence.wide (n - 1) Tryz.prog l #[.string (E.get x).1,(E.get x).2] W1 fun e W'=>
   (e =.returned (.bool true)/\J (pre ++ [x]) W'/\Kp W1 W')\/(e =.returned (.bool false)/\Jx (pre ++ [x]) W'))
  (h0:J [] W) :
  CallsIn Fence.wide n Tryz.prog 96 #[.func (.yield l) #[] #[],.pointer (some ⟨sb,0,none⟩)] W fun e W'=>(∃v,e =.returned v)/\
   ((∃ys:List (Fin E.length),ys=List.finRange E.length/\J ys W')\/(∃pre:List (Fin E.length),True/\Jx pre W')):=by
 refine callsIn_of_wp Tryz.func96 rfl trivial ?_ rfl;simp only[Tryz.ntmps96,List.size_toArray,List.length_cons,List.length_nil,Nat.reduceAdd,Nat.reduceSub,Array.replicate_succ,Array.replicate_zero,List.push_toArray,List.append_toArray,List.nil_append,List.cons_append];have Hk:=H8 b2;have b5:=H8 a9;have b9:=H8 a3;have c3:=H8 HL;have c2:=H8 HP;have HJ:=H8 hJ;have HY:=H8 hY;have Hg:=H8 hG;have H0:=H8 h0;have c0:=a3 W hG;unfold maxLen at hE;clear b2 a9 a3 HL HP hJ hY hG h0 b8
 gi_wp2_with fail
 refine⟨fun _ _=>trivial,?_⟩;go_invoke
 gi_wp2_with fail
 refine(callsIn_wide.2 (c3.out W Hg.out)).mono ?_;rintro e w' ⟨rfl,rfl⟩
 gi_wp2_with fail
 gi_loopw [8] (fun s8 wr=> ∃ (i:Nat) (pre:List (Fin E.length)),s8 =.int .i64 i/\i<=E.length/\Hid (pre= (List.finRange E.length).take i)/\J pre wr/\dP wr) (fun s8 _=>E.length - (intOf s8).toNat)
 case atStart=>exact⟨0, [],rfl,Zj _,H8 (List.take_zero).symm,H0.out,Hg.out⟩
 case round=>
  obtain⟨i,pre,rfl,hi,a5,hj,hg⟩:=hrel;have b1:pre.length=i:=by rw[a5.out,List.length_take,List.length_finRange];omega
  have Hj:=H8 hj;have b0:=H8 hg;have c5:=H8 b1;have c1:=b9.out wr hg;clear b1 hj hg
  by_cases hin:i<E.length
  ·have hp:=c2.out wr ⟨i,hin⟩ b0.out;have hy:=HY.out pre ⟨i,hin⟩
   dsimp only at hp
   generalize E.get ⟨i,hin⟩=x at hp hy;obtain⟨s,u⟩:=x
   dsimp only at hp hy
   have Hp:=H8 hp;have Hy:=H8 hy;have a1:=H8 hin;clear hp hy;have h':(i:Int)<E.length:=by omega
   have w1:IntKind.i64.wrap ((i:Int)+1)= (i:Int)+1:=IntWalk.i64_in _ (by omega)
   gi_wp2_with fail
   refine⟨fun _ _=>trivial,?_⟩;go_invoke
   gi_wp2_with fail
   refine(callsIn_wide.2 Hp.out).mono ?_;rintro e w3 ⟨rfl,a0⟩;have a4:J pre w3:=HJ.out _ _ _ none Hj.out ⟨a0.os,a0.tape,a0.output,a0.size,fun k hk _=>a0.block k hk⟩ (fun r e=>by cases e);have c4:=H8 (Hk.out _ _ b0.out (b5.out _ _ a0));obtain⟨fn,tmps,assign,body,hy,b4⟩:=Hy.out w3 a4 (by rw[c5.out];exact a1.out);clear a0
   gi_wp2_with fail
   refine b4.mono ?_;rintro e W3 (⟨rfl,a4,b3⟩|⟨rfl,a2⟩)
   ·gi_wp2
    refine⟨⟨i+1,_,rfl,a1.out,H8 (by rw[a5.out];exact(AI i a1.out).symm),a4,Hk.out _ _ c4.out b3⟩,?_⟩
    show E.length - ((i:Int)+1).toNat<E.length - ((i:Int)).toNat
    have:=a1.out;omega
   ·gi_wp2
    refine Zh (results_none rfl ..) rfl ?_;exact⟨⟨_,rfl⟩,.inr ⟨_,trivial,a2⟩⟩
  ·have h':¬ (i:Int)<E.length:=by omega
   gi_wp2_with fail
   go_end0;exact⟨⟨_,rfl⟩,.inl (by have:=Hj.out;rwa[a5.out,List.take_of_length_le (by rw[List.length_finRange];omega)] at this)⟩
theorem AH (n:Nat)(hn:1<=n)(l sb:Nat)(A:Option Addr)(E:List (ByteArray×Value))(hE:E.length<=maxLen)(B B2:Nat)(dP:World->Prop)(a9:∀X Y,dP X->et B B2 X Y->dP Y)
  (a4:∀X,dP X->X.cell? ⟨sb,0,none⟩=some (.iface 103 (.pointer A)))
  (HL:∀X,dP X->Calls Tryz.prog 54 #[.pointer A] X fun e w'=>e =.returned (.int .i64 E.length)/\X=w')
  (HP:∀X (i:Fin E.length),dP X->Calls Tryz.prog 131 #[.pointer A,.int .i64 i.val] X fun e w'=>e =.returned (.tuple #[.string (E.get i).1,(E.get i).2])/\Below X.heap.size X w')
  (J Jx:List (Fin E.length)->World->Prop) (W:World) (hG:dP W) (hJ:AbidesFrom W.heap.size J) (b5:AbidesFrom W.heap.size Jx)
  (hY:∀pre (x:Fin E.length) W1,J pre W1->pre.length<E.length->YieldAt Fence.wide (n - 1) Tryz.prog l #[.string (E.get x).1,(E.get x).2] W1 fun e W'=>
   (e =.returned (.bool true)/\J (pre ++ [x]) W'/\et B B2 W1 W')\/(e =.returned (.bool false)/\Jx (pre ++ [x]) W'))
  (h0:J [] W) :
  CallsIn Fence.wide n Tryz.prog 96 #[.func (.yield l) #[] #[],.pointer (some ⟨sb,0,none⟩)] W fun e W'=>(∃v,e =.returned v)/\
   ((∃ys:List (Fin E.length),True/\J ys W')\/(∃pre:List (Fin E.length),True/\Jx pre W')):=by
 refine callsIn_of_wp Tryz.func96 rfl trivial ?_ rfl;simp only[Tryz.ntmps96,List.size_toArray,List.length_cons,List.length_nil,Nat.reduceAdd,Nat.reduceSub,Array.replicate_succ,Array.replicate_zero,List.push_toArray,List.append_toArray,List.nil_append,List.cons_append];have Hk:=H8 a9;have b3:=H8 a4;have b9:=H8 HL;have b4:=H8 HP;have HJ:=H8 hJ;have HY:=H8 hY;have Hg:=H8 hG;have H0:=H8 h0;have c0:=a4 W hG;unfold maxLen at hE;clear a9 a4 HL HP hJ hY hG h0 b5
 gi_wp2_with fail
 refine⟨fun _ _=>trivial,?_⟩;go_invoke
 gi_wp2_with fail
 refine(callsIn_wide.2 (b9.out W Hg.out)).mono ?_;rintro e w' ⟨rfl,rfl⟩
 gi_wp2_with fail
 gi_loopw [8] (fun s8 wr=> ∃ (i:Nat) (pre:List (Fin E.length)),s8 =.int .i64 i/\i<=E.length/\pre.length=i/\J pre wr/\dP wr) (fun s8 _=>E.length - (intOf s8).toNat)
 case atStart=>exact⟨0, [],rfl,Zj _,rfl,H0.out,Hg.out⟩
 case round=>
  obtain⟨i,pre,rfl,hi,a5,hj,hg⟩:=hrel;have Hj:=H8 hj;have b0:=H8 hg;have b1:=H8 a5;have c1:=b3.out wr hg;clear a5 hj hg
  by_cases hin:i<E.length
  ·have hp:=b4.out wr ⟨i,hin⟩ b0.out;have hy:=HY.out pre ⟨i,hin⟩
   dsimp only at hp
   generalize E.get ⟨i,hin⟩=x at hp hy;obtain⟨s,u⟩:=x
   dsimp only at hp hy
   have Hp:=H8 hp;have Hy:=H8 hy;have a1:=H8 hin;clear hp hy;have h':(i:Int)<E.length:=by omega
   have w1:IntKind.i64.wrap ((i:Int)+1)= (i:Int)+1:=IntWalk.i64_in _ (by omega)
   gi_wp2_with fail
   refine⟨fun _ _=>trivial,?_⟩;go_invoke
   gi_wp2_with fail
   refine(callsIn_wide.2 Hp.out).mono ?_;rintro e w3 ⟨rfl,a0⟩;have a2:J pre w3:=HJ.out _ _ _ none Hj.out ⟨a0.os,a0.tape,a0.output,a0.size,fun k hk _=>a0.block k hk⟩ (fun r e=>by cases e);have c2:=H8 (Hk.out _ _ b0.out (et.of_below a0));obtain⟨fn,tmps,assign,body,hy,b8⟩:=Hy.out w3 a2 (by rw[b1.out];exact a1.out);clear a0
   gi_wp2_with fail
   refine b8.mono ?_;rintro e W3 (⟨rfl,a2,b2⟩|⟨rfl,a3⟩)
   ·gi_wp2
    refine⟨⟨i+1,_,rfl,a1.out,by rw[List.length_append,b1.out];rfl,a2,Hk.out _ _ c2.out b2⟩,?_⟩
    show E.length - ((i:Int)+1).toNat<E.length - ((i:Int)).toNat
    have:=a1.out;omega
   ·gi_wp2
    refine Zh (results_none rfl ..) rfl ?_;exact⟨⟨_,rfl⟩,.inr ⟨_,trivial,a3⟩⟩
  ·have h':¬ (i:Int)<E.length:=by omega
   gi_wp2_with fail
   go_end0;exact⟨⟨_,rfl⟩,.inl ⟨_,Hj.out⟩⟩
theorem jD {t:TypeId}:Calls Tryz.prog 59 #[.iface t x] w fun e w'=>e =.returned (.func (.func 96) #[] #[.pointer (some ⟨w.heap.size,0,none⟩)])/\w.alloc (.cells #[.iface t x] 175)=w':=by
 go_enter Tryz.func59,Tryz.ntmps59;go_wp2;go_ret;exact⟨rfl,rfl⟩
attribute [local go_sem] Oper.semAt_some
def gF (us:List Value):List (ByteArray×Value):=us.mapIdx fun i u=>(⟨(Lib.itoa i).toArray⟩,u)
theorem gq (us:List Value):(gF us).length=us.length:=by simp[gF]
theorem pi (us:List Value)(i:Fin (gF us).length):∃u,us[i.val]?=some u/\(gF us).get i= (⟨(Lib.itoa i.val).toArray⟩,u):=by
 have hi:i.val<us.length:=by have h1:=i.isLt;have h2:=gq us;omega
 exact⟨us[i.val],Zd hi,by
  show(gF us)[i.val]'i.isLt=_
  simp only[gF,List.getElem_mapIdx]⟩
def E3 (w X:World):Prop:= ∀ (g:Nat) cs t z,w.heap[g]?=some (Obj.cells cs t z)->X.heap[g]?=some (Obj.cells cs t z)
theorem dF.kp (h:dF P w A us ks)(hk:E3 w X):dF P X A us ks:=by
 rcases h with h|⟨g,R,c,e,hg,hr,hl⟩
 ·exact .inl h
 ·exact .inr ⟨g,R,c,e,hk _ _ _ _ hg,hr.stay fun g o hp hg _ ⟨cs,z,ho⟩=>⟨hp,by subst ho;exact hk _ _ _ _ hg⟩,hl⟩
theorem eG.kp (h:eG P w A us ns ks)(hk:E3 w X):eG P X A us ns ks:=by
 obtain⟨g,R,c,e,hg,hr,hl⟩:=h;exact⟨g,R,c,e,hk _ _ _ _ hg,hr.stay fun g o hp hg _ ⟨cs,z,ho⟩=>⟨hp,by subst ho;exact hk _ _ _ _ hg⟩,hl⟩
theorem dI.kp (h:dI w)(hk:E3 w X):dI X:=by
 have hg:Tryz.prog.globalNamed "internal/strconv.uint64pow10" = some 21:=by kernel_rfl
 unfold dI Lib.TabIs World.var? at h ⊢;rw[hg] at h ⊢;simp only[Option.bind_some] at h ⊢;rcases ho:w.heap[(21:Nat)]? with _|o
 ·rw[ho] at h;cases h
 ·rw[ho] at h
  cases o with
  |cells cs t z=>rw[hk _ _ _ _ ho];exact h
  |_=>cases h
def Dp (w:World)(n:Nat)(pre:List (Fin n))(W:World):Prop:=Bx W w.heap.size 4 (.bool false)/\Below w.heap.size w W
theorem lR (h:dF P w A us ks)(hT:dI w)
  (H:∀ (i:Nat) v k,us[i]?=some v->ks[i]?=some k->∀w1,Below w.heap.size w w1->Calls Tryz.prog 100 #[v] w1 fun e w'=>e =.returned (.bool false)/\Below w1.heap.size w1 w') :
  CallsIn Fence.wide 9 Tryz.prog 100 #[.iface 112 (.pointer A)] w fun e w'=>e =.returned (.bool false)/\Below w.heap.size w w':=by
 have k1:=pT;have Hh:=H8 h;have HT:=H8 hT;have HH:=H8 H;clear h hT H;refine callsIn_of_wp_marks Tryz.func100 rfl trivial ?_ rfl;simp only[Tryz.ntmps100,List.size_toArray,List.length_cons,List.length_nil,Nat.reduceAdd,Nat.reduceSub,Array.replicate_succ,Array.replicate_zero,List.push_toArray,List.append_toArray,List.nil_append,List.cons_append];have Hk:=H8 (Bx.new w 4 (.bool false));have a4:=H8 (show Below w.heap.size w (w.alloc (.cells #[.bool false] 4)) from(Ze _ _).alloc (Zb _) _)
 gi_wp2_with fail
 obtain⟨W0,b9⟩:∃W0,w.alloc (.cells #[.bool false] 4)=W0:=⟨_,rfl⟩;have a1:W0.heap.size=w.heap.size+1:=by rw[<-b9];simp
 rw[b9] at Hk a4 ⊢;have a9:=H8 a1;clear b9 a1;refine⟨fun _ _=>trivial,?_⟩;go_invoke
 gi_wp2_with fail
 refine(callsIn_wide.2 wT).mono ?_;rintro e w1 ⟨rfl,c6⟩;have a0:=H8 c6;clear c6
 gi_wp2_with fail
 refine⟨trivial,?_⟩;refine(callsIn_wide.2 jD).mono ?_;rintro e w2 ⟨rfl,rfl⟩;have a3:W0.heap.size<=w1.heap.size:=a0.out.size;have b2:=ac w1 (.cells #[.iface 112 (.pointer A)] 175);have b4:=Zf w1 (.cells #[.iface 112 (.pointer A)] 175);obtain⟨W1,b5⟩:∃W1,w1.alloc (.cells #[.iface 112 (.pointer A)] 175)=W1:=⟨_,rfl⟩;have b0:W1.heap.size=w1.heap.size+1:=by rw[<-b5];simp
 rw[b5] at b2 b4 ⊢;clear b5;have c3:Dp w (gF us).length [] W1:=⟨(Hk.out.later a0.out).later b2,a4.out.trans ((a0.out.mono a4.out.size).trans (b2.mono (Zc a4.out.size a0.out.size)))⟩;have c4:=H8 c3;have c1:=H8 b0;have d4:=H8 b4;have a2:=H8 a3;clear b2 b4 c3 b0 a3 Hk a4 a0
 gi_wp2
 have b8:∀X,et w.heap.size (w.heap.size+1) W1 X->E3 w X:=fun X hX g cs t z hg=>hX g cs t z (.inl (ah hg)) ((c4.out.2.block g (ah hg)).trans hg)
 have c2:=H8 b8;have c9:=H8 (gq us);have d1:=H8 Hh.out.bd;have a5:SeqStopsK Fence.wide (9 - 1) Tryz.prog 96 #[.pointer (some ⟨w1.heap.size,0,none⟩)] (fun x:Fin (gF us).length=> #[.string ((gF us).get x).1,((gF us).get x).2]) (et w.heap.size (w.heap.size+1)) (fun ys=>ys=List.finRange (gF us).length) (fun _=>True) (gF us).length W1:=by
  intro l J Jx W hW hJ d3 hY h0;refine rn (9 - 1) (by omega) l w1.heap.size A (gF us) (by rw[c9.out];exact d1.out) (et w.heap.size (w.heap.size+1)) (fun _ _ h=>et.of_below h) (et w.heap.size (w.heap.size+1) W1) (fun X Y h1 h2=>h1.t h2) (fun X hX=>?_) (fun X hX=>?_) (fun X k hX=>?_) J Jx W (et.of_below hW) hJ d3 hY h0
  ·exact aa (hX _ _ _ _ (.inr (by have:=a2.out;have:=a9.out;omega)) d4.out) (j:=0) rfl
  ·rw[c9.out];exact jj (Hh.out.kp (c2.out X hX))
  ·obtain⟨u,hu,he⟩:=pi us k;rw[he];exact il (Hh.out.kp (c2.out X hX)) (HT.out.kp (c2.out X hX)) k.val hu
 have c0:=H8 a5;clear b8 a5;have d6:w.heap.size+2<=W1.heap.size:=by have:=c1.out;have:=a2.out;have:=a9.out;omega
 refine wpIn_rangeFunc_ownF rfl (by omega) (gf:=96) (lb:= #[.pointer (some ⟨w1.heap.size,0,none⟩)]) (by simp[Act.eval]) trivial (enters_of Tryz.func96 (by kernel_rfl) rfl)
  c0.out
  (fun h k=>h.t k) (fun W l o o' _ h ho _=>et.b W l o o' h ho) (Ze _ _) (fun _=>rfl)
  (Dp w (gF us).length) (fun _ _ _=>False) ?hI ?hIx c4.out
  (fun x=>{tmps:= #[.iface 112 (.pointer A),undef,.pointer (some ⟨w.heap.size,0,none⟩),.iface 112 (.pointer A),.bool true,undef,((gF us).get x).2,.iface 112 (.pointer A),.int .i64 5,.bool false,.tuple #[.iface 112 (.pointer A),.bool true],.iface 112 (.pointer A),.tuple #[.iface 112 (.pointer A),.bool true],.iface 112 (.pointer A),.bool true,.bool true,.iface 112 (.pointer A),.func (.func 96) #[] #[.pointer (some ⟨w1.heap.size,0,none⟩)],.string ((gF us).get x).1,((gF us).get x).2,undef,undef],defers:= []}) ?assign ?body ?done ?stop
 case hI=>
  intro s A B row hs hg hr;exact⟨hs.1.kept hg (fun r e=>(hr r e).2),hs.2.grown hg hs.2.size (fun k e=>by have:=(hr k e).1;omega)⟩
 case hIx=>exact fun _ _ _ _ _ hs _ _=>hs
 case assign=>
  intro l x W K hK;generalize (gF us).get x=y at hK ⊢;obtain⟨y1,y2⟩:=y
  dsimp only at hK ⊢
  gi_wp2
  exact hK
 case body=>
  rintro l pre x W ⟨hk,hB⟩ hN;obtain⟨u,hu,he⟩:=pi us x;have d5:x.val<ks.length:=by rw[<-Hh.out.len];exact(List.getElem?_eq_some_iff.1 hu).1
  have Hc:=H8 (HH.out x.val u _ hu (Zd d5) W hB)
  try dsimp only
  rw[he];have d2:=H8 hk;have c5:=H8 hB;clear hk hB
  gi_wp2_with fail
  refine⟨trivial,?_⟩;refine(CallsIn.inRound l (callsIn_wide.2 Hc.out)).mono ?_;rintro e W2 ⟨rfl,c8⟩;have b1:=H8 c8;clear c8
  gi_wp2
  exact⟨iF b1.out,et.of_below b1.out,d2.out.later b1.out,c5.out.trans (b1.out.mono c5.out.size)⟩
 case done=>
  rintro D ys W hD - ⟨hk,hB⟩ hK;have b8:=hk.cell;have d9:=hk.frozen
  gi_wp2
  have hne:w.heap.size≠D:=by omega
  have c7:(W.setCell ⟨w.heap.size,0,none⟩ (.bool false)).heap[D]?=some (.deferred (some [])):=(Below.heap_setCell W _ _ D (fun e=>hne e.symm)).trans hK;have b3:=hk.set (.bool false);refine⟨by simp,.inl ⟨_,_,rfl,run_takeDeferred c7,?_⟩⟩;have d0:((W.setCell ⟨w.heap.size,0,none⟩ (.bool false)).putObj D (.deferred none)).cell? ⟨w.heap.size,0,none⟩=some (.bool false):=by
   rw[World.cell?_of_block (w:=W.setCell ⟨w.heap.size,0,none⟩ (.bool false)) (World.putObj_heap_other hne)];exact b3.cell
  refine⟨.bool false,?_,rfl,?_⟩
  ·simp[results,Tryz.results100,go_sem,d0]
  ·exact(hB.setCell (p:=⟨w.heap.size,0,none⟩) (Zb _) _).trans (belowK_b (w:=w) (Zb _) _ D _ _ (by omega) c7 rfl rfl)
 case stop=>
  rintro D c pre W hD _ h _;exact h.elim
