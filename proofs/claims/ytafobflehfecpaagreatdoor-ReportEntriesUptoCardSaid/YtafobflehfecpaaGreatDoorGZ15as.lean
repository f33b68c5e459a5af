import Derived.Test.YtafobflehfecpaaGreatDoorGZ15ar
set_option linter.unusedVariables false
set_option linter.unusedSimpArgs false
set_option maxHeartbeats 64000000
set_option maxRecDepth 100000
namespace Go.Proofs.YtafobflehfecpaaGreatDoor
open Go.RowKit Go.Shelf
variable {aE aU:Addr}{d:Dc}{j:JV}{ns:List ByteArray}{ks:List JV}{xs ys:List UInt8}{us:List Value}{i n:Nat}{P:Nat->Prop}{A:Option Addr}{u v x:Value}{W X w:World}
theorem qu (x:Value)(W:World):(Instr.typeAssert (.iface 97 x) 64 187 true).run Tryz.prog W =.ok (.tuple #[.nilIface,.bool false]) W:=run_typeAssert_lacksB Tryz.underlying187 (by kernel_rfl) (by kernel_rfl) x _ W
theorem pK (x:Value)(W:World):(Instr.typeAssert (.iface 97 x) 64 106 true).run Tryz.prog W =.ok (.tuple #[.pointer none,.bool false]) W:=by kernel_rfl
theorem ul (x:Value)(W:World):(Instr.typeAssert (.iface 97 x) 64 97 true).run Tryz.prog W =.ok (.tuple #[x,.bool true]) W:=by kernel_rfl
theorem dd.nextO {full:List UInt8}{tail:UInt8}{k:JV}{s:ByteArray}(h:dd true full tail ns ks i ys)(hk:ks[i]?=some k)(hs:ns[i]?=some s):dd true full tail ns ks (i+1) (ys++ ((if i=0 then [] else [44])++ (cY s++ ([58]++JV.txt k)))):=by
 unfold dd at h ⊢;obtain⟨h1,h2⟩:=List.getElem?_eq_some_iff.1 hk;obtain⟨h3,h4⟩:=List.getElem?_eq_some_iff.1 hs;rw[List.drop_eq_getElem_cons h1,h2,List.drop_eq_getElem_cons h3,h4] at h;rw[<-h]
 conv=>rhs;unfold JV.txts
 by_cases e:i=0 <;> simp[e]
theorem BZ (h:eI P W A us ns ks)(hT:cf W aU aE)(hU:∀s∈ns,bf s/\s.size<=1000000000)(hb:Below W.heap.size W w)(ho:ao w W.heap.size u xs)(hx:xs.length+ (123:: (JV.txts true true ns ks ++ [125])).length<=140737488355328)
  (H:∀ (i:Nat) v k,us[i]?=some v->ks[i]?=some k->∀w1 u1 xs1,Below W.heap.size W w1->ao w1 W.heap.size u1 xs1->xs1.length+ (JV.txt k).length<=140737488355328->Calls Tryz.prog 65 #[u1,v] w1 (iT W (xs1++JV.txt k))) :
  Calls Tryz.prog 65 #[u,.iface 97 (.pointer A)] w fun e w'=>iT W (xs++ (123:: (JV.txts true true ns ks ++ [125]))) e w':=by
 have k1:=qf;have k2:=qu;have k3:=pK;have k4:=ul;have hl:=h.len;have h4:=h.bd;unfold maxLen at h4;obtain⟨q1,q2,q3⟩:=ho.lit 123 hb;have d2:=Qa q1;have f9:=Qa q2;have c7:=Qa q3;have HH:=Qa H;have Hh:=Qa h;have HT:=Qa hT;have HU:=Qa hU;have g6:=Qa h.names;obtain⟨A0,q0,rfl,-⟩:=af ho;have Hx:=Qa hx;have g5:=Qa (show xs.length+ ([123]:List UInt8).length<=140737488355328 by simp at hx ⊢;omega);obtain⟨full,a1⟩:∃full,xs++ (123:: (JV.txts true true ns ks ++ [125]))=full:=⟨_,rfl⟩;have Hf:Hid (dd true full 125 ns ks 0 (xs ++ [123])):=Qa (by unfold dd;rw[<-a1];simp);have f3:=Qa (show full.length<=140737488355328 by rw[<-a1,List.length_append];exact hx);rw[a1];have c0:=Qa hl;have g7:=Qa (fun w1 (hw:Below W.heap.size W w1)=>jg (h.below hw));clear q1 q2 q3 ho hb h hT hU H hx a1 hl;generalize hn:us.length=n at *;have Hn:=Qa hn;clear hn;go_enter Tryz.func65,Tryz.ntmps65;go_wp2_with (at_builtin;refine qh d2.out f9.out g5.out c7.out.size ?_;intro v' w3 h1 h2 h3;have HK:=Qa h1;have b0:=Qa h2;clear h1 h2 h3);generalize hz:xs ++ [123]=zs at *;clear hz;have Hb3:=Qa (c7.out.grown b0.out c7.out.size (fun g e=>(ao.blk d2.out e).1));have Ho3:=Qa HK.out;obtain⟨A3,q3,rfl,-⟩:=af HK.out;have g2:=Qa (g7.out w3 Hb3.out);clear HK b0 d2 f9 c7 Hx g5;go_wp2_with fail;refine Za g2 ?_;rintro e w4 ⟨rfl,rfl⟩;go_wp2_with fail;clear g2
 go_loopw [0,67] (fun s0 s38 wr=>vH W true full 125 ns ks s0 s38 wr) (fun _ s38 _=>n - (intOf s38).toNat)
 case atStart=>exact⟨0,_,rfl,Zj _,Ho3.out,Hb3.out,Hf.out⟩
 case round=>
  clear Hf Ho3 Hb3;obtain⟨i,ys,rfl,hi,ho,hb,hf⟩:=hrel;have Ho:=Qa ho;have Hb:=Qa hb;have Hf:=Qa hf;have Hi:=Qa hi;obtain⟨A4,q4,rfl,-⟩:=af ho;have f6:ys.length+1<=140737488355328:=by have:=hf.le;have:=f3.out;omega
  have f8:=Qa f6;clear ho hb hf hi f6
  by_cases hin:i<n
  ·have g0:i<us.length:=by have:=Hn.out;omega
   have e3:i<ks.length:=by have:=c0.out;omega
   obtain⟨v,hv⟩:∃u,us[i]?=some u:=⟨_,Zd g0⟩;obtain⟨k,hk⟩:∃u,ks[i]?=some u:=⟨_,Zd e3⟩;have g4:i<ns.length:=by have:=g6.out;omega
   obtain⟨s,hs⟩:∃u,ns[i]?=some u:=⟨_,Zd g4⟩;have d1:=Hf.out.nextO hk hs;obtain⟨f7,g1⟩:=HU.out s (Zk hs);have f5:=Qa (fun w5 (hw:Below W.heap.size W w5)=>lg (w:=w5) f7 (HT.out.below hw) g1);have c8:=Qa d1;have hle:=d1.le;have Hp:=Qa (fun w5 (hw:Below W.heap.size W w5)=>nw (Hh.out.below hw) i hv hs);have Hc:=Qa (HH.out i v k hv hk);generalize cY s=qs at *;have hkl:(ys++if i=0 then [] else [44]).length+qs.length<=140737488355328/\(ys++if i=0 then [] else [44]).length+qs.length+1+ (JV.txt k).length<=140737488355328:=by
    have h1:=f3.out;rw[List.length_append,List.length_append,List.length_append,List.length_append] at hle;simp only[List.length_cons,List.length_nil] at hle;rw[List.length_append];omega
   have a3:=Qa hkl;have f4:=Qa e3;have h':(i:Int)<n:=by omega
   have w1:IntKind.i64.wrap ((i:Int)+1)= (i:Int)+1:=IntWalk.i64_in _ (by omega);clear d1 hle hkl g0 e3 hv hk Hf hs f7 g1 g4
   by_cases hi0:i=0
   ·subst hi0;rw[if_pos rfl,List.append_nil] at a3;rw[if_pos rfl,List.nil_append] at c8;go_wp2_with fail;have e6:=Qa (show Calls Tryz.prog 103 #[.pointer A,.int .i64 0] wr (fun e w'=>e =.returned (.tuple #[.string s,v])/\Below wr.heap.size wr w') from Hp.out wr Hb.out);refine Za e6 ?_;rintro e w6 ⟨rfl,b2⟩;have b4:=Qa (Hb.out.trans (b2.mono Hb.out.size));have d3:=Qa (Ho.out.below b2 (Zb _));have f2:=Qa (f5.out w6 b4.out);clear b2;go_wp2_with fail;refine Za f2 ?_;rintro e wq ⟨vq,rfl,b3,a4⟩;have b1:=Qa (b4.out.trans (a4.mono b4.out.size));have c5:=Qa (d3.out.below a4 (Zb _));have e2:=Qa (ao.bs b3);obtain⟨Aq,qq,rfl,-⟩:=af b3;clear b3 a4;go_wp2_with (first|(at_builtin;refine qh c5.out e2.out a3.out.1 b1.out.size ?_;intro v' wa h1 h2 h3;have c1:=Qa h1;have d6:=Qa h2;clear h1 h2 h3;have d4:=Qa (b1.out.grown d6.out b1.out.size (fun g e=>(ao.blk c5.out e).1));generalize hza:ys++qs=za at *;have c6:=Qa hza;obtain⟨Aa,qa,rfl,-⟩:=af c1.out;obtain⟨ra1,ra2,ra3⟩:=c1.out.lit 58 d4.out;have a2:=Qa ra1;have b5:=Qa ra2;have a0:=Qa ra3;have c9:=Qa (show za.length+ ([58]:List UInt8).length<=140737488355328 from by rw[<-hza,List.length_append];have:=a3.out.2;simp only[List.length_cons,List.length_nil];omega);clear ra1 ra2 ra3 hza)|(at_builtin;refine qh a2.out b5.out c9.out a0.out.size ?_;intro v' wb h1 h2 h3;have c3:=Qa h1;have e4:=Qa h2;clear h1 h2 h3;have d5:=Qa (a0.out.grown e4.out a0.out.size (fun g e=>(ao.blk a2.out e).1));generalize hzb:za ++ [58]=zb at *;have d0:=Qa hzb;obtain⟨Ab,qb,rfl,-⟩:=af c3.out;have d9:=Qa (show zb.length+ (JV.txt k).length<=140737488355328 from by rw[<-hzb,<-c6.out,List.length_append,List.length_append];have:=a3.out.2;simp only[List.length_cons,List.length_nil];omega);have e1:=Qa (Hc.out wb _ _ d5.out c3.out d9.out);clear hzb));refine Za e1 ?_;rintro e w7 ⟨v7,rfl,b8,c2⟩;have e0:=Qa b8;have f1:=Qa c2;generalize hr:zb++JV.txt k=rs at *;have Hr:=Qa hr;clear hr;obtain⟨A7,q7,rfl,-⟩:=af b8;clear b8 c2;go_wp2_with fail;refine⟨⟨1,_,rfl,f4.out,e0.out,f1.out,by rw[<-Hr.out,<-d0.out,<-c6.out];have:=c8.out;simp only[List.append_assoc] at this ⊢;exact this⟩,?_⟩
    show n - ((0:Int)+1).toNat<n - ((0:Int)).toNat
    omega
   ·have g8:(0:Int)<i:=by omega
    rw[if_neg hi0] at a3 c8;clear hi0;obtain⟨r1,r2,r3⟩:=Ho.out.lit 44 Hb.out;have c4:=Qa r1;have f0:=Qa r2;have a5:=Qa r3;have a9:=Qa (show ys.length+ ([44]:List UInt8).length<=140737488355328 from f8.out);clear r1 r2 r3;go_wp2_with (at_builtin;refine qh c4.out f0.out a9.out a5.out.size ?_;intro v' w5 h1 h2 h3;have HK:=Qa h1;have b0:=Qa h2;clear h1 h2 h3);generalize hz:ys ++ [44]=zs at *;have Hz:=Qa hz;clear hz;have b9:=Qa (a5.out.grown b0.out a5.out.size (fun g e=>(ao.blk c4.out e).1));have h0:=Qa HK.out;obtain⟨A5,q5,rfl,-⟩:=af HK.out;have e6:=Qa (Hp.out w5 b9.out);clear HK b0;go_wp2_with fail;refine Za e6 ?_;rintro e w6 ⟨rfl,b2⟩;have b4:=Qa (b9.out.trans (b2.mono b9.out.size));have d3:=Qa (h0.out.below b2 (Zb _));have f2:=Qa (f5.out w6 b4.out);clear b2;go_wp2_with fail;refine Za f2 ?_;rintro e wq ⟨vq,rfl,b3,a4⟩;have b1:=Qa (b4.out.trans (a4.mono b4.out.size));have c5:=Qa (d3.out.below a4 (Zb _));have e2:=Qa (ao.bs b3);obtain⟨Aq,qq,rfl,-⟩:=af b3;clear b3 a4;go_wp2_with (first|(at_builtin;refine qh c5.out e2.out a3.out.1 b1.out.size ?_;intro v' wa h1 h2 h3;have c1:=Qa h1;have d6:=Qa h2;clear h1 h2 h3;have d4:=Qa (b1.out.grown d6.out b1.out.size (fun g e=>(ao.blk c5.out e).1));generalize hza:zs++qs=za at *;have c6:=Qa hza;obtain⟨Aa,qa,rfl,-⟩:=af c1.out;obtain⟨ra1,ra2,ra3⟩:=c1.out.lit 58 d4.out;have a2:=Qa ra1;have b5:=Qa ra2;have a0:=Qa ra3;have c9:=Qa (show za.length+ ([58]:List UInt8).length<=140737488355328 from by rw[<-hza,List.length_append];have:=a3.out.2;simp only[List.length_cons,List.length_nil];omega);clear ra1 ra2 ra3 hza)|(at_builtin;refine qh a2.out b5.out c9.out a0.out.size ?_;intro v' wb h1 h2 h3;have c3:=Qa h1;have e4:=Qa h2;clear h1 h2 h3;have d5:=Qa (a0.out.grown e4.out a0.out.size (fun g e=>(ao.blk a2.out e).1));generalize hzb:za ++ [58]=zb at *;have d0:=Qa hzb;obtain⟨Ab,qb,rfl,-⟩:=af c3.out;have d9:=Qa (show zb.length+ (JV.txt k).length<=140737488355328 from by rw[<-hzb,<-c6.out,List.length_append,List.length_append];have:=a3.out.2;simp only[List.length_cons,List.length_nil];omega);have e1:=Qa (Hc.out wb _ _ d5.out c3.out d9.out);clear hzb));refine Za e1 ?_;rintro e w7 ⟨v7,rfl,b8,c2⟩;have e0:=Qa b8;have f1:=Qa c2;generalize hr:zb++JV.txt k=rs at *;have Hr:=Qa hr;clear hr;obtain⟨A7,q7,rfl,-⟩:=af b8;clear b8 c2;go_wp2_with fail;refine⟨⟨i+1,_,rfl,f4.out,e0.out,f1.out,by rw[<-Hr.out,<-d0.out,<-c6.out,<-Hz.out];have:=c8.out;simp only[List.append_assoc] at this ⊢;exact this⟩,?_⟩
    show n - ((i:Int)+1).toNat<n - ((i:Int)).toNat
    omega
  ·have h':¬ (i:Int)<n:=by omega
   have g3:i=ks.length:=by have:=Hi.out;have:=c0.out;omega
   have e5:=Qa (show ys ++ [125]=full by have:=Hf.out;rw[g3] at this;exact this.stop);clear g3 Hf;obtain⟨r1,r2,r3⟩:=Ho.out.lit 125 Hb.out;have c4:=Qa r1;have f0:=Qa r2;have a5:=Qa r3;have a9:=Qa (show ys.length+ ([125]:List UInt8).length<=140737488355328 from f8.out);clear r1 r2 r3;go_wp2_with (at_builtin;refine qh c4.out f0.out a9.out a5.out.size ?_;intro v' w5 h1 h2 h3;have HK:=Qa h1;have b0:=Qa h2;clear h1 h2 h3);have b9:=Qa (a5.out.grown b0.out a5.out.size (fun g e=>(ao.blk c4.out e).1));rw[e5.out] at HK;obtain⟨A5,q5,rfl,-⟩:=af HK.out;go_ret;exact⟨_,rfl,HK.out,b9.out⟩
inductive Sz:JV->Prop
 |mk (k:Int) (t:Bool) (x:ByteArray) (d:Dc) (ns:List ByteArray) (ks:List JV):x.size<=1000000000->d.digits.size<=1000000000->(∀n∈ns,n.size<=1000000000)->(∀u∈ks,Sz u)->Sz (.mk k t x d ns ks)
theorem Sz.kids {k:Int}{t:Bool}{x:ByteArray}(h:Sz (.mk k t x d ns ks)):x.size<=1000000000/\d.digits.size<=1000000000/\(∀n∈ns,n.size<=1000000000)/\∀u∈ks,Sz u:=by
 cases h with
 |mk _ _ _ _ _ _ h1 h2 h3 h4=>exact⟨h1,h2,h3,h4⟩
theorem i6.exp (h:i6 d): -1000000000<=d.exp/\d.exp<=1000000000:=by
 rcases h with rfl|⟨-,h⟩
 ·exact⟨by decide,by decide⟩
 ·exact h
theorem yM (h:VW P W v j)(hT:dE W)(hG:cf W aU aE):Tx j->Sz j->∀w u xs,Below W.heap.size W w->ao w W.heap.size u xs->xs.length+ (JV.txt j).length<=140737488355328->Calls Tryz.prog 65 #[u,v] w (iT W (xs++JV.txt j)):=by
 induction h with
 |null=>
  intro tx sz w u xs hb ho hx;rw[show JV.txt (.mk 1 false es ⟨false,es,0⟩ [] [])=rM from rfl] at hx ⊢;exact yh hb ho hx
 |bool b=>
  intro tx sz w u xs hb ho hx;rw[show JV.txt (.mk 2 b es ⟨false,es,0⟩ [] [])=rl b from rfl] at hx ⊢;exact yn hb ho hx
 |num d=>
  intro tx sz w u xs hb ho hx;rw[show JV.txt (.mk 3 false es d [] [])=dM d from rfl] at hx ⊢;have hd:i6 d:=by cases tx;assumption
  exact B6 hT (by have:=sz.kids.2.1;omega) hd.exp.1 hd.exp.2 hb ho hx
 |text s=>
  intro tx sz w u xs hb ho hx;rw[show JV.txt (.mk 4 false s ⟨false,es,0⟩ [] [])=cY s from rfl] at hx ⊢;have hd:bf s:=by cases tx;assumption
  exact yq hd hG sz.kids.1 hb ho hx
 |bare=>
  intro tx sz w u xs hb ho hx;rw[show JV.txt (.mk 5 false es ⟨false,es,0⟩ [] [])=91:: (JV.txts false true [] [] ++ [93]) by simp[JV.txt]] at hx ⊢;refine np (P:=P) (us:= []) (.inl ⟨rfl,rfl,rfl⟩) hT hb ho hx fun i v k e1=>?_
  simp at e1
 |list g A c us ks hp hg hr hl hks ih=>
  intro tx sz w u xs hb ho hx;have hk:∀u∈ks,Tx u:=by cases tx;assumption
  rw[show JV.txt (.mk 5 false es ⟨false,es,0⟩ [] ks)=91:: (JV.txts false true [] ks ++ [93]) by simp[JV.txt]] at hx ⊢;refine np (P:=P) (.inr ⟨g,A,c,rfl,hg,hr,hl⟩) hT hb ho hx fun i v k e1 e2 w1 u1 xs1 a2 a0 a1=>?_
  exact ih i v k e1 e2 (hk k (Zk e2)) (sz.kids.2.2.2 k (Zk e2)) w1 u1 xs1 a2 a0 a1
 |obj g A c us ns ks hp hg hr hl hn hks ih=>
  intro tx sz w u xs hb ho hx;have hk:(∀s∈ns,bf s)/\∀u∈ks,Tx u:=by cases tx;exact⟨by assumption,by assumption⟩
  rw[show JV.txt (.mk 6 false es ⟨false,es,0⟩ ns ks)=123:: (JV.txts true true ns ks ++ [125]) by simp[JV.txt]] at hx ⊢;refine BZ (P:=P) ⟨g,A,c,rfl,hg,hr,hl,hn⟩ hG (fun s hs=>⟨hk.1 s hs,sz.kids.2.2.1 s hs⟩) hb ho hx fun i v k e1 e2 w1 u1 xs1 a2 a0 a1=>?_
  exact ih i v k e1 e2 (hk.2 k (Zk e2)) (sz.kids.2.2.2 k (Zk e2)) w1 u1 xs1 a2 a0 a1
attribute [local go_sem] Oper.semAt_some
theorem AW (i:Nat)(h:i<n):(List.finRange n).take (i+1)= (List.finRange n).take i ++ [⟨i,h⟩]:=by
 rw[List.take_succ_eq_append_getElem (by rw[List.length_finRange];exact h),List.getElem_finRange];rfl
theorem qk (n:Nat)(hn:1<=n)(l sb:Nat)(A:Option Addr)(E:List (ByteArray×Value))(hE:E.length<=maxLen)(Kp:World->World->Prop)(b2:∀X Y,Below X.heap.size X Y->Kp X Y)(dO:World->Prop)(b0:∀X Y,dO X->Kp X Y->dO Y)
  (a5:∀X,dO X->X.cell? ⟨sb,0,none⟩=some (.iface 106 (.pointer A)))
  (HL:∀X,dO X->Calls Tryz.prog 101 #[.pointer A] X fun e w'=>e =.returned (.int .i64 E.length)/\X=w')
  (HP:∀X (i:Fin E.length),dO X->Calls Tryz.prog 102 #[.pointer A,.int .i64 i.val] X fun e w'=>e =.returned (.tuple #[.string (E.get i).1,(E.get i).2])/\Below X.heap.size X w')
  (J Jx:List (Fin E.length)->World->Prop) (W:World) (hG:dO W) (hJ:AbidesFrom W.heap.size J) (c3:AbidesFrom W.heap.size Jx)
  (hY:∀pre (x:Fin E.length) W1,J pre W1->pre.length<E.length->YieldAt Fence.wide (n - 1) Tryz.prog l #[.string (E.get x).1,(E.get x).2] W1 fun e W'=>
   (e =.returned (.bool true)/\J (pre ++ [x]) W'/\Kp W1 W')\/(e =.returned (.bool false)/\Jx (pre ++ [x]) W'))
  (h0:J [] W) :
  CallsIn Fence.wide n Tryz.prog 97 #[.func (.yield l) #[] #[],.pointer (some ⟨sb,0,none⟩)] W fun e W'=>(∃v,e =.returned v)/\
   ((∃ys:List (Fin E.length),ys=List.finRange E.length/\J ys W')\/(∃pre:List (Fin E.length),True/\Jx pre W')):=by
 refine callsIn_of_wp Tryz.func97 rfl trivial ?_ rfl;simp only[Tryz.ntmps97,List.size_toArray,List.length_cons,List.length_nil,Nat.reduceAdd,Nat.reduceSub,Array.replicate_succ,Array.replicate_zero,List.push_toArray,List.append_toArray,List.nil_append,List.cons_append];have Hk:=Qa b0;have b9:=Qa b2;have c2:=Qa a5;have c4:=Qa HL;have b4:=Qa HP;have HJ:=Qa hJ;have HY:=Qa hY;have Hg:=Qa hG;have H0:=Qa h0;have c0:=a5 W hG;unfold maxLen at hE;clear b0 b2 a5 HL HP hJ hY hG h0 c3
 gi_wp2_with fail
 refine⟨fun _ _=>trivial,?_⟩;go_invoke
 gi_wp2_with fail
 refine(callsIn_wide.2 (c4.out W Hg.out)).mono ?_;rintro e w' ⟨rfl,rfl⟩
 gi_wp2_with fail
 gi_loopw [8] (fun s8 wr=> ∃ (i:Nat) (pre:List (Fin E.length)),s8 =.int .i64 i/\i<=E.length/\Hid (pre= (List.finRange E.length).take i)/\J pre wr/\dO wr) (fun s8 _=>E.length - (intOf s8).toNat)
 case atStart=>exact⟨0, [],rfl,Zj _,Qa (List.take_zero).symm,H0.out,Hg.out⟩
 case round=>
  obtain⟨i,pre,rfl,hi,a3,hj,hg⟩:=hrel;have a9:pre.length=i:=by rw[a3.out,List.length_take,List.length_finRange];omega
  have Hj:=Qa hj;have b1:=Qa hg;have b5:=Qa a9;have c1:=c2.out wr hg;clear a9 hj hg
  by_cases hin:i<E.length
  ·have hp:=b4.out wr ⟨i,hin⟩ b1.out;have hy:=HY.out pre ⟨i,hin⟩
   dsimp only at hp
   generalize E.get ⟨i,hin⟩=x at hp hy;obtain⟨s,u⟩:=x
   dsimp only at hp hy
   have Hp:=Qa hp;have Hy:=Qa hy;have a1:=Qa hin;clear hp hy;have h':(i:Int)<E.length:=by omega
   have w1:IntKind.i64.wrap ((i:Int)+1)= (i:Int)+1:=IntWalk.i64_in _ (by omega)
   gi_wp2_with fail
   refine⟨fun _ _=>trivial,?_⟩;go_invoke
   gi_wp2_with fail
   refine(callsIn_wide.2 Hp.out).mono ?_;rintro e w3 ⟨rfl,a0⟩;have a2:J pre w3:=HJ.out _ _ _ none Hj.out ⟨a0.os,a0.tape,a0.output,a0.size,fun k hk _=>a0.block k hk⟩ (fun r e=>by cases e);have b3:=Qa (Hk.out _ _ b1.out (b9.out _ _ a0));obtain⟨fn,tmps,assign,body,hy,b8⟩:=Hy.out w3 a2 (by rw[b5.out];exact a1.out);clear a0
   gi_wp2_with fail
   refine b8.mono ?_;rintro e W3 (⟨rfl,a2,c5⟩|⟨rfl,a4⟩)
   ·gi_wp2
    refine⟨⟨i+1,_,rfl,a1.out,Qa (by rw[a3.out];exact(AW i a1.out).symm),a2,Hk.out _ _ b3.out c5⟩,?_⟩
    show E.length - ((i:Int)+1).toNat<E.length - ((i:Int)).toNat
    have:=a1.out;omega
   ·gi_wp2
    refine Zh (results_none rfl ..) rfl ?_;exact⟨⟨_,rfl⟩,.inr ⟨_,trivial,a4⟩⟩
  ·have h':¬ (i:Int)<E.length:=by omega
   gi_wp2_with fail
   go_end0;exact⟨⟨_,rfl⟩,.inl (by have:=Hj.out;rwa[a3.out,List.take_of_length_le (by rw[List.length_finRange];omega)] at this)⟩
theorem Bo (n:Nat)(hn:1<=n)(l sb:Nat)(A:Option Addr)(E:List (ByteArray×Value))(hE:E.length<=maxLen)(B B2:Nat)(dO:World->Prop)(b0:∀X Y,dO X->eu B B2 X Y->dO Y)
  (a3:∀X,dO X->X.cell? ⟨sb,0,none⟩=some (.iface 97 (.pointer A)))
  (HL:∀X,dO X->Calls Tryz.prog 54 #[.pointer A] X fun e w'=>e =.returned (.int .i64 E.length)/\X=w')
  (HP:∀X (i:Fin E.length),dO X->Calls Tryz.prog 103 #[.pointer A,.int .i64 i.val] X fun e w'=>e =.returned (.tuple #[.string (E.get i).1,(E.get i).2])/\Below X.heap.size X w')
  (J Jx:List (Fin E.length)->World->Prop) (W:World) (hG:dO W) (hJ:AbidesFrom W.heap.size J) (b8:AbidesFrom W.heap.size Jx)
  (hY:∀pre (x:Fin E.length) W1,J pre W1->pre.length<E.length->YieldAt Fence.wide (n - 1) Tryz.prog l #[.string (E.get x).1,(E.get x).2] W1 fun e W'=>
   (e =.returned (.bool true)/\J (pre ++ [x]) W'/\eu B B2 W1 W')\/(e =.returned (.bool false)/\Jx (pre ++ [x]) W'))
  (h0:J [] W) :
  CallsIn Fence.wide n Tryz.prog 97 #[.func (.yield l) #[] #[],.pointer (some ⟨sb,0,none⟩)] W fun e W'=>(∃v,e =.returned v)/\
   ((∃ys:List (Fin E.length),True/\J ys W')\/(∃pre:List (Fin E.length),True/\Jx pre W')):=by
 refine callsIn_of_wp Tryz.func97 rfl trivial ?_ rfl;simp only[Tryz.ntmps97,List.size_toArray,List.length_cons,List.length_nil,Nat.reduceAdd,Nat.reduceSub,Array.replicate_succ,Array.replicate_zero,List.push_toArray,List.append_toArray,List.nil_append,List.cons_append];have Hk:=Qa b0;have b2:=Qa a3;have c2:=Qa HL;have b5:=Qa HP;have HJ:=Qa hJ;have HY:=Qa hY;have Hg:=Qa hG;have H0:=Qa h0;have c0:=a3 W hG;unfold maxLen at hE;clear b0 a3 HL HP hJ hY hG h0 b8
 gi_wp2_with fail
 refine⟨fun _ _=>trivial,?_⟩;go_invoke
 gi_wp2_with fail
 refine(callsIn_wide.2 (c2.out W Hg.out)).mono ?_;rintro e w' ⟨rfl,rfl⟩
 gi_wp2_with fail
 gi_loopw [8] (fun s8 wr=> ∃ (i:Nat) (pre:List (Fin E.length)),s8 =.int .i64 i/\i<=E.length/\pre.length=i/\J pre wr/\dO wr) (fun s8 _=>E.length - (intOf s8).toNat)
 case atStart=>exact⟨0, [],rfl,Zj _,rfl,H0.out,Hg.out⟩
 case round=>
  obtain⟨i,pre,rfl,hi,a5,hj,hg⟩:=hrel;have Hj:=Qa hj;have a9:=Qa hg;have b1:=Qa a5;have c1:=b2.out wr hg;clear a5 hj hg
  by_cases hin:i<E.length
  ·have hp:=b5.out wr ⟨i,hin⟩ a9.out;have hy:=HY.out pre ⟨i,hin⟩
   dsimp only at hp
   generalize E.get ⟨i,hin⟩=x at hp hy;obtain⟨s,u⟩:=x
   dsimp only at hp hy
   have Hp:=Qa hp;have Hy:=Qa hy;have a1:=Qa hin;clear hp hy;have h':(i:Int)<E.length:=by omega
   have w1:IntKind.i64.wrap ((i:Int)+1)= (i:Int)+1:=IntWalk.i64_in _ (by omega)
   gi_wp2_with fail
   refine⟨fun _ _=>trivial,?_⟩;go_invoke
   gi_wp2_with fail
   refine(callsIn_wide.2 Hp.out).mono ?_;rintro e w3 ⟨rfl,a0⟩;have a2:J pre w3:=HJ.out _ _ _ none Hj.out ⟨a0.os,a0.tape,a0.output,a0.size,fun k hk _=>a0.block k hk⟩ (fun r e=>by cases e);have b3:=Qa (Hk.out _ _ a9.out (eu.of_below a0));obtain⟨fn,tmps,assign,body,hy,b9⟩:=Hy.out w3 a2 (by rw[b1.out];exact a1.out);clear a0
   gi_wp2_with fail
   refine b9.mono ?_;rintro e W3 (⟨rfl,a2,b4⟩|⟨rfl,a4⟩)
   ·gi_wp2
    refine⟨⟨i+1,_,rfl,a1.out,by rw[List.length_append,b1.out];rfl,a2,Hk.out _ _ b3.out b4⟩,?_⟩
    show E.length - ((i:Int)+1).toNat<E.length - ((i:Int)).toNat
    have:=a1.out;omega
   ·gi_wp2
    refine Zh (results_none rfl ..) rfl ?_;exact⟨⟨_,rfl⟩,.inr ⟨_,trivial,a4⟩⟩
  ·have h':¬ (i:Int)<E.length:=by omega
   gi_wp2_with fail
   go_end0;exact⟨⟨_,rfl⟩,.inl ⟨_,Hj.out⟩⟩
theorem jz {t:TypeId}:Calls Tryz.prog 59 #[.iface t x] w fun e w'=>e =.returned (.func (.func 97) #[] #[.pointer (some ⟨w.heap.size,0,none⟩)])/\w.alloc (.cells #[.iface t x] 174)=w':=by
 go_enter Tryz.func59,Tryz.ntmps59;go_wp2;go_ret;exact⟨rfl,rfl⟩
attribute [local go_sem] Oper.semAt_some
def gD (us:List Value):List (ByteArray×Value):=us.mapIdx fun i u=>(⟨(Lib.itoa i).toArray⟩,u)
theorem gp (us:List Value):(gD us).length=us.length:=by simp[gD]
theorem o1 (us:List Value)(i:Fin (gD us).length):∃u,us[i.val]?=some u/\(gD us).get i= (⟨(Lib.itoa i.val).toArray⟩,u):=by
 have hi:i.val<us.length:=by have h1:=i.isLt;have h2:=gp us;omega
 exact⟨us[i.val],Zd hi,by
  show(gD us)[i.val]'i.isLt=_
  simp only[gD,List.getElem_mapIdx]⟩
def Fj (w X:World):Prop:= ∀ (g:Nat) cs t z,w.heap[g]?=some (Obj.cells cs t z)->X.heap[g]?=some (Obj.cells cs t z)
theorem dF.kp (h:dF P w A us ks)(hk:Fj w X):dF P X A us ks:=by
 rcases h with h|⟨g,R,c,e,hg,hr,hl⟩
 ·exact .inl h
 ·exact .inr ⟨g,R,c,e,hk _ _ _ _ hg,hr.stay fun g o hp hg _ ⟨cs,z,ho⟩=>⟨hp,by subst ho;exact hk _ _ _ _ hg⟩,hl⟩
theorem eI.kp (h:eI P w A us ns ks)(hk:Fj w X):eI P X A us ns ks:=by
 obtain⟨g,R,c,e,hg,hr,hl⟩:=h;exact⟨g,R,c,e,hk _ _ _ _ hg,hr.stay fun g o hp hg _ ⟨cs,z,ho⟩=>⟨hp,by subst ho;exact hk _ _ _ _ hg⟩,hl⟩
theorem dE.kp (h:dE w)(hk:Fj w X):dE X:=by
 have hg:Tryz.prog.globalNamed "internal/strconv.uint64pow10" = some 21:=by kernel_rfl
 unfold dE Lib.TabIs World.var? at h ⊢;rw[hg] at h ⊢;simp only[Option.bind_some] at h ⊢;rcases ho:w.heap[(21:Nat)]? with _|o
 ·rw[ho] at h;cases h
 ·rw[ho] at h
  cases o with
  |cells cs t z=>rw[hk _ _ _ _ ho];exact h
  |_=>cases h
def Cg (w:World)(n:Nat)(pre:List (Fin n))(W:World):Prop:=Bx W w.heap.size 4 (.bool false)/\Below w.heap.size w W
theorem l4 (h:dF P w A us ks)(hT:dE w)
  (H:∀ (i:Nat) v k,us[i]?=some v->ks[i]?=some k->∀w1,Below w.heap.size w w1->Calls Tryz.prog 63 #[v] w1 fun e w'=>e =.returned (.bool false)/\Below w1.heap.size w1 w') :
  CallsIn Fence.wide 9 Tryz.prog 63 #[.iface 106 (.pointer A)] w fun e w'=>e =.returned (.bool false)/\Below w.heap.size w w':=by
 have k1:=qM;have Hh:=Qa h;have HT:=Qa hT;have HH:=Qa H;clear h hT H;refine callsIn_of_wp_marks Tryz.func63 rfl trivial ?_ rfl;simp only[Tryz.ntmps63,List.size_toArray,List.length_cons,List.length_nil,Nat.reduceAdd,Nat.reduceSub,Array.replicate_succ,Array.replicate_zero,List.push_toArray,List.append_toArray,List.nil_append,List.cons_append];have Hk:=Qa (Bx.new w 4 (.bool false));have a5:=Qa (show Below w.heap.size w (w.alloc (.cells #[.bool false] 4)) from(Ze _ _).alloc (Zb _) _)
 gi_wp2_with fail
 obtain⟨W0,b4⟩:∃W0,w.alloc (.cells #[.bool false] 4)=W0:=⟨_,rfl⟩;have a3:W0.heap.size=w.heap.size+1:=by rw[<-b4];simp
 rw[b4] at Hk a5 ⊢;have b0:=Qa a3;clear b4 a3;refine⟨fun _ _=>trivial,?_⟩;go_invoke
 gi_wp2_with fail
 refine(callsIn_wide.2 xt).mono ?_;rintro e w1 ⟨rfl,c4⟩;have a2:=Qa c4;clear c4
 gi_wp2_with fail
 refine⟨trivial,?_⟩;refine(callsIn_wide.2 jz).mono ?_;rintro e w2 ⟨rfl,rfl⟩;have a1:W0.heap.size<=w1.heap.size:=a2.out.size;have b1:=ac w1 (.cells #[.iface 106 (.pointer A)] 174);have b9:=Zf w1 (.cells #[.iface 106 (.pointer A)] 174);obtain⟨W1,c2⟩:∃W1,w1.alloc (.cells #[.iface 106 (.pointer A)] 174)=W1:=⟨_,rfl⟩;have a0:W1.heap.size=w1.heap.size+1:=by rw[<-c2];simp
 rw[c2] at b1 b9 ⊢;clear c2;have c9:Cg w (gD us).length [] W1:=⟨(Hk.out.later a2.out).later b1,a5.out.trans ((a2.out.mono a5.out.size).trans (b1.mono (Zc a5.out.size a2.out.size)))⟩;have c6:=Qa c9;have b8:=Qa a0;have d4:=Qa b9;have a4:=Qa a1;clear b1 b9 c9 a0 a1 Hk a5 a2
 gi_wp2
 have c0:∀X,eu w.heap.size (w.heap.size+1) W1 X->Fj w X:=fun X hX g cs t z hg=>hX g cs t z (.inl (ag hg)) ((c6.out.2.block g (ag hg)).trans hg)
 have c1:=Qa c0;have c8:=Qa (gp us);have d0:=Qa Hh.out.bd;have a9:SeqStopsK Fence.wide (9 - 1) Tryz.prog 97 #[.pointer (some ⟨w1.heap.size,0,none⟩)] (fun x:Fin (gD us).length=> #[.string ((gD us).get x).1,((gD us).get x).2]) (eu w.heap.size (w.heap.size+1)) (fun ys=>ys=List.finRange (gD us).length) (fun _=>True) (gD us).length W1:=by
  intro l J Jx W hW hJ d6 hY h0;refine qk (9 - 1) (by omega) l w1.heap.size A (gD us) (by rw[c8.out];exact d0.out) (eu w.heap.size (w.heap.size+1)) (fun _ _ h=>eu.of_below h) (eu w.heap.size (w.heap.size+1) W1) (fun X Y h1 h2=>h1.t h2) (fun X hX=>?_) (fun X hX=>?_) (fun X k hX=>?_) J Jx W (eu.of_below hW) hJ d6 hY h0
  ·exact aa (hX _ _ _ _ (.inr (by have:=a4.out;have:=b0.out;omega)) d4.out) (j:=0) rfl
  ·rw[c8.out];exact jU (Hh.out.kp (c1.out X hX))
  ·obtain⟨u,hu,he⟩:=o1 us k;rw[he];exact iy (Hh.out.kp (c1.out X hX)) (HT.out.kp (c1.out X hX)) k.val hu
 have b3:=Qa a9;clear c0 a9;have d1:w.heap.size+2<=W1.heap.size:=by have:=b8.out;have:=a4.out;have:=b0.out;omega
 refine wpIn_rangeFunc_ownF rfl (by omega) (gf:=97) (lb:= #[.pointer (some ⟨w1.heap.size,0,none⟩)]) (by simp[Act.eval]) trivial (enters_of Tryz.func97 (by kernel_rfl) rfl)
  b3.out
  (fun h k=>h.t k) (fun W l o o' _ h ho _=>eu.b W l o o' h ho) (Ze _ _) (fun _=>rfl)
  (Cg w (gD us).length) (fun _ _ _=>False) ?hI ?hIx c6.out
  (fun x=>{tmps:= #[.iface 106 (.pointer A),undef,.pointer (some ⟨w.heap.size,0,none⟩),.iface 106 (.pointer A),.bool true,undef,((gD us).get x).2,.iface 106 (.pointer A),.int .i64 5,.bool false,.tuple #[.iface 106 (.pointer A),.bool true],.iface 106 (.pointer A),.tuple #[.iface 106 (.pointer A),.bool true],.iface 106 (.pointer A),.bool true,.bool true,.iface 106 (.pointer A),.func (.func 97) #[] #[.pointer (some ⟨w1.heap.size,0,none⟩)],.string ((gD us).get x).1,((gD us).get x).2,undef,undef],defers:= []}) ?assign ?body ?done ?stop
 case hI=>
  intro s A B row hs hg hr;exact⟨hs.1.kept hg (fun r e=>(hr r e).2),hs.2.grown hg hs.2.size (fun k e=>by have:=(hr k e).1;omega)⟩
 case hIx=>exact fun _ _ _ _ _ hs _ _=>hs
 case assign=>
  intro l x W K hK;generalize (gD us).get x=y at hK ⊢;obtain⟨y1,y2⟩:=y
  dsimp only at hK ⊢
  gi_wp2
  exact hK
 case body=>
  rintro l pre x W ⟨hk,hB⟩ hN;obtain⟨u,hu,he⟩:=o1 us x;have d2:x.val<ks.length:=by rw[<-Hh.out.len];exact(List.getElem?_eq_some_iff.1 hu).1
  have Hc:=Qa (HH.out x.val u _ hu (Zd d2) W hB)
  try dsimp only
  rw[he];have d3:=Qa hk;have c3:=Qa hB;clear hk hB
  gi_wp2_with fail
  refine⟨trivial,?_⟩;refine(CallsIn.inRound l (callsIn_wide.2 Hc.out)).mono ?_;rintro e W2 ⟨rfl,c5⟩;have b2:=Qa c5;clear c5
  gi_wp2
  exact⟨jf b2.out,eu.of_below b2.out,d3.out.later b2.out,c3.out.trans (b2.out.mono c3.out.size)⟩
 case done=>
  rintro D ys W hD - ⟨hk,hB⟩ hK;have c0:=hk.cell;have d9:=hk.frozen
  gi_wp2
  have hne:w.heap.size≠D:=by omega
  have c7:(W.setCell ⟨w.heap.size,0,none⟩ (.bool false)).heap[D]?=some (.deferred (some [])):=(Below.heap_setCell W _ _ D (fun e=>hne e.symm)).trans hK;have b5:=hk.set (.bool false);refine⟨by simp,.inl ⟨_,_,rfl,run_takeDeferred c7,?_⟩⟩;have d5:((W.setCell ⟨w.heap.size,0,none⟩ (.bool false)).putObj D (.deferred none)).cell? ⟨w.heap.size,0,none⟩=some (.bool false):=by
   rw[World.cell?_of_block (w:=W.setCell ⟨w.heap.size,0,none⟩ (.bool false)) (World.putObj_heap_other hne)];exact b5.cell
  refine⟨.bool false,?_,rfl,?_⟩
  ·simp[results,Tryz.results63,go_sem,d5]
  ·exact(hB.setCell (p:=⟨w.heap.size,0,none⟩) (Zb _) _).trans (belowK_b (w:=w) (Zb _) _ D _ _ (by omega) c7 rfl rfl)
 case stop=>
  rintro D c pre W hD _ h _;exact h.elim
