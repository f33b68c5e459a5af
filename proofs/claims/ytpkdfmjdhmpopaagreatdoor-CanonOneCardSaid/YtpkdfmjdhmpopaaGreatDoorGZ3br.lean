import Derived.Test.YtpkdfmjdhmpopaaGreatDoorGZ3bq
set_option linter.unusedVariables false
set_option linter.unusedSimpArgs false
set_option maxHeartbeats 64000000
set_option maxRecDepth 100000
namespace Go.Proofs.YtpkdfmjdhmpopaaGreatDoor
open Go.RowKit Go.Shelf
variable {aE aU : Addr} {s : ByteArray} {d : Dc} {j : JV} {ns : List ByteArray} {ks : List JV} {full xs ys : List UInt8} {us : List Value} {i : Nat} {P : Nat -> Prop} {A : Option Addr} {t : TypeId} {u v x : Value} {W X w : World}
theorem tC (x:Value)(W:World): (Instr.typeAssert (.iface 119 x) 32 131 true).run Tryz.prog W = .ok (.tuple #[.nilIface, .bool false]) W:=run_typeAssert_lacksB Tryz.underlying131 (by kernel_rfl) (by kernel_rfl) x _ W
theorem tJ (x:Value)(W:World): (Instr.typeAssert (.iface 119 x) 32 57 true).run Tryz.prog W = .ok (.tuple #[.pointer none, .bool false]) W:=by kernel_rfl
theorem uR (x:Value)(W:World): (Instr.typeAssert (.iface 119 x) 32 119 true).run Tryz.prog W = .ok (.tuple #[x, .bool true]) W:=by kernel_rfl
theorem ef.nextO {tail:UInt8}{k:JV}(h:ef true full tail ns ks i ys)(hk:ks[i]?=some k)(hs:ns[i]?=some s):ef true full tail ns ks (i+1) (ys++ ((if i=0 then [] else [44])++ (dD s++ ([58]++JV.txt k)))):=by
 unfold ef at h ⊢;obtain⟨h1,h2⟩:=List.getElem?_eq_some_iff.1 hk;obtain⟨h3,h4⟩:=List.getElem?_eq_some_iff.1 hs;rw [List.drop_eq_getElem_cons h1,h2,List.drop_eq_getElem_cons h3,h4] at h;rw [<- h]
 conv=>rhs;unfold JV.txts
 by_cases e:i=0 <;> simp [e]
theorem zU (h:eS P W A us ns ks)(hT:cG W aU aE)(hU:∀s∈ns,dy s/\s.size<=1000000000)(hb:Below W.heap.size W w)(ho:au w W.heap.size u xs)(hx:xs.length+ (123:: (JV.txts true true ns ks ++ [125])).length<=140737488355328)
  (H:∀ (i:Nat) v k,us[i]?=some v->ks[i]?=some k->∀w1 u1 xs1,Below W.heap.size W w1->au w1 W.heap.size u1 xs1->xs1.length+ (JV.txt k).length<=140737488355328->Calls Tryz.prog 28 #[u1,v] w1 (kO W (xs1++JV.txt k))) :
  Calls Tryz.prog 28 #[u, .iface 119 (.pointer A)] w fun e w'=>kO W (xs++ (123:: (JV.txts true true ns ks ++ [125]))) e w':=by
 have k1:=lD;have k2:=tC;have k3:=tJ;have k4:=uR;have hl:=h.len;have g2:=h.bd;unfold maxLen at g2;obtain⟨q1,q2,q3⟩:=ho.lit 123 hb;have e0:=Qa q1;have f4:=Qa q2;have c3:=Qa q3;have HH:=Qa H;have Hh:=Qa h;have HT:=Qa hT;have HU:=Qa hU;have g6:=Qa h.names;obtain⟨A0,q0,rfl, -⟩:=ag ho;have Hx:=Qa hx;have f2:=Qa (show xs.length+ ([123]:List UInt8).length<=140737488355328 by simp at hx ⊢;omega);obtain⟨full,a1⟩:∃full,xs++ (123:: (JV.txts true true ns ks ++ [125]))=full:=⟨_,rfl⟩;have Hf:Hid (ef true full 125 ns ks 0 (xs ++ [123])):=Qa (by unfold ef;rw [<- a1];simp);have e6:=Qa (show full.length<=140737488355328 by rw [<- a1,List.length_append];exact hx);rw [a1];have b6:=Qa hl;have g4:=Qa (fun w1 (hw:Below W.heap.size W w1)=>eK (h.below hw));clear q1 q2 q3 ho hb h hT hU H hx a1 hl;generalize hn:us.length=n at *;have Hn:=Qa hn;clear hn;go_enter Tryz.func28,Tryz.ntmps28;go_wp2_with (at_builtin;refine aA rfl (.tmp 62) (.tmp 63) rfl W.heap.size (.slice A0 xs.length q0) (.slice (some ⟨w.heap.size,0,none⟩) 1 1) xs [123] (by simp [Act.eval]) e0.out (by simp [Act.eval]) f4.out f2.out c3.out.size ?_;intro v' w3 h1 h2 h3;have HK:=Qa h1;have b4:=Qa h2;clear h1 h2 h3);generalize hz:xs ++ [123]=zs at *;clear hz;have Hb3:=Qa (c3.out.grown b4.out c3.out.size (fun g e=>(au.blk e0.out e).1));have Ho3:=Qa HK.out;obtain⟨A3,q3,rfl, -⟩:=ag HK.out;have f0:=Qa (g4.out w3 Hb3.out);clear HK b4 e0 f4 c3 Hx f2;go_wp2_with fail;(with_reducible refine f0.out.mono ?_);rintro e w4 ⟨rfl,rfl⟩;go_wp2_with fail;clear f0
 go_loopw [0,67] (fun s0 s38 wr=>xM W true full 125 ns ks s0 s38 wr) (fun _ s38 _=>n - (intOf s38).toNat)
 case atStart=>exact⟨0,_,rfl,Zj _,Ho3.out,Hb3.out,Hf.out⟩
 case round=>
  clear Hf Ho3 Hb3;obtain⟨i,ys,rfl,hi,ho,hb,hf⟩:=hrel;have Ho:=Qa ho;have Hb:=Qa hb;have Hf:=Qa hf;have Hi:=Qa hi;obtain⟨A4,q4,rfl, -⟩:=ag ho;have e8:ys.length+1<=140737488355328:=by have:=hf.le;have:=e6.out;omega
  have f6:=Qa e8;clear ho hb hf hi e8
  by_cases hin:i<n
  ·have g1:i<us.length:=by have:=Hn.out;omega
   have d1:i<ks.length:=by have:=b6.out;omega
   obtain⟨v,hv⟩:∃u,us[i]?=some u:=⟨_,Zc g1⟩;obtain⟨k,hk⟩:∃u,ks[i]?=some u:=⟨_,Zc d1⟩;have f3:i<ns.length:=by have:=g6.out;omega
   obtain⟨s,hs⟩:∃u,ns[i]?=some u:=⟨_,Zc f3⟩;have d3:=Hf.out.nextO hk hs;obtain⟨f8,f5⟩:=HU.out s (Zk hs);have f1:=Qa (fun w5 (hw:Below W.heap.size W w5)=>mP (w:=w5) f8 (HT.out.below hw) f5);have c4:=Qa d3;have hle:=d3.le;have Hp:=Qa (fun w5 (hw:Below W.heap.size W w5)=>fm (Hh.out.below hw) i hv hs);have Hc:=Qa (HH.out i v k hv hk);generalize dD s=qs at *;have hkl: (ys++if i=0 then [] else [44]).length+qs.length<=140737488355328/\(ys++if i=0 then [] else [44]).length+qs.length+1+ (JV.txt k).length<=140737488355328:=by
    have h1:=e6.out;rw [List.length_append,List.length_append,List.length_append,List.length_append] at hle;simp only [List.length_cons,List.length_nil] at hle;rw [List.length_append];omega
   have a3:=Qa hkl;have g0:=Qa d1;have h': (i:Int)<n:=by omega
   have w1:IntKind.i64.wrap ((i:Int)+1)= (i:Int)+1:=IntWalk.i64_in _ (by omega);clear d3 hle hkl g1 d1 hv hk Hf hs f8 f5 f3
   by_cases hi0:i=0
   ·subst hi0
    rw [if_pos rfl,List.append_nil] at a3;rw [if_pos rfl,List.nil_append] at c4;go_wp2_with fail;have e4:=Qa (show Calls Tryz.prog 50 #[.pointer A, .int .i64 0] wr (fun e w'=>e = .returned (.tuple #[.string s,v])/\Below wr.heap.size wr w') from Hp.out wr Hb.out);(with_reducible refine e4.out.mono ?_);rintro e w6 ⟨rfl,b1⟩;have a5:=Qa (Hb.out.trans (b1.mono Hb.out.size));have d9:=Qa (Ho.out.below b1 (Za _));have e5:=Qa (f1.out w6 a5.out);clear b1;go_wp2_with fail;(with_reducible refine e5.out.mono ?_);rintro e wq ⟨vq,rfl,b3,b2⟩;have a7:=Qa (a5.out.trans (b2.mono a5.out.size));have c1:=Qa (d9.out.below b2 (Za _));have d5:=Qa (au.bs b3);obtain⟨Aq,qq,rfl, -⟩:=ag b3;clear b3 b2;go_wp2_with (first | (at_builtin;refine aA rfl (.tmp 81) (.tmp 83) rfl W.heap.size (.slice A4 ys.length q4) (.slice Aq qs.length qq) ys qs (by simp [Act.eval]) c1.out (by simp [Act.eval]) d5.out a3.out.1 a7.out.size ?_;intro v' wa h1 h2 h3;have c2:=Qa h1;have d0:=Qa h2;clear h1 h2 h3;have d4:=Qa (a7.out.grown d0.out a7.out.size (fun g e=>(au.blk c1.out e).1));generalize hza:ys++qs=za at *;have b5:=Qa hza;obtain⟨Aa,qa,rfl, -⟩:=ag c2.out;obtain⟨ra1,ra2,ra3⟩:=c2.out.lit 58 d4.out;have a2:=Qa ra1;have a9:=Qa ra2;have a0:=Qa ra3;have c8:=Qa (show za.length+ ([58]:List UInt8).length<=140737488355328 from by rw [<- hza,List.length_append];have:=a3.out.2;simp only [List.length_cons,List.length_nil];omega);clear ra1 ra2 ra3 hza) | (at_builtin;refine aA rfl (.tmp 84) (.tmp 85) rfl W.heap.size (.slice Aa za.length qa) (.slice (some ⟨wa.heap.size,0,none⟩) 1 1) za [58] (by simp [Act.eval]) a2.out (by simp [Act.eval]) a9.out c8.out a0.out.size ?_;intro v' wb h1 h2 h3;have b9:=Qa h1;have e2:=Qa h2;clear h1 h2 h3;have e3:=Qa (a0.out.grown e2.out a0.out.size (fun g e=>(au.blk a2.out e).1));generalize hzb:za ++ [58]=zb at *;have c5:=Qa hzb;obtain⟨Ab,qb,rfl, -⟩:=ag b9.out;have e1:=Qa (show zb.length+ (JV.txt k).length<=140737488355328 from by rw [<- hzb,<- b5.out,List.length_append,List.length_append];have:=a3.out.2;simp only [List.length_cons,List.length_nil];omega);have d2:=Qa (Hc.out wb _ _ e3.out b9.out e1.out);clear hzb));(with_reducible refine d2.out.mono ?_);rintro e w7 ⟨v7,rfl,b0,b8⟩;have c7:=Qa b0;have c9:=Qa b8;generalize hr:zb++JV.txt k=rs at *;have Hr:=Qa hr;clear hr;obtain⟨A7,q7,rfl, -⟩:=ag b0;clear b0 b8;go_wp2_with fail;refine⟨⟨1,_,rfl,g0.out,c7.out,c9.out,by rw [<- Hr.out,<- c5.out,<- b5.out];have:=c4.out;simp only [List.append_assoc] at this ⊢;exact this⟩, ?_⟩
    show n - ((0:Int)+1).toNat<n - ((0:Int)).toNat
    omega
   ·have g5: (0:Int)<i:=by omega
    rw [if_neg hi0] at a3 c4;clear hi0;obtain⟨r1,r2,r3⟩:=Ho.out.lit 44 Hb.out;have b7:=Qa r1;have d6:=Qa r2;have a6:=Qa r3;have a4:=Qa (show ys.length+ ([44]:List UInt8).length<=140737488355328 from f6.out);clear r1 r2 r3;go_wp2_with (at_builtin;refine aA rfl (.tmp 72) (.tmp 73) rfl W.heap.size (.slice A4 ys.length q4) (.slice (some ⟨wr.heap.size,0,none⟩) 1 1) ys [44] (by simp [Act.eval]) b7.out (by simp [Act.eval]) d6.out a4.out a6.out.size ?_;intro v' w5 h1 h2 h3;have HK:=Qa h1;have b4:=Qa h2;clear h1 h2 h3);generalize hz:ys ++ [44]=zs at *;have Hz:=Qa hz;clear hz;have c0:=Qa (a6.out.grown b4.out a6.out.size (fun g e=>(au.blk b7.out e).1));have g3:=Qa HK.out;obtain⟨A5,q5,rfl, -⟩:=ag HK.out;have e4:=Qa (Hp.out w5 c0.out);clear HK b4;go_wp2_with fail;(with_reducible refine e4.out.mono ?_);rintro e w6 ⟨rfl,b1⟩;have a5:=Qa (c0.out.trans (b1.mono c0.out.size));have d9:=Qa (g3.out.below b1 (Za _));have e5:=Qa (f1.out w6 a5.out);clear b1;go_wp2_with fail;(with_reducible refine e5.out.mono ?_);rintro e wq ⟨vq,rfl,b3,b2⟩;have a7:=Qa (a5.out.trans (b2.mono a5.out.size));have c1:=Qa (d9.out.below b2 (Za _));have d5:=Qa (au.bs b3);obtain⟨Aq,qq,rfl, -⟩:=ag b3;clear b3 b2;go_wp2_with (first | (at_builtin;refine aA rfl (.tmp 81) (.tmp 83) rfl W.heap.size (.slice A5 zs.length q5) (.slice Aq qs.length qq) zs qs (by simp [Act.eval]) c1.out (by simp [Act.eval]) d5.out a3.out.1 a7.out.size ?_;intro v' wa h1 h2 h3;have c2:=Qa h1;have d0:=Qa h2;clear h1 h2 h3;have d4:=Qa (a7.out.grown d0.out a7.out.size (fun g e=>(au.blk c1.out e).1));generalize hza:zs++qs=za at *;have b5:=Qa hza;obtain⟨Aa,qa,rfl, -⟩:=ag c2.out;obtain⟨ra1,ra2,ra3⟩:=c2.out.lit 58 d4.out;have a2:=Qa ra1;have a9:=Qa ra2;have a0:=Qa ra3;have c8:=Qa (show za.length+ ([58]:List UInt8).length<=140737488355328 from by rw [<- hza,List.length_append];have:=a3.out.2;simp only [List.length_cons,List.length_nil];omega);clear ra1 ra2 ra3 hza) | (at_builtin;refine aA rfl (.tmp 84) (.tmp 85) rfl W.heap.size (.slice Aa za.length qa) (.slice (some ⟨wa.heap.size,0,none⟩) 1 1) za [58] (by simp [Act.eval]) a2.out (by simp [Act.eval]) a9.out c8.out a0.out.size ?_;intro v' wb h1 h2 h3;have b9:=Qa h1;have e2:=Qa h2;clear h1 h2 h3;have e3:=Qa (a0.out.grown e2.out a0.out.size (fun g e=>(au.blk a2.out e).1));generalize hzb:za ++ [58]=zb at *;have c5:=Qa hzb;obtain⟨Ab,qb,rfl, -⟩:=ag b9.out;have e1:=Qa (show zb.length+ (JV.txt k).length<=140737488355328 from by rw [<- hzb,<- b5.out,List.length_append,List.length_append];have:=a3.out.2;simp only [List.length_cons,List.length_nil];omega);have d2:=Qa (Hc.out wb _ _ e3.out b9.out e1.out);clear hzb));(with_reducible refine d2.out.mono ?_);rintro e w7 ⟨v7,rfl,b0,b8⟩;have c7:=Qa b0;have c9:=Qa b8;generalize hr:zb++JV.txt k=rs at *;have Hr:=Qa hr;clear hr;obtain⟨A7,q7,rfl, -⟩:=ag b0;clear b0 b8;go_wp2_with fail;refine⟨⟨i+1,_,rfl,g0.out,c7.out,c9.out,by rw [<- Hr.out,<- c5.out,<- b5.out,<- Hz.out];have:=c4.out;simp only [List.append_assoc] at this ⊢;exact this⟩, ?_⟩
    show n - ((i:Int)+1).toNat<n - ((i:Int)).toNat
    omega
  ·have h':¬ (i:Int)<n:=by omega
   have f9:i=ks.length:=by have:=Hi.out;have:=b6.out;omega
   have c6:=Qa (show ys ++ [125]=full by have:=Hf.out;rw [f9] at this;exact this.stop);clear f9 Hf;obtain⟨r1,r2,r3⟩:=Ho.out.lit 125 Hb.out;have b7:=Qa r1;have d6:=Qa r2;have a6:=Qa r3;have a4:=Qa (show ys.length+ ([125]:List UInt8).length<=140737488355328 from f6.out);clear r1 r2 r3;go_wp2_with (at_builtin;refine aA rfl (.tmp 90) (.tmp 91) rfl W.heap.size (.slice A4 ys.length q4) (.slice (some ⟨wr.heap.size,0,none⟩) 1 1) ys [125] (by simp [Act.eval]) b7.out (by simp [Act.eval]) d6.out a4.out a6.out.size ?_;intro v' w5 h1 h2 h3;have HK:=Qa h1;have b4:=Qa h2;clear h1 h2 h3);have c0:=Qa (a6.out.grown b4.out a6.out.size (fun g e=>(au.blk b7.out e).1));rw [c6.out] at HK;obtain⟨A5,q5,rfl, -⟩:=ag HK.out;go_ret;exact⟨_,rfl,HK.out,c0.out⟩
inductive Sz:JV->Prop
 | mk (k:Int) (t:Bool) (x:ByteArray) (d:Dc) (ns:List ByteArray) (ks:List JV):x.size<=1000000000->d.digits.size<=1000000000->(∀n∈ns,n.size<=1000000000)->(∀u∈ks,Sz u)->Sz (.mk k t x d ns ks)
theorem Sz.kids {k:Int}{t:Bool}{x:ByteArray}(h:Sz (.mk k t x d ns ks)):x.size<=1000000000/\d.digits.size<=1000000000/\(∀n∈ns,n.size<=1000000000)/\∀u∈ks,Sz u:=by
 cases h with
 | mk _ _ _ _ _ _ h1 h2 h3 h4=>exact⟨h1,h2,h3,h4⟩
theorem jJ.exp (h:jJ d): -1000000000<=d.exp/\d.exp<=1000000000:=by
 rcases h with rfl | ⟨-,h⟩
 ·exact⟨by decide,by decide⟩
 ·exact h
theorem Tx.jb (h:Tx j)(hs:Sz j):JB j:=by
 induction h with
 | null=>exact .mk _ _ _ _ _ _ (by decide) ⟨by decide,by decide,by decide⟩ (fun n h=>by cases h) (fun u h=>by cases h)
 | bool b=>exact .mk _ _ _ _ _ _ (by decide) ⟨by decide,by decide,by decide⟩ (fun n h=>by cases h) (fun u h=>by cases h)
 | num d hd=>
  have h1:=hs.kids;have h2:=hd.exp;exact .mk _ _ _ _ _ _ (by decide) ⟨by have:=h1.2.1;omega,by omega,by omega⟩ (fun n h=>by cases h) (fun u h=>by cases h)
 | text s _=>
  have h1:=hs.kids;exact .mk _ _ _ _ _ _ (by have:=h1.1;omega) ⟨by decide,by decide,by decide⟩ (fun n h=>by cases h) (fun u h=>by cases h)
 | list ks _ ih=>
  have h1:=hs.kids;exact .mk _ _ _ _ _ _ (by decide) ⟨by decide,by decide,by decide⟩ (fun n h=>by cases h) (fun u h=>ih u h (h1.2.2.2 u h))
 | obj ns ks _ _ _ _ ih=>
  have h1:=hs.kids;exact .mk _ _ _ _ _ _ (by decide) ⟨by decide,by decide,by decide⟩ (fun n h=>by have:=h1.2.2.1 n h;omega) (fun u h=>ih u h (h1.2.2.2 u h))
theorem Ct (h:VW P W v j)(hT:dt W)(hG:cG W aU aE):Tx j->Sz j->∀w u xs,Below W.heap.size W w->au w W.heap.size u xs->xs.length+ (JV.txt j).length<=140737488355328->Calls Tryz.prog 28 #[u,v] w (kO W (xs++JV.txt j)):=by
 induction h with
 | null=>
  intro tx sz w u xs hb ho hx;rw [show JV.txt (.mk 1 false es ⟨false,es,0⟩ [] [])=uu from rfl] at hx ⊢;exact yL hb ho hx
 | bool b=>
  intro tx sz w u xs hb ho hx;rw [show JV.txt (.mk 2 b es ⟨false,es,0⟩ [] [])=ur b from rfl] at hx ⊢;exact zn hb ho hx
 | num d=>
  intro tx sz w u xs hb ho hx;rw [show JV.txt (.mk 3 false es d [] [])=eR d from rfl] at hx ⊢;have hd:jJ d:=by cases tx;assumption
  exact Bh hT (by have:=sz.kids.2.1;omega) hd.exp.1 hd.exp.2 hb ho hx
 | text s=>
  intro tx sz w u xs hb ho hx;rw [show JV.txt (.mk 4 false s ⟨false,es,0⟩ [] [])=dD s from rfl] at hx ⊢;have hd:dy s:=by cases tx;assumption
  exact zg hd hG sz.kids.1 hb ho hx
 | hole=>intro tx;cases tx
 | bare=>
  intro tx sz w u xs hb ho hx;rw [show JV.txt (.mk 5 false es ⟨false,es,0⟩ [] [])=91:: (JV.txts false true [] [] ++ [93]) by simp [JV.txt]] at hx ⊢;refine pC (P:=P) (us:= []) (.inl ⟨rfl,rfl,rfl⟩) hT hb ho hx fun i v k e1=> ?_
  simp at e1
 | list g A c us ks hp hg hr hl hks ih=>
  intro tx sz w u xs hb ho hx;have hk:∀u∈ks,Tx u:=by cases tx;assumption
  rw [show JV.txt (.mk 5 false es ⟨false,es,0⟩ [] ks)=91:: (JV.txts false true [] ks ++ [93]) by simp [JV.txt]] at hx ⊢;refine pC (P:=P) (.inr ⟨g,A,c,rfl,hg,hr,hl⟩) hT hb ho hx fun i v k e1 e2 w1 u1 xs1 a0 a1 a2=> ?_
  exact ih i v k e1 e2 (hk k (Zk e2)) (sz.kids.2.2.2 k (Zk e2)) w1 u1 xs1 a0 a1 a2
 | obj g A c us ns ks hp hg hr hl hn hks ih=>
  intro tx sz w u xs hb ho hx;have hk: (∀s∈ns,dy s)/\∀u∈ks,Tx u:=by cases tx;exact⟨by assumption,by assumption⟩
  rw [show JV.txt (.mk 6 false es ⟨false,es,0⟩ ns ks)=123:: (JV.txts true true ns ks ++ [125]) by simp [JV.txt]] at hx ⊢;refine zU (P:=P) ⟨g,A,c,rfl,hg,hr,hl,hn⟩ hG (fun s hs=>⟨hk.1 s hs,sz.kids.2.2.1 s hs⟩) hb ho hx fun i v k e1 e2 w1 u1 xs1 a0 a1 a2=> ?_
  exact ih i v k e1 e2 (hk.2 k (Zk e2)) (sz.kids.2.2.2 k (Zk e2)) w1 u1 xs1 a0 a1 a2
attribute [local go_sem] Oper.semAt_some
theorem Cr (n:Nat)(hn:1<=n)(l sb:Nat)(A:Option Addr)(E:List (ByteArray×Value))(hE:E.length<=maxLen)(B B2:Nat)(bK:World->Prop)(a6:∀X Y,bK X->fY B B2 X Y->bK Y)
  (a1:∀X,bK X->X.cell? ⟨sb,0,none⟩=some (.iface 57 (.pointer A)))
  (HL:∀X,bK X->Calls Tryz.prog 47 #[.pointer A] X fun e w'=>e = .returned (.int .i64 E.length)/\X=w')
  (HP:∀X (i:Fin E.length),bK X->Calls Tryz.prog 48 #[.pointer A, .int .i64 i.val] X fun e w'=>e = .returned (.tuple #[.string (E.get i).1,(E.get i).2])/\Below X.heap.size X w')
  (J Jx:List (Fin E.length)->World->Prop) (W:World) (hG:bK W) (hJ:AbidesFrom W.heap.size J) (b4:AbidesFrom W.heap.size Jx)
  (hY:∀pre (x:Fin E.length) W1,J pre W1->pre.length<E.length->YieldAt Fence.wide (n - 1) Tryz.prog l #[.string (E.get x).1,(E.get x).2] W1 fun e W'=>
   (e = .returned (.bool true)/\J (pre ++ [x]) W'/\fY B B2 W1 W')\/(e = .returned (.bool false)/\Jx (pre ++ [x]) W'))
  (h0:J [] W) :
  CallsIn Fence.wide n Tryz.prog 71 #[.func (.yield l) #[] #[], .pointer (some ⟨sb,0,none⟩)] W fun e W'=>(∃v,e = .returned v)/\
   ((∃ys:List (Fin E.length),True/\J ys W')\/(∃pre:List (Fin E.length),True/\Jx pre W')):=by
 refine callsIn_of_wp Tryz.func71 rfl trivial ?_ rfl;simp only [Tryz.ntmps71,List.size_toArray,List.length_cons,List.length_nil,Nat.reduceAdd,Nat.reduceSub,Array.replicate_succ,Array.replicate_zero,List.push_toArray,List.append_toArray,List.nil_append,List.cons_append];have Hk:=Qa a6;have b5:=Qa a1;have b6:=Qa HL;have b3:=Qa HP;have HJ:=Qa hJ;have HY:=Qa hY;have Hg:=Qa hG;have H0:=Qa h0;have c0:=a1 W hG;unfold maxLen at hE;clear a6 a1 HL HP hJ hY hG h0 b4
 gi_wp2_with fail
 refine⟨fun _ _=>trivial, ?_⟩;go_invoke
 gi_wp2_with fail
 refine(callsIn_wide.2 (b6.out W Hg.out)).mono ?_;rintro e w' ⟨rfl,rfl⟩
 gi_wp2_with fail
 gi_loopw [8] (fun s8 wr=> ∃ (i:Nat) (pre:List (Fin E.length)),s8 = .int .i64 i/\i<=E.length/\pre.length=i/\J pre wr/\bK wr) (fun s8 _=>E.length - (intOf s8).toNat)
 case atStart=>exact⟨0, [],rfl,Zj _,rfl,H0.out,Hg.out⟩
 case round=>
  obtain⟨i,pre,rfl,hi,a9,hj,hg⟩:=hrel;have Hj:=Qa hj;have a5:=Qa hg;have a7:=Qa a9;have c1:=b5.out wr hg;clear a9 hj hg
  by_cases hin:i<E.length
  ·have hp:=b3.out wr ⟨i,hin⟩ a5.out
   have hy:=HY.out pre ⟨i,hin⟩
   dsimp only at hp
   generalize E.get ⟨i,hin⟩=x at hp hy;obtain⟨s,u⟩:=x
   dsimp only at hp hy
   have Hp:=Qa hp;have Hy:=Qa hy;have a2:=Qa hin;clear hp hy;have h': (i:Int)<E.length:=by omega
   have w1:IntKind.i64.wrap ((i:Int)+1)= (i:Int)+1:=IntWalk.i64_in _ (by omega)
   gi_wp2_with fail
   refine⟨fun _ _=>trivial, ?_⟩;go_invoke
   gi_wp2_with fail
   refine(callsIn_wide.2 Hp.out).mono ?_;rintro e w3 ⟨rfl,a0⟩;have a4:J pre w3:=HJ.out _ _ _ none Hj.out ⟨a0.os,a0.tape,a0.output,a0.size,fun k hk _=>a0.block k hk⟩ (fun r e=>by cases e);have b2:=Qa (Hk.out _ _ a5.out (fY.of_below a0));obtain⟨fn,tmps,assign,body,hy,b0⟩:=Hy.out w3 a4 (by rw [a7.out];exact a2.out);clear a0
   gi_wp2_with fail
   refine b0.mono ?_;rintro e W3 (⟨rfl,a4,b1⟩ | ⟨rfl,a3⟩)
   ·gi_wp2
    refine⟨⟨i+1,_,rfl,a2.out,by rw [List.length_append,a7.out];rfl,a4,Hk.out _ _ b2.out b1⟩, ?_⟩
    show E.length - ((i:Int)+1).toNat<E.length - ((i:Int)).toNat
    have:=a2.out;omega
   ·gi_wp2
    refine Zg (results_none rfl _ _ _) rfl ?_;exact⟨⟨_,rfl⟩, .inr ⟨_,trivial,a3⟩⟩
  ·have h':¬ (i:Int)<E.length:=by omega
   gi_wp2_with fail
   go_end0;exact⟨⟨_,rfl⟩, .inl ⟨_,Hj.out⟩⟩
theorem zJ (n:Nat)(hn:1<=n)(l sb:Nat)(A:Option Addr)(E:List (ByteArray×Value))(hE:E.length<=maxLen)(B B2:Nat)(bK:World->Prop)(a6:∀X Y,bK X->fY B B2 X Y->bK Y)
  (a1:∀X,bK X->X.cell? ⟨sb,0,none⟩=some (.iface 119 (.pointer A)))
  (HL:∀X,bK X->Calls Tryz.prog 49 #[.pointer A] X fun e w'=>e = .returned (.int .i64 E.length)/\X=w')
  (HP:∀X (i:Fin E.length),bK X->Calls Tryz.prog 50 #[.pointer A, .int .i64 i.val] X fun e w'=>e = .returned (.tuple #[.string (E.get i).1,(E.get i).2])/\Below X.heap.size X w')
  (J Jx:List (Fin E.length)->World->Prop) (W:World) (hG:bK W) (hJ:AbidesFrom W.heap.size J) (b4:AbidesFrom W.heap.size Jx)
  (hY:∀pre (x:Fin E.length) W1,J pre W1->pre.length<E.length->YieldAt Fence.wide (n - 1) Tryz.prog l #[.string (E.get x).1,(E.get x).2] W1 fun e W'=>
   (e = .returned (.bool true)/\J (pre ++ [x]) W'/\fY B B2 W1 W')\/(e = .returned (.bool false)/\Jx (pre ++ [x]) W'))
  (h0:J [] W) :
  CallsIn Fence.wide n Tryz.prog 71 #[.func (.yield l) #[] #[], .pointer (some ⟨sb,0,none⟩)] W fun e W'=>(∃v,e = .returned v)/\
   ((∃ys:List (Fin E.length),True/\J ys W')\/(∃pre:List (Fin E.length),True/\Jx pre W')):=by
 refine callsIn_of_wp Tryz.func71 rfl trivial ?_ rfl;simp only [Tryz.ntmps71,List.size_toArray,List.length_cons,List.length_nil,Nat.reduceAdd,Nat.reduceSub,Array.replicate_succ,Array.replicate_zero,List.push_toArray,List.append_toArray,List.nil_append,List.cons_append];have Hk:=Qa a6;have b5:=Qa a1;have b6:=Qa HL;have b3:=Qa HP;have HJ:=Qa hJ;have HY:=Qa hY;have Hg:=Qa hG;have H0:=Qa h0;have c0:=a1 W hG;unfold maxLen at hE;clear a6 a1 HL HP hJ hY hG h0 b4
 gi_wp2_with fail
 refine⟨fun _ _=>trivial, ?_⟩;go_invoke
 gi_wp2_with fail
 refine(callsIn_wide.2 (b6.out W Hg.out)).mono ?_;rintro e w' ⟨rfl,rfl⟩
 gi_wp2_with fail
 gi_loopw [8] (fun s8 wr=> ∃ (i:Nat) (pre:List (Fin E.length)),s8 = .int .i64 i/\i<=E.length/\pre.length=i/\J pre wr/\bK wr) (fun s8 _=>E.length - (intOf s8).toNat)
 case atStart=>exact⟨0, [],rfl,Zj _,rfl,H0.out,Hg.out⟩
 case round=>
  obtain⟨i,pre,rfl,hi,a9,hj,hg⟩:=hrel;have Hj:=Qa hj;have a5:=Qa hg;have a7:=Qa a9;have c1:=b5.out wr hg;clear a9 hj hg
  by_cases hin:i<E.length
  ·have hp:=b3.out wr ⟨i,hin⟩ a5.out
   have hy:=HY.out pre ⟨i,hin⟩
   dsimp only at hp
   generalize E.get ⟨i,hin⟩=x at hp hy;obtain⟨s,u⟩:=x
   dsimp only at hp hy
   have Hp:=Qa hp;have Hy:=Qa hy;have a2:=Qa hin;clear hp hy;have h': (i:Int)<E.length:=by omega
   have w1:IntKind.i64.wrap ((i:Int)+1)= (i:Int)+1:=IntWalk.i64_in _ (by omega)
   gi_wp2_with fail
   refine⟨fun _ _=>trivial, ?_⟩;go_invoke
   gi_wp2_with fail
   refine(callsIn_wide.2 Hp.out).mono ?_;rintro e w3 ⟨rfl,a0⟩;have a4:J pre w3:=HJ.out _ _ _ none Hj.out ⟨a0.os,a0.tape,a0.output,a0.size,fun k hk _=>a0.block k hk⟩ (fun r e=>by cases e);have b2:=Qa (Hk.out _ _ a5.out (fY.of_below a0));obtain⟨fn,tmps,assign,body,hy,b0⟩:=Hy.out w3 a4 (by rw [a7.out];exact a2.out);clear a0
   gi_wp2_with fail
   refine b0.mono ?_;rintro e W3 (⟨rfl,a4,b1⟩ | ⟨rfl,a3⟩)
   ·gi_wp2
    refine⟨⟨i+1,_,rfl,a2.out,by rw [List.length_append,a7.out];rfl,a4,Hk.out _ _ b2.out b1⟩, ?_⟩
    show E.length - ((i:Int)+1).toNat<E.length - ((i:Int)).toNat
    have:=a2.out;omega
   ·gi_wp2
    refine Zg (results_none rfl _ _ _) rfl ?_;exact⟨⟨_,rfl⟩, .inr ⟨_,trivial,a3⟩⟩
  ·have h':¬ (i:Int)<E.length:=by omega
   gi_wp2_with fail
   go_end0;exact⟨⟨_,rfl⟩, .inl ⟨_,Hj.out⟩⟩
theorem pn:Calls Tryz.prog 45 #[.iface t x] w fun e w'=>e = .returned (.func (.func 71) #[] #[.pointer (some ⟨w.heap.size,0,none⟩)])/\w.alloc (.cells #[.iface t x] 124)=w':=by
 go_enter Tryz.func45,Tryz.ntmps45;go_wp2;go_ret;exact⟨rfl,rfl⟩
attribute [local go_sem] Oper.semAt_some
def uL (us:List Value):List (ByteArray×Value):=us.mapIdx fun i u=>(⟨(Lib.itoa i).toArray⟩,u)
theorem xR (us:List Value): (uL us).length=us.length:=by simp [uL]
theorem B4 (us:List Value)(i:Fin (uL us).length):∃u,us[i.val]?=some u/\(uL us).get i= (⟨(Lib.itoa i.val).toArray⟩,u):=by
 have hi:i.val<us.length:=by have h1:=i.isLt;have h2:=xR us;omega
 exact⟨us[i.val],Zc hi,by
  show(uL us)[i.val]'i.isLt=_
  simp only [uL,List.getElem_mapIdx]⟩
def GE (w X:World):Prop:= ∀ (g:Nat) cs t z,w.heap[g]?=some (Obj.cells cs t z)->X.heap[g]?=some (Obj.cells cs t z)
theorem dk.kp (h:dk P w A us ks)(hk:GE w X):dk P X A us ks:=by
 rcases h with h | ⟨g,R,c,e,hg,hr,hl⟩
 ·exact .inl h
 ·exact .inr ⟨g,R,c,e,hk _ _ _ _ hg,hr.stay fun g o hp hg _ ⟨cs,z,ho⟩=>⟨hp,by subst ho;exact hk _ _ _ _ hg⟩,hl⟩
theorem eS.kp (h:eS P w A us ns ks)(hk:GE w X):eS P X A us ns ks:=by
 obtain⟨g,R,c,e,hg,hr,hl⟩:=h;exact⟨g,R,c,e,hk _ _ _ _ hg,hr.stay fun g o hp hg _ ⟨cs,z,ho⟩=>⟨hp,by subst ho;exact hk _ _ _ _ hg⟩,hl⟩
theorem dt.kp (h:dt w)(hk:GE w X):dt X:=by
 have hg:Tryz.prog.globalNamed "internal/strconv.uint64pow10" = some 11:=by kernel_rfl
 unfold dt Lib.TabIs World.var? at h ⊢;rw [hg] at h ⊢;simp only [Option.bind_some] at h ⊢;rcases ho:w.heap[(11:Nat)]? with _ | o
 ·rw [ho] at h;cases h
 ·rw [ho] at h
  cases o with
  | cells cs t z=>rw [hk _ _ _ _ ho];exact h
  | _=>cases h
def CG (w:World)(n:Nat)(pre:List (Fin n))(W:World):Prop:=Bx W w.heap.size 4 (.bool false)/\Below w.heap.size w W
theorem ob (h:dk P w A us ks)(hT:dt w)
  (H:∀ (i:Nat) v k,us[i]?=some v->ks[i]?=some k->∀w1,Below w.heap.size w w1->Calls Tryz.prog 26 #[v] w1 fun e w'=>e = .returned (.bool false)/\Below w1.heap.size w1 w') :
  CallsIn Fence.wide 9 Tryz.prog 26 #[.iface 57 (.pointer A)] w fun e w'=>e = .returned (.bool false)/\Below w.heap.size w w':=by
 have k1:=iR;have Hh:=Qa h;have HT:=Qa hT;have HH:=Qa H;clear h hT H;refine callsIn_of_wp_marks Tryz.func26 rfl trivial ?_ rfl;simp only [Tryz.ntmps26,List.size_toArray,List.length_cons,List.length_nil,Nat.reduceAdd,Nat.reduceSub,Array.replicate_succ,Array.replicate_zero,List.push_toArray,List.append_toArray,List.nil_append,List.cons_append];have Hk:=Qa (Bx.new w 4 (.bool false));have a5:=Qa (show Below w.heap.size w (w.alloc (.cells #[.bool false] 4)) from(Zd _ _).alloc (Za _) _)
 gi_wp2_with fail
 obtain⟨W0,b8⟩:∃W0,w.alloc (.cells #[.bool false] 4)=W0:=⟨_,rfl⟩;have a3:W0.heap.size=w.heap.size+1:=by rw [<- b8];simp
 rw [b8] at Hk a5 ⊢;have a1:=Qa a3;clear b8 a3;refine⟨fun _ _=>trivial, ?_⟩;go_invoke
 gi_wp2_with fail
 refine(callsIn_wide.2 ep).mono ?_;rintro e w1 ⟨rfl,c4⟩;have a2:=Qa c4;clear c4
 gi_wp2_with fail
 refine⟨trivial, ?_⟩;refine(callsIn_wide.2 pn).mono ?_;rintro e w2 ⟨rfl,rfl⟩;have a0:W0.heap.size<=w1.heap.size:=a2.out.size;have b0:=ac w1 (.cells #[.iface 57 (.pointer A)] 124);have b7:=Ze w1 (.cells #[.iface 57 (.pointer A)] 124);obtain⟨W1,b5⟩:∃W1,w1.alloc (.cells #[.iface 57 (.pointer A)] 124)=W1:=⟨_,rfl⟩;have a7:W1.heap.size=w1.heap.size+1:=by rw [<- b5];simp
 rw [b5] at b0 b7 ⊢;clear b5;have c2:CG w (uL us).length [] W1:=⟨(Hk.out.later a2.out).later b0,a5.out.trans ((a2.out.mono a5.out.size).trans (b0.mono (Zb a5.out.size a2.out.size)))⟩;have c1:=Qa c2;have b1:=Qa a7;have d0:=Qa b7;have a4:=Qa a0;clear b0 b7 c2 a7 a0 Hk a5 a2
 gi_wp2
 have b4:∀X,fY w.heap.size (w.heap.size+1) W1 X->GE w X:=fun X hX g cs t z hg=>hX g cs t z (.inl (ae hg)) ((c1.out.2.block g (ae hg)).trans hg)
 have b2:=Qa b4;have c0:=Qa (xR us);have c9:=Qa Hh.out.bd;have a6:SeqStopsK Fence.wide (9 - 1) Tryz.prog 71 #[.pointer (some ⟨w1.heap.size,0,none⟩)] (fun x:Fin (uL us).length=> #[.string ((uL us).get x).1,((uL us).get x).2]) (fY w.heap.size (w.heap.size+1)) (fun _=>True) (fun _=>True) (uL us).length W1:=by
  intro l J Jx W hW hJ c6 hY h0;refine Cr (9 - 1) (by omega) l w1.heap.size A (uL us) (by rw [c0.out];exact c9.out) w.heap.size (w.heap.size+1) (fY w.heap.size (w.heap.size+1) W1) (fun X Y h1 h2=>h1.t h2) (fun X hX=> ?_) (fun X hX=> ?_) (fun X k hX=> ?_) J Jx W (fY.of_below hW) hJ c6 hY h0
  ·exact aa (hX _ _ _ _ (.inr (by have:=a4.out;have:=a1.out;omega)) d0.out) (j:=0) rfl
  ·rw [c0.out];exact dU (Hh.out.kp (b2.out X hX))
  ·obtain⟨u,hu,he⟩:=B4 us k
   rw [he];exact en (Hh.out.kp (b2.out X hX)) (HT.out.kp (b2.out X hX)) k.val hu
 have b6:=Qa a6;clear b4 a6;have d2:w.heap.size+2<=W1.heap.size:=by have:=b1.out;have:=a4.out;have:=a1.out;omega
 refine wpIn_rangeFunc_ownF rfl (by omega) (gf:=71) (lb:= #[.pointer (some ⟨w1.heap.size,0,none⟩)]) (by simp [Act.eval]) trivial (enters_of Tryz.func71 (by kernel_rfl) rfl)
  b6.out
  (fun h k=>h.t k) (fun W l o o' _ h ho _=>fY.b W l o o' h ho) (Zd _ _) (fun _=>rfl)
  (CG w (uL us).length) (fun _ _ _=>False) ?hI ?hIx c1.out
  (fun x=>{tmps:= #[.iface 57 (.pointer A),undef, .pointer (some ⟨w.heap.size,0,none⟩), .iface 57 (.pointer A), .bool true,undef,((uL us).get x).2, .iface 57 (.pointer A), .int .i64 5, .bool false, .tuple #[.iface 57 (.pointer A), .bool true], .iface 57 (.pointer A), .tuple #[.iface 57 (.pointer A), .bool true], .iface 57 (.pointer A), .bool true, .bool true, .iface 57 (.pointer A), .func (.func 71) #[] #[.pointer (some ⟨w1.heap.size,0,none⟩)], .string ((uL us).get x).1,((uL us).get x).2,undef,undef],defers:= []}) ?assign ?body ?done ?stop
 case hI=>
  intro s A B row hs hg hr;exact⟨hs.1.kept hg (fun r e=>(hr r e).2),hs.2.grown hg hs.2.size (fun k e=>by have:=(hr k e).1;omega)⟩
 case hIx=>exact fun _ _ _ _ _ hs _ _=>hs
 case assign=>
  intro l x W K hK;generalize (uL us).get x=y at hK ⊢;obtain⟨y1,y2⟩:=y
  dsimp only at hK ⊢
  gi_wp2
  exact hK
 case body=>
  rintro l pre x W ⟨hk,hB⟩ hN;obtain⟨u,hu,he⟩:=B4 us x;have c7:x.val<ks.length:=by rw [<- Hh.out.len];exact(List.getElem?_eq_some_iff.1 hu).1
  have Hc:=Qa (HH.out x.val u _ hu (Zc c7) W hB)
  try dsimp only
  rw [he];have c8:=Qa hk;have c5:=Qa hB;clear hk hB
  gi_wp2_with fail
  refine⟨trivial, ?_⟩;refine(CallsIn.inRound l (callsIn_wide.2 Hc.out)).mono ?_;rintro e W2 ⟨rfl,b9⟩;have a9:=Qa b9;clear b9
  gi_wp2
  exact⟨m7 a9.out,fY.of_below a9.out,c8.out.later a9.out,c5.out.trans (a9.out.mono c5.out.size)⟩
 case done=>
  rintro D ys W hD - ⟨hk,hB⟩ hK;have b4:=hk.cell;have d3:=hk.frozen
  gi_wp2
  have hne:w.heap.size≠D:=by omega
  have c3: (W.setCell ⟨w.heap.size,0,none⟩ (.bool false)).heap[D]?=some (.deferred (some [])):=(Below.heap_setCell W _ _ D (fun e=>hne e.symm)).trans hK;have b3:=hk.set (.bool false);refine⟨by simp, .inl ⟨_,_,rfl,run_takeDeferred c3, ?_⟩⟩;have d1: ((W.setCell ⟨w.heap.size,0,none⟩ (.bool false)).putObj D (.deferred none)).cell? ⟨w.heap.size,0,none⟩=some (.bool false):=by
   rw [World.cell?_of_block (w:=W.setCell ⟨w.heap.size,0,none⟩ (.bool false)) (World.putObj_heap_other hne)];exact b3.cell
  refine⟨.bool false, ?_,rfl, ?_⟩
  ·simp [results,Tryz.results26,go_sem,d1]
  ·exact(hB.setCell (p:=⟨w.heap.size,0,none⟩) (Za _) _).trans (belowK_b (w:=w) (Za _) _ D _ _ (by omega) c3 rfl rfl)
 case stop=>
  rintro D c pre W hD _ h _;exact h.elim
