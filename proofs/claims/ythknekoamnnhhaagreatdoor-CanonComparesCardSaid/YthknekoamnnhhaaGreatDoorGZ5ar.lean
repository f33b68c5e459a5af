import Derived.Test.YthknekoamnnhhaaGreatDoorGZ5aq
set_option linter.unusedVariables false
set_option linter.unusedSimpArgs false
set_option maxHeartbeats 64000000
set_option maxRecDepth 100000
namespace Go.Proofs.YthknekoamnnhhaaGreatDoor
open Go.RowKit Go.Shelf
variable {aE aU:Addr}{cs:Array Value}{r:Bool}{d:Dc}{j:JV}{ns ns':List ByteArray}{ks ks':List JV}{full xs ys:List UInt8}{us us':List Value}{i:Nat}{P Q:Nat->Prop}{A:Option Addr}{t0 t1:TypeId}{u v v' x x1:Value}{W X w w' w2:World}
theorem vL (x:Value)(W:World):(Instr.typeAssert (.iface 130 x) 32 158 true).run Tryz.prog W =.ok (.tuple #[.nilIface,.bool false]) W:=run_typeAssert_lacksB Tryz.underlying158 (by kernel_rfl) (by kernel_rfl) x _ W
theorem uE (x:Value)(W:World):(Instr.typeAssert (.iface 130 x) 32 57 true).run Tryz.prog W =.ok (.tuple #[.pointer none,.bool false]) W:=by kernel_rfl
theorem xo (x:Value)(W:World):(Instr.typeAssert (.iface 130 x) 32 130 true).run Tryz.prog W =.ok (.tuple #[x,.bool true]) W:=by kernel_rfl
theorem eh.nextO {tail:UInt8}{k:JV}{s:ByteArray}(h:eh true full tail ns ks i ys)(hk:ks[i]?=some k)(hs:ns[i]?=some s):eh true full tail ns ks (i+1) (ys++ ((if i=0 then [] else [44])++ (el s++ ([58]++JV.txt k)))):=by
 unfold eh at h ⊢;obtain⟨h1,h2⟩:=List.getElem?_eq_some_iff.1 hk;obtain⟨h3,h4⟩:=List.getElem?_eq_some_iff.1 hs;rw[List.drop_eq_getElem_cons h1,h2,List.drop_eq_getElem_cons h3,h4] at h;rw[<-h]
 conv=>rhs;unfold JV.txts
 by_cases e:i=0 <;> simp[e]
theorem CP (h:fa P W A us ns ks)(hT:cR W aU aE)(hU:∀s∈ns,dB s/\s.size<=1000000000)(hb:Below W.heap.size W w)(ho:au w W.heap.size u xs)(hx:xs.length+ (123:: (JV.txts true true ns ks ++ [125])).length<=140737488355328)
  (H:∀ (i:Nat) v k,us[i]?=some v->ks[i]?=some k->∀w1 u1 xs1,Below W.heap.size W w1->au w1 W.heap.size u1 xs1->xs1.length+ (JV.txt k).length<=140737488355328->Calls Tryz.prog 44 #[u1,v] w1 (kO W (xs1++JV.txt k))) :
  Calls Tryz.prog 44 #[u,.iface 130 (.pointer A)] w fun e w'=>kO W (xs++ (123:: (JV.txts true true ns ks ++ [125]))) e w':=by
 have k1:=mD;have k2:=vL;have k3:=uE;have k4:=xo;have hl:=h.len;have g5:=h.bd;unfold maxLen at g5;obtain⟨q1,q2,q3⟩:=ho.lit 123 hb;have c7:=Qa q1;have e6:=Qa q2;have c3:=Qa q3;have HH:=Qa H;have Hh:=Qa h;have HT:=Qa hT;have HU:=Qa hU;have g3:=Qa h.names;obtain⟨A0,q0,rfl,-⟩:=ah ho;have Hx:=Qa hx;have f1:=Qa (show xs.length+ ([123]:List UInt8).length<=140737488355328 by simp at hx ⊢;omega);obtain⟨full,a1⟩:∃full,xs++ (123:: (JV.txts true true ns ks ++ [125]))=full:=⟨_,rfl⟩;have Hf:Hid (eh true full 125 ns ks 0 (xs ++ [123])):=Qa (by unfold eh;rw[<-a1];simp);have e8:=Qa (show full.length<=140737488355328 by rw[<-a1,List.length_append];exact hx);rw[a1];have b5:=Qa hl;have g1:=Qa (fun w1 (hw:Below W.heap.size W w1)=>eX (h.below hw));clear q1 q2 q3 ho hb h hT hU H hx a1 hl;generalize hn:us.length=n at *;have Hn:=Qa hn;clear hn;go_enter Tryz.func44,Tryz.ntmps44;go_wp2_with (at_builtin;refine pW c7.out e6.out f1.out c3.out.size ?_;intro v' w3 h1 h2 h3;have HK:=Qa h1;have b2:=Qa h2;clear h1 h2 h3);generalize hz:xs ++ [123]=zs at *;clear hz;have Hb3:=Qa (c3.out.grown b2.out c3.out.size (fun g e=>(au.blk c7.out e).1));have Ho3:=Qa HK.out;obtain⟨A3,q3,rfl,-⟩:=ah HK.out;have g0:=Qa (g1.out w3 Hb3.out);clear HK b2 c7 e6 c3 Hx f1;go_wp2_with fail;(with_reducible refine g0.out.mono ?_);rintro e w4 ⟨rfl,rfl⟩;go_wp2_with fail;clear g0
 go_loopw [0,67] (fun s0 s38 wr=>zh W true full 125 ns ks s0 s38 wr) (fun _ s38 _=>n - (intOf s38).toNat)
 case atStart=>exact⟨0,_,rfl,Zj _,Ho3.out,Hb3.out,Hf.out⟩
 case round=>
  clear Hf Ho3 Hb3;obtain⟨i,ys,rfl,hi,ho,hb,hf⟩:=hrel;have Ho:=Qa ho;have Hb:=Qa hb;have Hf:=Qa hf;have Hi:=Qa hi;obtain⟨A4,q4,rfl,-⟩:=ah ho;have f4:ys.length+1<=140737488355328:=by have:=hf.le;have:=e8.out;omega
  have f3:=Qa f4;clear ho hb hf hi f4
  by_cases hin:i<n
  ·have e7:i<us.length:=by have:=Hn.out;omega
   have d2:i<ks.length:=by have:=b5.out;omega
   obtain⟨v,hv⟩:∃u,us[i]?=some u:=⟨_,Zc e7⟩;obtain⟨k,hk⟩:∃u,ks[i]?=some u:=⟨_,Zc d2⟩;have f8:i<ns.length:=by have:=g3.out;omega
   obtain⟨s,hs⟩:∃u,ns[i]?=some u:=⟨_,Zc f8⟩;have e0:=Hf.out.nextO hk hs;obtain⟨f9,f6⟩:=HU.out s (Zk hs);have f5:=Qa (fun w5 (hw:Below W.heap.size W w5)=>oK (w:=w5) f9 (HT.out.below hw) f6);have c4:=Qa e0;have hle:=e0.le;have Hp:=Qa (fun w5 (hw:Below W.heap.size W w5)=>fE (Hh.out.below hw) i hv hs);have Hc:=Qa (HH.out i v k hv hk);generalize el s=qs at *;have hkl:(ys++if i=0 then [] else [44]).length+qs.length<=140737488355328/\(ys++if i=0 then [] else [44]).length+qs.length+1+ (JV.txt k).length<=140737488355328:=by
    have h1:=e8.out;rw[List.length_append,List.length_append,List.length_append,List.length_append] at hle;simp only[List.length_cons,List.length_nil] at hle;rw[List.length_append];omega
   have a3:=Qa hkl;have f0:=Qa d2;have h':(i:Int)<n:=by omega
   have w1:IntKind.i64.wrap ((i:Int)+1)= (i:Int)+1:=IntWalk.i64_in _ (by omega);clear e0 hle hkl e7 d2 hv hk Hf hs f9 f6 f8
   by_cases hi0:i=0
   ·subst hi0;rw[if_pos rfl,List.append_nil] at a3;rw[if_pos rfl,List.nil_append] at c4;go_wp2_with fail;have d3:=Qa (show Calls Tryz.prog 85 #[.pointer A,.int .i64 0] wr (fun e w'=>e =.returned (.tuple #[.string s,v])/\Below wr.heap.size wr w') from Hp.out wr Hb.out);(with_reducible refine d3.out.mono ?_);rintro e w6 ⟨rfl,a9⟩;have b1:=Qa (Hb.out.trans (a9.mono Hb.out.size));have c5:=Qa (Ho.out.below a9 (Za _));have d4:=Qa (f5.out w6 b1.out);clear a9;go_wp2_with fail;(with_reducible refine d4.out.mono ?_);rintro e wq ⟨vq,rfl,a5,a7⟩;have a4:=Qa (b1.out.trans (a7.mono b1.out.size));have b6:=Qa (c5.out.below a7 (Za _));have c6:=Qa (au.bs a5);obtain⟨Aq,qq,rfl,-⟩:=ah a5;clear a5 a7;go_wp2_with (first|(at_builtin;refine pW b6.out c6.out a3.out.1 a4.out.size ?_;intro v' wa h1 h2 h3;have b8:=Qa h1;have d6:=Qa h2;clear h1 h2 h3;have d9:=Qa (a4.out.grown d6.out a4.out.size (fun g e=>(au.blk b6.out e).1));generalize hza:ys++qs=za at *;have c1:=Qa hza;obtain⟨Aa,qa,rfl,-⟩:=ah b8.out;obtain⟨ra1,ra2,ra3⟩:=b8.out.lit 58 d9.out;have a2:=Qa ra1;have b4:=Qa ra2;have a0:=Qa ra3;have c8:=Qa (show za.length+ ([58]:List UInt8).length<=140737488355328 from by rw[<-hza,List.length_append];have:=a3.out.2;simp only[List.length_cons,List.length_nil];omega);clear ra1 ra2 ra3 hza)|(at_builtin;refine pW a2.out b4.out c8.out a0.out.size ?_;intro v' wb h1 h2 h3;have b9:=Qa h1;have d5:=Qa h2;clear h1 h2 h3;have c9:=Qa (a0.out.grown d5.out a0.out.size (fun g e=>(au.blk a2.out e).1));generalize hzb:za ++ [58]=zb at *;have e5:=Qa hzb;obtain⟨Ab,qb,rfl,-⟩:=ah b9.out;have e3:=Qa (show zb.length+ (JV.txt k).length<=140737488355328 from by rw[<-hzb,<-c1.out,List.length_append,List.length_append];have:=a3.out.2;simp only[List.length_cons,List.length_nil];omega);have e4:=Qa (Hc.out wb _ _ c9.out b9.out e3.out);clear hzb));(with_reducible refine e4.out.mono ?_);rintro e w7 ⟨v7,rfl,a6,c0⟩;have e2:=Qa a6;have d0:=Qa c0;generalize hr:zb++JV.txt k=rs at *;have Hr:=Qa hr;clear hr;obtain⟨A7,q7,rfl,-⟩:=ah a6;clear a6 c0;go_wp2_with fail;refine⟨⟨1,_,rfl,f0.out,e2.out,d0.out,by rw[<-Hr.out,<-e5.out,<-c1.out];have:=c4.out;simp only[List.append_assoc] at this ⊢;exact this⟩,?_⟩
    show n - ((0:Int)+1).toNat<n - ((0:Int)).toNat
    omega
   ·have g2:(0:Int)<i:=by omega
    rw[if_neg hi0] at a3 c4;clear hi0;obtain⟨r1,r2,r3⟩:=Ho.out.lit 44 Hb.out;have b7:=Qa r1;have e1:=Qa r2;have b3:=Qa r3;have b0:=Qa (show ys.length+ ([44]:List UInt8).length<=140737488355328 from f3.out);clear r1 r2 r3;go_wp2_with (at_builtin;refine pW b7.out e1.out b0.out b3.out.size ?_;intro v' w5 h1 h2 h3;have HK:=Qa h1;have b2:=Qa h2;clear h1 h2 h3);generalize hz:ys ++ [44]=zs at *;have Hz:=Qa hz;clear hz;have c2:=Qa (b3.out.grown b2.out b3.out.size (fun g e=>(au.blk b7.out e).1));have g4:=Qa HK.out;obtain⟨A5,q5,rfl,-⟩:=ah HK.out;have d3:=Qa (Hp.out w5 c2.out);clear HK b2;go_wp2_with fail;(with_reducible refine d3.out.mono ?_);rintro e w6 ⟨rfl,a9⟩;have b1:=Qa (c2.out.trans (a9.mono c2.out.size));have c5:=Qa (g4.out.below a9 (Za _));have d4:=Qa (f5.out w6 b1.out);clear a9;go_wp2_with fail;(with_reducible refine d4.out.mono ?_);rintro e wq ⟨vq,rfl,a5,a7⟩;have a4:=Qa (b1.out.trans (a7.mono b1.out.size));have b6:=Qa (c5.out.below a7 (Za _));have c6:=Qa (au.bs a5);obtain⟨Aq,qq,rfl,-⟩:=ah a5;clear a5 a7;go_wp2_with (first|(at_builtin;refine pW b6.out c6.out a3.out.1 a4.out.size ?_;intro v' wa h1 h2 h3;have b8:=Qa h1;have d6:=Qa h2;clear h1 h2 h3;have d9:=Qa (a4.out.grown d6.out a4.out.size (fun g e=>(au.blk b6.out e).1));generalize hza:zs++qs=za at *;have c1:=Qa hza;obtain⟨Aa,qa,rfl,-⟩:=ah b8.out;obtain⟨ra1,ra2,ra3⟩:=b8.out.lit 58 d9.out;have a2:=Qa ra1;have b4:=Qa ra2;have a0:=Qa ra3;have c8:=Qa (show za.length+ ([58]:List UInt8).length<=140737488355328 from by rw[<-hza,List.length_append];have:=a3.out.2;simp only[List.length_cons,List.length_nil];omega);clear ra1 ra2 ra3 hza)|(at_builtin;refine pW a2.out b4.out c8.out a0.out.size ?_;intro v' wb h1 h2 h3;have b9:=Qa h1;have d5:=Qa h2;clear h1 h2 h3;have c9:=Qa (a0.out.grown d5.out a0.out.size (fun g e=>(au.blk a2.out e).1));generalize hzb:za ++ [58]=zb at *;have e5:=Qa hzb;obtain⟨Ab,qb,rfl,-⟩:=ah b9.out;have e3:=Qa (show zb.length+ (JV.txt k).length<=140737488355328 from by rw[<-hzb,<-c1.out,List.length_append,List.length_append];have:=a3.out.2;simp only[List.length_cons,List.length_nil];omega);have e4:=Qa (Hc.out wb _ _ c9.out b9.out e3.out);clear hzb));(with_reducible refine e4.out.mono ?_);rintro e w7 ⟨v7,rfl,a6,c0⟩;have e2:=Qa a6;have d0:=Qa c0;generalize hr:zb++JV.txt k=rs at *;have Hr:=Qa hr;clear hr;obtain⟨A7,q7,rfl,-⟩:=ah a6;clear a6 c0;go_wp2_with fail;refine⟨⟨i+1,_,rfl,f0.out,e2.out,d0.out,by rw[<-Hr.out,<-e5.out,<-c1.out,<-Hz.out];have:=c4.out;simp only[List.append_assoc] at this ⊢;exact this⟩,?_⟩
    show n - ((i:Int)+1).toNat<n - ((i:Int)).toNat
    omega
  ·have h':¬ (i:Int)<n:=by omega
   have f2:i=ks.length:=by have:=Hi.out;have:=b5.out;omega
   have d1:=Qa (show ys ++ [125]=full by have:=Hf.out;rw[f2] at this;exact this.stop);clear f2 Hf;obtain⟨r1,r2,r3⟩:=Ho.out.lit 125 Hb.out;have b7:=Qa r1;have e1:=Qa r2;have b3:=Qa r3;have b0:=Qa (show ys.length+ ([125]:List UInt8).length<=140737488355328 from f3.out);clear r1 r2 r3;go_wp2_with (at_builtin;refine pW b7.out e1.out b0.out b3.out.size ?_;intro v' w5 h1 h2 h3;have HK:=Qa h1;have b2:=Qa h2;clear h1 h2 h3);have c2:=Qa (b3.out.grown b2.out b3.out.size (fun g e=>(au.blk b7.out e).1));rw[d1.out] at HK;obtain⟨A5,q5,rfl,-⟩:=ah HK.out;go_ret;exact⟨_,rfl,HK.out,c2.out⟩
inductive Sz:JV->Prop
 |mk (k:Int) (t:Bool) (x:ByteArray) (d:Dc) (ns:List ByteArray) (ks:List JV):x.size<=1000000000->d.digits.size<=1000000000->(∀n∈ns,n.size<=1000000000)->(∀u∈ks,Sz u)->Sz (.mk k t x d ns ks)
theorem Sz.kids {k:Int}{t:Bool}{x:ByteArray}(h:Sz (.mk k t x d ns ks)):x.size<=1000000000/\d.digits.size<=1000000000/\(∀n∈ns,n.size<=1000000000)/\∀u∈ks,Sz u:=by
 cases h with
 |mk _ _ _ _ _ _ h1 h2 h3 h4=>exact⟨h1,h2,h3,h4⟩
theorem j6.exp (h:j6 d): -1000000000<=d.exp/\d.exp<=1000000000:=by
 rcases h with rfl|⟨-,h⟩
 ·exact⟨by decide,by decide⟩
 ·exact h
theorem Tx.jb (h:Tx j)(hs:Sz j):JB j:=by
 induction h with
 |null=>exact .mk _ _ _ _ _ _ (by decide) ⟨by decide,by decide,by decide⟩ (fun n h=>by cases h) (fun u h=>by cases h)
 |bool b=>exact .mk _ _ _ _ _ _ (by decide) ⟨by decide,by decide,by decide⟩ (fun n h=>by cases h) (fun u h=>by cases h)
 |num d hd=>
  have h1:=hs.kids;have h2:=hd.exp;exact .mk _ _ _ _ _ _ (by decide) ⟨by have:=h1.2.1;omega,by omega,by omega⟩ (fun n h=>by cases h) (fun u h=>by cases h)
 |text s _=>
  have h1:=hs.kids;exact .mk _ _ _ _ _ _ (by have:=h1.1;omega) ⟨by decide,by decide,by decide⟩ (fun n h=>by cases h) (fun u h=>by cases h)
 |list ks _ ih=>
  have h1:=hs.kids;exact .mk _ _ _ _ _ _ (by decide) ⟨by decide,by decide,by decide⟩ (fun n h=>by cases h) (fun u h=>ih u h (h1.2.2.2 u h))
 |obj ns ks _ _ _ _ ih=>
  have h1:=hs.kids;exact .mk _ _ _ _ _ _ (by decide) ⟨by decide,by decide,by decide⟩ (fun n h=>by have:=h1.2.2.1 n h;omega) (fun u h=>ih u h (h1.2.2.2 u h))
theorem Da (h:VW P W v j)(hT:du W)(hG:cR W aU aE):Tx j->Sz j->∀w u xs,Below W.heap.size W w->au w W.heap.size u xs->xs.length+ (JV.txt j).length<=140737488355328->Calls Tryz.prog 44 #[u,v] w (kO W (xs++JV.txt j)):=by
 induction h with
 |null=>
  intro tx sz w u xs hb ho hx;rw[show JV.txt (.mk 1 false es ⟨false,es,0⟩ [] [])=vy from rfl] at hx ⊢;exact Ba hb ho hx
 |bool b=>
  intro tx sz w u xs hb ho hx;rw[show JV.txt (.mk 2 b es ⟨false,es,0⟩ [] [])=vr b from rfl] at hx ⊢;exact AW hb ho hx
 |num d=>
  intro tx sz w u xs hb ho hx;rw[show JV.txt (.mk 3 false es d [] [])=fo d from rfl] at hx ⊢;have hd:j6 d:=by cases tx;assumption
  exact Cj hT (by have:=sz.kids.2.1;omega) hd.exp.1 hd.exp.2 hb ho hx
 |text s=>
  intro tx sz w u xs hb ho hx;rw[show JV.txt (.mk 4 false s ⟨false,es,0⟩ [] [])=el s from rfl] at hx ⊢;have hd:dB s:=by cases tx;assumption
  exact Ax hd hG sz.kids.1 hb ho hx
 |hole=>intro tx;cases tx
 |bare=>
  intro tx sz w u xs hb ho hx;rw[show JV.txt (.mk 5 false es ⟨false,es,0⟩ [] [])=91:: (JV.txts false true [] [] ++ [93]) by simp[JV.txt]] at hx ⊢;refine qg (P:=P) (us:= []) (.inl ⟨rfl,rfl,rfl⟩) hT hb ho hx fun i v k e1=>?_
  simp at e1
 |list g A c us ks hp hg hr hl hks ih=>
  intro tx sz w u xs hb ho hx;have hk:∀u∈ks,Tx u:=by cases tx;assumption
  rw[show JV.txt (.mk 5 false es ⟨false,es,0⟩ [] ks)=91:: (JV.txts false true [] ks ++ [93]) by simp[JV.txt]] at hx ⊢;refine qg (P:=P) (.inr ⟨g,A,c,rfl,hg,hr,hl⟩) hT hb ho hx fun i v k e1 e2 w1 u1 xs1 a0 a2 a1=>?_
  exact ih i v k e1 e2 (hk k (Zk e2)) (sz.kids.2.2.2 k (Zk e2)) w1 u1 xs1 a0 a2 a1
 |obj g A c us ns ks hp hg hr hl hn hks ih=>
  intro tx sz w u xs hb ho hx;have hk:(∀s∈ns,dB s)/\∀u∈ks,Tx u:=by cases tx;exact⟨by assumption,by assumption⟩
  rw[show JV.txt (.mk 6 false es ⟨false,es,0⟩ ns ks)=123:: (JV.txts true true ns ks ++ [125]) by simp[JV.txt]] at hx ⊢;refine CP (P:=P) ⟨g,A,c,rfl,hg,hr,hl,hn⟩ hG (fun s hs=>⟨hk.1 s hs,sz.kids.2.2.1 s hs⟩) hb ho hx fun i v k e1 e2 w1 u1 xs1 a0 a2 a1=>?_
  exact ih i v k e1 e2 (hk.2 k (Zk e2)) (sz.kids.2.2.2 k (Zk e2)) w1 u1 xs1 a0 a2 a1
def OV (P:Nat->Prop)(w:World)(v:Value):Option JV->Prop
 |none=>v =.nilIface
 |some j=>VW P w v j
theorem OV.later {j:Option JV}(h:OV P w v j)(hb:Below w.heap.size w w'):OV P w' v j:=by
 cases j with
 |none=>exact h
 |some j=>exact VW.later h hb
theorem VW.kind_pos (h:VW P w v j):0<j.kindOf:=by cases h <;> simp[JV.kindOf]
theorem qW {a:JV}(ha:VW P w v a):Calls Tryz.prog 32 #[v,.nilIface] w (dL 1 w):=by
 have hp:=ha.kind_pos;have H1:=Qa (et ha);obtain⟨t1,x1,rfl⟩:=ha.iface;clear ha;generalize a.kindOf=ka at *;have Hs:Hid (sg ka 0=1):=Qa (by unfold sg;rw[if_neg (by omega),if_pos hp]);clear hp;go_enter Tryz.func32,Tryz.ntmps32;go_wp2_with fail;(with_reducible refine H1.out.mono ?_);rintro e w1 ⟨rfl,a0⟩;have a2:=Qa a0;clear a0;go_wp2_with fail;(with_reducible refine gJ.mono ?_);rintro e w2 ⟨rfl,a1⟩;have a3:=Qa (a2.out.trans (a1.mono a2.out.size));clear a1;go_wp2_with fail;(with_reducible refine bj.mono ?_);rintro e w3 ⟨rfl,rfl⟩;rw[Hs.out];go_wp2_with fail;go_ret;exact⟨rfl,a3.out⟩
theorem rF {a:JV}(ha:VW P w v a):Calls Tryz.prog 32 #[.nilIface,v] w (dL (-1) w):=by
 have hp:=ha.kind_pos;have H1:=Qa (fun w1 (h:Below w.heap.size w w1)=>et (ha.later h));obtain⟨t1,x1,rfl⟩:=ha.iface;clear ha;generalize a.kindOf=ka at *;have Hs:Hid (sg 0 ka = -1):=Qa (by unfold sg;rw[if_pos hp]);clear hp;go_enter Tryz.func32,Tryz.ntmps32;go_wp2_with fail;(with_reducible refine gJ.mono ?_);rintro e w1 ⟨rfl,a0⟩;have H2:=Qa (H1.out w1 a0);have a2:=Qa a0;clear a0;go_wp2_with fail;(with_reducible refine H2.out.mono ?_);rintro e w2 ⟨rfl,a1⟩;have a3:=Qa (a2.out.trans (a1.mono a2.out.size));clear a1;go_wp2_with fail;(with_reducible refine bj.mono ?_);rintro e w3 ⟨rfl,rfl⟩;rw[Hs.out];go_wp2_with fail;go_ret;exact⟨rfl,a3.out⟩
theorem FJ (W:World):(Instr.typeAssert .nilIface 32 59 true).run Tryz.prog W =.ok (.tuple #[.bool false,.bool false]) W:=by kernel_rfl
theorem GI (W:World):(Instr.typeAssert .nilIface 32 127 true).run Tryz.prog W =.ok (.tuple #[.agg #[.bool false,.string ⟨#[]⟩,.int .i64 0],.bool false]) W:=by kernel_rfl
theorem FH (W:World):(Instr.typeAssert .nilIface 32 40 true).run Tryz.prog W =.ok (.tuple #[.string ⟨#[]⟩,.bool false]) W:=by kernel_rfl
theorem GG (W:World):(Instr.typeAssert .nilIface 32 138 true).run Tryz.prog W =.ok (.tuple #[.nilIface,.bool false]) W:=by kernel_rfl
theorem CR:Calls Tryz.prog 32 #[.nilIface,.nilIface] w (dL 0 w):=by
 have n1:=FJ;have n2:=GI;have n3:=FH;have n4:=GG;go_enter Tryz.func32,Tryz.ntmps32;go_wp2_with fail;(with_reducible refine gJ.mono ?_);rintro e w1 ⟨rfl,a0⟩;have a2:=Qa a0;clear a0;go_wp2_with fail;(with_reducible refine gJ.mono ?_);rintro e w2 ⟨rfl,a1⟩;have a3:=Qa (a2.out.trans (a1.mono a2.out.size));clear a1;go_wp2_with fail;(with_reducible refine bj.mono ?_);rintro e w3 ⟨rfl,rfl⟩;rw[show sg 0 0=0 from rfl];go_wp2_with fail;go_ret;exact⟨rfl,a3.out⟩
theorem kX (j:JV):∃t,j.key=j.kindOf::t:=by obtain⟨k,t,x,n,ns,ks⟩:=j;unfold JV.key;exact⟨_,rfl⟩
theorem qU {a b:Option JV}(ha:OV P w v a)(hb:OV Q w v' b)(hT:du w)(hG:cR w aU aE)(ja:∀j,a=some j->JB j)(jb:∀j,b=some j->JB j):Calls Tryz.prog 32 #[v,v'] w (dL (iU a b) w):=by
 cases a with
 |none=>
  obtain rfl:v =.nilIface:=ha
  cases b with
  |none=>obtain rfl:v' =.nilIface:=hb;exact CR
  |some b=>
   have hb:VW Q w v' b:=hb;have e:iU none (some b) = -1:=by
    obtain⟨t,ht⟩:=kX b
    show ay [0] b.key = -1
    rw[ht,aZ,if_pos hb.kind_pos]
   rw[e];exact rF hb
 |some a=>
  have ha:VW P w v a:=ha
  cases b with
  |none=>
   obtain rfl:v' =.nilIface:=hb;have e:iU (some a) none=1:=by
    obtain⟨t,ht⟩:=kX a;have:=ha.kind_pos
    show ay a.key [0]=1
    rw[ht,aZ,if_neg (by omega),if_pos this]
   rw[e];exact qW ha
  |some b=>exact wK ha hT hG (ja a rfl) hb (jb b rfl) w (Zd _ _)
theorem dG {a b:Option JV}(ha:OV P w v a)(hb:OV Q w v' b)(hT:du w)(hG:cR w aU aE)(ja:∀j,a=some j->JB j)(jb:∀j,b=some j->JB j):Calls Tryz.prog 10 #[v,v'] w (dL (iU a b) w):=by
 have H:=Qa (qU ha hb hT hG ja jb);clear ha hb hT hG ja jb;generalize iU a b=c at *;go_enter Tryz.func10,Tryz.ntmps10;go_wp2_with fail;(with_reducible refine H.out.mono ?_);rintro e w2 ⟨rfl,a0⟩;go_wp2_with fail;go_ret;exact⟨rfl,a0⟩
attribute [local go_sem] Oper.semAt_some
theorem D4 (n:Nat)(hn:1<=n)(l sb:Nat)(A:Option Addr)(E:List (ByteArray×Value))(hE:E.length<=maxLen)(B B2:Nat)(cK:World->Prop)(a9:∀X Y,cK X->gv B B2 X Y->cK Y)
  (a1:∀X,cK X->X.cell? ⟨sb,0,none⟩=some (.iface 57 (.pointer A)))
  (HL:∀X,cK X->Calls Tryz.prog 82 #[.pointer A] X fun e w'=>e =.returned (.int .i64 E.length)/\X=w')
  (HP:∀X (i:Fin E.length),cK X->Calls Tryz.prog 83 #[.pointer A,.int .i64 i.val] X fun e w'=>e =.returned (.tuple #[.string (E.get i).1,(E.get i).2])/\Below X.heap.size X w')
  (J Jx:List (Fin E.length)->World->Prop) (W:World) (hG:cK W) (hJ:AbidesFrom W.heap.size J) (b2:AbidesFrom W.heap.size Jx)
  (hY:∀pre (x:Fin E.length) W1,J pre W1->pre.length<E.length->YieldAt Fence.wide (n - 1) Tryz.prog l #[.string (E.get x).1,(E.get x).2] W1 fun e W'=>
   (e =.returned (.bool true)/\J (pre ++ [x]) W'/\gv B B2 W1 W')\/(e =.returned (.bool false)/\Jx (pre ++ [x]) W'))
  (h0:J [] W) :
  CallsIn Fence.wide n Tryz.prog 110 #[.func (.yield l) #[] #[],.pointer (some ⟨sb,0,none⟩)] W fun e W'=>(∃v,e =.returned v)/\
   ((∃ys:List (Fin E.length),True/\J ys W')\/(∃pre:List (Fin E.length),True/\Jx pre W')):=by
 refine callsIn_of_wp Tryz.func110 rfl trivial ?_ rfl;simp only[Tryz.ntmps110,List.size_toArray,List.length_cons,List.length_nil,Nat.reduceAdd,Nat.reduceSub,Array.replicate_succ,Array.replicate_zero,List.push_toArray,List.append_toArray,List.nil_append,List.cons_append];have Hk:=Qa a9;have b1:=Qa a1;have b4:=Qa HL;have b3:=Qa HP;have HJ:=Qa hJ;have HY:=Qa hY;have Hg:=Qa hG;have H0:=Qa h0;have c0:=a1 W hG;unfold maxLen at hE;clear a9 a1 HL HP hJ hY hG h0 b2
 gi_wp2_with fail
 refine⟨fun _ _=>trivial,?_⟩;go_invoke
 gi_wp2_with fail
 refine(callsIn_wide.2 (b4.out W Hg.out)).mono ?_;rintro e w' ⟨rfl,rfl⟩
 gi_wp2_with fail
 gi_loopw [8] (fun s8 wr=> ∃ (i:Nat) (pre:List (Fin E.length)),s8 =.int .i64 i/\i<=E.length/\pre.length=i/\J pre wr/\cK wr) (fun s8 _=>E.length - (intOf s8).toNat)
 case atStart=>exact⟨0, [],rfl,Zj _,rfl,H0.out,Hg.out⟩
 case round=>
  obtain⟨i,pre,rfl,hi,a7,hj,hg⟩:=hrel;have Hj:=Qa hj;have a5:=Qa hg;have a6:=Qa a7;have c1:=b1.out wr hg;clear a7 hj hg
  by_cases hin:i<E.length
  ·have hp:=b3.out wr ⟨i,hin⟩ a5.out;have hy:=HY.out pre ⟨i,hin⟩
   dsimp only at hp
   generalize E.get ⟨i,hin⟩=x at hp hy;obtain⟨s,u⟩:=x
   dsimp only at hp hy
   have Hp:=Qa hp;have Hy:=Qa hy;have a2:=Qa hin;clear hp hy;have h':(i:Int)<E.length:=by omega
   have w1:IntKind.i64.wrap ((i:Int)+1)= (i:Int)+1:=IntWalk.i64_in _ (by omega)
   gi_wp2_with fail
   refine⟨fun _ _=>trivial,?_⟩;go_invoke
   gi_wp2_with fail
   refine(callsIn_wide.2 Hp.out).mono ?_;rintro e w3 ⟨rfl,a0⟩;have a3:J pre w3:=HJ.out _ _ _ none Hj.out ⟨a0.os,a0.tape,a0.output,a0.size,fun k hk _=>a0.block k hk⟩ (fun r e=>by cases e);have b6:=Qa (Hk.out _ _ a5.out (gv.of_below a0));obtain⟨fn,tmps,assign,body,hy,b5⟩:=Hy.out w3 a3 (by rw[a6.out];exact a2.out);clear a0
   gi_wp2_with fail
   refine b5.mono ?_;rintro e W3 (⟨rfl,a3,b0⟩|⟨rfl,a4⟩)
   ·gi_wp2
    refine⟨⟨i+1,_,rfl,a2.out,by rw[List.length_append,a6.out];rfl,a3,Hk.out _ _ b6.out b0⟩,?_⟩
    show E.length - ((i:Int)+1).toNat<E.length - ((i:Int)).toNat
    have:=a2.out;omega
   ·gi_wp2
    refine Zg (results_none rfl ..) rfl ?_;exact⟨⟨_,rfl⟩,.inr ⟨_,trivial,a4⟩⟩
  ·have h':¬ (i:Int)<E.length:=by omega
   gi_wp2_with fail
   go_end0;exact⟨⟨_,rfl⟩,.inl ⟨_,Hj.out⟩⟩
theorem Ch (n:Nat)(hn:1<=n)(l sb:Nat)(A:Option Addr)(E:List (ByteArray×Value))(hE:E.length<=maxLen)(B B2:Nat)(cK:World->Prop)(a9:∀X Y,cK X->gv B B2 X Y->cK Y)
  (a1:∀X,cK X->X.cell? ⟨sb,0,none⟩=some (.iface 130 (.pointer A)))
  (HL:∀X,cK X->Calls Tryz.prog 84 #[.pointer A] X fun e w'=>e =.returned (.int .i64 E.length)/\X=w')
  (HP:∀X (i:Fin E.length),cK X->Calls Tryz.prog 85 #[.pointer A,.int .i64 i.val] X fun e w'=>e =.returned (.tuple #[.string (E.get i).1,(E.get i).2])/\Below X.heap.size X w')
  (J Jx:List (Fin E.length)->World->Prop) (W:World) (hG:cK W) (hJ:AbidesFrom W.heap.size J) (b2:AbidesFrom W.heap.size Jx)
  (hY:∀pre (x:Fin E.length) W1,J pre W1->pre.length<E.length->YieldAt Fence.wide (n - 1) Tryz.prog l #[.string (E.get x).1,(E.get x).2] W1 fun e W'=>
   (e =.returned (.bool true)/\J (pre ++ [x]) W'/\gv B B2 W1 W')\/(e =.returned (.bool false)/\Jx (pre ++ [x]) W'))
  (h0:J [] W) :
  CallsIn Fence.wide n Tryz.prog 110 #[.func (.yield l) #[] #[],.pointer (some ⟨sb,0,none⟩)] W fun e W'=>(∃v,e =.returned v)/\
   ((∃ys:List (Fin E.length),True/\J ys W')\/(∃pre:List (Fin E.length),True/\Jx pre W')):=by
 refine callsIn_of_wp Tryz.func110 rfl trivial ?_ rfl;simp only[Tryz.ntmps110,List.size_toArray,List.length_cons,List.length_nil,Nat.reduceAdd,Nat.reduceSub,Array.replicate_succ,Array.replicate_zero,List.push_toArray,List.append_toArray,List.nil_append,List.cons_append];have Hk:=Qa a9;have b1:=Qa a1;have b4:=Qa HL;have b3:=Qa HP;have HJ:=Qa hJ;have HY:=Qa hY;have Hg:=Qa hG;have H0:=Qa h0;have c0:=a1 W hG;unfold maxLen at hE;clear a9 a1 HL HP hJ hY hG h0 b2
 gi_wp2_with fail
 refine⟨fun _ _=>trivial,?_⟩;go_invoke
 gi_wp2_with fail
 refine(callsIn_wide.2 (b4.out W Hg.out)).mono ?_;rintro e w' ⟨rfl,rfl⟩
 gi_wp2_with fail
 gi_loopw [8] (fun s8 wr=> ∃ (i:Nat) (pre:List (Fin E.length)),s8 =.int .i64 i/\i<=E.length/\pre.length=i/\J pre wr/\cK wr) (fun s8 _=>E.length - (intOf s8).toNat)
 case atStart=>exact⟨0, [],rfl,Zj _,rfl,H0.out,Hg.out⟩
 case round=>
  obtain⟨i,pre,rfl,hi,a7,hj,hg⟩:=hrel;have Hj:=Qa hj;have a5:=Qa hg;have a6:=Qa a7;have c1:=b1.out wr hg;clear a7 hj hg
  by_cases hin:i<E.length
  ·have hp:=b3.out wr ⟨i,hin⟩ a5.out;have hy:=HY.out pre ⟨i,hin⟩
   dsimp only at hp
   generalize E.get ⟨i,hin⟩=x at hp hy;obtain⟨s,u⟩:=x
   dsimp only at hp hy
   have Hp:=Qa hp;have Hy:=Qa hy;have a2:=Qa hin;clear hp hy;have h':(i:Int)<E.length:=by omega
   have w1:IntKind.i64.wrap ((i:Int)+1)= (i:Int)+1:=IntWalk.i64_in _ (by omega)
   gi_wp2_with fail
   refine⟨fun _ _=>trivial,?_⟩;go_invoke
   gi_wp2_with fail
   refine(callsIn_wide.2 Hp.out).mono ?_;rintro e w3 ⟨rfl,a0⟩;have a3:J pre w3:=HJ.out _ _ _ none Hj.out ⟨a0.os,a0.tape,a0.output,a0.size,fun k hk _=>a0.block k hk⟩ (fun r e=>by cases e);have b6:=Qa (Hk.out _ _ a5.out (gv.of_below a0));obtain⟨fn,tmps,assign,body,hy,b5⟩:=Hy.out w3 a3 (by rw[a6.out];exact a2.out);clear a0
   gi_wp2_with fail
   refine b5.mono ?_;rintro e W3 (⟨rfl,a3,b0⟩|⟨rfl,a4⟩)
   ·gi_wp2
    refine⟨⟨i+1,_,rfl,a2.out,by rw[List.length_append,a6.out];rfl,a3,Hk.out _ _ b6.out b0⟩,?_⟩
    show E.length - ((i:Int)+1).toNat<E.length - ((i:Int)).toNat
    have:=a2.out;omega
   ·gi_wp2
    refine Zg (results_none rfl ..) rfl ?_;exact⟨⟨_,rfl⟩,.inr ⟨_,trivial,a4⟩⟩
  ·have h':¬ (i:Int)<E.length:=by omega
   gi_wp2_with fail
   go_end0;exact⟨⟨_,rfl⟩,.inl ⟨_,Hj.out⟩⟩
theorem p8 {t:TypeId}:Calls Tryz.prog 80 #[.iface t x] w fun e w'=>e =.returned (.func (.func 110) #[] #[.pointer (some ⟨w.heap.size,0,none⟩)])/\w.alloc (.cells #[.iface t x] 138)=w':=by
 go_enter Tryz.func80,Tryz.ntmps80;go_wp2;go_ret;exact⟨rfl,rfl⟩
attribute [local go_sem] Oper.semAt_some
def ut (us:List Value):List (ByteArray×Value):=us.mapIdx fun i u=>(⟨(Lib.itoa i).toArray⟩,u)
theorem zL (us:List Value):(ut us).length=us.length:=by simp[ut]
theorem BW (us:List Value)(i:Fin (ut us).length):∃u,us[i.val]?=some u/\(ut us).get i= (⟨(Lib.itoa i.val).toArray⟩,u):=by
 have hi:i.val<us.length:=by have h1:=i.isLt;have h2:=zL us;omega
 exact⟨us[i.val],Zc hi,by
  show(ut us)[i.val]'i.isLt=_
  simp only[ut,List.getElem_mapIdx]⟩
def I5 (w X:World):Prop:= ∀ (g:Nat) cs t z,w.heap[g]?=some (Obj.cells cs t z)->X.heap[g]?=some (Obj.cells cs t z)
theorem dl.kp (h:dl P w A us ks)(hk:I5 w X):dl P X A us ks:=by
 rcases h with h|⟨g,R,c,e,hg,hr,hl⟩
 ·exact .inl h
 ·exact .inr ⟨g,R,c,e,hk _ _ _ _ hg,hr.stay fun g o hp hg _ ⟨cs,z,ho⟩=>⟨hp,by subst ho;exact hk _ _ _ _ hg⟩,hl⟩
theorem fa.kp (h:fa P w A us ns ks)(hk:I5 w X):fa P X A us ns ks:=by
 obtain⟨g,R,c,e,hg,hr,hl⟩:=h;exact⟨g,R,c,e,hk _ _ _ _ hg,hr.stay fun g o hp hg _ ⟨cs,z,ho⟩=>⟨hp,by subst ho;exact hk _ _ _ _ hg⟩,hl⟩
theorem du.kp (h:du w)(hk:I5 w X):du X:=by
 have hg:Tryz.prog.globalNamed "internal/strconv.uint64pow10" = some 11:=by kernel_rfl
 unfold du Lib.TabIs World.var? at h ⊢;rw[hg] at h ⊢;simp only[Option.bind_some] at h ⊢;rcases ho:w.heap[(11:Nat)]? with _|o
 ·rw[ho] at h;cases h
 ·rw[ho] at h
  cases o with
  |cells cs t z=>rw[hk _ _ _ _ ho];exact h
  |_=>cases h
def E2 (w:World)(n:Nat)(pre:List (Fin n))(W:World):Prop:=Bx W w.heap.size 4 (.bool false)/\Below w.heap.size w W
theorem nI (h:dl P w A us ks)(hT:du w)
  (H:∀ (i:Nat) v k,us[i]?=some v->ks[i]?=some k->∀w1,Below w.heap.size w w1->Calls Tryz.prog 42 #[v] w1 fun e w'=>e =.returned (.bool false)/\Below w1.heap.size w1 w') :
  CallsIn Fence.wide 9 Tryz.prog 42 #[.iface 57 (.pointer A)] w fun e w'=>e =.returned (.bool false)/\Below w.heap.size w w':=by
 have k1:=jl;have Hh:=Qa h;have HT:=Qa hT;have HH:=Qa H;clear h hT H;refine callsIn_of_wp_marks Tryz.func42 rfl trivial ?_ rfl;simp only[Tryz.ntmps42,List.size_toArray,List.length_cons,List.length_nil,Nat.reduceAdd,Nat.reduceSub,Array.replicate_succ,Array.replicate_zero,List.push_toArray,List.append_toArray,List.nil_append,List.cons_append];have Hk:=Qa (Bx.new w 4 (.bool false));have a2:=Qa (show Below w.heap.size w (w.alloc (.cells #[.bool false] 4)) from(Zd _ _).alloc (Za _) _)
 gi_wp2_with fail
 obtain⟨W0,b4⟩:∃W0,w.alloc (.cells #[.bool false] 4)=W0:=⟨_,rfl⟩;have a3:W0.heap.size=w.heap.size+1:=by rw[<-b4];simp
 rw[b4] at Hk a2 ⊢;have a5:=Qa a3;clear b4 a3;refine⟨fun _ _=>trivial,?_⟩;go_invoke
 gi_wp2_with fail
 refine(callsIn_wide.2 eB).mono ?_;rintro e w1 ⟨rfl,b9⟩;have a7:=Qa b9;clear b9
 gi_wp2_with fail
 refine⟨trivial,?_⟩;refine(callsIn_wide.2 p8).mono ?_;rintro e w2 ⟨rfl,rfl⟩;have a1:W0.heap.size<=w1.heap.size:=a7.out.size;have b0:=ac w1 (.cells #[.iface 57 (.pointer A)] 138);have b8:=Ze w1 (.cells #[.iface 57 (.pointer A)] 138);obtain⟨W1,b3⟩:∃W1,w1.alloc (.cells #[.iface 57 (.pointer A)] 138)=W1:=⟨_,rfl⟩;have a4:W1.heap.size=w1.heap.size+1:=by rw[<-b3];simp
 rw[b3] at b0 b8 ⊢;clear b3;have c0:E2 w (ut us).length [] W1:=⟨(Hk.out.later a7.out).later b0,a2.out.trans ((a7.out.mono a2.out.size).trans (b0.mono (Zb a2.out.size a7.out.size)))⟩;have c2:=Qa c0;have b7:=Qa a4;have c6:=Qa b8;have a0:=Qa a1;clear b0 b8 c0 a4 a1 Hk a2 a7
 gi_wp2
 have b2:∀X,gv w.heap.size (w.heap.size+1) W1 X->I5 w X:=fun X hX g cs t z hg=>hX g cs t z (.inl (ae hg)) ((c2.out.2.block g (ae hg)).trans hg)
 have b1:=Qa b2;have c3:=Qa (zL us);have d2:=Qa Hh.out.bd;have a6:SeqStopsK Fence.wide (9 - 1) Tryz.prog 110 #[.pointer (some ⟨w1.heap.size,0,none⟩)] (fun x:Fin (ut us).length=> #[.string ((ut us).get x).1,((ut us).get x).2]) (gv w.heap.size (w.heap.size+1)) (fun _=>True) (fun _=>True) (ut us).length W1:=by
  intro l J Jx W hW hJ d1 hY h0;refine D4 (9 - 1) (by omega) l w1.heap.size A (ut us) (by rw[c3.out];exact d2.out) w.heap.size (w.heap.size+1) (gv w.heap.size (w.heap.size+1) W1) (fun X Y h1 h2=>h1.t h2) (fun X hX=>?_) (fun X hX=>?_) (fun X k hX=>?_) J Jx W (gv.of_below hW) hJ d1 hY h0
  ·exact aa (hX _ _ _ _ (.inr (by have:=a0.out;have:=a5.out;omega)) c6.out) (j:=0) rfl
  ·rw[c3.out];exact d8 (Hh.out.kp (b1.out X hX))
  ·obtain⟨u,hu,he⟩:=BW us k;rw[he];exact eN (Hh.out.kp (b1.out X hX)) (HT.out.kp (b1.out X hX)) k.val hu
 have b5:=Qa a6;clear b2 a6;have c7:w.heap.size+2<=W1.heap.size:=by have:=b7.out;have:=a0.out;have:=a5.out;omega
 refine wpIn_rangeFunc_ownF rfl (by omega) (gf:=110) (lb:= #[.pointer (some ⟨w1.heap.size,0,none⟩)]) (by simp[Act.eval]) trivial (enters_of Tryz.func110 (by kernel_rfl) rfl)
  b5.out
  (fun h k=>h.t k) (fun W l o o' _ h ho _=>gv.b W l o o' h ho) (Zd _ _) (fun _=>rfl)
  (E2 w (ut us).length) (fun _ _ _=>False) ?hI ?hIx c2.out
  (fun x=>{tmps:= #[.iface 57 (.pointer A),undef,.pointer (some ⟨w.heap.size,0,none⟩),.iface 57 (.pointer A),.bool true,undef,((ut us).get x).2,.iface 57 (.pointer A),.int .i64 5,.bool false,.tuple #[.iface 57 (.pointer A),.bool true],.iface 57 (.pointer A),.tuple #[.iface 57 (.pointer A),.bool true],.iface 57 (.pointer A),.bool true,.bool true,.iface 57 (.pointer A),.func (.func 110) #[] #[.pointer (some ⟨w1.heap.size,0,none⟩)],.string ((ut us).get x).1,((ut us).get x).2,undef,undef],defers:= []}) ?assign ?body ?done ?stop
 case hI=>
  intro s A B row hs hg hr;exact⟨hs.1.kept hg (fun r e=>(hr r e).2),hs.2.grown hg hs.2.size (fun k e=>by have:=(hr k e).1;omega)⟩
 case hIx=>exact fun _ _ _ _ _ hs _ _=>hs
 case assign=>
  intro l x W K hK;generalize (ut us).get x=y at hK ⊢;obtain⟨y1,y2⟩:=y
  dsimp only at hK ⊢
  gi_wp2
  exact hK
 case body=>
  rintro l pre x W ⟨hk,hB⟩ hN;obtain⟨u,hu,he⟩:=BW us x;have d0:x.val<ks.length:=by rw[<-Hh.out.len];exact(List.getElem?_eq_some_iff.1 hu).1
  have Hc:=Qa (HH.out x.val u _ hu (Zc d0) W hB)
  try dsimp only
  rw[he];have c8:=Qa hk;have c1:=Qa hB;clear hk hB
  gi_wp2_with fail
  refine⟨trivial,?_⟩;refine(CallsIn.inRound l (callsIn_wide.2 Hc.out)).mono ?_;rintro e W2 ⟨rfl,c4⟩;have a9:=Qa c4;clear c4
  gi_wp2
  exact⟨oD a9.out,gv.of_below a9.out,c8.out.later a9.out,c1.out.trans (a9.out.mono c1.out.size)⟩
 case done=>
  rintro D ys W hD - ⟨hk,hB⟩ hK;have b2:=hk.cell;have d3:=hk.frozen
  gi_wp2
  have hne:w.heap.size≠D:=by omega
  have c5:(W.setCell ⟨w.heap.size,0,none⟩ (.bool false)).heap[D]?=some (.deferred (some [])):=(Below.heap_setCell W _ _ D (fun e=>hne e.symm)).trans hK;have b6:=hk.set (.bool false);refine⟨by simp,.inl ⟨_,_,rfl,run_takeDeferred c5,?_⟩⟩;have c9:((W.setCell ⟨w.heap.size,0,none⟩ (.bool false)).putObj D (.deferred none)).cell? ⟨w.heap.size,0,none⟩=some (.bool false):=by
   rw[World.cell?_of_block (w:=W.setCell ⟨w.heap.size,0,none⟩ (.bool false)) (World.putObj_heap_other hne)];exact b6.cell
  refine⟨.bool false,?_,rfl,?_⟩
  ·simp[results,Tryz.results42,go_sem,c9]
  ·exact(hB.setCell (p:=⟨w.heap.size,0,none⟩) (Za _) _).trans (belowK_b (w:=w) (Za _) _ D _ _ (by omega) c5 rfl rfl)
 case stop=>
  rintro D c pre W hD _ h _;exact h.elim
attribute [local go_sem] Oper.semAt_some
def tD (ns:List ByteArray)(us:List Value):List (ByteArray×Value):=ns.zip us
theorem zD (h:ns.length=us.length):(tD ns us).length=us.length:=by simp[tD,h]
theorem DY (h:ns.length=us.length)(i:Fin (tD ns us).length):∃u s,us[i.val]?=some u/\ns[i.val]?=some s/\(tD ns us).get i= (s,u):=by
 have hi:i.val<us.length:=by have h1:=i.isLt;have h2:=zD h;omega
 have hj:i.val<ns.length:=by omega
 exact⟨us[i.val],ns[i.val],Zc hi,Zc hj,by
  show(tD ns us)[i.val]'i.isLt=_
  simp only[tD,List.getElem_zip]⟩
theorem Al (h:fa P w A us ns ks)
  (H:∀ (i:Nat) v k,us[i]?=some v->ks[i]?=some k->∀w1,Below w.heap.size w w1->Calls Tryz.prog 42 #[v] w1 fun e w'=>e =.returned (.bool false)/\Below w1.heap.size w1 w') :
  CallsIn Fence.wide 9 Tryz.prog 42 #[.iface 130 (.pointer A)] w fun e w'=>e =.returned (.bool false)/\Below w.heap.size w w':=by
 have k1:=ki;have Hh:=Qa h;have b1:=Qa (show ns.length=us.length by rw[h.names,h.len]);have HH:=Qa H;clear h H;refine callsIn_of_wp_marks Tryz.func42 rfl trivial ?_ rfl;simp only[Tryz.ntmps42,List.size_toArray,List.length_cons,List.length_nil,Nat.reduceAdd,Nat.reduceSub,Array.replicate_succ,Array.replicate_zero,List.push_toArray,List.append_toArray,List.nil_append,List.cons_append];have Hk:=Qa (Bx.new w 4 (.bool false));have a2:=Qa (show Below w.heap.size w (w.alloc (.cells #[.bool false] 4)) from(Zd _ _).alloc (Za _) _)
 gi_wp2_with fail
 obtain⟨W0,b4⟩:∃W0,w.alloc (.cells #[.bool false] 4)=W0:=⟨_,rfl⟩;have a3:W0.heap.size=w.heap.size+1:=by rw[<-b4];simp
 rw[b4] at Hk a2 ⊢;have a5:=Qa a3;clear b4 a3;refine⟨fun _ _=>trivial,?_⟩;go_invoke
 gi_wp2_with fail
 refine(callsIn_wide.2 gU).mono ?_;rintro e w1 ⟨rfl,b9⟩;have a7:=Qa b9;clear b9
 gi_wp2_with fail
 refine⟨trivial,?_⟩;refine(callsIn_wide.2 p8).mono ?_;rintro e w2 ⟨rfl,rfl⟩;have a1:W0.heap.size<=w1.heap.size:=a7.out.size;have b0:=ac w1 (.cells #[.iface 130 (.pointer A)] 138);have b8:=Ze w1 (.cells #[.iface 130 (.pointer A)] 138);obtain⟨W1,b3⟩:∃W1,w1.alloc (.cells #[.iface 130 (.pointer A)] 138)=W1:=⟨_,rfl⟩;have a4:W1.heap.size=w1.heap.size+1:=by rw[<-b3];simp
 rw[b3] at b0 b8 ⊢;clear b3;have c1:E2 w (tD ns us).length [] W1:=⟨(Hk.out.later a7.out).later b0,a2.out.trans ((a7.out.mono a2.out.size).trans (b0.mono (Zb a2.out.size a7.out.size)))⟩;have c3:=Qa c1;have b7:=Qa a4;have c7:=Qa b8;have a0:=Qa a1;clear b0 b8 c1 a4 a1 Hk a2 a7
 gi_wp2
 have b2:∀X,gv w.heap.size (w.heap.size+1) W1 X->I5 w X:=fun X hX g cs t z hg=>hX g cs t z (.inl (ae hg)) ((c3.out.2.block g (ae hg)).trans hg)
 have c0:=Qa b2;have c4:=Qa (zD b1.out);have d3:=Qa Hh.out.bd;have a6:SeqStopsK Fence.wide (9 - 1) Tryz.prog 110 #[.pointer (some ⟨w1.heap.size,0,none⟩)] (fun x:Fin (tD ns us).length=> #[.string ((tD ns us).get x).1,((tD ns us).get x).2]) (gv w.heap.size (w.heap.size+1)) (fun _=>True) (fun _=>True) (tD ns us).length W1:=by
  intro l J Jx W hW hJ d2 hY h0;refine Ch (9 - 1) (by omega) l w1.heap.size A (tD ns us) (by rw[c4.out];exact d3.out) w.heap.size (w.heap.size+1) (gv w.heap.size (w.heap.size+1) W1) (fun X Y h1 h2=>h1.t h2) (fun X hX=>?_) (fun X hX=>?_) (fun X k hX=>?_) J Jx W (gv.of_below hW) hJ d2 hY h0
  ·exact aa (hX _ _ _ _ (.inr (by have:=a0.out;have:=a5.out;omega)) c7.out) (j:=0) rfl
  ·rw[c4.out];exact eX (Hh.out.kp (c0.out X hX))
  ·obtain⟨u,s,hu,hs,he⟩:=DY b1.out k;rw[he];exact fE (Hh.out.kp (c0.out X hX)) k.val hu hs
 have b5:=Qa a6;clear b2 a6;have c8:w.heap.size+2<=W1.heap.size:=by have:=b7.out;have:=a0.out;have:=a5.out;omega
 refine wpIn_rangeFunc_ownF rfl (by omega) (gf:=110) (lb:= #[.pointer (some ⟨w1.heap.size,0,none⟩)]) (by simp[Act.eval]) trivial (enters_of Tryz.func110 (by kernel_rfl) rfl)
  b5.out
  (fun h k=>h.t k) (fun W l o o' _ h ho _=>gv.b W l o o' h ho) (Zd _ _) (fun _=>rfl)
  (E2 w (tD ns us).length) (fun _ _ _=>False) ?hI ?hIx c3.out
  (fun x=>{tmps:= #[.iface 130 (.pointer A),undef,.pointer (some ⟨w.heap.size,0,none⟩),.iface 130 (.pointer A),.bool true,undef,((tD ns us).get x).2,.iface 130 (.pointer A),.int .i64 6,.bool false,.tuple #[.iface 130 (.pointer A),.bool true],.iface 130 (.pointer A),.tuple #[.iface 130 (.pointer A),.bool true],.iface 130 (.pointer A),.bool true,.bool true,.iface 130 (.pointer A),.func (.func 110) #[] #[.pointer (some ⟨w1.heap.size,0,none⟩)],.string ((tD ns us).get x).1,((tD ns us).get x).2,undef,undef],defers:= []}) ?assign ?body ?done ?stop
 case hI=>
  intro s A B row hs hg hr;exact⟨hs.1.kept hg (fun r e=>(hr r e).2),hs.2.grown hg hs.2.size (fun k e=>by have:=(hr k e).1;omega)⟩
 case hIx=>exact fun _ _ _ _ _ hs _ _=>hs
 case assign=>
  intro l x W K hK;generalize (tD ns us).get x=y at hK ⊢;obtain⟨y1,y2⟩:=y
  dsimp only at hK ⊢
  gi_wp2
  exact hK
 case body=>
  rintro l pre x W ⟨hk,hB⟩ hN;obtain⟨u,s,hu,hs,he⟩:=DY b1.out x;have d1:x.val<ks.length:=by rw[<-Hh.out.len];exact(List.getElem?_eq_some_iff.1 hu).1
  have Hc:=Qa (HH.out x.val u _ hu (Zc d1) W hB)
  try dsimp only
  rw[he];have c9:=Qa hk;have c2:=Qa hB;clear hk hB
  gi_wp2_with fail
  refine⟨trivial,?_⟩;refine(CallsIn.inRound l (callsIn_wide.2 Hc.out)).mono ?_;rintro e W2 ⟨rfl,c5⟩;have a9:=Qa c5;clear c5
  gi_wp2
  exact⟨oD a9.out,gv.of_below a9.out,c9.out.later a9.out,c2.out.trans (a9.out.mono c2.out.size)⟩
 case done=>
  rintro D ys W hD - ⟨hk,hB⟩ hK;have b2:=hk.cell;have d4:=hk.frozen
  gi_wp2
  have hne:w.heap.size≠D:=by omega
  have c6:(W.setCell ⟨w.heap.size,0,none⟩ (.bool false)).heap[D]?=some (.deferred (some [])):=(Below.heap_setCell W _ _ D (fun e=>hne e.symm)).trans hK;have b6:=hk.set (.bool false);refine⟨by simp,.inl ⟨_,_,rfl,run_takeDeferred c6,?_⟩⟩;have d0:((W.setCell ⟨w.heap.size,0,none⟩ (.bool false)).putObj D (.deferred none)).cell? ⟨w.heap.size,0,none⟩=some (.bool false):=by
   rw[World.cell?_of_block (w:=W.setCell ⟨w.heap.size,0,none⟩ (.bool false)) (World.putObj_heap_other hne)];exact b6.cell
  refine⟨.bool false,?_,rfl,?_⟩
  ·simp[results,Tryz.results42,go_sem,d0]
  ·exact(hB.setCell (p:=⟨w.heap.size,0,none⟩) (Za _) _).trans (belowK_b (w:=w) (Za _) _ D _ _ (by omega) c6 rfl rfl)
 case stop=>
  rintro D c pre W hD _ h _;exact h.elim
theorem yJ:Calls Tryz.prog 42 #[.iface 58 (.agg #[])] w fun e w'=>e =.returned (.bool false)/\Below w.heap.size w w':=by
 have k1:=jd;have a2:=Qa (show Below w.heap.size w (w.alloc (.cells #[.bool false] 4)) from(Zd _ _).alloc (Za _) _);have Hk:=Qa (Bx.new w 4 (.bool false));go_enter Tryz.func42,Tryz.ntmps42;go_wp2_with fail;(with_reducible refine gR.mono ?_);rintro e w1 ⟨rfl,a1⟩;have a4:=Qa (a2.out.trans (a1.mono a2.out.size));have a0:=Hk.out.later a1;have a7:=a0.cell;have a6:=a0.frozen;have a3:=Qa (a0.set (.bool false)).cell;clear a1 a0;go_wp2_with fail;refine Zg (v:=.bool false) ?_ rfl ⟨rfl,a4.out.setCell (p:=⟨w.heap.size,0,none⟩) (Za _) _⟩;have a5:=a3.out;simp[results,Tryz.results42,go_sem,a5]
theorem yC {b:Bool}:Calls Tryz.prog 42 #[.iface 59 (.bool b)] w fun e w'=>e =.returned (.bool false)/\Below w.heap.size w w':=by
 have k1:=my;have a2:=Qa (show Below w.heap.size w (w.alloc (.cells #[.bool false] 4)) from(Zd _ _).alloc (Za _) _);have Hk:=Qa (Bx.new w 4 (.bool false));go_enter Tryz.func42,Tryz.ntmps42;go_wp2_with fail;(with_reducible refine ik.mono ?_);rintro e w1 ⟨rfl,a1⟩;have a4:=Qa (a2.out.trans (a1.mono a2.out.size));have a0:=Hk.out.later a1;have a7:=a0.cell;have a6:=a0.frozen;have a3:=Qa (a0.set (.bool false)).cell;clear a1 a0;go_wp2_with fail;refine Zg (v:=.bool false) ?_ rfl ⟨rfl,a4.out.setCell (p:=⟨w.heap.size,0,none⟩) (Za _) _⟩;have a5:=a3.out;simp[results,Tryz.results42,go_sem,a5]
theorem AA:Calls Tryz.prog 42 #[.iface 127 (.agg cs)] w fun e w'=>e =.returned (.bool false)/\Below w.heap.size w w':=by
 have k1:=od;have a2:=Qa (show Below w.heap.size w (w.alloc (.cells #[.bool false] 4)) from(Zd _ _).alloc (Za _) _);have Hk:=Qa (Bx.new w 4 (.bool false));go_enter Tryz.func42,Tryz.ntmps42;go_wp2_with fail;(with_reducible refine i1.mono ?_);rintro e w1 ⟨rfl,a1⟩;have a4:=Qa (a2.out.trans (a1.mono a2.out.size));have a0:=Hk.out.later a1;have a7:=a0.cell;have a6:=a0.frozen;have a3:=Qa (a0.set (.bool false)).cell;clear a1 a0;go_wp2_with fail;refine Zg (v:=.bool false) ?_ rfl ⟨rfl,a4.out.setCell (p:=⟨w.heap.size,0,none⟩) (Za _) _⟩;have a5:=a3.out;simp[results,Tryz.results42,go_sem,a5]
theorem yv {s:ByteArray}:Calls Tryz.prog 42 #[.iface 40 (.string s)] w fun e w'=>e =.returned (.bool false)/\Below w.heap.size w w':=by
 have k1:=mc;have a2:=Qa (show Below w.heap.size w (w.alloc (.cells #[.bool false] 4)) from(Zd _ _).alloc (Za _) _);have Hk:=Qa (Bx.new w 4 (.bool false));go_enter Tryz.func42,Tryz.ntmps42;go_wp2_with fail;(with_reducible refine gQ.mono ?_);rintro e w1 ⟨rfl,a1⟩;have a4:=Qa (a2.out.trans (a1.mono a2.out.size));have a0:=Hk.out.later a1;have a7:=a0.cell;have a6:=a0.frozen;have a3:=Qa (a0.set (.bool false)).cell;clear a1 a0;go_wp2_with fail;refine Zg (v:=.bool false) ?_ rfl ⟨rfl,a4.out.setCell (p:=⟨w.heap.size,0,none⟩) (Za _) _⟩;have a5:=a3.out;simp[results,Tryz.results42,go_sem,a5]
theorem AL (h:VW P w v j)(hT:du w):Tx j->∀w1,Below w.heap.size w w1->Calls Tryz.prog 42 #[v] w1 fun e w'=>e =.returned (.bool false)/\Below w1.heap.size w1 w':=by
 induction h with
 |null=>intro _ w1 _;exact yJ
 |bool b=>intro _ w1 _;exact yC
 |num d=>intro _ w1 _;exact AA
 |text s=>intro _ w1 _;exact yv
 |hole=>intro tx;cases tx
 |bare=>
  intro tx w1 h1;refine callsIn_wide.1 (nI (P:=P) (us:= []) (ks:= []) (.inl ⟨rfl,rfl,rfl⟩) (hT.below h1) fun i v k e1=>?_);simp at e1
 |list g A c us ks hp hg hr hl hks ih=>
  intro tx w1 h1;have hk:∀u∈ks,Tx u:=by cases tx;assumption
  have hL:dl P w (some ⟨g,0,none⟩) us ks:=.inr ⟨g,A,c,rfl,hg,hr,hl⟩;exact callsIn_wide.1 (nI (hL.below h1) (hT.below h1) fun i v k e1 e2 w2 h2=>ih i v k e1 e2 (hk k (Zk e2)) w2 (h1.trans (h2.mono h1.size)))
 |obj g A c us ns ks hp hg hr hl hn hks ih=>
  intro tx w1 h1;have hk:∀u∈ks,Tx u:=by cases tx;assumption
  have hL:fa P w (some ⟨g,0,none⟩) us ns ks:=⟨g,A,c,rfl,hg,hr,hl,hn⟩;exact callsIn_wide.1 (Al (hL.below h1) fun i v k e1 e2 w2 h2=>ih i v k e1 e2 (hk k (Zk e2)) w2 (h1.trans (h2.mono h1.size)))
theorem xZ (p q:Value)(w:World):CallsD Tryz.prog 43 #[p,q] .returning w fun e u' w'=>e =.returned (.tuple #[])/\u' =.returning/\w'=w:=by
 refine callsD_of_wpS Tryz.func43 rfl fun c₀ cs hu=>?_
 apply wpS_seq
 apply wpS_region
 simp[wpOpsS,go_sem,recoverD,hu,Tryz.ntmps43,Exit.thenS];apply wpS_seq;apply wpS_region;simp[wpOpsS,go_sem,Exit.thenS];refine wpS_cond (t:=false) (by simp[Act.eval,Array.replicate]) ?_;simp only[Bool.false_eq_true,if_false];refine wpS_of_wp (wp_skip ?_)
 cases c₀
 simp_all [bodyPostS,results,Tryz.results43]
theorem sC {x0:Value}(h0:w2.heap[w.heap.size]?=some (.cells #[x0] t0 (0,0)))(h1:w2.heap[w.heap.size+1]?=some (.cells #[x1] t1 (0,0)))(hb:Below w.heap.size w w2)(y0 y1:Value) :
  Below w.heap.size w ((w2.setCell ⟨w.heap.size,0,none⟩ y0).setCell ⟨w.heap.size+1,0,none⟩ y1)/\((w2.setCell ⟨w.heap.size,0,none⟩ y0).setCell ⟨w.heap.size+1,0,none⟩ y1).cell? ⟨w.heap.size,0,none⟩=some y0/\
   ((w2.setCell ⟨w.heap.size,0,none⟩ y0).setCell ⟨w.heap.size+1,0,none⟩ y1).cell? ⟨w.heap.size+1,0,none⟩=some y1:=by
 have a0:=aw h0 0 y0;have a1:=av w2 (w.heap.size+1) w.heap.size 0 y0 _ _ (by omega) h1;have b0:=av _ w.heap.size (w.heap.size+1) 0 y1 _ _ (by omega) a0;have b1:=aw a1 0 y1;exact⟨(hb.setCell (p:=⟨w.heap.size,0,none⟩) (Za _) _).setCell (p:=⟨w.heap.size+1,0,none⟩) (Nat.le_succ _) _,aa b0 (j:=0) rfl,aa b1 (j:=0) rfl⟩
def Gt (l:List UInt8)(w:World)(e:Ending)(w':World):Prop:= ∃v,e =.returned (.tuple #[v,.nilIface])/\au w' w.heap.size v l/\Below w.heap.size w w'
theorem jN (h:VW P w v j)(hT:du w)(hG:cR w aU aE)(tx:Tx j)(sz:Sz j)(hl:(JV.txt j).length<=140737488355328):Calls Tryz.prog 17 #[v] w (Gt (JV.txt j) w):=by
 have b2:∀ (fn:Fn) (first cap:Array Value) (w:World),(Instr.makeFunc fn first cap).run Tryz.prog w =.ok (.func fn first cap) w:=fun _ _ _ _=>rfl
 have a5:Below w.heap.size w ((w.alloc (.cells #[.slice none 0 0] 22)).alloc (.cells #[.nilIface] 49)):=((Zd _ _).alloc (Za _) _).alloc (by simp) _;have h0:((w.alloc (.cells #[.slice none 0 0] 22)).alloc (.cells #[.nilIface] 49)).heap[w.heap.size]?=some (.cells #[.slice none 0 0] 22 (0,0)):=(Below.heap_alloc _ _ _ (by simp)).trans (Ze w _);have h1:((w.alloc (.cells #[.slice none 0 0] 22)).alloc (.cells #[.nilIface] 49)).heap[w.heap.size+1]?=some (.cells #[.nilIface] 49 (0,0)):=by
  have:=Ze (w.alloc (.cells #[.slice none 0 0] 22)) (.cells #[.nilIface] 49)
  rwa[World.size_alloc] at this
 have hz:((w.alloc (.cells #[.slice none 0 0] 22)).alloc (.cells #[.nilIface] 49)).heap.size=w.heap.size+2:=by simp
 have a4:=Qa a5;have H0:=Qa h0;have H1:=Qa h1;have Hz:=Qa hz;have b1:=Qa (fun w1 (hw:Below w.heap.size w w1)=>AL h hT tx w1 hw);have a2:=Qa (fun w1 (hw:Below w.heap.size w w1)=>Da (h.later hw) (hT.below hw) (hG.below hw) tx sz w1 (.slice none 0 0) [] (Zd _ _) (au.nil _ _) (by simpa using hl));obtain⟨t1,x1,rfl⟩:=h.iface;clear a5 h0 h1 hz h hT hG tx sz hl;generalize JV.txt j=tl at *;go_enter_defers Tryz.func17,Tryz.ntmps17;go_wp2_with fail;generalize (w.alloc (.cells #[.slice none 0 0] 22)).alloc (.cells #[.nilIface] 49)=w1 at *;refine(b1.out w1 a4.out).mono ?_;rintro e w2 ⟨rfl,a0⟩;have a3:=Qa (a4.out.trans (a0.mono a4.out.size));have G0:=Qa (aj H0.out a0);have G1:=Qa (aj H1.out a0);have a6:=Qa (show w.heap.size+2<=w2.heap.size by have:=Hz.out;have:=a0.size;omega);clear a0;go_wp2_with fail;refine(a2.out w2 a3.out).mono ?_;rintro e w3 ⟨v,rfl,ho,a1⟩;rw[List.nil_append] at ho;have Ho:=Qa ho;have a9:=Qa (a3.out.trans (a1.mono a3.out.size));have g0:=aj G0.out a1;have g1:=aj G1.out a1;have G03:=Qa g0;have G13:=Qa g1;have c0:=aa g0 (j:=0) (u:=.slice none 0 0) rfl;have f0:=am g0 0;have c1:=aa g1 (j:=0) (u:=.nilIface) rfl;have f1:=am g1 0;obtain⟨A,q,rfl,-⟩:=ah ho;clear g0 g1 a1 ho;go_wp2_with fail;obtain⟨a7,d0,d1⟩:=sC G03.out G13.out a9.out (.slice A tl.length q) .nilIface;have b0:au ((w3.setCell ⟨w.heap.size,0,none⟩ (.slice A tl.length q)).setCell ⟨w.heap.size+1,0,none⟩ .nilIface) w.heap.size (.slice A tl.length q) tl:=by
  have hz:=a6.out;have h1:=Ho.out.stayB (br.set w.heap.size 0 (.slice A tl.length q)) (fun b hb e=>by have:=(au.blk Ho.out hb).1;omega);have h2:=h1.stayB (br.set (w.heap.size+1) 0 .nilIface) (fun b hb e=>by have:=(au.blk h1 hb).1;omega);exact bV h2 (by omega)
 clear c0 c1 f0 f1;generalize (w3.setCell ⟨w.heap.size,0,none⟩ (.slice A tl.length q)).setCell ⟨w.heap.size+1,0,none⟩ .nilIface=w4 at *;refine leaves_cons (f:=43) (args:= #[.pointer (some ⟨w.heap.size,0,none⟩),.pointer (some ⟨w.heap.size+1,0,none⟩)]) (by simp) (by simp[go_sem]) ?_;refine(xZ _ _ _).mono ?_;rintro e u' w'' ⟨rfl,rfl,rfl⟩;simp[Leaves,settle,results,Tryz.results17,go_sem,d0,d1];exact⟨_,rfl,b0,a7⟩
open Classical in
noncomputable def wM (a b:JV):Bool:=decide (a=b)
theorem dy {a b:JV}:wM a b=true↔a=b:=by unfold wM;simp
theorem lK {a b:JV}:wM a b=false↔a≠b:=by unfold wM;simp
theorem lO {α:Type}{l m:List α}{x:α}(h:l.take i=m.take i)(h1:l[i]?=some x)(h2:m[i]?=some x):l.take (i+1)=m.take (i+1):=by
 rw[List.take_add_one,List.take_add_one,h,h1,h2]
def IZ (W:World)(ks ks':List JV)(s17:Value)(wr:World):Prop:= ∃i:Nat,s17 =.int .i64 i/\i<=ks.length/\ks.take i=ks'.take i/\Below W.heap.size W wr
theorem qY {B:Option Addr}(ha:dl P w A us ks)(hb:dl Q w B us' ks')(hT:du w)(hr:r=true↔ks=ks')
  (H:∀ (i:Nat) u u' k k',us[i]?=some u->ks[i]?=some k->us'[i]?=some u'->ks'[i]?=some k'->∀w1,Below w.heap.size w w1->Calls Tryz.prog 40 #[u,u'] w1 fun e w'=>e =.returned (.bool (wM k k'))/\Below w1.heap.size w1 w') :
  Calls Tryz.prog 77 #[.iface 57 (.pointer A),.iface 57 (.pointer B)] w fun e w'=>e =.returned (.bool r)/\Below w.heap.size w w':=by
 have la:=ha.len;have lb:=hb.len;have hl:=ha.bd;have c4:=hb.bd;unfold maxLen at hl c4;have Ha:=Qa ha;have Hb:=Qa hb;have HT:=Qa hT;have HH:=Qa H;have Hr:=Qa hr;clear ha hb hT H hr;have Hl:=Qa (d8 Ha.out);have b6:=Qa (d8 Hb.out);have b9:=Qa la;have b8:=Qa lb;generalize hn:us.length=n at *;generalize hn':us'.length=n' at *;have Hn:=Qa hn;have c0:=Qa hn';clear hn hn' la lb
 by_cases hne:n=n'
 ·subst hne;go_enter Tryz.func77,Tryz.ntmps77;go_wp2_with fail;(with_reducible refine Hl.out.mono ?_);rintro e w3 ⟨rfl,rfl⟩;go_wp2_with fail;(with_reducible refine b6.out.mono ?_);rintro e w3 ⟨rfl,rfl⟩;go_wp2_with fail;(with_reducible refine Hl.out.mono ?_);rintro e w3 ⟨rfl,rfl⟩;go_wp2_with fail;clear Hl b6
  go_loopw [17] (fun s17 wr=>IZ w ks ks' s17 wr) (fun s17 _=>n - (intOf s17).toNat)
  case atStart=>exact⟨0,rfl,Zj _,rfl,Zd _ _⟩
  case round=>
   obtain⟨i,rfl,c1,he,a1⟩:=hrel;have a0:=Qa a1;have He:=Qa he;have Hi:=Qa c1;clear he c1;have c3:=Qa (Ha.out.below a1);have c5:=Qa (Hb.out.below a1);have c2:=Qa (HT.out.below a1);clear a1
   by_cases h:i<n
   ·have b1:i<us.length:=by have:=Hn.out;omega
    have b4:i<us'.length:=by have:=c0.out;omega
    have a9:i<ks.length:=by have:=b9.out;have:=Hn.out;omega
    have b3:i<ks'.length:=by have:=b8.out;have:=c0.out;omega
    obtain⟨u,hu⟩:∃u,us[i]?=some u:=⟨_,Zc b1⟩;obtain⟨u',b0⟩:∃u,us'[i]?=some u:=⟨_,Zc b4⟩;obtain⟨k,hk⟩:∃u,ks[i]?=some u:=⟨_,Zc a9⟩;obtain⟨k',a5⟩:∃u,ks'[i]?=some u:=⟨_,Zc b3⟩;have Hp:=Qa (eN c3.out c2.out i hu);have Hq:=Qa (fun w5 (h:Below wr.heap.size wr w5)=>eN (c5.out.below h) (c2.out.below h) i b0);have Hc:=Qa (HH.out i u u' k k' hu hk b0 a5);have Hk:=Qa a9;have h':(i:Int)<n:=by omega
    have w1:IntKind.i64.wrap ((i:Int)+1)= (i:Int)+1:=IntWalk.i64_in _ (by omega)
    by_cases hkk:k=k'
    ·have Hs:=Qa (lO He.out hk (hkk▸a5));rw[dy.2 hkk] at Hc;clear b1 b4 a9 b3 hu b0 hk a5 He hkk;go_wp2_with fail;(with_reducible refine Hp.out.mono ?_);rintro e w3 ⟨rfl,a2⟩;have a7:=Qa a2;have b2:=Qa (Hq.out w3 a2);clear a2;go_wp2_with fail;(with_reducible refine b2.out.mono ?_);rintro e w4 ⟨rfl,a6⟩;have a3:=Qa (a0.out.trans ((a7.out.trans (a6.mono a7.out.size)).mono a0.out.size));have b5:=Qa (Hc.out w4 a3.out);clear a6;go_wp2_with fail;(with_reducible refine b5.out.mono ?_);rintro e w5 ⟨rfl,a4⟩;have b7:=Qa (a3.out.trans (a4.mono a3.out.size));clear a4;go_wp2_with fail;refine⟨⟨i+1,rfl,Hk.out,Hs.out,b7.out⟩,?_⟩
     show n - ((i:Int)+1).toNat<n - ((i:Int)).toNat
     omega
    ·have Hs:Hid (r=false):=Qa (by
      rw[Bool.eq_false_iff];intro e;have:=Hr.out.1 e;rw[this,a5] at hk;exact hkk (Zh hk).symm)
     rw[lK.2 hkk] at Hc;clear b1 b4 a9 b3 hu b0 hk a5 He hkk;go_wp2_with fail;(with_reducible refine Hp.out.mono ?_);rintro e w3 ⟨rfl,a2⟩;have a7:=Qa a2;have b2:=Qa (Hq.out w3 a2);clear a2;go_wp2_with fail;(with_reducible refine b2.out.mono ?_);rintro e w4 ⟨rfl,a6⟩;have a3:=Qa (a0.out.trans ((a7.out.trans (a6.mono a7.out.size)).mono a0.out.size));have b5:=Qa (Hc.out w4 a3.out);clear a6;go_wp2_with fail;(with_reducible refine b5.out.mono ?_);rintro e w5 ⟨rfl,a4⟩;have b7:=Qa (a3.out.trans (a4.mono a3.out.size));clear a4;go_wp2_with fail;go_ret;rw[Hs.out];exact⟨rfl,b7.out⟩
   ·have h':¬ (i:Int)<n:=by omega
    have Hs:Hid (r=true):=Qa (Hr.out.2 (by
     have h1:=He.out;have h2:=b9.out;have h3:=b8.out;have h4:=Hi.out
     rwa[List.take_of_length_le (by omega),List.take_of_length_le (by omega)] at h1))
    clear He;go_wp2_with fail;go_ret;rw[Hs.out];exact⟨rfl,a0.out⟩
 ·have Hs:Hid (r=false):=Qa (by
   rw[Bool.eq_false_iff];intro e;have:=Hr.out.1 e;subst this;exact hne (b9.out.trans b8.out.symm))
  have c6:((n:Int)==n')=false:=by simp only[beq_eq_false_iff_ne];omega
  clear hne Ha Hb Hr;go_enter Tryz.func77,Tryz.ntmps77;go_wp2_with fail;(with_reducible refine Hl.out.mono ?_);rintro e w3 ⟨rfl,rfl⟩;go_wp2_with fail;(with_reducible refine b6.out.mono ?_);rintro e w3 ⟨rfl,rfl⟩;go_wp2_with fail;go_ret;rw[Hs.out];exact⟨rfl,Zd _ _⟩
def F5 (W:World)(ns ns':List ByteArray)(ks ks':List JV)(s17:Value)(wr:World):Prop:= ∃i:Nat,s17 =.int .i64 i/\i<=ks.length/\(ns.take i=ns'.take i/\ks.take i=ks'.take i)/\Below W.heap.size W wr
theorem tg {B:Option Addr}(ha:fa P w A us ns ks)(hb:fa Q w B us' ns' ks')(hr:r=true↔ns=ns'/\ks=ks')
  (H:∀ (i:Nat) u u' k k',us[i]?=some u->ks[i]?=some k->us'[i]?=some u'->ks'[i]?=some k'->∀w1,Below w.heap.size w w1->Calls Tryz.prog 40 #[u,u'] w1 fun e w'=>e =.returned (.bool (wM k k'))/\Below w1.heap.size w1 w') :
  Calls Tryz.prog 77 #[.iface 130 (.pointer A),.iface 130 (.pointer B)] w fun e w'=>e =.returned (.bool r)/\Below w.heap.size w w':=by
 have la:=ha.len;have lb:=hb.len;have c3:=Qa ha.names;have c2:=Qa hb.names;have hl:=ha.bd;have c8:=hb.bd;unfold maxLen at hl c8;have Ha:=Qa ha;have Hb:=Qa hb;have HH:=Qa H;have Hr:=Qa hr;clear ha hb H hr;have Hl:=Qa (eX Ha.out);have b8:=Qa (eX Hb.out);have c1:=Qa la;have c0:=Qa lb;generalize hn:us.length=n at *;generalize hn':us'.length=n' at *;have Hn:=Qa hn;have c4:=Qa hn';clear hn hn' la lb
 by_cases hne:n=n'
 ·subst hne;go_enter Tryz.func77,Tryz.ntmps77;go_wp2_with fail;(with_reducible refine Hl.out.mono ?_);rintro e w3 ⟨rfl,rfl⟩;go_wp2_with fail;(with_reducible refine b8.out.mono ?_);rintro e w3 ⟨rfl,rfl⟩;go_wp2_with fail;(with_reducible refine Hl.out.mono ?_);rintro e w3 ⟨rfl,rfl⟩;go_wp2_with fail;clear Hl b8
  go_loopw [17] (fun s17 wr=>F5 w ns ns' ks ks' s17 wr) (fun s17 _=>n - (intOf s17).toNat)
  case atStart=>exact⟨0,rfl,Zj _,⟨rfl,rfl⟩,Zd _ _⟩
  case round=>
   obtain⟨i,rfl,c5,he,a2⟩:=hrel;have a0:=Qa a2;have He:=Qa he;have Hi:=Qa c5;clear he c5;have c6:=Qa (Ha.out.below a2);have c9:=Qa (Hb.out.below a2);clear a2
   by_cases h:i<n
   ·have b2:i<us.length:=by have:=Hn.out;omega
    have b6:i<us'.length:=by have:=c4.out;omega
    have b0:i<ks.length:=by have:=c1.out;have:=Hn.out;omega
    have b3:i<ks'.length:=by have:=c0.out;have:=c4.out;omega
    obtain⟨u,hu⟩:∃u,us[i]?=some u:=⟨_,Zc b2⟩;obtain⟨u',b1⟩:∃u,us'[i]?=some u:=⟨_,Zc b6⟩;obtain⟨k,hk⟩:∃u,ks[i]?=some u:=⟨_,Zc b0⟩;obtain⟨k',a6⟩:∃u,ks'[i]?=some u:=⟨_,Zc b3⟩;have b4:i<ns.length:=by have:=c3.out;omega
    have b5:i<ns'.length:=by have:=c2.out;omega
    obtain⟨s,hs⟩:∃u,ns[i]?=some u:=⟨_,Zc b4⟩;obtain⟨s',hs'⟩:∃u,ns'[i]?=some u:=⟨_,Zc b5⟩;have Hp:=Qa (fE c6.out i hu hs);have Hq:=Qa (fun w5 (h:Below wr.heap.size wr w5)=>fE (c9.out.below h) i b1 hs');have Hc:=Qa (HH.out i u u' k k' hu hk b1 a6);have Hk:=Qa b0;have h':(i:Int)<n:=by omega
    have w1:IntKind.i64.wrap ((i:Int)+1)= (i:Int)+1:=IntWalk.i64_in _ (by omega)
    by_cases hss:s=s'
    ·subst hss
     by_cases hkk:k=k'
     ·have Hs:=Qa (And.intro (lO He.out.1 hs hs') (lO He.out.2 hk (hkk▸a6)));rw[dy.2 hkk] at Hc;clear b2 b6 b0 b3 hu b1 hk a6 hs hs' b4 b5 He hkk;go_wp2_with fail;(with_reducible refine Hp.out.mono ?_);rintro e w3 ⟨rfl,a1⟩;have a5:=Qa a1;have a7:=Qa (Hq.out w3 a1);clear a1;go_wp2_with fail;(with_reducible refine a7.out.mono ?_);rintro e w4 ⟨rfl,a4⟩;have a3:=Qa (a0.out.trans ((a5.out.trans (a4.mono a5.out.size)).mono a0.out.size));have b7:=Qa (Hc.out w4 a3.out);clear a4;go_wp2_with fail;(with_reducible refine b7.out.mono ?_);rintro e w5 ⟨rfl,a9⟩;have b9:=Qa (a3.out.trans (a9.mono a3.out.size));clear a9;go_wp2_with fail;refine⟨⟨i+1,rfl,Hk.out,Hs.out,b9.out⟩,?_⟩
      show n - ((i:Int)+1).toNat<n - ((i:Int)).toNat
      omega
     ·have Hs:Hid (r=false):=Qa (by
       rw[Bool.eq_false_iff];intro e;have:=Hr.out.1 e;rw[this.2,a6] at hk;exact hkk (Zh hk).symm)
      rw[lK.2 hkk] at Hc;clear b2 b6 b0 b3 hu b1 hk a6 hs hs' b4 b5 He hkk;go_wp2_with fail;(with_reducible refine Hp.out.mono ?_);rintro e w3 ⟨rfl,a1⟩;have a5:=Qa a1;have a7:=Qa (Hq.out w3 a1);clear a1;go_wp2_with fail;(with_reducible refine a7.out.mono ?_);rintro e w4 ⟨rfl,a4⟩;have a3:=Qa (a0.out.trans ((a5.out.trans (a4.mono a5.out.size)).mono a0.out.size));have b7:=Qa (Hc.out w4 a3.out);clear a4;go_wp2_with fail;(with_reducible refine b7.out.mono ?_);rintro e w5 ⟨rfl,a9⟩;have b9:=Qa (a3.out.trans (a9.mono a3.out.size));clear a9;go_wp2_with fail;go_ret;rw[Hs.out];exact⟨rfl,b9.out⟩
    ·have Hs:Hid (r=false):=Qa (by
      rw[Bool.eq_false_iff];intro e;have:=Hr.out.1 e;rw[this.1,hs'] at hs;exact hss (Zh hs).symm)
     have c7:(s.toList==s'.toList)=false:=by
      simp only[beq_eq_false_iff_ne,ByteArray.toList_eq];intro e;apply hss
      cases s with|mk a=>cases s' with|mk b=>simp only at e;rw[Array.toList_inj.1 e]
     clear b2 b6 b0 b3 hu b1 hk a6 hs hs' b4 b5 He hss;go_wp2_with fail;(with_reducible refine Hp.out.mono ?_);rintro e w3 ⟨rfl,a1⟩;have a5:=Qa a1;have a7:=Qa (Hq.out w3 a1);clear a1;go_wp2_with fail;(with_reducible refine a7.out.mono ?_);rintro e w4 ⟨rfl,a4⟩;have a3:=Qa (a0.out.trans ((a5.out.trans (a4.mono a5.out.size)).mono a0.out.size));clear a4;go_wp2_with fail;go_ret;rw[Hs.out];exact⟨rfl,a3.out⟩
   ·have h':¬ (i:Int)<n:=by omega
    have Hs:Hid (r=true):=Qa (Hr.out.2 (by
     have h1:=He.out;have h2:=c1.out;have h3:=c0.out;have h4:=Hi.out;have h5:=c3.out;have h6:=c2.out
     rwa[List.take_of_length_le (by omega),List.take_of_length_le (by omega),List.take_of_length_le (by omega),List.take_of_length_le (by omega)] at h1))
    clear He;go_wp2_with fail;go_ret;rw[Hs.out];exact⟨rfl,a0.out⟩
 ·have Hs:Hid (r=false):=Qa (by
   rw[Bool.eq_false_iff];intro e;have:=(Hr.out.1 e).2;subst this;exact hne (c1.out.trans c0.out.symm))
  have c7:((n:Int)==n')=false:=by simp only[beq_eq_false_iff_ne];omega
  clear hne Ha Hb Hr;go_enter Tryz.func77,Tryz.ntmps77;go_wp2_with fail;(with_reducible refine Hl.out.mono ?_);rintro e w3 ⟨rfl,rfl⟩;go_wp2_with fail;(with_reducible refine b8.out.mono ?_);rintro e w3 ⟨rfl,rfl⟩;go_wp2_with fail;go_ret;rw[Hs.out];exact⟨rfl,Zd _ _⟩
