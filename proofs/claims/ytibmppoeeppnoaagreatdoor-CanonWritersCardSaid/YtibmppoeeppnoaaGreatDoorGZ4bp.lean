import Derived.Test.YtibmppoeeppnoaaGreatDoorGZ4bo
set_option linter.unusedVariables false
set_option linter.unusedSimpArgs false
set_option maxHeartbeats 64000000
set_option maxRecDepth 100000
namespace Go.Proofs.YtibmppoeeppnoaaGreatDoor
open Go.RowKit Go.Shelf
variable {aE aU:Addr}{o:Bool}{s:ByteArray}{d:Dc}{j:JV}{ns:List ByteArray}{ks:List JV}{full xs ys:List UInt8}{us:List Value}{i:Nat}{P:Nat->Prop}{A:Option Addr}{t:TypeId}{u v x:Value}{W w:World}
theorem pV (x:Value)(W:World):(Instr.typeAssert (.iface 52 x) 41 120 true).run Tryz.prog W =.ok (.tuple #[.nilIface,.bool false]) W:=run_typeAssert_lacksB Tryz.underlying120 (by kernel_rfl) (by kernel_rfl) x _ W
theorem qf (x:Value)(W:World):(Instr.typeAssert (.iface 52 x) 41 52 true).run Tryz.prog W =.ok (.tuple #[x,.bool true]) W:=by kernel_rfl
def dZ (o:Bool)(full:List UInt8)(tail:UInt8)(ns:List ByteArray)(ks:List JV)(i:Nat)(ys:List UInt8):Prop:=ys++ (JV.txts o (decide (i=0)) (ns.drop i) (ks.drop i) ++ [tail])=full
theorem dZ.next {tail:UInt8}{k:JV}(h:dZ false full tail [] ks i ys)(hk:ks[i]?=some k):dZ false full tail [] ks (i+1) (ys++ ((if i=0 then [] else [44])++JV.txt k)):=by
 unfold dZ at h ⊢;obtain⟨h1,h2⟩:=List.getElem?_eq_some_iff.1 hk;rw[List.drop_eq_getElem_cons h1,h2] at h;rw[<-h]
 conv=>rhs;unfold JV.txts
 by_cases e:i=0 <;> simp[e]
theorem dZ.stop {tail:UInt8}(h:dZ o full tail ns ks ks.length ys):ys ++ [tail]=full:=by
 unfold dZ at h;rw[List.drop_length] at h;unfold JV.txts at h;exact h
theorem dZ.le {tail:UInt8}(h:dZ o full tail ns ks i ys):ys.length+1<=full.length:=by
 unfold dZ at h;rw[<-h];simp
def yg (W:World)(o:Bool)(full:List UInt8)(tail:UInt8)(ns:List ByteArray)(ks:List JV)(s0 s38:Value)(wr:World):Prop:= ∃ (i:Nat) (ys:List UInt8),s38 =.int .i64 i/\i<=ks.length/\aq wr W.heap.size s0 ys/\Below W.heap.size W wr/\dZ o full tail ns ks i ys
theorem aq.lit (c:UInt8)(h:aq w W.heap.size u xs)(hb:Below W.heap.size W w):aq (w.alloc (.cells #[.int .u8 c.toNat] 5)) W.heap.size u xs/\Bs (w.alloc (.cells #[.int .u8 c.toNat] 5)) (.slice (some ⟨w.heap.size,0,none⟩) 1 1) [c]/\Below W.heap.size W (w.alloc (.cells #[.int .u8 c.toNat] 5)):=
 ⟨h.below (ac w _) (Za _),k7 w [c] (by simp),hb.trans ((ac w _).mono hb.size)⟩
theorem pp (h:da P W A us ks)(hT:cW W)(hb:Below W.heap.size W w)(ho:aq w W.heap.size u xs)(hx:xs.length+ (91:: (JV.txts false true [] ks ++ [93])).length<=140737488355328)
  (H:∀ (i:Nat) v k,us[i]?=some v->ks[i]?=some k->∀w1 u1 xs1,Below W.heap.size W w1->aq w1 W.heap.size u1 xs1->xs1.length+ (JV.txt k).length<=140737488355328->Calls Tryz.prog 26 #[u1,v] w1 (kt W (xs1++JV.txt k))) :
  Calls Tryz.prog 26 #[u,.iface 52 (.pointer A)] w fun e w'=>kt W (xs++ (91:: (JV.txts false true [] ks ++ [93]))) e w':=by
 have k1:=kh;have k2:=pV;have k3:=qf;have hl:=h.len;have d5:=h.bd;unfold maxLen at d5;obtain⟨q1,q2,q3⟩:=ho.lit 91 hb;have b7:=Qa q1;have c4:=Qa q2;have b2:=Qa q3;have HH:=Qa H;have Hh:=Qa h;have HT:=Qa hT;obtain⟨A0,q0,rfl,-⟩:=ag ho;have Hx:=Qa hx;have c9:=Qa (show xs.length+ ([91]:List UInt8).length<=140737488355328 by simp at hx ⊢;omega);obtain⟨full,a0⟩:∃full,xs++ (91:: (JV.txts false true [] ks ++ [93]))=full:=⟨_,rfl⟩;have Hf:Hid (dZ false full 93 [] ks 0 (xs ++ [91])):=Qa (by unfold dZ;rw[<-a0];simp);have d0:=Qa (show full.length<=140737488355328 by rw[<-a0,List.length_append];exact hx);rw[a0];have a7:=Qa hl;have d4:=Qa (fun w1 (hw:Below W.heap.size W w1)=>dR (h.below hw));clear q1 q2 q3 ho hb h hT H hx a0 hl;generalize hn:us.length=n at *;have Hn:=Qa hn;clear hn;go_enter Tryz.func26,Tryz.ntmps26;go_wp2_with (at_builtin;refine pP b7.out c4.out c9.out b2.out.size ?_;intro v' w3 h1 h2 h3;have HK:=Qa h1;have a3:=Qa h2;clear h1 h2 h3);generalize hz:xs ++ [91]=zs at *;clear hz;have Hb3:=Qa (b2.out.grown a3.out b2.out.size (fun g e=>(aq.blk b7.out e).1));have Ho3:=Qa HK.out;obtain⟨A3,q3,rfl,-⟩:=ag HK.out;have d1:=Qa (d4.out w3 Hb3.out);clear HK a3 b7 c4 b2 Hx c9;go_wp2_with fail;(with_reducible refine d1.out.mono ?_);rintro e w4 ⟨rfl,rfl⟩;go_wp2_with fail;clear d1
 go_loopw [0,38] (fun s0 s38 wr=>yg W false full 93 [] ks s0 s38 wr) (fun _ s38 _=>n - (intOf s38).toNat)
 case atStart=>exact⟨0,_,rfl,Zj _,Ho3.out,Hb3.out,Hf.out⟩
 case round=>
  clear Hf Ho3 Hb3;obtain⟨i,ys,rfl,hi,ho,hb,hf⟩:=hrel;have Ho:=Qa ho;have Hb:=Qa hb;have Hf:=Qa hf;have Hi:=Qa hi;obtain⟨A4,q4,rfl,-⟩:=ag ho;have c5:ys.length+1<=140737488355328:=by have:=hf.le;have:=d0.out;omega
  have c7:=Qa c5;clear ho hb hf hi c5
  by_cases hin:i<n
  ·have c8:i<us.length:=by have:=Hn.out;omega
   have b9:i<ks.length:=by have:=a7.out;omega
   obtain⟨v,hv⟩:∃u,us[i]?=some u:=⟨_,Zc c8⟩;obtain⟨k,hk⟩:∃u,ks[i]?=some u:=⟨_,Zc b9⟩;have b8:=Hf.out.next hk;have b1:=Qa b8;have hle:=b8.le;have Hp:=Qa (fun w5 (hw:Below W.heap.size W w5)=>et (Hh.out.below hw) (HT.out.below hw) i hv);have Hc:=Qa (HH.out i v k hv hk);have hkl:(ys++if i=0 then [] else [44]).length+ (JV.txt k).length<=140737488355328:=by
    have h1:=d0.out;rw[List.length_append,List.length_append] at hle;rw[List.length_append];omega
   have b3:=Qa hkl;have d2:=Qa b9;have h':(i:Int)<n:=by omega
   have w1:IntKind.i64.wrap ((i:Int)+1)= (i:Int)+1:=IntWalk.i64_in _ (by omega);clear b8 hle hkl c8 b9 hv hk Hf
   by_cases hi0:i=0
   ·subst hi0;rw[if_pos rfl,List.append_nil] at b3;rw[if_pos rfl,List.nil_append] at b1;go_wp2_with fail;have b5:=Qa (show Calls Tryz.prog 44 #[.pointer A,.int .i64 0] wr (fun e w'=>e =.returned (.tuple #[.string ⟨(Lib.itoa (0:Nat)).toArray⟩,v])/\Below wr.heap.size wr w') from Hp.out wr Hb.out);(with_reducible refine b5.out.mono ?_);rintro e w6 ⟨rfl,a5⟩;have c2:=Qa (Hb.out.trans (a5.mono Hb.out.size));have c3:=Qa (Hc.out w6 _ _ c2.out (Ho.out.below a5 (Za _)) b3.out);clear a5;go_wp2_with fail;(with_reducible refine c3.out.mono ?_);rintro e w7 ⟨v7,rfl,a2,b0⟩;have c0:=Qa a2;have b4:=Qa b0;generalize hr:ys++JV.txt k=rs at *;clear hr;obtain⟨A7,q7,rfl,-⟩:=ag a2;clear a2 b0;go_wp2_with fail;refine⟨⟨1,_,rfl,d2.out,c0.out,b4.out,b1.out⟩,?_⟩
    show n - ((0:Int)+1).toNat<n - ((0:Int)).toNat
    omega
   ·have d6:(0:Int)<i:=by omega
    rw[if_neg hi0] at b3 b1;clear hi0;obtain⟨r1,r2,r3⟩:=Ho.out.lit 44 Hb.out;have a6:=Qa r1;have b6:=Qa r2;have a1:=Qa r3;have a4:=Qa (show ys.length+ ([44]:List UInt8).length<=140737488355328 from c7.out);clear r1 r2 r3;go_wp2_with (at_builtin;refine pP a6.out b6.out a4.out a1.out.size ?_;intro v' w5 h1 h2 h3;have HK:=Qa h1;have a3:=Qa h2;clear h1 h2 h3);generalize hz:ys ++ [44]=zs at *;have Hz:=Qa hz;clear hz;have a9:=Qa (a1.out.grown a3.out a1.out.size (fun g e=>(aq.blk a6.out e).1));have d3:=Qa HK.out;obtain⟨A5,q5,rfl,-⟩:=ag HK.out;have b5:=Qa (Hp.out w5 a9.out);clear HK a3;go_wp2_with fail;(with_reducible refine b5.out.mono ?_);rintro e w6 ⟨rfl,a5⟩;have c2:=Qa (a9.out.trans (a5.mono a9.out.size));have c3:=Qa (Hc.out w6 _ _ c2.out (d3.out.below a5 (Za _)) b3.out);clear a5;go_wp2_with fail;(with_reducible refine c3.out.mono ?_);rintro e w7 ⟨v7,rfl,a2,b0⟩;have c0:=Qa a2;have b4:=Qa b0;generalize hr:zs++JV.txt k=rs at *;have Hr:=Qa hr;clear hr;obtain⟨A7,q7,rfl,-⟩:=ag a2;clear a2 b0;go_wp2_with fail;refine⟨⟨i+1,_,rfl,d2.out,c0.out,b4.out,by rw[<-Hr.out,<-Hz.out,List.append_assoc];exact b1.out⟩,?_⟩
    show n - ((i:Int)+1).toNat<n - ((i:Int)).toNat
    omega
  ·have h':¬ (i:Int)<n:=by omega
   have c6:i=ks.length:=by have:=Hi.out;have:=a7.out;omega
   have c1:=Qa (show ys ++ [93]=full by have:=Hf.out;rw[c6] at this;exact this.stop);clear c6 Hf;obtain⟨r1,r2,r3⟩:=Ho.out.lit 93 Hb.out;have a6:=Qa r1;have b6:=Qa r2;have a1:=Qa r3;have a4:=Qa (show ys.length+ ([93]:List UInt8).length<=140737488355328 from c7.out);clear r1 r2 r3;go_wp2_with (at_builtin;refine pP a6.out b6.out a4.out a1.out.size ?_;intro v' w5 h1 h2 h3;have HK:=Qa h1;have a3:=Qa h2;clear h1 h2 h3);have a9:=Qa (a1.out.grown a3.out a1.out.size (fun g e=>(aq.blk a6.out e).1));rw[c1.out] at HK;obtain⟨A5,q5,rfl,-⟩:=ag HK.out;go_ret;exact⟨_,rfl,HK.out,a9.out⟩
theorem tW (x:Value)(W:World):(Instr.typeAssert (.iface 124 x) 41 120 true).run Tryz.prog W =.ok (.tuple #[.nilIface,.bool false]) W:=run_typeAssert_lacksB Tryz.underlying120 (by kernel_rfl) (by kernel_rfl) x _ W
theorem uv (x:Value)(W:World):(Instr.typeAssert (.iface 124 x) 41 52 true).run Tryz.prog W =.ok (.tuple #[.pointer none,.bool false]) W:=by kernel_rfl
theorem vA (x:Value)(W:World):(Instr.typeAssert (.iface 124 x) 41 124 true).run Tryz.prog W =.ok (.tuple #[x,.bool true]) W:=by kernel_rfl
theorem dZ.nextO {tail:UInt8}{k:JV}(h:dZ true full tail ns ks i ys)(hk:ks[i]?=some k)(hs:ns[i]?=some s):dZ true full tail ns ks (i+1) (ys++ ((if i=0 then [] else [44])++ (dJ s++ ([58]++JV.txt k)))):=by
 unfold dZ at h ⊢;obtain⟨h1,h2⟩:=List.getElem?_eq_some_iff.1 hk;obtain⟨h3,h4⟩:=List.getElem?_eq_some_iff.1 hs;rw[List.drop_eq_getElem_cons h1,h2,List.drop_eq_getElem_cons h3,h4] at h;rw[<-h]
 conv=>rhs;unfold JV.txts
 by_cases e:i=0 <;> simp[e]
theorem Ch (h:eD P W A us ns ks)(hT:co W aU aE)(hU:∀s∈ns,dq s/\s.size<=1000000000)(hb:Below W.heap.size W w)(ho:aq w W.heap.size u xs)(hx:xs.length+ (123:: (JV.txts true true ns ks ++ [125])).length<=140737488355328)
  (H:∀ (i:Nat) v k,us[i]?=some v->ks[i]?=some k->∀w1 u1 xs1,Below W.heap.size W w1->aq w1 W.heap.size u1 xs1->xs1.length+ (JV.txt k).length<=140737488355328->Calls Tryz.prog 26 #[u1,v] w1 (kt W (xs1++JV.txt k))) :
  Calls Tryz.prog 26 #[u,.iface 124 (.pointer A)] w fun e w'=>kt W (xs++ (123:: (JV.txts true true ns ks ++ [125]))) e w':=by
 have k1:=lX;have k2:=tW;have k3:=uv;have k4:=vA;have hl:=h.len;have g1:=h.bd;unfold maxLen at g1;obtain⟨q1,q2,q3⟩:=ho.lit 123 hb;have c8:=Qa q1;have f3:=Qa q2;have c3:=Qa q3;have HH:=Qa H;have Hh:=Qa h;have HT:=Qa hT;have HU:=Qa hU;have g2:=Qa h.names;obtain⟨A0,q0,rfl,-⟩:=ag ho;have Hx:=Qa hx;have f5:=Qa (show xs.length+ ([123]:List UInt8).length<=140737488355328 by simp at hx ⊢;omega);obtain⟨full,a1⟩:∃full,xs++ (123:: (JV.txts true true ns ks ++ [125]))=full:=⟨_,rfl⟩;have Hf:Hid (dZ true full 125 ns ks 0 (xs ++ [123])):=Qa (by unfold dZ;rw[<-a1];simp);have f6:=Qa (show full.length<=140737488355328 by rw[<-a1,List.length_append];exact hx);rw[a1];have b9:=Qa hl;have g3:=Qa (fun w1 (hw:Below W.heap.size W w1)=>eJ (h.below hw));clear q1 q2 q3 ho hb h hT hU H hx a1 hl;generalize hn:us.length=n at *;have Hn:=Qa hn;clear hn;go_enter Tryz.func26,Tryz.ntmps26;go_wp2_with (at_builtin;refine pP c8.out f3.out f5.out c3.out.size ?_;intro v' w3 h1 h2 h3;have HK:=Qa h1;have a6:=Qa h2;clear h1 h2 h3);generalize hz:xs ++ [123]=zs at *;clear hz;have Hb3:=Qa (c3.out.grown a6.out c3.out.size (fun g e=>(aq.blk c8.out e).1));have Ho3:=Qa HK.out;obtain⟨A3,q3,rfl,-⟩:=ag HK.out;have f1:=Qa (g3.out w3 Hb3.out);clear HK a6 c8 f3 c3 Hx f5;go_wp2_with fail;(with_reducible refine f1.out.mono ?_);rintro e w4 ⟨rfl,rfl⟩;go_wp2_with fail;clear f1
 go_loopw [0,67] (fun s0 s38 wr=>yg W true full 125 ns ks s0 s38 wr) (fun _ s38 _=>n - (intOf s38).toNat)
 case atStart=>exact⟨0,_,rfl,Zj _,Ho3.out,Hb3.out,Hf.out⟩
 case round=>
  clear Hf Ho3 Hb3;obtain⟨i,ys,rfl,hi,ho,hb,hf⟩:=hrel;have Ho:=Qa ho;have Hb:=Qa hb;have Hf:=Qa hf;have Hi:=Qa hi;obtain⟨A4,q4,rfl,-⟩:=ag ho;have e6:ys.length+1<=140737488355328:=by have:=hf.le;have:=f6.out;omega
  have e7:=Qa e6;clear ho hb hf hi e6
  by_cases hin:i<n
  ·have e8:i<us.length:=by have:=Hn.out;omega
   have d3:i<ks.length:=by have:=b9.out;omega
   obtain⟨v,hv⟩:∃u,us[i]?=some u:=⟨_,Zc e8⟩;obtain⟨k,hk⟩:∃u,ks[i]?=some u:=⟨_,Zc d3⟩;have f8:i<ns.length:=by have:=g2.out;omega
   obtain⟨s,hs⟩:∃u,ns[i]?=some u:=⟨_,Zc f8⟩;have e3:=Hf.out.nextO hk hs;obtain⟨f0,e5⟩:=HU.out s (Zk hs);have f9:=Qa (fun w5 (hw:Below W.heap.size W w5)=>nF (w:=w5) f0 (HT.out.below hw) e5);have c4:=Qa e3;have hle:=e3.le;have Hp:=Qa (fun w5 (hw:Below W.heap.size W w5)=>fj (Hh.out.below hw) i hv hs);have Hc:=Qa (HH.out i v k hv hk);generalize dJ s=qs at *;have hkl:(ys++if i=0 then [] else [44]).length+qs.length<=140737488355328/\(ys++if i=0 then [] else [44]).length+qs.length+1+ (JV.txt k).length<=140737488355328:=by
    have h1:=f6.out;rw[List.length_append,List.length_append,List.length_append,List.length_append] at hle;simp only[List.length_cons,List.length_nil] at hle;rw[List.length_append];omega
   have a3:=Qa hkl;have f2:=Qa d3;have h':(i:Int)<n:=by omega
   have w1:IntKind.i64.wrap ((i:Int)+1)= (i:Int)+1:=IntWalk.i64_in _ (by omega);clear e3 hle hkl e8 d3 hv hk Hf hs f0 e5 f8
   by_cases hi0:i=0
   ·subst hi0;rw[if_pos rfl,List.append_nil] at a3;rw[if_pos rfl,List.nil_append] at c4;go_wp2_with fail;have e2:=Qa (show Calls Tryz.prog 46 #[.pointer A,.int .i64 0] wr (fun e w'=>e =.returned (.tuple #[.string s,v])/\Below wr.heap.size wr w') from Hp.out wr Hb.out);(with_reducible refine e2.out.mono ?_);rintro e w6 ⟨rfl,b3⟩;have b4:=Qa (Hb.out.trans (b3.mono Hb.out.size));have c6:=Qa (Ho.out.below b3 (Za _));have d0:=Qa (f9.out w6 b4.out);clear b3;go_wp2_with fail;(with_reducible refine d0.out.mono ?_);rintro e wq ⟨vq,rfl,a4,b1⟩;have a9:=Qa (b4.out.trans (b1.mono b4.out.size));have c0:=Qa (c6.out.below b1 (Za _));have d1:=Qa (aq.bs a4);obtain⟨Aq,qq,rfl,-⟩:=ag a4;clear a4 b1;go_wp2_with (first|(at_builtin;refine pP c0.out d1.out a3.out.1 a9.out.size ?_;intro v' wa h1 h2 h3;have b7:=Qa h1;have d7:=Qa h2;clear h1 h2 h3;have d2:=Qa (a9.out.grown d7.out a9.out.size (fun g e=>(aq.blk c0.out e).1));generalize hza:ys++qs=za at *;have b6:=Qa hza;obtain⟨Aa,qa,rfl,-⟩:=ag b7.out;obtain⟨ra1,ra2,ra3⟩:=b7.out.lit 58 d2.out;have a2:=Qa ra1;have b2:=Qa ra2;have a0:=Qa ra3;have d9:=Qa (show za.length+ ([58]:List UInt8).length<=140737488355328 from by rw[<-hza,List.length_append];have:=a3.out.2;simp only[List.length_cons,List.length_nil];omega);clear ra1 ra2 ra3 hza)|(at_builtin;refine pP a2.out b2.out d9.out a0.out.size ?_;intro v' wb h1 h2 h3;have c1:=Qa h1;have d6:=Qa h2;clear h1 h2 h3;have e1:=Qa (a0.out.grown d6.out a0.out.size (fun g e=>(aq.blk a2.out e).1));generalize hzb:za ++ [58]=zb at *;have e4:=Qa hzb;obtain⟨Ab,qb,rfl,-⟩:=ag c1.out;have c9:=Qa (show zb.length+ (JV.txt k).length<=140737488355328 from by rw[<-hzb,<-b6.out,List.length_append,List.length_append];have:=a3.out.2;simp only[List.length_cons,List.length_nil];omega);have c5:=Qa (Hc.out wb _ _ e1.out c1.out c9.out);clear hzb));(with_reducible refine c5.out.mono ?_);rintro e w7 ⟨v7,rfl,a5,c2⟩;have d4:=Qa a5;have e0:=Qa c2;generalize hr:zb++JV.txt k=rs at *;have Hr:=Qa hr;clear hr;obtain⟨A7,q7,rfl,-⟩:=ag a5;clear a5 c2;go_wp2_with fail;refine⟨⟨1,_,rfl,f2.out,d4.out,e0.out,by rw[<-Hr.out,<-e4.out,<-b6.out];have:=c4.out;simp only[List.append_assoc] at this ⊢;exact this⟩,?_⟩
    show n - ((0:Int)+1).toNat<n - ((0:Int)).toNat
    omega
   ·have g4:(0:Int)<i:=by omega
    rw[if_neg hi0] at a3 c4;clear hi0;obtain⟨r1,r2,r3⟩:=Ho.out.lit 44 Hb.out;have b8:=Qa r1;have c7:=Qa r2;have b0:=Qa r3;have a7:=Qa (show ys.length+ ([44]:List UInt8).length<=140737488355328 from e7.out);clear r1 r2 r3;go_wp2_with (at_builtin;refine pP b8.out c7.out a7.out b0.out.size ?_;intro v' w5 h1 h2 h3;have HK:=Qa h1;have a6:=Qa h2;clear h1 h2 h3);generalize hz:ys ++ [44]=zs at *;have Hz:=Qa hz;clear hz;have b5:=Qa (b0.out.grown a6.out b0.out.size (fun g e=>(aq.blk b8.out e).1));have g0:=Qa HK.out;obtain⟨A5,q5,rfl,-⟩:=ag HK.out;have e2:=Qa (Hp.out w5 b5.out);clear HK a6;go_wp2_with fail;(with_reducible refine e2.out.mono ?_);rintro e w6 ⟨rfl,b3⟩;have b4:=Qa (b5.out.trans (b3.mono b5.out.size));have c6:=Qa (g0.out.below b3 (Za _));have d0:=Qa (f9.out w6 b4.out);clear b3;go_wp2_with fail;(with_reducible refine d0.out.mono ?_);rintro e wq ⟨vq,rfl,a4,b1⟩;have a9:=Qa (b4.out.trans (b1.mono b4.out.size));have c0:=Qa (c6.out.below b1 (Za _));have d1:=Qa (aq.bs a4);obtain⟨Aq,qq,rfl,-⟩:=ag a4;clear a4 b1;go_wp2_with (first|(at_builtin;refine pP c0.out d1.out a3.out.1 a9.out.size ?_;intro v' wa h1 h2 h3;have b7:=Qa h1;have d7:=Qa h2;clear h1 h2 h3;have d2:=Qa (a9.out.grown d7.out a9.out.size (fun g e=>(aq.blk c0.out e).1));generalize hza:zs++qs=za at *;have b6:=Qa hza;obtain⟨Aa,qa,rfl,-⟩:=ag b7.out;obtain⟨ra1,ra2,ra3⟩:=b7.out.lit 58 d2.out;have a2:=Qa ra1;have b2:=Qa ra2;have a0:=Qa ra3;have d9:=Qa (show za.length+ ([58]:List UInt8).length<=140737488355328 from by rw[<-hza,List.length_append];have:=a3.out.2;simp only[List.length_cons,List.length_nil];omega);clear ra1 ra2 ra3 hza)|(at_builtin;refine pP a2.out b2.out d9.out a0.out.size ?_;intro v' wb h1 h2 h3;have c1:=Qa h1;have d6:=Qa h2;clear h1 h2 h3;have e1:=Qa (a0.out.grown d6.out a0.out.size (fun g e=>(aq.blk a2.out e).1));generalize hzb:za ++ [58]=zb at *;have e4:=Qa hzb;obtain⟨Ab,qb,rfl,-⟩:=ag c1.out;have c9:=Qa (show zb.length+ (JV.txt k).length<=140737488355328 from by rw[<-hzb,<-b6.out,List.length_append,List.length_append];have:=a3.out.2;simp only[List.length_cons,List.length_nil];omega);have c5:=Qa (Hc.out wb _ _ e1.out c1.out c9.out);clear hzb));(with_reducible refine c5.out.mono ?_);rintro e w7 ⟨v7,rfl,a5,c2⟩;have d4:=Qa a5;have e0:=Qa c2;generalize hr:zb++JV.txt k=rs at *;have Hr:=Qa hr;clear hr;obtain⟨A7,q7,rfl,-⟩:=ag a5;clear a5 c2;go_wp2_with fail;refine⟨⟨i+1,_,rfl,f2.out,d4.out,e0.out,by rw[<-Hr.out,<-e4.out,<-b6.out,<-Hz.out];have:=c4.out;simp only[List.append_assoc] at this ⊢;exact this⟩,?_⟩
    show n - ((i:Int)+1).toNat<n - ((i:Int)).toNat
    omega
  ·have h':¬ (i:Int)<n:=by omega
   have f4:i=ks.length:=by have:=Hi.out;have:=b9.out;omega
   have d5:=Qa (show ys ++ [125]=full by have:=Hf.out;rw[f4] at this;exact this.stop);clear f4 Hf;obtain⟨r1,r2,r3⟩:=Ho.out.lit 125 Hb.out;have b8:=Qa r1;have c7:=Qa r2;have b0:=Qa r3;have a7:=Qa (show ys.length+ ([125]:List UInt8).length<=140737488355328 from e7.out);clear r1 r2 r3;go_wp2_with (at_builtin;refine pP b8.out c7.out a7.out b0.out.size ?_;intro v' w5 h1 h2 h3;have HK:=Qa h1;have a6:=Qa h2;clear h1 h2 h3);have b5:=Qa (b0.out.grown a6.out b0.out.size (fun g e=>(aq.blk b8.out e).1));rw[d5.out] at HK;obtain⟨A5,q5,rfl,-⟩:=ag HK.out;go_ret;exact⟨_,rfl,HK.out,b5.out⟩
inductive Sz:JV->Prop
 |mk (k:Int) (t:Bool) (x:ByteArray) (d:Dc) (ns:List ByteArray) (ks:List JV):x.size<=1000000000->d.digits.size<=1000000000->(∀n∈ns,n.size<=1000000000)->(∀u∈ks,Sz u)->Sz (.mk k t x d ns ks)
theorem Sz.kids {k:Int}{t:Bool}{x:ByteArray}(h:Sz (.mk k t x d ns ks)):x.size<=1000000000/\d.digits.size<=1000000000/\(∀n∈ns,n.size<=1000000000)/\∀u∈ks,Sz u:=by
 cases h with
 |mk _ _ _ _ _ _ h1 h2 h3 h4=>exact⟨h1,h2,h3,h4⟩
theorem jy.exp (h:jy d): -1000000000<=d.exp/\d.exp<=1000000000:=by
 rcases h with rfl|⟨-,h⟩
 ·exact⟨by decide,by decide⟩
 ·exact h
theorem Tx.jb (h:Tx j)(hs:Sz j):JB j:=by
 induction h with
 |null=>exact .mk _ _ _ _ _ _ (by decide) ⟨by decide,by decide,by decide⟩ (fun n h=>by cases h) (fun u h=>by cases h)
 |bool b=>exact .mk _ _ _ _ _ _ (by decide) ⟨by decide,by decide,by decide⟩ (fun n h=>by cases h) (fun u h=>by cases h)
 |num d hd=>
  have h1:=hs.kids;have h2:=hd.exp;exact .mk _ _ _ _ _ _ (by decide) ⟨by have:=h1.2.1;omega,by omega,by omega⟩ (fun n h=>by cases h) (fun u h=>by cases h)
 |text s _=>
  have h1:=hs.kids;exact .mk _ _ _ _ _ _ (by have:=h1.1;omega) ⟨by decide,by decide,by decide⟩ (fun n h=>by cases h) (fun u h=>by cases h)
 |list ks _ ih=>
  have h1:=hs.kids;exact .mk _ _ _ _ _ _ (by decide) ⟨by decide,by decide,by decide⟩ (fun n h=>by cases h) (fun u h=>ih u h (h1.2.2.2 u h))
 |obj ns ks _ _ _ _ ih=>
  have h1:=hs.kids;exact .mk _ _ _ _ _ _ (by decide) ⟨by decide,by decide,by decide⟩ (fun n h=>by have:=h1.2.2.1 n h;omega) (fun u h=>ih u h (h1.2.2.2 u h))
theorem BQ (h:VW P W v j)(hT:cW W)(hG:co W aU aE):Tx j->Sz j->∀w u xs,Below W.heap.size W w->aq w W.heap.size u xs->xs.length+ (JV.txt j).length<=140737488355328->Calls Tryz.prog 26 #[u,v] w (kt W (xs++JV.txt j)):=by
 induction h with
 |null=>
  intro tx sz w u xs hb ho hx;rw[show JV.txt (.mk 1 false es ⟨false,es,0⟩ [] [])=sP from rfl] at hx ⊢;exact zp hb ho hx
 |bool b=>
  intro tx sz w u xs hb ho hx;rw[show JV.txt (.mk 2 b es ⟨false,es,0⟩ [] [])=tD b from rfl] at hx ⊢;exact Ap hb ho hx
 |num d=>
  intro tx sz w u xs hb ho hx;rw[show JV.txt (.mk 3 false es d [] [])=eN d from rfl] at hx ⊢;have hd:jy d:=by cases tx;assumption
  exact BG hT (by have:=sz.kids.2.1;omega) hd.exp.1 hd.exp.2 hb ho hx
 |text s=>
  intro tx sz w u xs hb ho hx;rw[show JV.txt (.mk 4 false s ⟨false,es,0⟩ [] [])=dJ s from rfl] at hx ⊢;have hd:dq s:=by cases tx;assumption
  exact zc hd hG sz.kids.1 hb ho hx
 |hole=>intro tx;cases tx
 |bare=>
  intro tx sz w u xs hb ho hx;rw[show JV.txt (.mk 5 false es ⟨false,es,0⟩ [] [])=91:: (JV.txts false true [] [] ++ [93]) by simp[JV.txt]] at hx ⊢;refine pp (P:=P) (us:= []) (.inl ⟨rfl,rfl,rfl⟩) hT hb ho hx fun i v k e1=>?_
  simp at e1
 |list g A c us ks hp hg hr hl hks ih=>
  intro tx sz w u xs hb ho hx;have hk:∀u∈ks,Tx u:=by cases tx;assumption
  rw[show JV.txt (.mk 5 false es ⟨false,es,0⟩ [] ks)=91:: (JV.txts false true [] ks ++ [93]) by simp[JV.txt]] at hx ⊢;refine pp (P:=P) (.inr ⟨g,A,c,rfl,hg,hr,hl⟩) hT hb ho hx fun i v k e1 e2 w1 u1 xs1 a2 a0 a1=>?_
  exact ih i v k e1 e2 (hk k (Zk e2)) (sz.kids.2.2.2 k (Zk e2)) w1 u1 xs1 a2 a0 a1
 |obj g A c us ns ks hp hg hr hl hn hks ih=>
  intro tx sz w u xs hb ho hx;have hk:(∀s∈ns,dq s)/\∀u∈ks,Tx u:=by cases tx;exact⟨by assumption,by assumption⟩
  rw[show JV.txt (.mk 6 false es ⟨false,es,0⟩ ns ks)=123:: (JV.txts true true ns ks ++ [125]) by simp[JV.txt]] at hx ⊢;refine Ch (P:=P) ⟨g,A,c,rfl,hg,hr,hl,hn⟩ hG (fun s hs=>⟨hk.1 s hs,sz.kids.2.2.1 s hs⟩) hb ho hx fun i v k e1 e2 w1 u1 xs1 a2 a0 a1=>?_
  exact ih i v k e1 e2 (hk.2 k (Zk e2)) (sz.kids.2.2.2 k (Zk e2)) w1 u1 xs1 a2 a0 a1
attribute [local go_sem] Oper.semAt_some
theorem BI (n:Nat)(hn:1<=n)(l sb:Nat)(A:Option Addr)(E:List (ByteArray×Value))(hE:E.length<=maxLen)(B B2:Nat)(bR:World->Prop)(a6:∀X Y,bR X->fQ B B2 X Y->bR Y)
  (a2:∀X,bR X->X.cell? ⟨sb,0,none⟩=some (.iface 52 (.pointer A)))
  (HL:∀X,bR X->Calls Tryz.prog 43 #[.pointer A] X fun e w'=>e =.returned (.int .i64 E.length)/\X=w')
  (HP:∀X (i:Fin E.length),bR X->Calls Tryz.prog 44 #[.pointer A,.int .i64 i.val] X fun e w'=>e =.returned (.tuple #[.string (E.get i).1,(E.get i).2])/\Below X.heap.size X w')
  (J Jx:List (Fin E.length)->World->Prop) (W:World) (hG:bR W) (hJ:AbidesFrom W.heap.size J) (b4:AbidesFrom W.heap.size Jx)
  (hY:∀pre (x:Fin E.length) W1,J pre W1->pre.length<E.length->YieldAt Fence.wide (n - 1) Tryz.prog l #[.string (E.get x).1,(E.get x).2] W1 fun e W'=>
   (e =.returned (.bool true)/\J (pre ++ [x]) W'/\fQ B B2 W1 W')\/(e =.returned (.bool false)/\Jx (pre ++ [x]) W'))
  (h0:J [] W) :
  CallsIn Fence.wide n Tryz.prog 63 #[.func (.yield l) #[] #[],.pointer (some ⟨sb,0,none⟩)] W fun e W'=>(∃v,e =.returned v)/\
   ((∃ys:List (Fin E.length),True/\J ys W')\/(∃pre:List (Fin E.length),True/\Jx pre W')):=by
 refine callsIn_of_wp Tryz.func63 rfl trivial ?_ rfl;simp only[Tryz.ntmps63,List.size_toArray,List.length_cons,List.length_nil,Nat.reduceAdd,Nat.reduceSub,Array.replicate_succ,Array.replicate_zero,List.push_toArray,List.append_toArray,List.nil_append,List.cons_append];have Hk:=Qa a6;have b2:=Qa a2;have b3:=Qa HL;have b1:=Qa HP;have HJ:=Qa hJ;have HY:=Qa hY;have Hg:=Qa hG;have H0:=Qa h0;have c0:=a2 W hG;unfold maxLen at hE;clear a6 a2 HL HP hJ hY hG h0 b4
 gi_wp2_with fail
 refine⟨fun _ _=>trivial,?_⟩;go_invoke
 gi_wp2_with fail
 refine(callsIn_wide.2 (b3.out W Hg.out)).mono ?_;rintro e w' ⟨rfl,rfl⟩
 gi_wp2_with fail
 gi_loopw [8] (fun s8 wr=> ∃ (i:Nat) (pre:List (Fin E.length)),s8 =.int .i64 i/\i<=E.length/\pre.length=i/\J pre wr/\bR wr) (fun s8 _=>E.length - (intOf s8).toNat)
 case atStart=>exact⟨0, [],rfl,Zj _,rfl,H0.out,Hg.out⟩
 case round=>
  obtain⟨i,pre,rfl,hi,a5,hj,hg⟩:=hrel;have Hj:=Qa hj;have a9:=Qa hg;have a7:=Qa a5;have c1:=b2.out wr hg;clear a5 hj hg
  by_cases hin:i<E.length
  ·have hp:=b1.out wr ⟨i,hin⟩ a9.out;have hy:=HY.out pre ⟨i,hin⟩
   dsimp only at hp
   generalize E.get ⟨i,hin⟩=x at hp hy;obtain⟨s,u⟩:=x
   dsimp only at hp hy
   have Hp:=Qa hp;have Hy:=Qa hy;have a4:=Qa hin;clear hp hy;have h':(i:Int)<E.length:=by omega
   have w1:IntKind.i64.wrap ((i:Int)+1)= (i:Int)+1:=IntWalk.i64_in _ (by omega)
   gi_wp2_with fail
   refine⟨fun _ _=>trivial,?_⟩;go_invoke
   gi_wp2_with fail
   refine(callsIn_wide.2 Hp.out).mono ?_;rintro e w3 ⟨rfl,a0⟩;have a1:J pre w3:=HJ.out _ _ _ none Hj.out ⟨a0.os,a0.tape,a0.output,a0.size,fun k hk _=>a0.block k hk⟩ (fun r e=>by cases e);have b0:=Qa (Hk.out _ _ a9.out (fQ.of_below a0));obtain⟨fn,tmps,assign,body,hy,b5⟩:=Hy.out w3 a1 (by rw[a7.out];exact a4.out);clear a0
   gi_wp2_with fail
   refine b5.mono ?_;rintro e W3 (⟨rfl,a1,b6⟩|⟨rfl,a3⟩)
   ·gi_wp2
    refine⟨⟨i+1,_,rfl,a4.out,by rw[List.length_append,a7.out];rfl,a1,Hk.out _ _ b0.out b6⟩,?_⟩
    show E.length - ((i:Int)+1).toNat<E.length - ((i:Int)).toNat
    have:=a4.out;omega
   ·gi_wp2
    refine Zg (results_none rfl ..) rfl ?_;exact⟨⟨_,rfl⟩,.inr ⟨_,trivial,a3⟩⟩
  ·have h':¬ (i:Int)<E.length:=by omega
   gi_wp2_with fail
   go_end0;exact⟨⟨_,rfl⟩,.inl ⟨_,Hj.out⟩⟩
theorem AT (n:Nat)(hn:1<=n)(l sb:Nat)(A:Option Addr)(E:List (ByteArray×Value))(hE:E.length<=maxLen)(B B2:Nat)(bR:World->Prop)(a6:∀X Y,bR X->fQ B B2 X Y->bR Y)
  (a2:∀X,bR X->X.cell? ⟨sb,0,none⟩=some (.iface 124 (.pointer A)))
  (HL:∀X,bR X->Calls Tryz.prog 45 #[.pointer A] X fun e w'=>e =.returned (.int .i64 E.length)/\X=w')
  (HP:∀X (i:Fin E.length),bR X->Calls Tryz.prog 46 #[.pointer A,.int .i64 i.val] X fun e w'=>e =.returned (.tuple #[.string (E.get i).1,(E.get i).2])/\Below X.heap.size X w')
  (J Jx:List (Fin E.length)->World->Prop) (W:World) (hG:bR W) (hJ:AbidesFrom W.heap.size J) (b4:AbidesFrom W.heap.size Jx)
  (hY:∀pre (x:Fin E.length) W1,J pre W1->pre.length<E.length->YieldAt Fence.wide (n - 1) Tryz.prog l #[.string (E.get x).1,(E.get x).2] W1 fun e W'=>
   (e =.returned (.bool true)/\J (pre ++ [x]) W'/\fQ B B2 W1 W')\/(e =.returned (.bool false)/\Jx (pre ++ [x]) W'))
  (h0:J [] W) :
  CallsIn Fence.wide n Tryz.prog 63 #[.func (.yield l) #[] #[],.pointer (some ⟨sb,0,none⟩)] W fun e W'=>(∃v,e =.returned v)/\
   ((∃ys:List (Fin E.length),True/\J ys W')\/(∃pre:List (Fin E.length),True/\Jx pre W')):=by
 refine callsIn_of_wp Tryz.func63 rfl trivial ?_ rfl;simp only[Tryz.ntmps63,List.size_toArray,List.length_cons,List.length_nil,Nat.reduceAdd,Nat.reduceSub,Array.replicate_succ,Array.replicate_zero,List.push_toArray,List.append_toArray,List.nil_append,List.cons_append];have Hk:=Qa a6;have b2:=Qa a2;have b3:=Qa HL;have b1:=Qa HP;have HJ:=Qa hJ;have HY:=Qa hY;have Hg:=Qa hG;have H0:=Qa h0;have c0:=a2 W hG;unfold maxLen at hE;clear a6 a2 HL HP hJ hY hG h0 b4
 gi_wp2_with fail
 refine⟨fun _ _=>trivial,?_⟩;go_invoke
 gi_wp2_with fail
 refine(callsIn_wide.2 (b3.out W Hg.out)).mono ?_;rintro e w' ⟨rfl,rfl⟩
 gi_wp2_with fail
 gi_loopw [8] (fun s8 wr=> ∃ (i:Nat) (pre:List (Fin E.length)),s8 =.int .i64 i/\i<=E.length/\pre.length=i/\J pre wr/\bR wr) (fun s8 _=>E.length - (intOf s8).toNat)
 case atStart=>exact⟨0, [],rfl,Zj _,rfl,H0.out,Hg.out⟩
 case round=>
  obtain⟨i,pre,rfl,hi,a5,hj,hg⟩:=hrel;have Hj:=Qa hj;have a9:=Qa hg;have a7:=Qa a5;have c1:=b2.out wr hg;clear a5 hj hg
  by_cases hin:i<E.length
  ·have hp:=b1.out wr ⟨i,hin⟩ a9.out;have hy:=HY.out pre ⟨i,hin⟩
   dsimp only at hp
   generalize E.get ⟨i,hin⟩=x at hp hy;obtain⟨s,u⟩:=x
   dsimp only at hp hy
   have Hp:=Qa hp;have Hy:=Qa hy;have a4:=Qa hin;clear hp hy;have h':(i:Int)<E.length:=by omega
   have w1:IntKind.i64.wrap ((i:Int)+1)= (i:Int)+1:=IntWalk.i64_in _ (by omega)
   gi_wp2_with fail
   refine⟨fun _ _=>trivial,?_⟩;go_invoke
   gi_wp2_with fail
   refine(callsIn_wide.2 Hp.out).mono ?_;rintro e w3 ⟨rfl,a0⟩;have a1:J pre w3:=HJ.out _ _ _ none Hj.out ⟨a0.os,a0.tape,a0.output,a0.size,fun k hk _=>a0.block k hk⟩ (fun r e=>by cases e);have b0:=Qa (Hk.out _ _ a9.out (fQ.of_below a0));obtain⟨fn,tmps,assign,body,hy,b5⟩:=Hy.out w3 a1 (by rw[a7.out];exact a4.out);clear a0
   gi_wp2_with fail
   refine b5.mono ?_;rintro e W3 (⟨rfl,a1,b6⟩|⟨rfl,a3⟩)
   ·gi_wp2
    refine⟨⟨i+1,_,rfl,a4.out,by rw[List.length_append,a7.out];rfl,a1,Hk.out _ _ b0.out b6⟩,?_⟩
    show E.length - ((i:Int)+1).toNat<E.length - ((i:Int)).toNat
    have:=a4.out;omega
   ·gi_wp2
    refine Zg (results_none rfl ..) rfl ?_;exact⟨⟨_,rfl⟩,.inr ⟨_,trivial,a3⟩⟩
  ·have h':¬ (i:Int)<E.length:=by omega
   gi_wp2_with fail
   go_end0;exact⟨⟨_,rfl⟩,.inl ⟨_,Hj.out⟩⟩
theorem pI:Calls Tryz.prog 41 #[.iface t x] w fun e w'=>e =.returned (.func (.func 63) #[] #[.pointer (some ⟨w.heap.size,0,none⟩)])/\w.alloc (.cells #[.iface t x] 113)=w':=by
 go_enter Tryz.func41,Tryz.ntmps41;go_wp2;go_ret;exact⟨rfl,rfl⟩
