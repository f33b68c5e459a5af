import Derived.Test.YtpkdfmjdhmpopaaGreatDoorGZ3bu
import Derived.Test.YtpkdfmjdhmpopaaGreatDoorGZ3aw
import Derived.Lib.SmallJoins
set_option linter.unusedVariables false
set_option linter.unusedSimpArgs false
set_option maxHeartbeats 64000000
set_option maxRecDepth 100000
namespace Go.Proofs.YtpkdfmjdhmpopaaGreatDoor
open Go.RowKit Go.Shelf
variable {s : ByteArray} {d : Dc} {j : JV} {ks : List JV} {xs ys : List UInt8} {c g k n q : Nat} {A : Option Addr} {e : TypeId} {v v' : Value} {w w' w10 w8 : World}
section
variable {B g : Nat} {w : World} {bs : List Nat} {fs : List Fr} {its : List JV} {ms : List (ByteArray × JV)}
theorem cf.freshW {xs:List Value}(h:cf (w.heap.size<= ·) w' e k A n c xs)(hB:B<=w.heap.size)(a0:∀g∈bs,g<w.heap.size):cf (Pb B bs) w' e k A n c xs:=
 h.stay fun g o hp hg _ _=>⟨⟨Zb hB hp,fun hb=>by have:=a0 g hb;omega⟩,hg⟩
theorem qE (h:sS B w g (⟨true, [],ms,none⟩::fs) none bs)(ht:F3 fs none=true)(hB:B<=w.heap.size)(hl:fs.length<1000000000)(hi:∀f∈fs,Io f)(hn:ms.length<=1000000000)(b2:∀s∈ms.map Prod.fst,jU s)(b9: (ms.map Prod.fst).Nodup) :
  Calls Tryz.prog 20 #[.pointer (some ⟨g,0,none⟩)] w fun e w'=>GS B g (cC fs (kG (fB ms))).frs (cC fs (kG (fB ms))).done w e w':=by
 obtain⟨A,c,dv,us,hA⟩:=h;obtain⟨u,m,us,rfl,hw,c7⟩:=hA.innermost;have hin:=Qa (hA.in_top hl);have HA:=Qa hA;have HB:=Qa hB;have hlt:=hA.lt
 cases hw with
 | table gt At ct L ms s0 nm h1 h2 h3 h4 h5 h6=>
 have c6:L.length=ms.length:=by have:=congrArg List.length h4;simpa using this
 have HE:=Qa (fun k=>qC (w:=w.drewN k) (K:=fun gl w1=>Below w.heap.size w w1/\VW (Pb B bs) w1 (.iface 119 (.pointer (some ⟨gl,0,none⟩))) (kG (fB ms))) h2 rfl ((gw (w:=w.drewN k) (xW.of_own h3) (fun p hp=>by
   obtain⟨i,hi,rfl⟩:=List.getElem_of_mem hp;exact⟨b2 _ (by rw [<- h4];exact List.mem_map.2 ⟨_,List.getElem_mem hi,rfl⟩),(h5.2 i L[i].2 ((ms[i]'(by omega)).2) (by rw [List.getElem?_map,Zc hi];rfl) (by rw [List.getElem?_map,Zc (by omega)];rfl)).iface⟩) (by rw [h4];exact b9) (by omega)).mono (by
  rintro e w1 ⟨gl,A1,c1,S,rfl,d0,a7,d4,d2,hp,hs⟩;have hb:Below w.heap.size w w1:=(aD (Zd _ _) k).trans d0;have a7:w.heap.size<=gl:=a7;have b8:S.length=L.length:=hp.length_eq;exact⟨gl,rfl,hb,wv (by rw [b8];exact d4) (by rw [b8];exact d2.freshW hB hlt) ⟨Zb hB a7,fun hk=>by have:=hlt gl hk;omega⟩ hp hs h4 (h5.mono fun _ _ h=>h.later hb)⟩)))
 have Ht:=Qa ht;have Hi:=Qa hi;have Hl:=Qa hl;obtain⟨n,a9⟩:∃n,us.length=n:=⟨_,rfl⟩;have d5:n<1000000000:=by omega
 have c9:n+1<=c:=by
  obtain⟨_,_,e,hc,_⟩:=ag hA.own;obtain⟨-, -,rfl⟩:=Value.slice.inj e;rw [List.length_cons,a9] at hc;exact hc
 obtain⟨go,d3⟩:∃go,A=some ⟨go,0,none⟩:=by
  obtain⟨_,_,e,_,_,hA⟩:=ag hA.own;obtain⟨rfl, -, -⟩:=Value.slice.inj e;exact hA (by simp)
 subst d3;have b6:=Qa a9;clear hA ht hB hi hn h1 h2 h3 h4 h5 h6 b2 b9 hlt c6 c7 a9 hl;go_enter Tryz.func20,Tryz.ntmps20;go_wp2_with fail;(with_reducible refine hin.out.mono ?_);rintro e w1 ⟨rfl,k,rfl⟩;have b5:=Qa (HE.out k);go_wp2_with fail;(with_reducible refine b5.out.mono ?_);rintro e w2 ⟨gl,rfl,w3,m3,⟨c5,c4⟩,rfl⟩;have a4:Below w.heap.size w (w3.drewN m3):=aD c5 m3;have Hv:=Qa (c4.drewN m3);obtain⟨w4,b7⟩:∃w4,w3.drewN m3=w4:=⟨_,rfl⟩;rw [b7] at a4 Hv ⊢;have b0:=Qa a4;have a3:=Qa (HA.out.below a4);clear c5 c4 b7 a4 HE b5;have a1:=a3.out.row;rw [List.length_cons,b6.out] at a1;have c0:=aa a1 (j:=0) (u:= .slice (some ⟨go,0,none⟩) (n+1) c) rfl;have s1:IntKind.i64.wrap ((n:Int)+1 - 1)=n:=by rw [IntWalk.i64_in _ (by omega)];omega
 have s2:IntKind.i64.wrap (n:Int)=n:=IntWalk.i64_in _ (by omega);have s3: (((n+1:Nat):Int))= (n:Int)+1:=by omega
 have s4: (n:Int)<=c:=by omega
 have c0d:w4.drew.cell? ⟨g,0,none⟩=some (.slice (some ⟨go,0,none⟩) (n+1) c):=c0;have f0d:w4.drew.frozen? ⟨g,0,none⟩=false:=aj a1 0;clear a1 c0;go_wp2_with fail;refine cJ (fun w'=>w'.cell? ⟨g,0,none⟩=some (.slice (some ⟨go,0,none⟩) (n+1) c)) 14 (c0d) fun a0=> ?_
 refine tZ 0 a0 ?_;refine tZ 1 a0 ?_;refine tZ 2 a0 ?_;refine tZ 3 a0 ?_;refine tZ 4 a0 ?_;refine tZ 5 a0 ?_
 try simp only [Act.put,jP,jQ,jR]
 refine tZ 6 a0 ?_;refine tZ 7 a0 ?_;refine tZ 8 a0 ?_;refine tZ 9 a0 ?_;refine tZ 10 a0 ?_;refine tZ 11 a0 ?_
 try simp only [Act.put,jP,jQ,jR]
 refine rZ 12 fun K hK=> ?_
 go_simp;refine hK.out _ _ (fun _=>a0) (fun a0=> ?_);clear hK K;have a0:=a0 (by decide)
 try simp only [Act.put,jP,jQ,jR]
 refine tZ 13 a0 ?_
 try simp only [Act.put,jP,jQ,jR]
 refine rZ 14 fun K hK=> ?_
 go_simp;refine hK.out _ _ (fun h=>absurd rfl h) (fun _=> ?_);clear hK K
 try simp only [Act.put,jP,jQ,jR]
 refine a8 (by kernel_rfl) (NoPanic.normal ?_) _;obtain⟨w5,a5⟩:∃w5,(w4.setCell ⟨g,0,none⟩ (.slice (some ⟨go,0,none⟩) n c)).drew=w5:=⟨_,rfl⟩;have c3:kl B w4.drew g _ none _ c dv _ bs:=a3.out.below (Zd _ _).drew;have a2:=c3.pop;rw [b6.out] at a2;have a2:kl B w5 g fs none (some ⟨go,0,none⟩) c dv us (us.flatMap fun u=>dJ u.2):=by rw [<- a5];exact a2
 have a6:bl (fun k=>k=g) w4 w5:=by rw [<- a5];exact(bl.of_below (Zd _ _).drew).trans (bl.set g 0 (.slice (some ⟨go,0,none⟩) n c)) fun i h=> .inl h
 have hm:Mw [] w4 w5:=Mw.of_chg a6 fun k hk _=> .inr (by subst hk;exact⟨_,_,_,a3.out.row,gR⟩)
 have b3:=Hv.out.move (bs':=us.flatMap fun u=>dJ u.2) hm.mv (by simp) (fun k hk=> .inl (by rw [<- a3.out.blocks];exact List.mem_append_right _ hk));have b4:=Qa ((b0.out.mono HB.out).trans (a6.below (Zb HB.out b0.out.size) fun i e=>by rw [e];exact a3.out.low));have c2:=lH ⟨_,_,_,_,a2⟩ Ht.out b3 (Zb HB.out b4.out.size) (by have:=Hl.out;omega) Hi.out;rw [a5];have d1:=Qa c2;clear c3 a6 hm b3 c2 a5 c0d f0d a0;go_wp2_with fail;(with_reducible refine d1.out.mono ?_);rintro e w6 ⟨rfl,b1,bs',hs⟩;have c8:=Qa b1;have Hs:=Qa hs;clear b1 hs;go_wp2_with fail;go_ret;exact⟨rfl,b4.out.trans c8.out,bs',Hs.out⟩
end
section
variable {B g c : Nat} {w : World} {bs : List Nat} {A : Option Addr} {dv u : Value} {f : Fr} {frs : List Fr} {us : List (Value × Nat × Value)}
theorem tV (h:sS B w g frs none bs)(ht:F3 frs none=true)(hB:B<=w.heap.size)(hl:frs.length<=1000000000):Calls Tryz.prog 17 #[.pointer (some ⟨g,0,none⟩), .int .u8 123] w (GS B g (⟨true, [], [],none⟩::frs) none w):=by
 have HT:=Qa (nO h hl);rw [ht] at HT;have Hl:=Qa hl;have H:=Qa h;clear h ht hl;go_enter Tryz.func17,Tryz.ntmps17;go_wp2_with fail;(with_reducible refine HT.out.mono ?_);rintro e w1 ⟨rfl,a1⟩;obtain⟨A,c,dv,us,hA⟩:=H.out.below a1;have a9:us.length=frs.length:=hA.frames.1;obtain⟨n,hn⟩:∃n,us.length=n:=⟨_,rfl⟩;have b2:n<=1000000000:=by have:=Hl.out;omega
 have hh:=hA.row;have ho:=hA.own;rw [hn] at hh ho;have c0:=aa hh (j:=0) (u:= .slice A n c) rfl;have a0:Below w1.heap.size w1 ((w1.alloc (.cells #[.slice none 0 0, .string ⟨#[]⟩, .bool false] 102)).alloc (.cells #[AZ w1.heap.size] 105)):=((Zd _ _).alloc (Za _) _).alloc (by simp) _;have a4:=Qa (ap ho a0 (Za _));have b0:=Qa (av (w1.alloc (.cells #[.slice none 0 0, .string ⟨#[]⟩, .bool false] 102)) [AZ w1.heap.size] 105);have a5:=Qa (ai hh a0);have a6:=Qa (aR a4.out a5.out (by decide));have a3:=Qa ((Below.heap_alloc (w1.alloc (.cells #[.slice none 0 0, .string ⟨#[]⟩, .bool false] 102)) (.cells #[AZ w1.heap.size] 105) w1.heap.size (by simp)).trans (Ze w1 (.cells #[.slice none 0 0, .string ⟨#[]⟩, .bool false] 102)));have HA:=Qa hA;have b1:=Qa a1;have a2:=Qa a0;have HB:=Qa (Zb hB a1.size);have a7:=Qa hB;have Hn:=Qa hn;clear hA a1 a0 hh ho a9 hn H hB;go_wp2_with (at_builtin;refine ar Fy rfl (.tmp 35) (.tmp 39) rfl B (.slice A n c) n (w1.heap.size+1) 1 1 (us.map Prod.fst).reverse [AZ w1.heap.size] (by simp [Act.eval]) a4.out (by simp [Act.eval]) rfl (by have:=b0.out;rw [World.size_alloc] at this;exact this) (by simp [Value.oneCell']) (by unfold maxLen;omega) (by omega) (Zb HB.out a2.out.size) ?_;intro v' w5 p1 p2 p3;obtain⟨A5,q5,rfl, -, -, -⟩:=ag p1;have g5:=aJ a5.out p2 a6.out;have f5:=aj g5 0;have c5:=aa g5 (j:=0) (u:= .slice A n c) rfl;have HK:=Qa p1;have HG:=Qa p2;clear p1 p2 p3 g5);go_ret;obtain rfl:=Hn.out;obtain⟨r1,r2⟩:=HA.out.push (f:=⟨true, [], [],none⟩) HB.out a2.out (Za _) (ae a3.out) HG.out HK.out (fun P w' e=> .table w1.heap.size none 0 [] [] ⟨#[]⟩ none HB.out (e.trans a3.out) ⟨rfl, .inl ⟨rfl,rfl⟩⟩ rfl (bB.nil _) (fun t e=>by cases e));exact⟨rfl,(b1.out.mono a7.out).trans r1,_,_,_,_,_,r2⟩
end
theorem zV {c:Int}(h:dL c=true): (cm c).length<=6* (bF c).length:=by
 have h1:1<=(bF c).length:=by rcases hl:bF c with _ | ⟨x,l⟩;exact absurd hl (nY h);simp
 unfold cm
 repeat' split
 all_goals first | (simp only [List.length_cons,List.length_nil];omega) | omega
theorem sY (h:dy s): (dD s).length<=6*s.size+2:=by
 have hn:=h.nm;have key:∀cs:List Int,(∀c∈cs,dL c=true)->(cs.flatMap cm).length<=6* (cs.flatMap bF).length:=by
  intro cs
  induction cs with
  | nil=>intro _;simp
  | cons c cs ih=>
   intro hc;have h1:=zV (hc c (by simp));have h2:=ih (fun c h=>hc c (Zl _ h));rw [List.flatMap_cons,List.flatMap_cons,List.length_append,List.length_append];omega
 have h1:=key _ hn.1;rw [hn.2] at h1;have h2:s.data.toList.length=s.size:=by simp
 unfold dD jy;rw [List.length_cons,List.length_append];simp only [List.length_cons,List.length_nil];omega
theorem AC {x:Int}(h: -1000000000<=x/\x<=1000000000): (fQ x).length<=12:=by
 unfold fQ
 split
 ·simp
 ·rcases Int.lt_or_le x 0 with hn | hn
  ·obtain⟨m,rfl⟩:∃m:Nat,x = -(m:Int):=⟨x.natAbs,by omega⟩
   rw [Lib.itoa_neg m (by omega)];have:=gv (u:=m) (by omega);simp;omega
  ·obtain⟨m,rfl⟩:∃m:Nat,x= (m:Int):=⟨x.natAbs,by omega⟩
   rw [Lib.itoa_nonneg m];have:=gv (u:=m) (by omega);simp;omega
inductive AK (L:Nat):JV->Prop
 | null:AK L iM
 | bool (b:Bool):AK L (eI b)
 | num (d:Dc):d.digits.size<=L+1-> -1000000000<=d.exp/\d.exp<=1000000000->AK L (cY d)
 | text (s:ByteArray):dy s->s.size<=L->AK L (dN s)
 | list (ks:List JV): (∀u∈ks,AK L u)->AK L (dl ks)
 | obj (ns:List ByteArray) (ks:List JV):ns.length=ks.length->(∀s∈ns,dy s/\s.size<=L)->(∀u∈ks,AK L u)->AK L (.mk 6 false ⟨#[]⟩ ⟨false,⟨#[]⟩,0⟩ ns ks)
theorem tN {L:Nat}(h:∀u∈ks,(u.txt).length+6*L+10<=u.size* (12*L+40))(o:Bool):∀ (first:Bool) (ns:List ByteArray),ns.length=ks.length\/o=false->(∀s∈ns,dy s/\s.size<=L)->(JV.txts o first ns ks).length<=JV.sizes ks* (12*L+40):=by
 induction ks with
 | nil=>intro first ns _ _;simp [JV.txts]
 | cons v vs ih=>
  intro first ns hl hs;have h1:=h v (by simp);have a0:∀s∈ns.tail,dy s/\s.size<=L:=fun s h=>hs s (List.mem_of_mem_tail h)
  have h2:=ih (fun u hu=>h u (Zl _ hu)) false ns.tail (hl.imp (fun e=>by cases ns <;> simp at e ⊢;omega) id) a0;simp only [JV.txts,JV.sizes,List.length_append];have h3: (if first then([]:List UInt8) else [44]).length<=1:=by cases first <;> simp
  have h4: (if o then dD (ns.headD ⟨#[]⟩) ++ [58] else []).length<=6*L+3:=by
   cases o with
   | false=>simp
   | true=>
    cases ns with
    | nil=>simp at hl
    | cons a ns=>
     obtain⟨q1,q2⟩:=hs a (by simp);have:=sY q1;simp only [if_true,List.headD_cons,List.length_append,List.length_cons,List.length_nil];omega
  rw [Nat.add_mul];omega
theorem AK.len {L:Nat}(h:AK L j):j.txt.length+6*L+10<=j.size* (12*L+40):=by
 induction h with
 | null=>simp [iM,JV.txt,JV.size,JV.sizes];omega
 | bool b=>cases b <;> simp [eI,JV.txt,JV.size,JV.sizes] <;> omega
 | num d h1 h2=>
  have:=AC h2;have e: (cY d).txt=eR d:=by simp [cY,JV.txt]
  have e2: (cY d).size=1:=by simp [cY,JV.size,JV.sizes]
  have e3:d.digits.data.toList.length=d.digits.size:=by simp
  rw [e,e2];unfold eR;rw [List.length_append,List.length_append,e3];have e4: (if d.neg then [45] else([]:List UInt8)).length<=1:=by split <;> simp
  omega
 | text s h1 h2=>
  have:=sY h1;have e: (dN s).txt=dD s:=by simp [dN,JV.txt]
  have e2: (dN s).size=1:=by simp [dN,JV.size,JV.sizes]
  rw [e,e2];omega
 | list ks _ ih=>
  have h1:=tN ih false true [] (.inr rfl) (by simp);have e: (dl ks).txt.length= (JV.txts false true [] ks).length+2:=by simp [dl,JV.txt]
  have e2: (dl ks).size=1+JV.sizes ks:=by simp [dl,JV.size]
  rw [e,e2,Nat.add_mul];omega
 | obj ns ks hl hs _ ih=>
  have h1:=tN ih true true ns (.inl hl) hs;have e: (JV.mk 6 false ⟨#[]⟩ ⟨false,⟨#[]⟩,0⟩ ns ks).txt.length= (JV.txts true true ns ks).length+2:=by simp [JV.txt]
  have e2: (JV.mk 6 false ⟨#[]⟩ ⟨false,⟨#[]⟩,0⟩ ns ks).size=1+JV.sizes ks:=by simp [JV.size]
  rw [e,e2,Nat.add_mul];omega
theorem zI (h:wh d):jJ d:=by
 rcases h with rfl | ⟨h0,hd,hf,hl,h1,h2⟩
 ·exact .inl rfl
 ·have hz:d.digits.data.toList.length=d.digits.size:=Array.length_toList
  refine .inr ⟨⟨fun c hc=> ?_,fun e=> ?_,fun c hc=> ?_,fun c hc=> ?_⟩,h1,h2⟩
  ·obtain⟨i,hi,rfl⟩:=List.getElem_of_mem hc
   have:=hd i (by omega);unfold eN;exact decide_eq_true this
  ·rw [e] at hz
   simp at hz;omega
  ·rw [List.head?_eq_getElem?,Zc (by omega)] at hc
   rw [<- Zh hc];exact fun e=>hf h0 (congrArg UInt8.toNat e)
  ·rw [List.getLast?_eq_getElem?,Zc (by omega)] at hc
   rw [<- Zh hc];intro e;have:=congrArg UInt8.toNat e;simp only [hz] at this;exact hl (by omega) this
theorem fe (g:bK dc j):Tx j:=by
 induction g with
 | null=>exact .null
 | bool b=>exact .bool b
 | num d hd hn=>exact .num d (zI hn)
 | text s hs=>exact .text s hs.1
 | list ks _ ih=>exact .list ks ih
 | obj ns ks h1 h2 h3 _ ih=>exact .obj ns ks h1 (fun s hs=>(h2 s hs).1) h3 ih
theorem Bp (g:bK dc j):AK 6000 j:=by
 induction g with
 | null=>exact .null
 | bool b=>exact .bool b
 | num d hd hn=>exact .num d hd (by rcases hn with rfl | ⟨_,_,_,_,h⟩;(· exact⟨by decide,by decide⟩);exact h)
 | text s hs=>exact .text s hs.1 hs.2
 | list ks _ ih=>exact .list ks ih
 | obj ns ks h1 h2 h3 _ ih=>exact .obj ns ks h1 h2 ih
theorem pX (g:bK dc j):Sz j:=by
 induction g with
 | null=>exact .mk _ _ _ _ _ _ (by decide) (by decide) (by simp) (by simp)
 | bool b=>exact .mk _ _ _ _ _ _ (by decide) (by decide) (by simp) (by simp)
 | num d hd hn=>exact .mk _ _ _ _ _ _ (by decide) (by omega) (by simp) (by simp)
 | text s hs=>exact .mk _ _ _ _ _ _ (by have:=hs.2;omega) (by decide) (by simp) (by simp)
 | list ks _ ih=>exact .mk _ _ _ _ _ _ (by decide) (by decide) (by simp) ih
 | obj ns ks h1 h2 h3 _ ih=>exact .mk _ _ _ _ _ _ (by decide) (by decide) (fun s hs=>by have:=(h2 s hs).2;omega) ih
theorem ui (g:bK dc j)(h:j.size<=6000+1):0<j.txt.length/\j.txt.length<=1000000000:=by
 refine⟨?_, ?_⟩
 ·cases fe g with
  | null=>decide
  | bool b=>cases b <;> decide
  | num d hd=>obtain⟨c,l,e,_⟩:=jw hd;show 0< (eR d).length;rw [e];simp
  | text s hs=>show 0< (dD s).length;unfold dD jy;simp
  | list ks _=>show 0< (91::_:List UInt8).length;simp
  | obj ns ks _ _ _ _=>show 0< (123::_:List UInt8).length;simp
 ·have h1:=(Bp g).len
  have h2:j.size* (12*6000+40)<=(6000+1)* (12*6000+40):=Nat.mul_le_mul_right _ h;omega
theorem rR:Calls Tryz.prog 24 #[.slice A n q, .slice none 0 0] w fun e w'=>e = .returned (.slice A n q)/\w=w':=by
 go_enter Tryz.func24,Tryz.ntmps24;go_wp2_with fail
 go_loopw [0,5,6] (fun s0 s5 _ wr=>s0 = .slice A n q/\s5 = .int .i64 0/\w=wr) (fun _ _ _ _=>0)
 case atStart=>exact⟨rfl,rfl,rfl⟩
 case round=>
  obtain⟨rfl,rfl,rfl⟩:=hrel;go_wp2_with fail;go_ret;exact⟨rfl,rfl⟩
def IG (xs:List UInt8)(w:World)(e:Ending)(w':World):Prop:= ∃A n q ok,e = .returned (.tuple #[.slice A n q, .bool ok])/\Below w.heap.size w w'/\(ok=true->(n=0/\xs = [])\/∃j,bK dc j/\bG (w.heap.size<= ·) w' w.heap.size (.slice A n q) (j.flat 0)/\j.size<=6000+1)
theorem tP {tv:Value}(hb:Bs w tv xs):Calls Tryz.prog 5 #[.agg #[tv, .slice none 0 0, .slice none 0 0]] w (IG xs w):=by
 obtain⟨hm,A,c,rfl,hc, -⟩:=id hb;have b2:=ac w (.cells #[.slice A xs.length c, .slice none 0 0, .slice none 0 0] 25);have b9:=Qa (Ze w (.cells #[.slice A xs.length c, .slice none 0 0, .slice none 0 0] 25));have a7:=Qa (hb.below b2);have a4:=Qa b2;clear hb b2
 by_cases h0:xs.length=0
 ·have b8: ((xs.length:Int)==0)=true:=by rw [h0];rfl
  have Hx:=Qa (List.eq_nil_of_length_eq_zero h0);clear h0 hc hm;go_enter Tryz.func5,Tryz.ntmps5;go_wp2_with fail;go_ret2;exact⟨none,0,0,true,rfl,a4.out,fun _=> .inl ⟨rfl,Hx.out⟩⟩
 ·have b8: ((xs.length:Int)==0)=false:=by simp only [beq_eq_false_iff_ne];omega
  by_cases hl:xs.length<=6000
  ·have b7:¬ (6000:Int)<xs.length:=by omega
   have a1:=Qa (yD a7.out hl);have Hl:=Qa hl;clear h0 hl;go_enter Tryz.func5,Tryz.ntmps5;go_wp2_with fail;(with_reducible refine a1.out.mono ?_);rintro e w2 ⟨v,cd,h,l,sA,sn,sc,rfl,ht⟩;obtain⟨a3,⟨A2,n2,q2,rfl⟩,hj⟩:=ht;have a0:=ac w2 (.cells #[.int .i64 cd, .int .i64 h, .int .i64 l, .slice sA sn sc] 70);have a5:=Qa (a4.out.trans ((a3.trans (a0.mono a3.size)).mono a4.out.size));have b0:=ai (ai b9.out a3) a0;have b4:=a4.out.size
   by_cases hcd:cd=0
   ·obtain⟨j,hg,hf,hz⟩:=hj hcd
    subst hcd;have a9:=hf.below a0 (Za _);have c1:n2=j.size:=by obtain⟨_,_,e,_⟩:=hf.form;obtain⟨-,e, -⟩:=Value.slice.inj e;rw [e,JV.flat_len]
    have HD:=Qa (vp (a9.flat.low (Zj _)) (by have:=Hl.out;omega));have b1:=Qa a9;have Hg:=Qa hg;have Hz:=Qa (show j.size<=6000+1 by have:=Hl.out;omega);clear a3 hj hf a9 hg hz c1 a1 a7;go_wp2_with fail;obtain⟨w3,b5⟩:∃w3,w2.alloc (.cells #[.int .i64 0, .int .i64 h, .int .i64 l, .slice sA sn sc] 70)=w3:=⟨_,rfl⟩;rw [b5] at HD b1 a5 b0 a0 ⊢;clear b5;(with_reducible refine HD.out.mono ?_);rintro e w4 ⟨m,rfl,a6⟩;have a2:=ai b0 a6;have d1:=aa a2 (j:=1) (u:= .slice none 0 0) rfl;have d2:=aa a2 (j:=2) (u:= .slice none 0 0) rfl;have c0:=Qa (((b1.out.below a6 (Za _)).low (base:=_) (b:=w.heap.size) b4).imp (Q:=(w.heap.size<= ·)) fun g hg _=>Zb b4 hg);have b3:=Qa (a5.out.trans (a6.mono a5.out.size));clear b0 a2 a6 HD b1 a5 a0
    by_cases hm: (300:Int)<m
    ·go_wp2_with fail
     go_ret2;exact⟨none,0,0,false,rfl,b3.out,fun e=>by cases e⟩
    ·go_wp2_with fail
     go_loopw [6] (fun s6 wr=>s6 = .int .i64 0/\w4=wr) (fun _ _=>0)
     case atStart=>exact⟨rfl,rfl⟩
     case round=>
      obtain⟨rfl,rfl⟩:=hrel;go_wp2_with fail;(with_reducible refine rR.mono ?_);rintro e w5 ⟨rfl,rfl⟩;go_wp2_with fail;go_ret2;exact⟨A2,n2,q2,true,rfl,b3.out,fun _=> .inr ⟨j,Hg.out,c0.out,Hz.out⟩⟩
   ·have b6: (cd !=0)=true:=by simp [hcd]
    clear a3 hj hcd a1 a7;go_wp2_with fail;go_ret2;exact⟨none,0,0,false,rfl,a5.out,fun e=>by cases e⟩
  ·have b7: (6000:Int)<xs.length:=by omega
   clear h0 hl;go_enter Tryz.func5,Tryz.ntmps5;go_wp2_with fail;go_ret2;exact⟨none,0,0,false,rfl,a4.out,fun e=>by cases e⟩
structure xg (w:World):Prop where
 env:∃aU aE,pk w aU aE
 may:jZ w
 pow:dt w
 eNil:bu w 0
 eTwice:bu w 2
 eHidden:bu w 1
 eSyntax:bu w 3
theorem xg.below (h:xg w)(hb:Below w.heap.size w w'):xg w':=by
 obtain⟨⟨aU,aE,h1⟩,h2,h3,h4,h5,h6,h7⟩:=h;exact⟨⟨aU,aE,h1.below hb⟩,h2.below hb,h3.below hb,h4.below hb,h5.below hb,h6.below hb,h7.below hb⟩
theorem jE (h:Bs w v xs)(h':Bs w v' ys):Calls Tryz.prog 9 #[v,v'] w fun e w'=>e = .returned (.bool (decide (xs=ys)))/\w=w':=by
 have c1:=aF h;have c2:=aF h';have He:Hid (((⟨xs.toArray⟩:ByteArray).toList== (⟨ys.toArray⟩:ByteArray).toList)=decide (xs=ys)):=Qa (by
  rw [fg,fg,Bool.eq_iff_iff];simp)
 clear h h';generalize (⟨xs.toArray⟩:ByteArray)=a at *;generalize (⟨ys.toArray⟩:ByteArray)=b at *;go_enter Tryz.func9,Tryz.ntmps9;go_wp2_with fail;go_ret;rw [<- He.out];exact⟨rfl,rfl⟩
theorem qO (a:Addr)(W:World): (binOp .neq 35 (bH a) (bH a)).run Tryz.prog W = .ok (.bool false) W:=by
 obtain⟨i,hi,hc⟩:=Option.map_eq_some_iff.1 zL;obtain⟨j,hj,hs⟩:=Option.map_eq_some_iff.1 Ce;simp only [binOp];simp [Op.equal,Op.maxDepth,run_equalIn_iface_ptr_same W 9998 a Tryz.underlying35 Tryz.underlying406 hi hc hj]
theorem iT (w:World)(xs:List UInt8)(hm:xs.length<=9223372036854775807):Bs (w.alloc (.cells (gV xs).toArray 5 (xs.length,xs.length+1))) (.slice (some ⟨w.heap.size,0,none⟩) xs.length xs.length) xs:=qV xs hm (Za _) (Ze w _)
theorem xF:zX ⟨false,⟨#[]⟩,0⟩:=⟨by decide,by decide,by decide⟩
theorem eT {k:Int}{t:Bool}{x:ByteArray}:x.size<=1000000000->d.digits.size<=1000000000->Sz (.mk k t x d [] []):=fun h1 h2=> .mk _ _ _ _ _ _ h1 h2 (by simp) (by simp)
theorem ER:Sz F7:=by
 refine .mk _ _ _ _ _ _ (by decide) (by decide) (by simp;decide) (fun u hu=> ?_);simp only [List.mem_cons,List.mem_nil_iff,or_false] at hu;rcases hu with rfl | rfl
 ·exact eT (by decide) (by decide)
 ·refine .mk _ _ _ _ _ _ (by decide) (by decide) (by simp) (fun u hu=> ?_)
  simp only [List.mem_cons,List.mem_nil_iff,or_false] at hu;rcases hu with rfl | rfl <;> exact eT (by decide) (by decide)
theorem Bi:Tx (dl [cY ⟨false,⟨#[49]⟩,0⟩,cY ⟨false,⟨#[50]⟩,0⟩]):=by
 refine .list _ fun u hu=> ?_
 simp only [List.mem_cons,List.mem_nil_iff,or_false] at hu;rcases hu with rfl | rfl
 ·exact .num _ (.inr ⟨⟨by decide,by decide,by decide,by decide⟩,by decide,by decide⟩)
 ·exact .num _ (.inr ⟨⟨by decide,by decide,by decide,by decide⟩,by decide,by decide⟩)
theorem AO:Sz (dl [cY ⟨false,⟨#[49]⟩,0⟩,cY ⟨false,⟨#[50]⟩,0⟩]):=by
 refine .mk _ _ _ _ _ _ (by decide) (by decide) (by simp) (fun u hu=> ?_);simp only [List.mem_cons,List.mem_nil_iff,or_false] at hu;rcases hu with rfl | rfl <;> exact eT (by decide) (by decide)
def bS:ByteArray:=⟨#[98]⟩
theorem qI:dy bS:=⟨[98],by decide,by decide⟩
def bJ:JV:=kG [(bS,eI true)]
theorem Co:bJ.txt = [123,34,98,34,58,116,114,117,101,125]:=by rfl
theorem Gk:Tx bJ:= .obj [bS] [eI true] rfl (fun s hs=>by rw [List.mem_singleton.1 hs];exact qI) (List.pairwise_singleton _ _) (fun u hu=>by rw [List.mem_singleton.1 hu];exact .bool true)
theorem Gy:Sz bJ:= .mk _ _ _ _ _ _ (by decide) (by decide) (fun s hs=>by rw [List.mem_singleton.1 hs];decide) (fun u hu=>by rw [List.mem_singleton.1 hu];exact eT (by decide) (by decide))
theorem Fi (h:w'.heap[w.heap.size]?=some (.cells #[.slice none 0 0, .nilIface] 94 (0,0))):sS w.heap.size w' w.heap.size [] none []:=
 ⟨none,0, .nilIface, [],h,Za _,⟨rfl, .inl ⟨rfl,rfl⟩⟩,bB.nil _,rfl,List.nodup_nil,rfl⟩
theorem l7 {w12:World}{a:Addr}(h:w10.cell? ⟨g,0,none⟩=some (bH a))(h1:Below w8.heap.size w8 w10)(h2:Below w8.heap.size w8 w12)(he:bu w8 g):w12.cell? ⟨g,0,none⟩=some (bH a):=by
 obtain⟨b,hb⟩:=he;have e:=Zf h1 hb;rw [h] at e;rw [Zh e];exact Zf h2 hb
theorem xd {a:Addr}(h:w10.cell? ⟨g,0,none⟩=some (bH a))(h1:Below w8.heap.size w8 w10)(he:bu w8 g):w8.cell? ⟨g,0,none⟩=some (bH a):=l7 h h1 (Zd _ _) he
def GV (w:World)(e:Ending)(w':World):Prop:=e = .returned (.bool true)/\Below w.heap.size w w'
theorem yC (hL:xg w):Calls Tryz.prog 4 #[] w (GV w):=by
 have a5:=ac w (.cells #[.int .u8 123, .int .u8 32, .int .u8 34, .int .u8 98, .int .u8 34, .int .u8 32, .int .u8 58, .int .u8 32, .int .u8 91, .int .u8 49, .int .u8 46, .int .u8 53, .int .u8 48, .int .u8 44, .int .u8 32, .int .u8 49, .int .u8 101, .int .u8 50, .int .u8 93, .int .u8 44, .int .u8 32, .int .u8 34, .int .u8 97, .int .u8 92, .int .u8 117, .int .u8 48, .int .u8 48, .int .u8 54, .int .u8 50, .int .u8 34, .int .u8 32, .int .u8 58, .int .u8 32, .int .u8 110, .int .u8 117, .int .u8 108, .int .u8 108, .int .u8 32, .int .u8 125] 5 (39,40));have g0:=Qa a5;have H1:=Qa (show Calls Tryz.prog 12 #[.slice (some ⟨w.heap.size,0,none⟩) 39 39] (w.alloc (.cells #[.int .u8 123, .int .u8 32, .int .u8 34, .int .u8 98, .int .u8 34, .int .u8 32, .int .u8 58, .int .u8 32, .int .u8 91, .int .u8 49, .int .u8 46, .int .u8 53, .int .u8 48, .int .u8 44, .int .u8 32, .int .u8 49, .int .u8 101, .int .u8 50, .int .u8 93, .int .u8 44, .int .u8 32, .int .u8 34, .int .u8 97, .int .u8 92, .int .u8 117, .int .u8 48, .int .u8 48, .int .u8 54, .int .u8 50, .int .u8 34, .int .u8 32, .int .u8 58, .int .u8 32, .int .u8 110, .int .u8 117, .int .u8 108, .int .u8 108, .int .u8 32, .int .u8 125] 5 (39,40))) _ from by
  obtain⟨⟨aU,aE,hE⟩,hM,hP, -⟩:=hL.below a5;exact mW (v:= .slice (some ⟨w.heap.size,0,none⟩) 39 39) (xs:=Ir) (j:=F7) hE hM hP (iT w Ir (by decide)) (by decide) (by decide) AR Fg ER (by rw [Cd];decide))
 rw [Cd] at H1;have HL:=Qa hL;clear hL a5;have q0:=fun (w:World) (C:Array Value) (n c:Nat)=>Lib.run_convert_bytes_const (P:=Tryz.prog) w 22 5 C n c Tryz.underlying22 Tryz.underlying5
 go_enter Tryz.func4,Tryz.ntmps4;go_wp2_with fail;(with_reducible refine H1.out.mono ?_);rintro e w1 ⟨u1,rfl,f8,g7⟩;have f3:=Qa (g0.out.trans (g7.mono g0.out.size));have a1:=Qa (au.bs f8);obtain⟨A1,q1,rfl, -⟩:=ag f8;clear f8 g7 H1 g0;obtain⟨aN,hN⟩:=(HL.out.below f3.out).eNil;have HN:=Qa hN;have H2:=Qa (yS hN);clear hN;go_wp2_with fail;(with_reducible refine H2.out.mono ?_);rintro e w2 ⟨rfl,f2⟩;have e4:=Qa (f3.out.trans (f2.mono f3.out.size));replace a1:=Qa (a1.out.below f2);replace HN:=Qa (Zf f2 HN.out);obtain⟨aH,hH⟩:=(HL.out.below e4.out).eHidden;have HH:=Qa hH;have H3:=Qa (vW hH);clear hH f2 H2 f3;go_wp2_with fail;(with_reducible refine H3.out.mono ?_);rintro e w3 ⟨rfl,d0⟩;have f6:=Qa (e4.out.trans (d0.mono e4.out.size));replace a1:=Qa (a1.out.below d0);replace HN:=Qa (Zf d0 HN.out);replace HH:=Qa (Zf d0 HH.out);clear d0 H3 e4;have g2:=ac w3 (.cells #[.int .u8 49] 5 (1,2));have f4:=ac (w3.alloc (.cells #[.int .u8 49] 5 (1,2))) (.cells #[.int .u8 49, .int .u8 46, .int .u8 48] 5 (3,4));have c9:=g2.trans (f4.mono g2.size);have a3:=Qa (f6.out.trans (c9.mono f6.out.size));have H4:=Qa (show Calls Tryz.prog 15 #[.slice (some ⟨w3.heap.size,0,none⟩) 1 1, .slice (some ⟨w3.heap.size+1,0,none⟩) 3 3] ((w3.alloc (.cells #[.int .u8 49] 5 (1,2))).alloc (.cells #[.int .u8 49, .int .u8 46, .int .u8 48] 5 (3,4))) _ from by
  obtain⟨⟨aU,aE,hE⟩,hM,hP, -⟩:=HL.out.below a3.out;have b2:=iT (w3.alloc (.cells #[.int .u8 49] 5 (1,2))) [49,46,48] (by decide);rw [World.size_alloc] at b2;exact zR (v:= .slice (some ⟨w3.heap.size,0,none⟩) 1 1) (v':= .slice (some ⟨w3.heap.size+1,0,none⟩) 3 3) (xs:= [49]) (xs':= [49,46,48]) (j:=cY ⟨false,⟨#[49]⟩,0⟩) (j':=cY ⟨false,⟨#[49]⟩,0⟩) hE hM hP ((iT w3 [49] (by decide)).below f4) (by decide) (by decide) yQ b2 (by decide) (by decide) uZ)
 rw [bV.2 rfl] at H4;have q4:=Joins.run_convert_bytes_const_at (P:=Tryz.prog) (w3.alloc (.cells #[.int .u8 49] 5 (1,2))) 22 5 #[.int .u8 49, .int .u8 46, .int .u8 48] 3 3 (w3.heap.size+1) (by simp) Tryz.underlying22 Tryz.underlying5;replace a1:=Qa (a1.out.below c9);replace HN:=Qa (Zf c9 HN.out);replace HH:=Qa (Zf c9 HH.out);clear g2 f4 c9 f6;go_wp2_with fail;(with_reducible refine H4.out.mono ?_);rintro e w4 ⟨rfl,c1⟩;have e8:=Qa (a3.out.trans (c1.mono a3.out.size));replace a1:=Qa (a1.out.below c1);replace HN:=Qa (Zf c1 HN.out);replace HH:=Qa (Zf c1 HH.out);clear c1 H4 a3;have H5:=Qa (show Calls Tryz.prog 7 #[.iface 57 (.pointer none)] w4 _ from by
  obtain⟨⟨aU,aE,hE⟩,hM,hP, -⟩:=HL.out.below e8.out;exact eo (P:=fun _=>True) (j:=dl []) .bare hP hE.glob (.list [] (by simp)) (eT (by decide) (by decide)) (by decide))
 rw [show(dl []).txt = [91,93] from rfl] at H5;go_wp2_with fail;(with_reducible refine H5.out.mono ?_);rintro e w5 ⟨u5,rfl,g4,c4⟩;have f1:=Qa (e8.out.trans (c4.mono e8.out.size));replace a1:=Qa (a1.out.below c4);replace HN:=Qa (Zf c4 HN.out);replace HH:=Qa (Zf c4 HH.out);have a6:=Qa (au.bs g4);obtain⟨A5,q5,rfl, -⟩:=ag g4;clear g4 c4 H5 e8;have C1:=Qa (show Calls Tryz.prog 10 #[.iface 58 (.agg #[]), .iface 59 (.bool false)] w5 _ from by
  obtain⟨⟨aU,aE,hE⟩,hM,hP, -⟩:=HL.out.below f1.out;exact fT (P:=fun _=>True) (Q:=fun _=>True) (a:=some iM) (b:=some (eI false)) .null (.bool false) hP hE.glob (fun j e=>by cases e;exact Tx.jb .null (eT (by decide) (by decide))) (fun j e=>by cases e;exact Tx.jb (.bool _) (eT (by decide) (by decide))))
 rw [show nQ (some iM) (some (eI false)) = -1 from rfl] at C1;go_wp2_with fail;(with_reducible refine C1.out.mono ?_);rintro e w6 ⟨rfl,b6⟩;have e5:=Qa (f1.out.trans (b6.mono f1.out.size));replace a1:=Qa (a1.out.below b6);replace a6:=Qa (a6.out.below b6);replace HN:=Qa (Zf b6 HN.out);replace HH:=Qa (Zf b6 HH.out);clear b6 C1 f1;have C2:=Qa (show Calls Tryz.prog 10 #[.iface 60 (.string ⟨#[98]⟩), .iface 60 (.string ⟨#[97,98]⟩)] w6 _ from by
  obtain⟨⟨aU,aE,hE⟩,hM,hP, -⟩:=HL.out.below e5.out;exact fT (P:=fun _=>True) (Q:=fun _=>True) (a:=some (dN ⟨#[98]⟩)) (b:=some (dN ⟨#[97,98]⟩)) (.text _) (.text _) hP hE.glob (fun j e=>by cases e;exact .mk _ _ _ _ _ _ (by decide) xF (by simp) (by simp)) (fun j e=>by cases e;exact .mk _ _ _ _ _ _ (by decide) xF (by simp) (by simp)))
 rw [show nQ (some (dN ⟨#[98]⟩)) (some (dN ⟨#[97,98]⟩))=1 from rfl] at C2;go_wp2_with fail;(with_reducible refine C2.out.mono ?_);rintro e w7 ⟨rfl,b4⟩;have e6:=Qa (e5.out.trans (b4.mono e5.out.size));replace a1:=Qa (a1.out.below b4);replace a6:=Qa (a6.out.below b4);replace HN:=Qa (Zf b4 HN.out);replace HH:=Qa (Zf b4 HH.out);clear b4 C2 e5;have C3:=Qa (show Calls Tryz.prog 10 #[.nilIface, .nilIface] w7 _ from by
  obtain⟨⟨aU,aE,hE⟩,hM,hP, -⟩:=HL.out.below e6.out;exact fT (P:=fun _=>True) (Q:=fun _=>True) (a:=none) (b:=none) rfl rfl hP hE.glob (fun j e=>by cases e) (fun j e=>by cases e))
 rw [show nQ none none=0 from rfl] at C3;go_wp2_with fail;(with_reducible refine C3.out.mono ?_);rintro e w8 ⟨rfl,b5⟩;have a2:=Qa (e6.out.trans (b5.mono e6.out.size));replace a1:=Qa (a1.out.below b5);replace a6:=Qa (a6.out.below b5);replace HN:=Qa (Zf b5 HN.out);replace HH:=Qa (Zf b5 HH.out);clear b5 C3 e6;go_wp2_with fail;(with_reducible refine oO.mono ?_);rintro e w9 ⟨rfl,g8,g5⟩;have H9:=Qa g5;have g6:=Qa (Fi g8);clear g8 g5;have O1:=Qa (tV g6.out rfl H9.out.size (Zj _));go_wp2_with fail;(with_reducible refine O1.out.mono ?_);rintro e w10 ⟨rfl,d1,bs10,c7⟩;have b3:=Qa (H9.out.trans d1);have e0:=Qa c7;clear d1 c7 O1 g6 H9;obtain⟨aT,hT⟩:=(HL.out.below (a2.out.trans (b3.out.mono a2.out.size))).eTwice;have c5:=Qa hT;have N1:=Qa (show Calls Tryz.prog 18 #[.pointer (some ⟨w8.heap.size,0,none⟩), .string ⟨#[98]⟩] w10 _ from by
  obtain⟨⟨aU,aE,hE⟩, -⟩:=HL.out.below (a2.out.trans (b3.out.mono a2.out.size));exact pp e0.out qI hE.glob (by decide) hT b3.out.size (by decide) (by decide))
 clear hT;go_wp2_with fail;(with_reducible refine N1.out.mono ?_);rintro e w11 (⟨hx, -⟩ | ⟨-,rfl,c6,bs11,e3⟩)
 ·exact absurd hx (by simp)
 have f0:=Qa (b3.out.trans c6);have e2:=Qa e3;clear c6 e3 N1 e0;have P1:=Qa (show Calls Tryz.prog 19 #[.pointer (some ⟨w8.heap.size,0,none⟩), .iface 59 (.bool true)] w11 _ from by
  obtain⟨⟨aU,aE,hE⟩,hM,hP, -⟩:=HL.out.below (a2.out.trans (f0.out.mono a2.out.size));exact Bo e2.out rfl (.bool true) hP hE.glob (.bool true) (eT (by decide) (by decide)) (by decide) f0.out.size (by decide) (fun f hf=>by rw [List.mem_singleton.1 hf];exact⟨by decide,by decide⟩))
 go_wp2_with fail;(with_reducible refine P1.out.mono ?_);rintro e w12 ⟨rfl,b9,bs12,c3⟩;have b7:=Qa (f0.out.trans b9);have a9:=Qa (show sS w8.heap.size w12 w8.heap.size (⟨true, [], [(bS,eI true)],none⟩:: []) none bs12 from c3);clear b9 c3 P1 e2 f0;have N2:=Qa (show Calls Tryz.prog 18 #[.pointer (some ⟨w8.heap.size,0,none⟩), .string ⟨#[98]⟩] w12 _ from by
  obtain⟨⟨aU,aE,hE⟩, -⟩:=HL.out.below (a2.out.trans (b7.out.mono a2.out.size));exact pp (s:=⟨#[98]⟩) a9.out qI hE.glob (by decide) (l7 c5.out b3.out b7.out (HL.out.below a2.out).eTwice) b7.out.size (by decide) (by decide))
 go_wp2_with fail;(with_reducible refine N2.out.mono ?_);rintro e w13 (⟨-,rfl,b0⟩ | ⟨hx, -⟩)
 case inr=>exact absurd (List.mem_singleton.2 rfl) hx
 have f5:=Qa (b7.out.trans (b0.mono b7.out.size));have b8:=Qa (a9.out.below b0);clear b0 N2 a9 b7;have K1:=Qa (qE b8.out rfl f5.out.size (by decide) (fun f hf=>by cases hf) (by decide) (fun s hs=>by rw [List.mem_singleton.1 hs];exact⟨qI,by decide⟩) (List.pairwise_singleton _ _));go_wp2_with fail;(with_reducible refine K1.out.mono ?_);rintro e w14 ⟨rfl,d9,bs14,c2⟩;have g1:=Qa (f5.out.trans d9);have g3:=Qa (show sS w8.heap.size w14 w8.heap.size [] (some bJ) bs14 from c2);clear d9 c2 K1 b8 f5;have B1:=Qa (show Calls Tryz.prog 21 #[.pointer (some ⟨w8.heap.size,0,none⟩)] w14 _ from by
  obtain⟨⟨aU,aE,hE⟩,hM,hP, -⟩:=HL.out.below (a2.out.trans (g1.out.mono a2.out.size));exact tW g3.out hP hE.glob Gk Gy (by rw [Co];decide))
 rw [Co] at B1;go_wp2_with fail;(with_reducible refine B1.out.mono ?_);rintro e w15 ⟨u15,rfl,a4,d6⟩;have a0:=g1.out.trans (d6.mono g1.out.size);have cN:=Zf a0 HN.out;have cH:=Zf a0 HH.out;have cT:=Zf a0 (xd c5.out b3.out (HL.out.below a2.out).eTwice);have s1: (convert 22 9 (.slice A1 27 q1)).run Tryz.prog w15 = .ok (.string ⟨#[123,34,97,98,34,58,110,117,108,108,44,34,98,34,58,91,49,53,101,45,49,44,49,101,50,93,125]⟩) w15:=aF (a1.out.below a0);have s5: (convert 22 9 (.slice A5 2 q5)).run Tryz.prog w15 = .ok (.string ⟨#[91,93]⟩) w15:=aF (a6.out.below a0);have d5:=au.bs a4;have c8:=Qa (a2.out.trans (a0.mono a2.out.size));obtain⟨A15,q15,rfl, -⟩:=ag a4;have s15: (convert 22 9 (.slice A15 10 q15)).run Tryz.prog w15 = .ok (.string ⟨#[123,34,98,34,58,116,114,117,101,125]⟩) w15:=aF d5;have qe:=qO;have d2:=ac w15 (.cells #[.int .u8 91, .int .u8 49, .int .u8 44, .int .u8 50, .int .u8 93] 5 (5,6));have b1:=Qa (c8.out.trans (d2.mono c8.out.size));have I1:=Qa (show Calls Tryz.prog 14 #[.slice (some ⟨w15.heap.size,0,none⟩) 5 5] (w15.alloc (.cells #[.int .u8 91, .int .u8 49, .int .u8 44, .int .u8 50, .int .u8 93] 5 (5,6))) _ from by
  obtain⟨⟨aU,aE,hE⟩,hM,hP, -⟩:=HL.out.below b1.out;exact vc (v:= .slice (some ⟨w15.heap.size,0,none⟩) 5 5) (xs:= [91,49,44,50,93]) hE hM hP (iT w15 [91,49,44,50,93] (by decide)) (by decide) (by decide) yY Bi AO (by rw [mF];decide))
 rw [mF,decide_eq_true rfl] at I1;clear a4 d6 a0 B1 d2 d5;go_wp2_with fail;(with_reducible refine I1.out.mono ?_);rintro e w17 ⟨rfl,e1⟩;have c0:=Qa (b1.out.trans (e1.mono b1.out.size));have d4:=ac w17 (.cells #[.int .u8 91, .int .u8 49, .int .u8 44, .int .u8 32, .int .u8 50, .int .u8 93] 5 (6,7));have a7:=Qa (c0.out.trans (d4.mono c0.out.size));have I2:=Qa (show Calls Tryz.prog 14 #[.slice (some ⟨w17.heap.size,0,none⟩) 6 6] (w17.alloc (.cells #[.int .u8 91, .int .u8 49, .int .u8 44, .int .u8 32, .int .u8 50, .int .u8 93] 5 (6,7))) _ from by
  obtain⟨⟨aU,aE,hE⟩,hM,hP, -⟩:=HL.out.below a7.out;exact vc (v:= .slice (some ⟨w17.heap.size,0,none⟩) 6 6) (xs:= [91,49,44,32,50,93]) hE hM hP (iT w17 [91,49,44,32,50,93] (by decide)) (by decide) (by decide) yw Bi AO (by rw [mF];decide))
 rw [mF,decide_eq_false (by decide)] at I2;clear e1 d4 I1;go_wp2_with fail;(with_reducible refine I2.out.mono ?_);rintro e w19 ⟨rfl,d3⟩;have f9:=Qa (a7.out.trans (d3.mono a7.out.size));clear d3 I2;go_wp2_with fail;go_ret;exact⟨rfl,f9.out⟩
