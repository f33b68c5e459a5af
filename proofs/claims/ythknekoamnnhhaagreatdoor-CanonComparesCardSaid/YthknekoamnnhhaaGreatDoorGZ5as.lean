import Derived.Test.YthknekoamnnhhaaGreatDoorGZ5ar
set_option linter.unusedVariables false
set_option linter.unusedSimpArgs false
set_option maxHeartbeats 64000000
set_option maxRecDepth 100000
namespace Go.Proofs.YthknekoamnnhhaaGreatDoor
open Go.RowKit Go.Shelf
variable {an bn r:Bool}{d:Dc}{f:Fr}{j x0:JV}{frs fs:List Fr}{hs y:List Int}{ks:List JV}{l xs:List UInt8}{at_ base c cap gt i m n p q5 want:Nat}{P:Nat->Prop}{A A5:Option Addr}{th v:Value}{w w' w2 w5:World}
theorem FG (hr:∀W,(binOp .eql 32 (.iface 58 (.agg #[])) (.iface 58 (.agg #[]))).run Tryz.prog W =.ok (.bool r) W):Calls Tryz.prog 40 #[.iface 58 (.agg #[]),.iface 58 (.agg #[])] w fun e w'=>e =.returned (.bool r)/\Below w.heap.size w w':=by
 have k1:=jd;go_enter Tryz.func40,Tryz.ntmps40;go_wp2_with fail;(with_reducible refine gR.mono ?_);rintro e w1 ⟨rfl,a0⟩;have a2:=Qa a0;clear a0;go_wp2_with fail;(with_reducible refine gR.mono ?_);rintro e w2 ⟨rfl,a1⟩;have a3:=Qa (a2.out.trans (a1.mono a2.out.size));clear a1;go_wp2_with fail;go_ret;exact⟨rfl,a3.out⟩
theorem EX (hr:∀W,(binOp .eql 32 (.iface 54 (.agg #[])) (.iface 54 (.agg #[]))).run Tryz.prog W =.ok (.bool r) W):Calls Tryz.prog 40 #[.iface 54 (.agg #[]),.iface 54 (.agg #[])] w fun e w'=>e =.returned (.bool r)/\Below w.heap.size w w':=by
 have k1:=l6;go_enter Tryz.func40,Tryz.ntmps40;go_wp2_with fail;(with_reducible refine io.mono ?_);rintro e w1 ⟨rfl,a0⟩;have a2:=Qa a0;clear a0;go_wp2_with fail;(with_reducible refine io.mono ?_);rintro e w2 ⟨rfl,a1⟩;have a3:=Qa (a2.out.trans (a1.mono a2.out.size));clear a1;go_wp2_with fail;go_ret;exact⟨rfl,a3.out⟩
theorem Em (a b:Bool)(hr:∀W,(binOp .eql 32 (.iface 59 (.bool a)) (.iface 59 (.bool b))).run Tryz.prog W =.ok (.bool r) W):Calls Tryz.prog 40 #[.iface 59 (.bool a),.iface 59 (.bool b)] w fun e w'=>e =.returned (.bool r)/\Below w.heap.size w w':=by
 have k1:=my;go_enter Tryz.func40,Tryz.ntmps40;go_wp2_with fail;(with_reducible refine ik.mono ?_);rintro e w1 ⟨rfl,a0⟩;have a2:=Qa a0;clear a0;go_wp2_with fail;(with_reducible refine ik.mono ?_);rintro e w2 ⟨rfl,a1⟩;have a3:=Qa (a2.out.trans (a1.mono a2.out.size));clear a1;go_wp2_with fail;go_ret;exact⟨rfl,a3.out⟩
theorem Ew (a b:ByteArray)(hr:∀W,(binOp .eql 32 (.iface 40 (.string a)) (.iface 40 (.string b))).run Tryz.prog W =.ok (.bool r) W):Calls Tryz.prog 40 #[.iface 40 (.string a),.iface 40 (.string b)] w fun e w'=>e =.returned (.bool r)/\Below w.heap.size w w':=by
 have k1:=mc;go_enter Tryz.func40,Tryz.ntmps40;go_wp2_with fail;(with_reducible refine gQ.mono ?_);rintro e w1 ⟨rfl,a0⟩;have a2:=Qa a0;clear a0;go_wp2_with fail;(with_reducible refine gQ.mono ?_);rintro e w2 ⟨rfl,a1⟩;have a3:=Qa (a2.out.trans (a1.mono a2.out.size));clear a1;go_wp2_with fail;go_ret;exact⟨rfl,a3.out⟩
theorem GU (a b:Dc)(hr:∀W,(binOp .eql 32 (.iface 127 (.agg #[.bool a.neg,.string a.digits,.int .i64 a.exp])) (.iface 127 (.agg #[.bool b.neg,.string b.digits,.int .i64 b.exp]))).run Tryz.prog W =.ok (.bool r) W):Calls Tryz.prog 40 #[.iface 127 (.agg #[.bool a.neg,.string a.digits,.int .i64 a.exp]),.iface 127 (.agg #[.bool b.neg,.string b.digits,.int .i64 b.exp])] w fun e w'=>e =.returned (.bool r)/\Below w.heap.size w w':=by
 have k1:=od;go_enter Tryz.func40,Tryz.ntmps40;go_wp2_with fail;(with_reducible refine i1.mono ?_);rintro e w1 ⟨rfl,a0⟩;have a2:=Qa a0;clear a0;go_wp2_with fail;(with_reducible refine i1.mono ?_);rintro e w2 ⟨rfl,a1⟩;have a3:=Qa (a2.out.trans (a1.mono a2.out.size));clear a1;go_wp2_with fail;go_ret;exact⟨rfl,a3.out⟩
theorem Fa {B:Option Addr}(HP:∀w1,Below w.heap.size w w1->Calls Tryz.prog 77 #[.iface 57 (.pointer A),.iface 57 (.pointer B)] w1 fun e w'=>e =.returned (.bool r)/\Below w1.heap.size w1 w'):Calls Tryz.prog 40 #[.iface 57 (.pointer A),.iface 57 (.pointer B)] w fun e w'=>e =.returned (.bool r)/\Below w.heap.size w w':=by
 have k4:=jl;have k5:=ml;have HL:=Qa HP;clear HP;go_enter Tryz.func40,Tryz.ntmps40;go_wp2_with fail;(with_reducible refine eB.mono ?_);rintro e w1 ⟨rfl,a2⟩;have a4:=Qa a2;clear a2;go_wp2_with fail;(with_reducible refine eB.mono ?_);rintro e w2 ⟨rfl,a3⟩;have a0:=Qa (a4.out.trans (a3.mono a4.out.size));clear a3;go_wp2_with fail;(with_reducible refine(HL.out w2 a0.out).mono ?_);rintro e w4 ⟨rfl,a1⟩;have a5:=Qa (a0.out.trans (a1.mono a0.out.size));clear a1;go_wp2_with fail;go_ret;exact⟨rfl,a5.out⟩
theorem GZ {B:Option Addr}(HP:∀w1,Below w.heap.size w w1->Calls Tryz.prog 77 #[.iface 130 (.pointer A),.iface 130 (.pointer B)] w1 fun e w'=>e =.returned (.bool r)/\Below w1.heap.size w1 w'):Calls Tryz.prog 40 #[.iface 130 (.pointer A),.iface 130 (.pointer B)] w fun e w'=>e =.returned (.bool r)/\Below w.heap.size w w':=by
 have k4:=ki;have k5:=nG;have HL:=Qa HP;clear HP;go_enter Tryz.func40,Tryz.ntmps40;go_wp2_with fail;(with_reducible refine gU.mono ?_);rintro e w1 ⟨rfl,a2⟩;have a4:=Qa a2;clear a2;go_wp2_with fail;(with_reducible refine gU.mono ?_);rintro e w2 ⟨rfl,a3⟩;have a0:=Qa (a4.out.trans (a3.mono a4.out.size));clear a3;go_wp2_with fail;(with_reducible refine(HL.out w2 a0.out).mono ?_);rintro e w4 ⟨rfl,a1⟩;have a5:=Qa (a0.out.trans (a1.mono a0.out.size));clear a1;go_wp2_with fail;go_ret;exact⟨rfl,a5.out⟩
theorem BV {c:Int}(h:dO c=true):(cO c).length<=6* (bG c).length:=by
 have h1:1<=(bG c).length:=by rcases hl:bG c with _|⟨x,l⟩;exact absurd hl (nE h);simp
 unfold cO
 repeat' split
 all_goals first|(simp only[List.length_cons,List.length_nil];omega)|omega
theorem va {s:ByteArray}(h:dB s):(el s).length<=6*s.size+2:=by
 have hn:=h.nm;have key:∀cs:List Int,(∀c∈cs,dO c=true)->(cs.flatMap cO).length<=6* (cs.flatMap bG).length:=by
  intro cs
  induction cs with
  |nil=>intro _;simp
  |cons c cs ih=>
   intro hc;have h1:=BV (hc c (by simp));have h2:=ih (fun c h=>hc c (Zl _ h));rw[List.flatMap_cons,List.flatMap_cons,List.length_append,List.length_append];omega
 have h1:=key _ hn.1;rw[hn.2] at h1;have h2:s.data.toList.length=s.size:=by simp
 unfold el lF;rw[List.length_cons,List.length_append];simp only[List.length_cons,List.length_nil];omega
theorem DJ {x:Int}(h: -1000000000<=x/\x<=1000000000):(gc x).length<=12:=by
 unfold gc
 split
 ·simp
 ·rcases Int.lt_or_le x 0 with hn|hn
  ·obtain⟨m,rfl⟩:∃m:Nat,x = -(m:Int):=⟨x.natAbs,by omega⟩;rw[Lib.itoa_neg m (by omega)];have:=gM (u:=m) (by omega);simp;omega
  ·obtain⟨m,rfl⟩:∃m:Nat,x= (m:Int):=⟨x.natAbs,by omega⟩;rw[Lib.itoa_nonneg m];have:=gM (u:=m) (by omega);simp;omega
inductive Ei (L:Nat):JV->Prop
 |null:Ei L jY
 |bool (b:Bool):Ei L (fT b)
 |num (d:Dc):d.digits.size<=L+1-> -1000000000<=d.exp/\d.exp<=1000000000->Ei L (ef d)
 |text (s:ByteArray):dB s->s.size<=L->Ei L (eW s)
 |list (ks:List JV):(∀u∈ks,Ei L u)->Ei L (dU ks)
 |obj (ns:List ByteArray) (ks:List JV):ns.length=ks.length->(∀s∈ns,dB s/\s.size<=L)->(∀u∈ks,Ei L u)->Ei L (.mk 6 false ⟨#[]⟩ ⟨false,⟨#[]⟩,0⟩ ns ks)
theorem vc {L:Nat}(h:∀u∈ks,(u.txt).length+6*L+10<=u.size* (12*L+40))(o:Bool):∀ (first:Bool) (ns:List ByteArray),ns.length=ks.length\/o=false->(∀s∈ns,dB s/\s.size<=L)->(JV.txts o first ns ks).length<=JV.sizes ks* (12*L+40):=by
 induction ks with
 |nil=>intro first ns _ _;simp[JV.txts]
 |cons v vs ih=>
  intro first ns hl hs;have h1:=h v (by simp);have hs':∀s∈ns.tail,dB s/\s.size<=L:=fun s h=>hs s (List.mem_of_mem_tail h)
  have h2:=ih (fun u hu=>h u (Zl _ hu)) false ns.tail (hl.imp (fun e=>by cases ns <;> simp at e ⊢;omega) id) hs';simp only[JV.txts,JV.sizes,List.length_append];have h3:(if first then([]:List UInt8) else [44]).length<=1:=by cases first <;> simp
  have h4:(if o then el (ns.headD ⟨#[]⟩) ++ [58] else []).length<=6*L+3:=by
   cases o with
   |false=>simp
   |true=>
    cases ns with
    |nil=>simp at hl
    |cons a ns=>
     obtain⟨q1,q2⟩:=hs a (by simp);have:=va q1;simp only[if_true,List.headD_cons,List.length_append,List.length_cons,List.length_nil];omega
  rw[Nat.add_mul];omega
theorem Ei.len {L:Nat}(h:Ei L j):j.txt.length+6*L+10<=j.size* (12*L+40):=by
 induction h with
 |null=>simp[jY,JV.txt,JV.size,JV.sizes];omega
 |bool b=>cases b <;> simp[fT,JV.txt,JV.size,JV.sizes] <;> omega
 |num d h1 h2=>
  have:=DJ h2;have e:(ef d).txt=fo d:=by simp[ef,JV.txt]
  have e2:(ef d).size=1:=by simp[ef,JV.size,JV.sizes]
  have e3:d.digits.data.toList.length=d.digits.size:=by simp
  rw[e,e2];unfold fo;rw[List.length_append,List.length_append,e3];have e4:(if d.neg then [45] else([]:List UInt8)).length<=1:=by split <;> simp
  omega
 |text s h1 h2=>
  have:=va h1;have e:(eW s).txt=el s:=by simp[eW,JV.txt]
  have e2:(eW s).size=1:=by simp[eW,JV.size,JV.sizes]
  rw[e,e2];omega
 |list ks _ ih=>
  have h1:=vc ih false true [] (.inr rfl) (by simp);have e:(dU ks).txt.length= (JV.txts false true [] ks).length+2:=by simp[dU,JV.txt]
  have e2:(dU ks).size=1+JV.sizes ks:=by simp[dU,JV.size]
  rw[e,e2,Nat.add_mul];omega
 |obj ns ks hl hs _ ih=>
  have h1:=vc ih true true ns (.inl hl) hs;have e:(JV.mk 6 false ⟨#[]⟩ ⟨false,⟨#[]⟩,0⟩ ns ks).txt.length= (JV.txts true true ns ks).length+2:=by simp[JV.txt]
  have e2:(JV.mk 6 false ⟨#[]⟩ ⟨false,⟨#[]⟩,0⟩ ns ks).size=1+JV.sizes ks:=by simp[JV.size]
  rw[e,e2,Nat.add_mul];omega
theorem Dh (h:dO c=true):(bG c).length=if c<128 then 1 else if c<2048 then 2 else if c<65536 then 3 else 4:=by
 have hr:=h;rw[cB] at h;simp at h
 split
 ·rw[mz c (by assumption)];rfl
 ·split
  ·rw[qA c ⟨by omega,by assumption⟩];rfl
  ·split
   ·rw[oZ c ⟨by omega,by assumption⟩ (by omega)];rfl
   ·rw[qx c ⟨by omega,by omega⟩];rfl
theorem xz {c:Int}{l:List Int}(h:be ei xs=c::l) :
  (c = -1/\∃x t,xs=x::t/\l=be ei t/\be dD xs=dD x::be dD t)\/
  (∃k:Nat,c=k/\dO k=true/\(bG k).length<=xs.length/\l=be ei (xs.drop (bG k).length)/\be dD xs= (k:Int)::be dD (xs.drop (bG k).length)):=by
 cases xs with
 |nil=>cases h
 |cons x t=>
  by_cases hd:(bF (x::t)).2.2=0
  ·right
   have ⟨h1,h2⟩:=iL hd;have h3:=lG (x::t);have hl:(bG (bF (x::t)).1).length= (bF (x::t)).2.1:=by rw[h1,List.length_take];omega
   rw[dA (by simp) hd] at h;injection h with e1 e2
   refine⟨(bF (x::t)).1,e1.symm,h2,by rw[hl];exact h3,by rw[hl];exact e2.symm,?_⟩;rw[hl];exact dA (by simp) hd
  ·left
   rw[eL hd] at h;injection h with e1 e2
   exact⟨e1.symm,x,t,rfl,e2.symm,eL hd⟩
theorem ox (h:jS d):j6 d:=by
 rcases h with rfl|⟨h0,hd,hf,hl,h1,h2⟩
 ·exact .inl rfl
 ·have hz:d.digits.data.toList.length=d.digits.size:=Array.length_toList;refine .inr ⟨⟨fun c hc=>?_,fun e=>?_,fun c hc=>?_,fun c hc=>?_⟩,h1,h2⟩
  ·obtain⟨i,hi,rfl⟩:=List.getElem_of_mem hc;have:=hd i (by omega);unfold eI;exact decide_eq_true this
  ·rw[e] at hz;simp at hz;omega
  ·rw[List.head?_eq_getElem?,Zc (by omega)] at hc;rw[<-Zh hc];exact fun e=>hf h0 (congrArg UInt8.toNat e)
  ·rw[List.getLast?_eq_getElem?,Zc (by omega)] at hc;rw[<-Zh hc];intro e;have:=congrArg UInt8.toNat e;simp only[hz] at this;exact hl (by omega) this
def sY (b:Nat)(s:ByteArray):Prop:=s.size<=b
theorem Ok.imp {h:Prop}{T U:ByteArray->Prop}(hT:∀s,T s->U s)(g:Ok h T j):Ok h U j:=by
 induction g with
 |null=>exact .null
 |bool b=>exact .bool b
 |num d hd hn=>exact .num d hd hn
 |text s hs=>exact .text s (hT s hs)
 |hole e=>exact .hole e
 |list ks _ ih=>exact .list ks ih
 |obj ns ks h1 h2 h3 _ ih=>exact .obj ns ks h1 h2 h3 ih
theorem Ok.sits {h:Prop}{T:ByteArray->Prop}{v:JV}{a:Nat}(hs:dm v p a x0):Ok h T v->Ok h T x0:=by
 induction hs with
 |here v p=>exact id
 | @down k t x n ns pre post u0 p a x0 hs ih=>
  intro g;refine ih ?_;generalize hl:pre++u0::post=l at g
  cases g with
  |null=>simp at hl
  |bool b=>simp at hl
  |num d hd hn=>simp at hl
  |text s hs=>simp at hl
  |hole e=>simp at hl
  |list ks hks=>subst hl;exact hks u0 (by simp)
  |obj ns' ks h1 h2 h3 hks=>subst hl;exact hks u0 (by simp)
theorem Ff {b:Nat}{nd:Nd}(hn:(j.flat 0)[m]?=some nd)(hk:nd.kind=4)(a2:Ok True (sY b) j):nd.text.size<=b/\∃j':JV,j'.size=j.size/\Ok True (sY (b+1)) j'/\j'.flat 0= (j.flat 0).set m {nd with text:=nd.text++ ⟨#[255]⟩}:=by
 have hm:m<j.size:=by have:=(List.getElem?_eq_some_iff.1 hn).1;rwa[JV.flat_len] at this
 obtain⟨x0,hs⟩:=yY j 0 m (Zj _) (by omega);have hx:=a2.sits hs;obtain⟨k,t,x,d,ns,ks⟩:=x0;have a0:=hs.node;rw[Nat.sub_zero,hn] at a0;obtain rfl:=Zh a0;simp only at hk;subst hk
 cases hx with
 |text s hsz=>
  refine⟨hsz,?_⟩;obtain⟨j',a1⟩:=ul.of_sits hs (.mk 4 false (x++ ⟨#[255]⟩) kr [] []);have e1:=a1.size;obtain⟨A,B,h1,h2,h3⟩:=a1.flat;have hz:∀y:ByteArray,(JV.mk 4 false y kr [] []).size=1:=fun y=>by simp[JV.size,JV.sizes]
  have a4:∀y:ByteArray,(JV.mk 4 false y kr [] []).flat m = [⟨4,false,y,kr, [], []⟩]:=fun y=>by simp[JV.flat,aV,JV.flats]
  rw[hz,hz] at e1 h3;rw[a4] at h1 h3;have a5:mP (m+1) 1 1=id:=by funext q;unfold mP;simp only[id];split <;> omega
  have a3:Nd.mv (id:Nat->Nat)=id:=by funext y;simp[Nd.mv]
  rw[a5,a3,List.map_id,List.map_id] at h3;refine⟨j',by omega,Ok.put a1 (a2.imp fun s h=>Nat.le_succ_of_le h) (.text _ ?_),?_⟩
  ·have:sY b x:=hsz;unfold sY at *;rw[ByteArray.size_append]
   show x.size+1<=b+1
   omega
  ·rw[h3,h1];have hA:A.length=m:=by omega
   rw[List.append_assoc,List.append_assoc,List.set_append_right _ _ (by omega),hA,Nat.sub_self];simp[aV]
theorem mH (u:Value):∀ (us:List (List Value)) (i j:Nat) (x:List Value),(∀y∈us,y.length=n)->j<n->us[i]?=some x->us.flatten.set (i*n+j) u= (us.set i (x.set j u)).flatten
 | [],_,_,_,_,_,h=>by simp at h
 |a::l,0,j,x,hl,hj,h=>by
  simp at h;subst h;have:=hl a (by simp);rw[List.flatten_cons,List.set_append_left _ _ (by omega)];simp
 |a::l,i+1,j,x,hl,hj,h=>by
  have ha:=hl a (by simp);rw[List.flatten_cons,List.set_append_right _ _ (by rw[ha,Nat.succ_mul];omega),ha,show(i+1)*n+j - n=i*n+j by rw[Nat.succ_mul];omega,mH u l i j x (fun y hy=>hl y (Zl _ hy)) hj (by simpa using h)];simp
theorem bB.set {α β:Type}{R:α->β->Prop}{l:List α}{m:List β}(h:bB R l m)(k:Nat){a:α}{b:β}(hr:R a b):bB R (l.set k a) (m.set k b):=by
 refine⟨by simp[h.1],fun i x y h1 h2=>?_⟩;rw[List.getElem?_set] at h1 h2
 by_cases hki:k=i
 ·rw[if_pos hki] at h1 h2
  split at h1
  ·split at h2
   ·cases h1;cases h2;exact hr
   ·cases h2
  ·cases h1
 ·rw[if_neg hki] at h1 h2;exact h.2 i x y h1 h2
theorem bu.setText {ns:List Nd}{nd:Nd}(s':ByteArray)(h:bu P w base (.slice (some ⟨gt,0,none⟩) n cap) ns)(hm:ns[m]?=some nd):bu P (w.setCell ⟨gt,m*8+2,none⟩ (.string s')) base (.slice (some ⟨gt,0,none⟩) n cap) (ns.set m {nd with text:=s'})/\w.frozen? ⟨gt,m*8+2,none⟩=false/\mw w gt 78/\base<=gt:=by
 obtain⟨us,h1,h2,h3⟩:=h;have hn:n=ns.length:=by
  rcases bU h1 with ⟨e,_⟩|⟨_,_,e,_⟩
  ·cases e
  ·injection e
 subst hn;obtain⟨u0,a0,vn,vk,rfl,hs,hk⟩:=h2.get hm;obtain⟨s1,s2⟩:=World.ownsRow.stored h1 (m*8+2) (.string s');have ht:=cm h1;rw[mH (n:=8) (.string s') us m 2 _ h2.lens (by decide) a0] at s1;have e:(aB nd vn vk).set 2 (.string s')=aB {nd with text:=s'} vn vk:=rfl;rw[e] at s1;refine⟨⟨us.set m (aB {nd with text:=s'} vn vk),by rw[List.length_set];exact s1,(h2.mono fun _ _ h=>fL s2 ht h).set m ?_,fun u hu g e=>?_⟩,World.ownsRow.frozenAt h1 _,ht gt rfl,(al h1 rfl).1⟩
 ·exact fL s2 ht ⟨vn,vk,rfl,hs,hk⟩
 ·rcases List.mem_or_eq_of_mem_set hu with hu|rfl
  ·exact h3 u hu g e
  ·exact h3 _ (Zk a0) g (by simpa [aB] using e)
def OT (w:World)(v:Value)(o:Option JV):Prop:=match o with
 |none=> ∃A q,v =.slice A 0 q
 |some j=>dI w 0 v (j.flat 0)/\Ok True (sY (6000+20)) j/\j.size<=6000+1
theorem OT.below {o:Option JV}(h:OT w v o)(hb:Below w.heap.size w w'):OT w' v o:=by
 cases o with
 |none=>exact h
 |some j=>exact⟨h.1.below hb (Za _),h.2⟩
def Ka (w:World)(e:Ending)(w':World):Prop:= ∃A n q ok,e =.returned (.tuple #[.slice A n q,.bool ok])/\Below w.heap.size w w'/\(ok=true->∃o,OT w' (.slice A n q) o)
def JJ (w:World)(A2:Option Addr)(n2 q2:Nat)(bx:Obj)(nb:Nat)(s6:Value)(wr:World):Prop:= ∃ (i:Nat) (j:JV),s6 =.int .i64 i/\i<=nb/\j.size=n2/\bu (w.heap.size<= ·) wr w.heap.size (.slice A2 n2 q2) (j.flat 0)/\Ok True (sY (6000+i)) j/\Below w.heap.size w wr/\wr.heap[w.heap.size]?=some bx
theorem D8 {tv tb:Value}{bs:List Int}(h1:Bs w tv xs)(h2:Sl w th (hs.map iV))(h3:Sl w tb (bs.map iV))(hh:∀z∈hs,-9223372036854775808<=z/\z<=9223372036854775807)(e1:∀z∈bs,-9223372036854775808<=z/\z<=9223372036854775807):Calls Tryz.prog 7 #[.agg #[tv,th,tb]] w (Ka w):=by
 obtain⟨hm,A,c,rfl,hc,-⟩:=id h1;obtain⟨e7,Ah,ch,rfl,f3,-⟩:=id h2;obtain⟨e2,Ab,cb,rfl,e3,c9⟩:=id h3;rw[List.length_map] at e7 f3 e2 e3 h2 h3 ⊢;rw[List.length_map] at c9 ⊢;have b9:=ac w (.cells #[.slice A xs.length c,.slice Ah hs.length ch,.slice Ab bs.length cb] 25);have b3:=Qa (Ze w (.cells #[.slice A xs.length c,.slice Ah hs.length ch,.slice Ab bs.length cb] 25));have c1:=Qa (h1.below b9);have Hh:=Qa h2;have g6:=Qa c9;have g8:=Qa hh;have f6:=Qa e1;have a4:=Qa b9;clear h1 h2 h3 c9 hh e1 b9 f3 e3 e7 e2
 by_cases h0:xs.length=0
 ·have f8:((xs.length:Int)==0)=true:=by rw[h0];rfl
  clear h0 hc hm;go_enter Tryz.func7,Tryz.ntmps7;go_wp2_with fail;go_ret2;exact⟨none,0,0,true,rfl,a4.out,fun _=>⟨none,none,0,rfl⟩⟩
 have f8:((xs.length:Int)==0)=false:=by simp only[beq_eq_false_iff_ne];omega
 by_cases hl:xs.length<=6000
 rotate_left
 ·have f5:(6000:Int)<xs.length:=by omega
  clear h0 hl;go_enter Tryz.func7,Tryz.ntmps7;go_wp2_with fail;go_ret2;exact⟨none,0,0,false,rfl,a4.out,fun e=>by cases e⟩
 have f5:¬ (6000:Int)<xs.length:=by omega
 by_cases b6:hs.length<=20
 rotate_left
 ·have g7:(20:Int)<hs.length:=by omega
  clear h0 hl b6;go_enter Tryz.func7,Tryz.ntmps7;go_wp2_with fail;go_ret2;exact⟨none,0,0,false,rfl,a4.out,fun e=>by cases e⟩
 have g7:¬ (20:Int)<hs.length:=by omega
 by_cases c8:bs.length<=20
 rotate_left
 ·have g4:(20:Int)<bs.length:=by omega
  clear h0 hl b6 c8;go_enter Tryz.func7,Tryz.ntmps7;go_wp2_with fail;go_ret2;exact⟨none,0,0,false,rfl,a4.out,fun e=>by cases e⟩
 have g4:¬ (20:Int)<bs.length:=by omega
 have a1:=Qa (AR c1.out hl);have Hl:=Qa (And.intro hl (And.intro b6 c8));clear h0 hl b6 c8;go_enter Tryz.func7,Tryz.ntmps7;go_wp2_with fail;(with_reducible refine a1.out.mono ?_);rintro e w2 ⟨v,cd,h,l,sA,sn,sc,rfl,ht⟩;obtain⟨b0,⟨A2,n2,q2,rfl⟩,hj⟩:=ht;have a2:=ac w2 (.cells #[.int .i64 cd,.int .i64 h,.int .i64 l,.slice sA sn sc] 70);have b4:=Qa (a4.out.trans ((b0.trans (a2.mono b0.size)).mono a4.out.size));have a3:=aj (aj b3.out b0) a2;have f4:=a4.out.size
 by_cases hcd:cd=0
 rotate_left
 ·have g0:(cd !=0)=true:=by simp[hcd]
  clear b0 hj hcd a1 c1;go_wp2_with fail;go_ret2;exact⟨none,0,0,false,rfl,b4.out,fun e=>by cases e⟩
 obtain⟨j,hg,hf,hz⟩:=hj hcd;subst hcd;have c5:=hf.below a2 (Za _);have e5:j.size=n2:=by obtain⟨_,_,e,_⟩:=hf.form;obtain⟨-,e,-⟩:=Value.slice.inj e;rw[e,JV.flat_len]
 have HD:=Qa (xy (c5.flat.low (Zj _)) (by have:=Hl.out.1;omega));have c6:=Qa c5;have Hg:=Qa hg;have Hz:=Qa (show j.size<=6000+1 by have:=Hl.out.1;omega);have Hn2:=Qa e5;clear b0 hj hf c5 hg hz e5 a1 c1;go_wp2_with fail;obtain⟨w3,f1⟩:∃w3,w2.alloc (.cells #[.int .i64 0,.int .i64 h,.int .i64 l,.slice sA sn sc] 70)=w3:=⟨_,rfl⟩;rw[f1] at HD c6 b4 a3 a2 ⊢;clear f1;(with_reducible refine HD.out.mono ?_);rintro e w4 ⟨m,rfl,b5⟩;have a9:=aj a3 b5;have Hbx4:=Qa a9;have Hf4:=Qa (((c6.out.below b5 (Za _)).low (base:=_) (b:=w.heap.size) f4).imp (Q:=(w.heap.size<= ·)) fun g hg _=>Zb f4 hg);have Hb4:=Qa (b4.out.trans (b5.mono b4.out.size));clear a3 a9 b5 HD c6 b4 a2
 by_cases hm3:(300:Int)<m
 ·go_wp2_with fail;go_ret2;exact⟨none,0,0,false,rfl,Hb4.out,fun e=>by cases e⟩
 go_wp2_with fail
 go_loopw [6,7] (fun s6 _ wr=>JJ w A2 n2 q2 (.cells #[.slice A xs.length c,.slice Ah hs.length ch,.slice Ab bs.length cb] 25 (0,0)) bs.length s6 wr) (fun v _ _=>bs.length - (intOf v).toNat)
 case atStart=>exact⟨0,j,rfl,Zj _,Hn2.out,Hf4.out,Ok.of_good (h:=True) (fun s h=>h.2) Hg.out,Hb4.out,Hbx4.out⟩
 case round=>
  obtain⟨i,jc,rfl,hi,d4,e0,f2,hb,a3⟩:=hrel;have d1:=aa a3 (j:=1) (u:=.slice Ah hs.length ch) rfl;have d2:=aa a3 (j:=2) (u:=.slice Ab bs.length cb) rfl;have a7:=Qa e0;have d0:=Qa f2;have Hb:=Qa hb;have b3:=Qa a3;have a6:=Qa d4;have f9:0<n2:=by have:=jc.size_pos;omega
  have h7:n2<=6000+1:=by have h5:=Hz.out;have h6:=Hn2.out;omega
  have g3:=hb.size;clear e0 f2 hb a3 d4
  by_cases hip:i<bs.length
  ·obtain⟨gp,op,rfl,e6⟩:=g6.out (by omega);obtain⟨p,b7⟩:∃s,bs[i]?=some s:=⟨_,Zc hip⟩;have cpc:=Zf Hb.out (e6 i (iV p) (by rw[List.getElem?_map,b7];rfl));unfold iV at cpc;obtain⟨b1,b2⟩:=f6.out p (Zk b7);obtain⟨r,hr⟩:∃r,Int.tmod p (n2:Int)=r:=⟨_,rfl⟩;have g9: -(n2:Int)<r/\r<n2:=by
    rw[<-hr];have h1:=Int.lt_tmod_of_pos p (show(0:Int)<n2 by omega);have h2:=Int.tmod_lt_of_pos p (show(0:Int)<n2 by omega);omega
   obtain⟨k,h4⟩:∃k:Nat,Int.tmod (r+n2) (n2:Int)=k:=⟨(Int.tmod (r+n2) (n2:Int)).toNat,by
    have:=Int.tmod_nonneg (n2:Int) (show 0<=r+ (n2:Int) by omega);omega⟩
   have c3:k<n2:=by have h2:=Int.tmod_lt_of_pos (r+n2) (show(0:Int)<n2 by omega);omega
   obtain⟨g2,rfl⟩:∃g2,A2=some ⟨g2,0,none⟩:=by
    obtain⟨_,_,e,_,_,hA⟩:=a7.out.form;obtain⟨rfl,-,-⟩:=Value.slice.inj e;exact hA (by rw[JV.flat_len];have:=a6.out;omega)
   obtain⟨nd,c7⟩:∃nd,(jc.flat 0)[k]?=some nd:=⟨_,Zc (by rw[JV.flat_len,a6.out];exact c3)⟩;obtain⟨vn,vk,-,-,a0⟩:=a7.out.flat.node c7;have c0:=a0 0 _ rfl;rw[Nat.add_zero] at c0;have c2:=a0 2 _ rfl;have c4:(i:Int)<bs.length:=by omega
   have d6:(0:Int)<n2:=by omega
   have hki:(k:Int)<n2:=by omega
   have e4:=Qa c7;clear e6 b7 a0 c7
   by_cases hk4:nd.kind=4
   ·obtain⟨q1,q2',q3,q4⟩:=a7.out.setText (nd.text++ ⟨#[255]⟩) e4.out;obtain⟨z1,j',z2,z3,z4⟩:=Ff e4.out hk4 d0.out;rw[<-z4] at q1;have Hq:=Qa q1;have d3:=Qa (And.intro (z2.trans a6.out) z3);have f0:=Qa (And.intro q3 q4);have g5:¬9223372036854775807<nd.text.size+1:=by have:=Hl.out.2.2;omega
    clear q1 z1 z2 z3 z4 q3 q4;rw[hk4] at c0;have b8:(nd.kind==4)=true:=by rw[hk4];rfl
    go_wp2_with fail;obtain⟨cs,zz,a5⟩:=f0.out.1;refine⟨⟨i+1,j',by go_num,by omega,d3.out.1,Hq.out,?_,Hb.out.setCell f0.out.2 _,?_⟩,by simp[intOf];omega⟩
    ·exact d3.out.2
    ·exact(Below.heap_setCell wr _ _ _ (by
      intro e;have h9:=b3.out;rw[show w.heap.size=g2 from e,a5] at h9;have a5:=h9;injection a5 with a5
      injection a5 with _ a5 _
      exact absurd a5 (by decide))).trans b3.out
   ·have b8:(nd.kind==4)=false:=by simpa using hk4
    go_wp2_with fail;exact⟨⟨i+1,jc,by go_num,by omega,a6.out,a7.out,d0.out.imp fun s h=>Nat.le_succ_of_le h,Hb.out,b3.out⟩,by simp[intOf];omega⟩
  ·have c4:¬ (i:Int)<bs.length:=by omega
   have HH:=Qa (xM (T:=sY (6000+20)) (w:=wr) (B:=w.heap.size) (ps:=hs) Hb.out.size a7.out (d0.out.imp fun s h=>by unfold sY at *;have:=Hl.out.2.2;omega) (by have:=a6.out;omega) (Hh.out.below Hb.out) g8.out);clear hip;go_wp2_with fail;(with_reducible refine HH.out.mono ?_);rintro e w5 ⟨j5,A5,m5,q5,rfl,d9,d5,g1,e8⟩;have Hr:=Qa (And.intro (show OT w5 (.slice A5 m5 q5) (some j5) from⟨d9.flat.low (Zj _),d5,by have:=a6.out;omega⟩) e8);clear d9 d5 g1 e8 HH;go_wp2_with fail;go_ret2;exact⟨A5,m5,q5,true,rfl,Hb.out.trans (Hr.out.2.mono Hb.out.size),fun _=>⟨some j5,Hr.out.1⟩⟩
def lh (l:List UInt8)(i:Nat):Nat:=(l.getD i 48).toNat
def ew:List UInt8->List UInt8->Int
 | [], []=>0
 | [],d::m=>if 48<d.toNat then -1 else if d.toNat<48 then 1 else ew [] m
 |c::l, []=>if c.toNat<48 then -1 else if 48<c.toNat then 1 else ew l []
 |c::l,d::m=>if c.toNat<d.toNat then -1 else if d.toNat<c.toNat then 1 else ew l m
theorem zS (l m:List UInt8)(i:Nat)(h:i<l.length\/i<m.length):ew (l.drop i) (m.drop i)=if lh l i<lh m i then -1 else if lh m i<lh l i then 1 else ew (l.drop (i+1)) (m.drop (i+1)):=by
 have e:∀k:List UInt8,k.drop i= (if i<k.length then k.getD i 48::k.drop (i+1) else []):=fun k=>by
  by_cases hk:i<k.length
  ·rw[if_pos hk,List.drop_eq_getElem_cons hk,List.getD_eq_getElem?_getD,Zc hk];rfl
  ·rw[if_neg hk,List.drop_eq_nil_of_le (by omega)]
 have en:∀k:List UInt8,¬i<k.length->lh k i=48:=fun k hk=>by unfold lh;rw[List.getD_eq_getElem?_getD,List.getElem?_eq_none (by omega)];rfl
 have ez:∀k:List UInt8,¬i<k.length->k.drop (i+1) = []:=fun k hk=>List.drop_eq_nil_of_le (by omega)
 rw[e l,e m]
 by_cases h1:i<l.length
 ·by_cases h2:i<m.length
  ·rw[if_pos h1,if_pos h2,ew];rfl
  ·rw[if_pos h1,if_neg h2,en m h2,ez m h2,ew];rfl
 ·by_cases h2:i<m.length
  ·rw[if_neg h1,if_pos h2,en l h1,ez l h1,ew];rfl
  ·omega
theorem Cp (l m:List UInt8)(i:Nat)(h1:l.length<=i)(h2:m.length<=i):ew (l.drop i) (m.drop i)=0:=by
 rw[List.drop_eq_nil_of_le h1,List.drop_eq_nil_of_le h2,ew]
def px (l:List UInt8):Prop:=(∀c∈l,48<=c.toNat)/\∀c,l.getLast?=some c->c.toNat≠48
theorem px.tail {c:UInt8}(h:px (c::l)):px l:=⟨fun x hx=>h.1 x (Zl _ hx),fun x hx=>h.2 x (by
 cases l with
 |nil=>simp at hx
 |cons a l=>rw[List.getLast?_cons_cons];exact hx)⟩
theorem nQ:∀ {m:List UInt8},px m->m≠ []->ew [] m = -1
 | [],_,h=>absurd rfl h
 |d::m,h,_=>by
  unfold ew;have h1:=h.1 d (by simp)
  by_cases hd:48<d.toNat
  ·rw[if_pos hd]
  ·rw[if_neg hd,if_neg (by omega)]
   cases m with
   |nil=>exact absurd (by omega) (h.2 d rfl)
   |cons a m=>exact nQ h.tail (List.cons_ne_nil _ _)
theorem nY:∀ {m:List UInt8},px m->m≠ []->ew m []=1
 | [],_,h=>absurd rfl h
 |d::m,h,_=>by
  unfold ew;have h1:=h.1 d (by simp)
  by_cases hd:48<d.toNat
  ·rw[if_neg (by omega),if_pos hd]
  ·rw[if_neg (by omega),if_neg hd]
   cases m with
   |nil=>exact absurd (by omega) (h.2 d rfl)
   |cons a m=>exact nY h.tail (List.cons_ne_nil _ _)
theorem Be {d:UInt8}{m:List UInt8}:lr [] (d::m) = -1:=by simp[lr,Op.bytesLess]
theorem zW {d:UInt8}{m:List UInt8}:lr (d::m) []=1:=by simp[lr,Op.bytesLess]
theorem C4 (a b:UInt8)(x y:List UInt8):lr (a::x) (b::y)=if a.toNat<b.toNat then -1 else if b.toNat<a.toNat then 1 else lr x y:=by
 rcases Nat.lt_trichotomy a.toNat b.toNat with h|h|h
 ·rw[if_pos h];unfold lr;rw[if_pos (jK h).1]
 ·obtain rfl:=UInt8.toNat_inj.1 h;rw[if_neg (by omega),if_neg (by omega)];simp[lr,Op.bytesLess]
 ·rw[if_neg (by omega),if_pos h];unfold lr;rw[if_neg (by simp[(jK h).2]),if_neg (by intro e;injection e with e _;subst e;omega)]
theorem ud:∀ {l m:List UInt8},px l->px m->ew l m=lr l m
 | [], [],_,_=>by simp[ew,lr,Op.bytesLess]
 | [],d::m,_,h=>by rw[nQ h (by simp),Be]
 |d::m, [],h,_=>by rw[nY h (by simp),zW]
 |c::l,d::m,h1,h2=>by
  rw[C4];unfold ew;rw[ud h1.tail h2.tail]
theorem pK (h:jS d)(hs:fY d≠0):px d.digits.data.toList:=by
 rcases ox h with rfl|⟨⟨h1,-,-,h4⟩,-⟩
 ·exact absurd rfl hs
 ·exact⟨fun c hc=>by have:=h1 c hc;simp[eI] at this;omega,fun c hc e=>h4 c hc (UInt8.toNat_inj.1 e)⟩
theorem cL {x y:Int}:Calls Tryz.prog 30 #[.int .i64 x,.int .i64 y] w fun e w'=>e =.returned (.int .i64 (sg x y))/\w=w':=by
 by_cases h1:x<y
 ·have hs:=Qa (show sg x y = -1 by unfold sg;rw[if_pos h1]);go_enter Tryz.func30,Tryz.ntmps30;go_wp2_with fail;go_ret;rw[hs.out];exact⟨rfl,rfl⟩
 ·by_cases h2:y<x
  ·have hs:=Qa (show sg x y=1 by unfold sg;rw[if_neg h1,if_pos h2]);go_enter Tryz.func30,Tryz.ntmps30;go_wp2_with fail;go_ret;rw[hs.out];exact⟨rfl,rfl⟩
  ·have hs:=Qa (show sg x y=0 by unfold sg;rw[if_neg h1,if_neg h2]);go_enter Tryz.func30,Tryz.ntmps30;go_wp2_with fail;go_ret;rw[hs.out];exact⟨rfl,rfl⟩
def Il (w:World)(base:Nat)(v:Value)(l:List Int):Prop:=w.ownsRow base 3 1 v l.length (l.map iV)
def Jo (w:World)(l:List Int)(e:Ending)(w':World):Prop:= ∃A q,e =.returned (.slice A l.length q)/\Below w.heap.size w w'/\Il w' w.heap.size (.slice A l.length q) l
def IL (w2:World)(xs:List UInt8)(s3 s5 s6:Value)(wr:World):Prop:= ∃ (i at_:Nat) (A:Option Addr) (c:Nat) (pre:List Int),s6 =.int .i64 i/\s5 =.int .i64 at_/\s3 =.slice A i c/\pre.length=i/\at_<=xs.length/\i<=(be ei xs).length/\(be ei xs).drop i=be ei (xs.drop at_)/\be dD xs=pre++be dD (xs.drop at_)/\Below w2.heap.size w2 wr/\Il wr w2.heap.size (.slice A i c) pre
theorem IL.push {k:Nat}{pre:List Int}{c:Int}(hp:pre.length=i)(hat:at_+k<=xs.length)(hi:i< (be ei xs).length)(h1:(be ei xs).drop (i+1)=be ei (xs.drop (at_+k)))(h2:be dD xs=pre++ (c::be dD (xs.drop (at_+k))))(hb:Below w2.heap.size w2 w5)(ho:w5.ownsRow w2.heap.size 3 1 (.slice A5 (i+1) q5) (i+1) (pre.map iV ++ [iV c])) :
  IL w2 xs (.slice A5 (i+1) q5) (.int .i64 ((at_:Int)+k)) (.int .i64 ((i:Int)+1)) w5:=
 ⟨i+1,at_+k,A5,q5,pre ++ [c],by go_num,by simp,rfl,by simp[hp],hat,hi,h1,by rw[h2];simp,hb,by unfold Il;rw[List.map_append,List.length_append,hp];exact ho⟩
theorem pJ (w:World)(s:ByteArray)(hs:s.size<=4000000):Calls Tryz.prog 97 #[.string s] w (Jo w (nm s)):=by
 have d2:(be ei s.data.toList).length<=s.size:=by have:=fP ei _ s.data.toList (Za _);simpa using this
 have d6:s.data.toList.length=s.size:=by simp
 have d0:=Qa (fun (p:Nat) (x:UInt8) (h:s.data.toList[p]?=some x) (w':World)=>jE (k:=.i64) h w');go_enter Tryz.func97,Tryz.ntmps97;go_wp2_with fail;refine(iw w s hs).mono ?_;rintro e w2 ⟨A1,n1,q1,rfl,c7,b6⟩;have e1:n1= (be ei s.data.toList).length:=nr b6;subst e1;have b5:=Qa c7;have c3:=Qa b6;clear c7 b6;obtain⟨N,hN⟩:∃N,(be ei s.data.toList).length=N:=⟨_,rfl⟩;have HN:=Qa hN;have d5:N<=4000000:=by omega
 rw[hN] at c3 ⊢;clear hN d2;go_wp2_with fail
 go_loopw [3,5,6] (fun s3 s5 s6 wr=>IL w2 s.data.toList s3 s5 s6 wr) (fun _ _ i _=>N - (intOf i).toNat)
 case atStart=>exact⟨0,0,none,0, [],rfl,rfl,rfl,rfl,Zj _,Zj _,rfl,rfl,Zd _ _,⟨rfl,.inl ⟨rfl,rfl⟩⟩⟩
 case round=>
  obtain⟨i,at_,A,c,pre,rfl,rfl,rfl,hp,hat,hi,hr,hu,hb,ho⟩:=hrel;have Hp:=Qa hp;have Hr:=Qa hr;have Hu:=Qa hu;have Hb:=Qa hb;have e0:i<=N:=by rw[<-HN.out];exact hi
  have c9:at_<=4000000:=by omega
  have b2:=Qa (show wr.ownsRow w2.heap.size 3 1 (.slice A i c) i (pre.map iV) by unfold Il at ho;rw[hp] at ho;exact ho);have a2:=hb.size;clear hp hr hu hb ho hi
  by_cases hlt:i<N
  ·obtain⟨r,b8⟩:∃r,(be ei s.data.toList)[i]?=some r:=⟨_,Zc (by rw[HN.out];exact hlt)⟩;have a9:=c3.out;have c1:(be ei s.data.toList).length=N:=HN.out;unfold qy at a9;rw[c1] at a9;obtain⟨g1,rfl⟩:=ia a9 (by omega);have cr2:=aA a9 rfl i (by omega);rw[List.getElem?_map,b8] at cr2;simp only[Option.map_some,ft] at cr2;have cr:=Zf Hb.out cr2;have b1:=Qa cr2;clear cr2;have b0:=xz (xs:=s.data.toList.drop at_) (c:=r) (l:=(be ei s.data.toList).drop (i+1)) (by
    rw[<-Hr.out,List.drop_eq_getElem_cons (by omega)]
    congr 1
    exact(List.getElem?_eq_some_iff.1 b8).2)
   have c8:i< (be ei s.data.toList).length:=by omega
   have c4:=Qa c8;have c0:(i:Int)<N:=by omega
   clear b8 a9 c1 c8;rcases b0 with ⟨rfl,x,t,hx,hl,a5⟩|⟨k,rfl,hk,c6,hl,a5⟩
   ·have b7:s.data.toList[at_]?=some x:=by
     have h5:(s.data.toList.drop at_)[0]?=some x:=by rw[hx];rfl
     rw[List.getElem?_drop,Nat.add_zero] at h5;exact h5
    have d3:=d0.out at_ x b7;have c5:s.data.toList.drop (at_+1)=t:=by rw[<-List.drop_drop,hx];rfl
    have c2:at_+1<=s.data.toList.length:=(List.getElem?_eq_some_iff.1 b7).1;rw[<-c5] at hl a5;have e3:=x.toNat_lt;have a1:=Qa (fun (w5:World) (A5:Option Addr) (q5:Nat) hb ho=>IL.push (w2:=w2) (w5:=w5) (A5:=A5) (q5:=q5) (k:=1) (c:=dD x) Hp.out c2 c4.out hl (by rw[Hu.out,a5]) hb ho);unfold dD at a1;generalize x.toNat=y at *;have d4:(-1:Int)<0:=by omega
    have a7:=Qa (ar wr [iV (1114112+ (y:Int))] 3);have a3:=Qa (aq b2.out (ac wr (.cells #[.int .i64 (1114112+ (y:Int))] 3)) (Za _));clear hx hl a5 b7 c5 c2 Hu Hr;go_wp2_with (at_builtin;refine ju eU a3.out a7.out (by simp;omega) ?_ (h1:=(by simp[iV,Value.oneCell']));intro v' w5 p1 p2 p3;obtain⟨A5,q5,rfl,-,-,-⟩:=ah p1;have a4:=Qa p1;have d1:=Qa p2;clear p1 p2 p3);refine⟨a1.out _ _ _ (aL (Hb.out.alloc a2 _) a3.out (by simp;omega) d1.out) a4.out,by simp[intOf];omega⟩
   ·have b4:=Dh hk;have e2:¬ (k:Int)<0:=by omega
    have d9:k<=1114111:=by rw[cB] at hk;simp at hk;omega
    rw[List.length_drop] at c6;rw[List.drop_drop] at hl a5;have b9:0< (bG k).length:=by rw[b4];(repeat' split) <;> omega
    have a1:=Qa (fun (w5:World) (A5:Option Addr) (q5:Nat) hb ho=>IL.push (w2:=w2) (w5:=w5) (A5:=A5) (q5:=q5) (k:=(bG k).length) (c:=k) Hp.out (by omega) c4.out hl (by rw[Hu.out,a5]) hb ho);rw[b4] at a1;have a7:=Qa (ar wr [iV (k:Int)] 3);have a3:=Qa (aq b2.out (ac wr (.cells #[.int .i64 (k:Int)] 3)) (Za _));clear hl a5 c6 hk b4 b9 Hu Hr
    by_cases k1:k<128
    ·rw[if_pos k1] at a1;have k1i:(k:Int)<128:=by omega
     go_wp2_with (at_builtin;refine ju eU a3.out a7.out (by simp;omega) ?_ (h1:=(by simp[iV,Value.oneCell']));intro v' w5 p1 p2 p3;obtain⟨A5,q5,rfl,-,-,-⟩:=ah p1;have a0:=aL (Hb.out.alloc a2 _) a3.out (by simp;omega) p2;have cr5:=Zf a0 b1.out;have a4:=Qa p1;have a6:=Qa a0;clear p1 p2 p3 a0);refine⟨a1.out _ _ _ a6.out a4.out,by simp[intOf];omega⟩
    have k1i:¬ (k:Int)<128:=by omega
    rw[if_neg k1] at a1
    by_cases k2:k<2048
    ·rw[if_pos k2] at a1;have k2i:(k:Int)<2048:=by omega
     go_wp2_with (at_builtin;refine ju eU a3.out a7.out (by simp;omega) ?_ (h1:=(by simp[iV,Value.oneCell']));intro v' w5 p1 p2 p3;obtain⟨A5,q5,rfl,-,-,-⟩:=ah p1;have a0:=aL (Hb.out.alloc a2 _) a3.out (by simp;omega) p2;have cr5:=Zf a0 b1.out;have a4:=Qa p1;have a6:=Qa a0;clear p1 p2 p3 a0);refine⟨a1.out _ _ _ a6.out a4.out,by simp[intOf];omega⟩
    have k2i:¬ (k:Int)<2048:=by omega
    rw[if_neg k2] at a1
    by_cases k3:k<65536
    ·rw[if_pos k3] at a1;have k3i:(k:Int)<65536:=by omega
     go_wp2_with (at_builtin;refine ju eU a3.out a7.out (by simp;omega) ?_ (h1:=(by simp[iV,Value.oneCell']));intro v' w5 p1 p2 p3;obtain⟨A5,q5,rfl,-,-,-⟩:=ah p1;have a0:=aL (Hb.out.alloc a2 _) a3.out (by simp;omega) p2;have cr5:=Zf a0 b1.out;have a4:=Qa p1;have a6:=Qa a0;clear p1 p2 p3 a0);refine⟨a1.out _ _ _ a6.out a4.out,by simp[intOf];omega⟩
    ·rw[if_neg k3] at a1;have k3i:¬ (k:Int)<65536:=by omega
     go_wp2_with (at_builtin;refine ju eU a3.out a7.out (by simp;omega) ?_ (h1:=(by simp[iV,Value.oneCell']));intro v' w5 p1 p2 p3;obtain⟨A5,q5,rfl,-,-,-⟩:=ah p1;have a0:=aL (Hb.out.alloc a2 _) a3.out (by simp;omega) p2;have cr5:=Zf a0 b1.out;have a4:=Qa p1;have a6:=Qa a0;clear p1 p2 p3 a0);refine⟨a1.out _ _ _ a6.out a4.out,by simp[intOf];omega⟩
  ·obtain rfl:i=N:=by omega
   have c0:¬ (i:Int)<i:=by omega
   have b3:=Qa (show nm s=pre by
    have h1:=Hr.out;rw[List.drop_eq_nil_of_le (by rw[HN.out];exact Za _)] at h1;unfold nm;rw[Hu.out];have h2:s.data.toList.drop at_ = []:=by
     cases h3:s.data.toList.drop at_ with
     |nil=>rfl
     |cons x t=>
      rw[h3] at h1
      exfalso
      by_cases hd:(bF (x::t)).2.2=0
      ·rw[dA (by simp) hd] at h1;cases h1
      ·rw[eL hd] at h1;cases h1
    rw[h2,jy,List.append_nil])
   go_wp2_with fail;go_ret;rw[b3.out];exact⟨A,c,by rw[Hp.out];rfl,b5.out.trans (Hb.out.mono b5.out.size),by unfold Il;rw[Hp.out];exact bV b2.out b5.out.size⟩
theorem fB (w:World)(a b:Obj):Hid (((w.alloc a).alloc b).heap[w.heap.size]?=some a)/\Hid (((w.alloc a).alloc b).heap[w.heap.size+1]?=some b)/\Hid (Below w.heap.size w ((w.alloc a).alloc b))/\Hid (Below w.heap.size w (w.alloc a)):=by
 have h1:=Ze (w.alloc a) b;rw[World.size_alloc] at h1;exact⟨aj (Ze w a) (ac _ b),h1,((Zd _ _).alloc (Za _) _).alloc (by simp) _,ac w a⟩
abbrev F2 (n:Bool) (d:ByteArray) (x:Int):Obj:=.cells #[.bool n,.string d,.int .i64 x] 75
theorem FA {x:List Int}{k:Nat}(h:ay x y=ay (x.drop k) (y.drop k)){a b:Int}(ha:x[k]?=some a)(hb:y[k]?=some b)(he:a≠b):ay x y=sg a b:=by
 obtain⟨h1,rfl⟩:=List.getElem?_eq_some_iff.1 ha;obtain⟨h2,rfl⟩:=List.getElem?_eq_some_iff.1 hb;rw[h,List.drop_eq_getElem_cons h1,List.drop_eq_getElem_cons h2,aZ];unfold sg
 split
 ·rfl
 ·split
  ·rfl
  ·omega
theorem ui {x:List Int}{k:Nat}(h:ay x y=ay (x.drop k) (y.drop k))(hk:k<=x.length/\k<=y.length)(he:¬ (k<x.length/\k<y.length)):ay x y=sg x.length y.length:=by
 rw[h];unfold sg
 by_cases h1:k<x.length
 ·rw[List.drop_eq_nil_of_le (by omega:y.length<=k),List.drop_eq_getElem_cons h1,if_neg (by omega),if_pos (by omega)];simp[ay]
 ·rw[List.drop_eq_nil_of_le (by omega:x.length<=k)]
  by_cases h2:k<y.length
  ·rw[List.drop_eq_getElem_cons h2,if_pos (by omega)];simp[ay]
  ·rw[List.drop_eq_nil_of_le (by omega:y.length<=k),if_neg (by omega),if_neg (by omega)];simp[ay]
theorem nK (w:World)(s t:ByteArray)(hs:s.size<=4000000)(ht:t.size<=4000000):Calls Tryz.prog 57 #[.string s,.string t] w fun e w'=>dL (ay (nm s) (nm t)) w e w':=by
 have hlx:(nm s).length<=4000000:=by have:=fP dD _ s.data.toList (Za _);simp at this;unfold nm;omega
 have hly:(nm t).length<=4000000:=by have:=fP dD _ t.data.toList (Za _);simp at this;unfold nm;omega
 go_enter Tryz.func57,Tryz.ntmps57;go_wp2_with fail;refine(pJ w s hs).mono ?_;rintro e w1 ⟨A1,q1,rfl,b2,b4⟩;have b1:=Qa b2;have a3:=Qa b4;clear b2 b4;go_wp2_with fail;refine(pJ w1 t ht).mono ?_;rintro e w2 ⟨A2,q2,rfl,a5,b6⟩;have a3:=Qa (show Il w2 _ _ _ from a3.out.below' a5);have a2:=Qa (b1.out.trans (a5.mono b1.out.size));have b0:=Qa b6;clear a5 b6 b1;obtain⟨x,a4⟩:∃x,nm s=x:=⟨_,rfl⟩;obtain⟨y,a6⟩:∃x,nm t=x:=⟨_,rfl⟩;rw[a4] at hlx a3 ⊢;rw[a6] at hly b0 ⊢;have a1:=Qa (show ay (nm s) (nm t)=ay x y by rw[a4,a6]);clear a4 a6;go_wp2_with fail
 go_loopw [7] (fun s7 wr=>FO w2 x y s7 wr) (fun i _=>x.length - (intOf i).toNat)
 case atStart=>exact⟨0,by omega,rfl,Zd _ _,rfl⟩
 case round=>
  obtain⟨k,hk,rfl,hb,hc⟩:=hrel;have Hb:=Qa hb;have Hc:=Qa hc;have b8:=hk.1;have b5:=hk.2;clear hb hc hk
  by_cases hx:k<x.length
  ·by_cases hy:k<y.length
   ·have a7:=Qa (show wr.ownsRow _ _ _ _ _ _ from a3.out.below' Hb.out);have a9:=Qa (show wr.ownsRow _ _ _ _ _ _ from b0.out.below' Hb.out);obtain⟨g1,rfl⟩:=ia a3.out (by omega);obtain⟨g2,rfl⟩:=ia b0.out (by omega);obtain⟨a,ha⟩:∃s,x[k]?=some s:=⟨_,Zc hx⟩;obtain⟨b,hb⟩:∃s,y[k]?=some s:=⟨_,Zc hy⟩;have c1:=aA a7.out rfl k (by omega);have c2:=aA a9.out rfl k (by omega);rw[List.getElem?_map,ha] at c1;rw[List.getElem?_map,hb] at c2;simp only[Option.map_some,iV] at c1 c2;have Ha:=Qa ha;have b3:=Qa hb;have b7:(k:Int)<x.length:=by omega
    have c0:(k:Int)<y.length:=by omega
    clear ha hb
    by_cases he:a=b
    ·have b9:(a !=b)=false:=by simp[he]
     have Hs:=Qa (pX Hc.out Ha.out b3.out he);clear he;go_wp2_with fail;go_quiet (fail);go_wp2_with fail;exact⟨⟨k+1,by omega,by go_num,az Hb.out _,Hs.out⟩,by simp[intOf];omega⟩
    ·have b9:(a !=b)=true:=by simp[he]
     have Hs:=Qa (FA Hc.out Ha.out b3.out he);clear he;go_wp2_with fail;go_quiet (fail);go_wp2_with fail;refine aR (fun w'=>w'.cell? ⟨g1,k,none⟩=some (.int .i64 a)/\w'.cell? ⟨g2,k,none⟩=some (.int .i64 b)) (⟨c1,c2⟩) fun a0=>?_
     refine tH 0 a0 ?_;refine tH 1 a0 ?_;refine tH 2 a0 ?_;refine tH 3 a0 ?_;refine tH 4 a0 ?_;refine tH 5 a0 ?_
     try simp only[Act.put,jP,jQ,jR]
     refine tH 6 a0 ?_;refine tH 7 a0 ?_
     try simp only[Act.put,jP,jQ,jR]
     refine rH 8 fun K hK=>?_
     go_simp;(with_reducible refine cL.mono ?_);rintro e wz ⟨rfl,rfl⟩;refine hK.out _ _ (a0) (fun a0=>?_);clear hK K
     try simp only[Act.put,jP,jQ,jR]
     refine tH 9 a0 ?_
     try simp only[Act.put,jP,jQ,jR]
     refine wpAnyH_done (by kernel_rfl) (NoPanic.normal ?_) _;go_wp2_with fail;go_ret;rw[a1.out,Hs.out];exact⟨rfl,a2.out.trans ((az Hb.out _).mono a2.out.size)⟩
   ·have b7:(k:Int)<x.length:=by omega
    have c0:¬ (k:Int)<y.length:=by omega
    have Hs:=Qa (ui Hc.out ⟨b8,b5⟩ (by omega));go_wp2_with fail;(with_reducible refine cL.mono ?_);rintro e w3 ⟨rfl,rfl⟩;go_wp2_with fail;go_ret;rw[a1.out,Hs.out];exact⟨rfl,a2.out.trans (Hb.out.mono a2.out.size)⟩
  ·have b7:¬ (k:Int)<x.length:=by omega
   have Hs:=Qa (ui Hc.out ⟨b8,b5⟩ (by omega));go_wp2_with fail;(with_reducible refine cL.mono ?_);rintro e w3 ⟨rfl,rfl⟩;go_wp2_with fail;go_ret;rw[a1.out,Hs.out];exact⟨rfl,a2.out.trans (Hb.out.mono a2.out.size)⟩
theorem p9 {dn:Bool}{dd:ByteArray}{dx:Int}:Calls Tryz.prog 95 #[.agg #[.bool dn,.string dd,.int .i64 dx]] w fun e w'=>e =.returned (.int .i64 (fY ⟨dn,dd,dx⟩))/\Below w.heap.size w w':=by
 have a0:=Qa (ac w (.cells #[.bool dn,.string dd,.int .i64 dx] 75))
 by_cases hz:dd= ⟨#[48]⟩
 ·have hs:=Qa (show fY ⟨dn,dd,dx⟩=0 by unfold fY;rw[if_pos hz]);have hd:(dd.toList == [48])=true:=by rw[show [48]= (⟨#[48]⟩:ByteArray).toList by simp,gj];simpa using hz
  clear hz;go_enter Tryz.func95,Tryz.ntmps95;go_wp2_with fail;go_ret;rw[hs.out];exact⟨rfl,a0.out⟩
 ·have hd:(dd.toList == [48])=false:=by rw[show [48]= (⟨#[48]⟩:ByteArray).toList by simp,gj];simpa using hz
  have hs:=Qa (show fY ⟨dn,dd,dx⟩=if dn then -1 else 1 by unfold fY;rw[if_neg hz]);clear hz
  cases dn
  all_goals
   go_enter Tryz.func95,Tryz.ntmps95;go_wp2_with fail;go_ret;rw[hs.out];exact⟨rfl,a0.out⟩
def iS (a b:Dc):Int:=if sg (a.digits.size+a.exp) (b.digits.size+b.exp)=0 then ew a.digits.data.toList b.digits.data.toList else sg (a.digits.size+a.exp) (b.digits.size+b.exp)
theorem AX {a b:Dc}(ha:px a.digits.data.toList)(hb:px b.digits.data.toList):iS a b=kV a b:=by
 unfold iS kV;rw[ud ha hb,ByteArray.toList_eq,ByteArray.toList_eq]
theorem mY:∀l m:List UInt8,-1<=ew l m/\ew l m<=1
 | [], []=>by rw[ew];omega
 | [],d::m=>by rw[ew];have:=mY [] m;(repeat' split) <;> omega
 |c::l, []=>by rw[ew];have:=mY l [];(repeat' split) <;> omega
 |c::l,d::m=>by rw[ew];have:=mY l m;(repeat' split) <;> omega
theorem BH (a b:Dc): -1<=iS a b/\iS a b<=1:=by
 unfold iS
 split
 ·exact mY _ _
 ·unfold sg;(repeat' split) <;> omega
theorem zF (l:List UInt8)(i:Nat):lh l i<256:=UInt8.toNat_lt _
theorem sS {s:ByteArray}(h:i<s.size)(w':World):(Instr.index 9 (.string s) (.int .i64 (i:Int))).run Tryz.prog w' =.ok (.int .u8 (lh s.data.toList i)) w':=by
 have hl:i<s.data.toList.length:=by simpa using h
 have hg:s.data.toList[i]?=some (s.data.toList.getD i 48):=by rw[List.getD_eq_getElem?_getD,Zc hl];rfl
 exact jE (k:=.i64) hg w'
theorem tu {s:ByteArray}(h:¬i<s.size):lh s.data.toList i=48:=by
 unfold lh;rw[List.getD_eq_getElem?_getD,List.getElem?_eq_none (by simp;omega)];rfl
def J7 (w0:World)(l m:List UInt8)(s7:Value)(wr:World):Prop:= ∃i:Nat,s7 =.int .i64 i/\(i<=l.length\/i<=m.length)/\ew l m=ew (l.drop i) (m.drop i)/\w0=wr
theorem xN {ad bd:ByteArray}{ax bx:Int}(ha:sZ ⟨an,ad,ax⟩)(hb:sZ ⟨bn,bd,bx⟩):Calls Tryz.prog 96 #[.agg #[.bool an,.string ad,.int .i64 ax],.agg #[.bool bn,.string bd,.int .i64 bx]] w (dL (iS ⟨an,ad,ax⟩ ⟨bn,bd,bx⟩) w):=by
 obtain⟨a1,a2,a3⟩:=ha;obtain⟨b1,b2,b3⟩:=hb;simp only at a1 a2 a3 b1 b2 b3;have w1:=nu a1 a2 a3;have w2:=nu b1 b2 b3;obtain⟨H0,H1,Hw,-⟩:=fB w (F2 an ad ax) (F2 bn bd bx);have hq:iS ⟨an,ad,ax⟩ ⟨bn,bd,bx⟩=if sg (ad.size+ax) (bd.size+bx)=0 then ew ad.data.toList bd.data.toList else sg (ad.size+ax) (bd.size+bx):=rfl
 have b0:ad.data.toList.length=ad.size:=by simp
 have a9:bd.data.toList.length=bd.size:=by simp
 by_cases h0:(ad.size:Int)+ax= (bd.size:Int)+bx
 ·have b5:iS ⟨an,ad,ax⟩ ⟨bn,bd,bx⟩=ew ad.data.toList bd.data.toList:=by rw[hq,if_pos (by unfold sg;rw[if_neg (by omega),if_neg (by omega)])]
  have Hq:=Qa b5;have b9:(((ad.size:Int)+ax) != ((bd.size:Int)+bx))=false:=by simp[h0]
  have a5:=Qa b0;have a6:=Qa a9;clear hq b5 h0 b0 a9;go_enter Tryz.func96,Tryz.ntmps96;go_wp2_with fail;obtain⟨w0,b7⟩:∃w0,(w.alloc (F2 an ad ax)).alloc (F2 bn bd bx)=w0:=⟨_,rfl⟩;rw[b7] at Hw H0 H1 ⊢;clear b7
  go_loopw [7,8,9] (fun s7 _ _ wr=>J7 w0 ad.data.toList bd.data.toList s7 wr) (fun v _ _ _=>ad.size+bd.size+1 - (intOf v).toNat)
  case atStart=>exact⟨0,rfl,.inl (Zj _),rfl,rfl⟩
  case round=>
   obtain⟨i,rfl,hi,hc,rfl⟩:=hrel;rw[a5.out,a6.out] at hi;have ca:=aa H0.out (j:=1) (u:=.string ad) rfl;have cb:=aa H1.out (j:=1) (u:=.string bd) rfl;have c1:i<=1000000000000:=by omega
   have Hc:=Qa hc;clear hc
   by_cases hin:i<ad.size\/i<bd.size
   ·have b8:=zS ad.data.toList bd.data.toList i (by rw[a5.out,a6.out];exact hin);have a0:=Qa (Hc.out.trans b8);have hC:=zF ad.data.toList i;have hD:=zF bd.data.toList i;clear b8
    by_cases hA:i<ad.size
    ·have b6:(i:Int)<ad.size:=by omega
     have iA:=sS hA
     by_cases hB:i<bd.size
     ·have b4:(i:Int)<bd.size:=by omega
      have iB:=sS hB;generalize lh ad.data.toList i=C at *;generalize lh bd.data.toList i=D at *;rcases Nat.lt_trichotomy (C) (D) with ht|ht|ht
      ·have Hv:=Qa (Hq.out.trans (a0.out.trans (if_pos ht)));have a4:((C:Nat):Int)< (D:Nat):=by omega
       go_wp2_with fail;go_ret;rw[Hv.out];exact⟨rfl,Hw.out⟩
      ·have Hv:=Qa (a0.out.trans ((if_neg (by omega)).trans (if_neg (by omega))));have a4:¬ ((C:Nat):Int)< (D:Nat):=by omega
       have a7:¬ ((D:Nat):Int)< (C:Nat):=by omega
       go_wp2_with fail;exact⟨⟨i+1,by go_num,by rw[a5.out,a6.out];omega,Hv.out,rfl⟩,by simp[intOf];omega⟩
      ·have Hv:=Qa (Hq.out.trans (a0.out.trans ((if_neg (by omega)).trans (if_pos ht))));have a4:¬ ((C:Nat):Int)< (D:Nat):=by omega
       have a7:((D:Nat):Int)< (C:Nat):=by omega
       go_wp2_with fail;go_ret;rw[Hv.out];exact⟨rfl,Hw.out⟩
     ·have b4:¬ (i:Int)<bd.size:=by omega
      rw[tu hB] at a0 hD;generalize lh ad.data.toList i=C at *;rcases Nat.lt_trichotomy (C) (48) with ht|ht|ht
      ·have Hv:=Qa (Hq.out.trans (a0.out.trans (if_pos ht)));have a4:((C:Nat):Int)< (48:Nat):=by omega
       go_wp2_with fail;go_ret;rw[Hv.out];exact⟨rfl,Hw.out⟩
      ·have Hv:=Qa (a0.out.trans ((if_neg (by omega)).trans (if_neg (by omega))));have a4:¬ ((C:Nat):Int)< (48:Nat):=by omega
       have a7:¬ ((48:Nat):Int)< (C:Nat):=by omega
       go_wp2_with fail;exact⟨⟨i+1,by go_num,by rw[a5.out,a6.out];omega,Hv.out,rfl⟩,by simp[intOf];omega⟩
      ·have Hv:=Qa (Hq.out.trans (a0.out.trans ((if_neg (by omega)).trans (if_pos ht))));have a4:¬ ((C:Nat):Int)< (48:Nat):=by omega
       have a7:((48:Nat):Int)< (C:Nat):=by omega
       go_wp2_with fail;go_ret;rw[Hv.out];exact⟨rfl,Hw.out⟩
    ·have b6:¬ (i:Int)<ad.size:=by omega
     have hB:i<bd.size:=by omega
     have b4:(i:Int)<bd.size:=by omega
     have iB:=sS hB;rw[tu hA] at a0 hC;generalize lh bd.data.toList i=D at *;rcases Nat.lt_trichotomy (48) (D) with ht|ht|ht
     ·have Hv:=Qa (Hq.out.trans (a0.out.trans (if_pos ht)));have a4:((48:Nat):Int)< (D:Nat):=by omega
      go_wp2_with fail;go_ret;rw[Hv.out];exact⟨rfl,Hw.out⟩
     ·have Hv:=Qa (a0.out.trans ((if_neg (by omega)).trans (if_neg (by omega))));have a4:¬ ((48:Nat):Int)< (D:Nat):=by omega
      have a7:¬ ((D:Nat):Int)< (48:Nat):=by omega
      go_wp2_with fail;exact⟨⟨i+1,by go_num,by rw[a5.out,a6.out];omega,Hv.out,rfl⟩,by simp[intOf];omega⟩
     ·have Hv:=Qa (Hq.out.trans (a0.out.trans ((if_neg (by omega)).trans (if_pos ht))));have a4:¬ ((48:Nat):Int)< (D:Nat):=by omega
      have a7:((D:Nat):Int)< (48:Nat):=by omega
      go_wp2_with fail;go_ret;rw[Hv.out];exact⟨rfl,Hw.out⟩
   ·have b6:¬ (i:Int)<ad.size:=by omega
    have b4:¬ (i:Int)<bd.size:=by omega
    have Hv:=Qa (Hq.out.trans (Hc.out.trans (Cp _ _ i (by rw[a5.out];omega) (by rw[a6.out];omega))));go_wp2_with fail;go_ret;rw[Hv.out];exact⟨rfl,Hw.out⟩
 ·have b9:(((ad.size:Int)+ax) != ((bd.size:Int)+bx))=true:=by simp[h0]
  rcases Int.lt_or_gt_of_ne h0 with h2|h2
  ·have Hq:=Qa (show iS ⟨an,ad,ax⟩ ⟨bn,bd,bx⟩ = -1 by rw[hq];unfold sg;rw[if_pos h2];rfl);clear hq h0 b0 a9;go_enter Tryz.func96,Tryz.ntmps96;go_wp2_with fail;go_ret;rw[Hq.out];exact⟨rfl,Hw.out⟩
  ·have c0:¬ ((ad.size:Int)+ax)< ((bd.size:Int)+bx):=by omega
   have Hq:=Qa (show iS ⟨an,ad,ax⟩ ⟨bn,bd,bx⟩=1 by rw[hq];unfold sg;rw[if_neg c0,if_pos h2];rfl);clear hq h0 b0 a9;go_enter Tryz.func96,Tryz.ntmps96;go_wp2_with fail;go_ret;rw[Hq.out];exact⟨rfl,Hw.out⟩
theorem Cx {a b:Dc}(ha:jS a)(hb:jS b):ay (ey a) (ey b)=if fY a=fY b then fY a*iS a b else sg (fY a) (fY b):=by
 rw[ue]
 by_cases h:fY a=fY b
 ·rw[if_pos h]
  by_cases h0:fY a=0
  ·rw[if_neg (fun e=>e.2 h0),h0,Int.zero_mul,<-h,h0];rfl
  ·rw[if_pos ⟨h,h0⟩,AX (pK ha h0) (pK hb (h▸h0))]
 ·rw[if_neg h,if_neg (fun e=>h e.1)]
theorem AP {ad bd:ByteArray}{ax bx:Int}(ha:sZ ⟨an,ad,ax⟩)(hb:sZ ⟨bn,bd,bx⟩)(na:jS ⟨an,ad,ax⟩)(nb:jS ⟨bn,bd,bx⟩):Calls Tryz.prog 56 #[.agg #[.bool an,.string ad,.int .i64 ax],.agg #[.bool bn,.string bd,.int .i64 bx]] w fun e w'=>dL (ay (ey ⟨an,ad,ax⟩) (ey ⟨bn,bd,bx⟩)) w e w':=by
 have Hr:=Qa (Cx na nb);obtain⟨H0,H1,Hw,-⟩:=fB w (F2 an ad ax) (F2 bn bd bx);have b6:=Qa (fun w'=>xN (w:=w') ha hb);have a6:=fH ⟨an,ad,ax⟩;have a7:=fH ⟨bn,bd,bx⟩;have hz:=BH ⟨an,ad,ax⟩ ⟨bn,bd,bx⟩;clear ha hb na nb;go_enter Tryz.func56,Tryz.ntmps56;go_wp2_with fail;obtain⟨w0,b5⟩:∃w0,(w.alloc (F2 an ad ax)).alloc (F2 bn bd bx)=w0:=⟨_,rfl⟩;rw[b5] at Hw H0 H1 ⊢;clear b5;(with_reducible refine p9.mono ?_);rintro e w1 ⟨rfl,a4⟩;have b0:=aa (aj H1.out a4) (j:=0) (u:=.bool bn) rfl;have b1:=aa (aj H1.out a4) (j:=1) (u:=.string bd) rfl;have b2:=aa (aj H1.out a4) (j:=2) (u:=.int .i64 bx) rfl;have a9:=Qa a4;clear a4;go_wp2_with fail;(with_reducible refine p9.mono ?_);rintro e w2 ⟨rfl,b4⟩;have a3:=Qa (a9.out.trans (b4.mono a9.out.size));have a5:=Qa (Hw.out.trans (a3.out.mono Hw.out.size));have a0:=aa (aj H0.out a3.out) (j:=0) (u:=.bool an) rfl;have a1:=aa (aj H0.out a3.out) (j:=1) (u:=.string ad) rfl;have a2:=aa (aj H0.out a3.out) (j:=2) (u:=.int .i64 ax) rfl;have b0:=aa (aj H1.out a3.out) (j:=0) (u:=.bool bn) rfl;have b1:=aa (aj H1.out a3.out) (j:=1) (u:=.string bd) rfl;have b2:=aa (aj H1.out a3.out) (j:=2) (u:=.int .i64 bx) rfl;have b7:=Qa (b6.out w2);clear b4 a9 Hw H0 H1 b6 a3;generalize fY ⟨an,ad,ax⟩=sa at *;generalize fY ⟨bn,bd,bx⟩=sb at *;generalize iS ⟨an,ad,ax⟩ ⟨bn,bd,bx⟩=z at *
 by_cases he:sa=sb
 ·subst he;have Hv:=Qa (Hr.out.trans (if_pos rfl));have c1:IntKind.i64.wrap (sa*z)=sa*z:=IntWalk.i64_in _ (by
   have h1:z = -1\/z=0\/z=1:=by omega
   rcases a6 with h|h|h <;> rcases h1 with k|k|k <;> rw[h,k] <;> omega)
  have b9:(sa !=sa)=false:=by simp
  clear Hr a6 a7 hz;go_wp2_with fail;(with_reducible refine b7.out.mono ?_);rintro e w3 ⟨rfl,b3⟩;have b8:=Qa (a5.out.trans (b3.mono a5.out.size));clear b3;go_wp2_with fail;go_ret;rw[Hv.out];exact⟨rfl,b8.out⟩
 ·have Hv:=Qa (Hr.out.trans (if_neg he));have b9:(sa !=sb)=true:=by simp[he]
  rcases Int.lt_or_gt_of_ne he with h2|h2
  ·have Hs:=Qa (show sg sa sb = -1 by unfold sg;rw[if_pos h2]);clear Hr a6 a7 hz he;go_wp2_with fail;go_ret;rw[Hv.out,Hs.out];exact⟨rfl,a5.out⟩
  ·have c0:¬sa<sb:=by omega
   have Hs:=Qa (show sg sa sb=1 by unfold sg;rw[if_neg c0,if_pos h2]);clear Hr a6 a7 hz he;go_wp2_with fail;go_ret;rw[Hv.out,Hs.out];exact⟨rfl,a5.out⟩
structure Fr.ok (N:ByteArray->Prop) (f:Fr):Prop where
 list:f.obj=false->f.mems = []/\f.name=none
 obj:f.obj=true->f.items = []
 names:∀m∈f.mems,N m.1
 nodup:(f.mems.map Prod.fst).Nodup
 name:∀s,f.name=some s->N s/\s∉f.mems.map Prod.fst
def cj (f:Fr):Bool:=f.obj&&f.name.isNone
def yI:Nat->List Fr->Option JV->Prop
 |0,frs,d=>d=none/\∀f fs,frs=f::fs->cj f=false
 |1,frs,d=>d=none/\∃f fs,frs=f::fs/\f.obj=false
 |2,frs,d=>d=none/\∃f fs,frs=f::fs/\f.obj=true/\f.name=none
 |3,frs,d=>d=none/\∃f fs,frs=f::fs/\f.obj=true/\f.name=none
 |4,frs,d=>d=none/\∃f fs,frs=f::fs/\f.obj=true/\f.name.isSome=true
 |5,frs,d=>d=none/\∃f fs,frs=f::fs/\f.obj=false
 |6,frs,d=>d=none/\∃f fs,frs=f::fs/\f.obj=true/\f.name=none
 |7,frs,d=>frs = []/\d.isSome=true
 |_,_,_=>False
structure dH.ok (N:ByteArray->Prop) (c:dH):Prop where
 frs:∀f∈c.frs,f.ok N
 rest:∀f∈c.frs.tail,cj f=false
 want:yI c.want c.frs c.done
theorem dH.ok.start (N:ByteArray->Prop):dH.ok N ⟨[],0,none⟩:=⟨by simp,by simp,rfl,by simp⟩
theorem gX (h:f.obj=true):cW (f::fs) j= ⟨{f with mems:=f.mems ++ [(f.name.getD ⟨#[]⟩,j)],name:=none}::fs,6,none⟩:=if_pos h
theorem fG (h:f.obj=false):cW (f::fs) j= ⟨{f with items:=f.items ++ [j]}::fs,5,none⟩:=if_neg (by rw[h];decide)
theorem ni {N:ByteArray->Prop}(h:∀f∈frs,f.ok N)(hr:∀f∈frs,cj f=false):(cW frs j).ok N:=by
 cases frs with
 |nil=>exact⟨by simp[cW],by simp[cW],rfl,rfl⟩
 |cons f fs=>
  have hf:=h f (by simp);have hw:=hr f (by simp)
  by_cases ho:f.obj=true
  ·rw[gX ho];have hn:∃s,f.name=some s:=by
    simp only[cj,ho,Bool.true_and] at hw
    cases he:f.name with
    |none=>rw[he] at hw;cases hw
    |some s=>exact⟨s,rfl⟩
   obtain⟨s,hs⟩:=hn;obtain⟨n1,n2⟩:=hf.name s hs;refine⟨fun g hg=>?_,fun g hg=>hr g (Zl _ hg),rfl,_,_,rfl,ho,rfl⟩;rcases List.mem_cons.1 hg with rfl|hg
   ·refine⟨fun e=>?_,fun _=>hf.obj ho,fun m hm=>?_,?_,fun s hs=>by cases hs⟩
    ·simp only at e;rw[ho] at e;cases e
    ·rcases List.mem_append.1 hm with hm|hm
     ·exact hf.names m hm
     ·obtain rfl:=List.mem_singleton.1 hm;simp only[hs,Option.getD_some];exact n1
    ·simp only[hs,Option.getD_some,List.map_append,List.map_cons,List.map_nil];rw[List.nodup_append];refine⟨hf.nodup,by simp,fun a ha b hb=>?_⟩;obtain rfl:=List.mem_singleton.1 hb;exact fun e=>n2 (e▸ha)
   ·exact h g (Zl _ hg)
  ·have a0:f.obj=false:=by simpa using ho
   rw[fG a0];refine⟨fun g hg=>?_,fun g hg=>hr g (Zl _ hg),rfl,_,_,rfl,a0⟩;rcases List.mem_cons.1 hg with rfl|hg
   ·exact⟨fun _=>hf.list a0,fun e=>(by simp only at e;rw[a0] at e;cases e),hf.names,hf.nodup,hf.name⟩
   ·exact h g (Zl _ hg)
def FR (N:ByteArray->Prop):sX->Prop
 | .str s=>N s
 |_=>True
theorem dt {w:Nat}{d:Option JV}(h:yI w frs d)(hw:w=0\/w=1):d=none/\∀f fs,frs=f::fs->cj f=false:=by
 rcases hw with rfl|rfl
 ·exact h
 ·obtain⟨h1,f,fs,rfl,h2⟩:=h;refine⟨h1,fun g gs e=>?_⟩;injection e with e _
  subst e;simp[cj,h2]
theorem oC (h1:∀f fs,frs=f::fs->cj f=false)(h2:∀f∈frs.tail,cj f=false):∀f∈frs,cj f=false:=by
 cases frs with
 |nil=>simp
 |cons g gs=>
  intro f hf;rcases List.mem_cons.1 hf with rfl|hf
  ·exact h1 _ _ rfl
  ·exact h2 f hf
theorem Fr.ok.new (N:ByteArray->Prop)(o:Bool):Fr.ok N ⟨o, [], [],none⟩:=⟨fun _=>⟨rfl,rfl⟩,fun _=>rfl,by simp,by simp,fun s h=>by cases h⟩
theorem D6 {x:UInt8}(h:zQ want x=true):(x=91\/x=123)/\(want=0\/want=1)\/x=93/\(want=1\/want=5)\/x=125/\(want=3\/want=6)\/x=58/\want=4\/x=44/\(want=5\/want=6):=by
 unfold zQ at h
 split at h
 all_goals simp only[List.contains_eq_mem,List.mem_cons,List.not_mem_nil,or_false,decide_eq_true_eq] at h
 ·rcases h with rfl|rfl <;> simp
 ·rcases h with rfl|rfl|rfl <;> simp
 ·subst h;simp
 ·subst h;simp
 ·rcases h with rfl|rfl <;> simp
 ·rcases h with rfl|rfl <;> simp
theorem EB {N:ByteArray->Prop}{c c':dH}{t:sX}(h:c.ok N)(ht:FR N t)(hs:dV c t=some c'):c'.ok N:=by
 obtain⟨frs,want,done⟩:=c;obtain⟨h1,h2,h3⟩:=h;simp only at h1 h2 h3
 cases t with
 |leaf j=>
  simp only[dV] at hs
  split at hs
  ·rename_i hw
   obtain rfl:=Zh hs;exact ni h1 (oC (dt h3 hw).2 h2)
  ·cases hs
 |str s=>
  simp only[dV] at hs
  split at hs
  ·rename_i hw
   have h4:done=none/\∃f fs,frs=f::fs/\f.obj=true/\f.name=none:=by
    try simp only at hw
    rcases hw with rfl|rfl <;> exact h3
   obtain⟨rfl,f,fs,rfl,h5,h6⟩:=h4
   try simp only at hs
   split at hs
   ·cases hs
   ·rename_i hn
    obtain rfl:=Zh hs;have hf:=h1 f (by simp);refine⟨fun g hg=>?_,h2,rfl,_,_,rfl,h5,rfl⟩;rcases List.mem_cons.1 hg with rfl|hg
    ·refine⟨fun e=>?_,hf.obj,hf.names,hf.nodup,fun s' e=>?_⟩
     ·simp only at e;rw[h5] at e;cases e
     ·obtain rfl:=Zh e;refine⟨ht,fun hm=>hn ?_⟩;obtain⟨m,hm,rfl⟩:=List.mem_map.1 hm;exact List.any_eq_true.2 ⟨m,hm,by simp⟩
    ·exact h1 g (Zl _ hg)
  ·split at hs
   ·rename_i hw
    obtain rfl:=Zh hs;exact ni h1 (oC (dt h3 hw).2 h2)
   ·cases hs
 |mark x=>
  simp only[dV] at hs
  split at hs
  case isFalse=>cases hs
  rename_i hm
  try simp only at hm hs
  rcases D6 hm with ⟨hx,hw⟩|⟨hx,hw⟩|⟨hx,hw⟩|⟨hx,hw⟩|⟨hx,hw⟩
  ·obtain⟨hd,hq⟩:=dt h3 hw;subst hd;have a0:=oC hq h2;rcases hx with rfl|rfl
   ·rw[if_pos rfl] at hs;obtain rfl:=Zh hs;refine⟨fun g hg=>?_,a0,rfl,_,_,rfl,rfl⟩;rcases List.mem_cons.1 hg with rfl|hg
    ·exact Fr.ok.new N false
    ·exact h1 g hg
   ·rw[if_neg (by decide),if_pos rfl] at hs;obtain rfl:=Zh hs;refine⟨fun g hg=>?_,a0,rfl,_,_,rfl,rfl,rfl⟩;rcases List.mem_cons.1 hg with rfl|hg
    ·exact Fr.ok.new N true
    ·exact h1 g hg
  ·subst hx;rw[if_neg (by decide),if_neg (by decide)] at hs
   cases frs with
   |nil=>cases hs
   |cons f fs=>
    simp only[true_or,if_true] at hs;obtain rfl:=Zh hs;exact ni (fun g hg=>h1 g (Zl _ hg)) h2
  ·subst hx;rw[if_neg (by decide),if_neg (by decide)] at hs
   cases frs with
   |nil=>cases hs
   |cons f fs=>
    simp only[or_true,if_true] at hs;obtain rfl:=Zh hs;exact ni (fun g hg=>h1 g (Zl _ hg)) h2
  ·obtain⟨rfl,rfl⟩:=And.intro hx hw;rw[if_neg (by decide),if_neg (by decide)] at hs;obtain⟨rfl,f,fs,rfl,h5,h6⟩:=h3
   try simp only at hs
   rw[if_neg (by decide),if_neg (by decide)] at hs;obtain rfl:=Zh hs;refine⟨h1,h2,rfl,fun g gs e=>?_⟩;injection e with e _
   subst e;simp[cj,h5];exact h6
  ·subst hx;rw[if_neg (by decide),if_neg (by decide)] at hs
   cases frs with
   |nil=>cases hs
   |cons f fs=>
    try simp only at hs
    rw[if_neg (by decide)] at hs;simp only[if_true] at hs;obtain rfl:=Zh hs;rcases hw with rfl|rfl
    ·obtain⟨rfl,g,gs,e,h5⟩:=h3;injection e with e1 e2
     subst e1 e2;refine⟨h1,h2,?_⟩;simp only[h5];refine⟨rfl,fun g gs e=>?_⟩;injection e with e _
     subst e;simp[cj,h5]
    ·obtain⟨rfl,g,gs,e,h5,h6⟩:=h3;injection e with e1 e2
     subst e1 e2;refine⟨h1,h2,?_⟩;simp only[h5];exact⟨rfl,_,_,rfl,h5,h6⟩
def Fr.cnt (f:Fr):Nat:=f.items.length+f.mems.length
def eo (frs:List Fr):Nat:=(frs.map fun f=>f.cnt+1).sum
theorem oM (frs:List Fr)(j:JV):eo (cW frs j).frs<=eo frs+1:=by
 cases frs with
 |nil=>simp[cW,eo]
 |cons f fs=>
  by_cases ho:f.obj=true
  ·rw[gX ho];simp[eo,Fr.cnt];omega
  ·rw[fG (by simpa using ho)];simp[eo,Fr.cnt];omega
theorem DG {c c':dH}{t:sX}(hs:dV c t=some c'):eo c'.frs<=eo c.frs+1:=by
 obtain⟨frs,want,done⟩:=c
 cases t with
 |leaf j=>
  simp only[dV] at hs
  split at hs
  ·obtain rfl:=Zh hs;exact oM _ _
  ·cases hs
 |str s=>
  simp only[dV] at hs
  split at hs
  ·cases frs with
   |nil=>cases hs
   |cons f fs=>
    try simp only at hs
    split at hs
    ·cases hs
    ·obtain rfl:=Zh hs;simp[eo,Fr.cnt]
  ·split at hs
   ·obtain rfl:=Zh hs;exact oM _ _
   ·cases hs
 |mark x=>
  simp only[dV] at hs
  split at hs
  case isFalse=>cases hs
  by_cases e1:x=91
  ·rw[if_pos e1] at hs;obtain rfl:=Zh hs;simp[eo,Fr.cnt];omega
  rw[if_neg e1] at hs
  by_cases e2:x=123
  ·rw[if_pos e2] at hs;obtain rfl:=Zh hs;simp[eo,Fr.cnt];omega
  rw[if_neg e2] at hs
  cases frs with
  |nil=>cases hs
  |cons f fs=>
   try simp only at hs
   split at hs
   ·obtain rfl:=Zh hs;have:=oM fs (dZ f);have e:eo (f::fs)=f.cnt+1+eo fs:=by simp[eo]
    rw[e];omega
   ·split at hs <;> (obtain rfl:=Zh hs;simp)
theorem ll (frs:List Fr):frs.length<=eo frs:=by
 induction frs with
 |nil=>simp[eo]
 |cons f fs ih=>simp[eo] at ih ⊢;omega
theorem nh (f:Fr)(fs:List Fr):f.items.length+f.mems.length+1+fs.length<=eo (f::fs):=by
 have:=ll fs;simp[eo,Fr.cnt] at this ⊢;omega
