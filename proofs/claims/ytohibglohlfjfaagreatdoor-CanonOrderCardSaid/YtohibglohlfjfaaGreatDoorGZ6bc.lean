import Derived.Test.YtohibglohlfjfaaGreatDoorGZ6bb
import Derived.Test.YtohibglohlfjfaaGreatDoorGZ6av
import Derived.Test.YtohibglohlfjfaaGreatDoorGZ6ao
import Derived.Laws.EntriesVeiled
set_option linter.unusedVariables false
set_option linter.unusedSimpArgs false
set_option maxHeartbeats 64000000
set_option maxRecDepth 100000
namespace Go.Proofs.YtohibglohlfjfaaGreatDoor
open Go.RowKit Go.Shelf
variable {aE aU:Addr}{out xs:List UInt8}{g n p q:Nat}{t0 t1 t2:TypeId}{v x1 x2:Value}{w w1 w2:World}
theorem IR (n:Nat)(hv:Utf8.valid (n:Int)=true)(h1:n<128):Utf8.encode (n:Int)= ⟨#[UInt8.ofNat n]⟩:=by
 unfold Utf8.encode;simp only[hv,if_true,Int.toNat_natCast,h1]
theorem I4 (n:Nat)(hv:Utf8.valid (n:Int)=true)(h1:¬n<128)(h2:n<2048):Utf8.encode (n:Int)= ⟨#[UInt8.ofNat (192+n/64),UInt8.ofNat (128+n % 64)]⟩:=by
 unfold Utf8.encode;simp only[hv,if_true,Int.toNat_natCast,h1,h2,if_false]
theorem IZ (n:Nat)(hv:Utf8.valid (n:Int)=true)(h1:¬n<128)(h2:¬n<2048)(h3:n<65536):Utf8.encode (n:Int)= ⟨#[UInt8.ofNat (224+n/4096),UInt8.ofNat (128+n/64 % 64),UInt8.ofNat (128+n % 64)]⟩:=by
 unfold Utf8.encode;simp only[hv,if_true,Int.toNat_natCast,h1,h2,h3,if_false]
theorem ID (n:Nat)(hv:Utf8.valid (n:Int)=true)(h1:¬n<128)(h2:¬n<2048)(h3:¬n<65536):Utf8.encode (n:Int)= ⟨#[UInt8.ofNat (240+n/262144),UInt8.ofNat (128+n/4096 % 64),UInt8.ofNat (128+n/64 % 64),UInt8.ofNat (128+n % 64)]⟩:=by
 unfold Utf8.encode;simp only[hv,if_true,Int.toNat_natCast,h1,h2,h3,if_false]
theorem qw {c:Int}(hc:dF c=true):(Utf8.encode c).data.toList=bE c:=by
 obtain⟨n,rfl⟩:∃n:Nat,c=n:=⟨c.toNat,by have:=dZ hc;omega⟩;have hr:n<=1114111/\¬ (55296<=n/\n<=57343):=by rw[cS] at hc;simp at hc;omega
 have hv:Utf8.valid (n:Int)=true:=by rw[lC];omega
 by_cases h1:n<128
 ·rw[od n h1,IR n hv h1]
 ·by_cases h2:n<2048
  ·rw[sG n ⟨by omega,h2⟩,I4 n hv h1 h2]
  ·by_cases h3:n<65536
   ·rw[pG n ⟨by omega,h3⟩ (by omega),IZ n hv h1 h2 h3]
   ·rw[t7 n ⟨by omega,by omega⟩,ID n hv h1 h2 h3]
theorem cm {ops:Array Oper}{rest:List Oper}{o:Oper}{a:Act}{Q:Exit->Act->World->Prop}(a4:o.guard=none)(sl x:Operand)
  (ho:o.op =.call {callee:=.builtin .append,args:= #[sl,x],argTypes:= #[22,9]})
  (base:Nat) (v:Value) (ys:List UInt8) (s:ByteArray) (hs:a.eval sl=v) (a1:aq w base v ys) (hx:a.eval x =.string s)
  (hlen:ys.length+s.size<=140737488355328) (a0:base<=w.heap.size)
  (h:∀v' w',aq w' base v' (ys++s.data.toList)->w.grownBy w' v.ownBlock->wpList Tryz.prog ops Q rest (a.put o.dst v') w'):wpList Tryz.prog ops Q (o::rest) a w:=by
 refine wpList_plain a4 fun K hK=>?_
 obtain⟨i0,hi,a2,a3,a5⟩:=info_parts Cf;obtain⟨v',w',hr,h2,h3,h4⟩:=Lib.run_append_own_string (P:=Tryz.prog) w base 22 9 o.type 5 i0 Tryz.underlying22 Tryz.underlying9 hi a2 a3 a5 v ys.length (gj ys) a1 s (by unfold maxLen;omega) hlen a0;unfold Oper.wp execOp;simp only[ho,resolve,invoke,builtin,Sem.run_bind,Sem.run_pure,Result.andThen_ok,List.map_toArray,List.map_cons,List.map_nil,hs,hx,hr];refine hK _ _ (h v' w' ?_ h3);have e1:gj (ys++s.data.toList)=gj ys++Lib.strCells s:=by rw[oB];rfl
 have e2:(ys++s.data.toList).length=ys.length+s.size:=by rw[List.length_append];rfl
 unfold aq;rw[e1,e2];exact h2
theorem sH {x:Nat}(h:cM xs=some x):x<65536/\4<=xs.length:=by
 refine⟨?_,?_⟩
 ·have:=io xs 0;rw[List.drop_zero,h] at this;exact iB this.symm
 ·rcases xs with _|⟨a,_|⟨b,_|⟨c,_|⟨d,t⟩⟩⟩⟩
  ·cases h
  ·simp[cM] at h
  ·simp[cM] at h
  ·simp[cM] at h
  ·simp
theorem EM {p:Nat×Nat}(h:kg xs=some p):dF p.1=true/\1<=p.2/\p.2<=xs.length+2:=by
 unfold kg at h
 cases hx:cM xs with
 |none=>simp only[hx,bind,Option.bind] at h;cases h
 |some x=>
  obtain⟨b1,b2⟩:=sH hx;simp only[hx,bind,pure,Option.bind] at h
  split at h
  ·injection h with h
   subst h;refine⟨by rw[cS];simp;omega,by simp,by simp only;omega⟩
  split at h
  ·rename_i a b ys hd
   split at h
   ·cases h
   cases hy:cM ys with
   |none=>simp only[hy] at h;cases h
   |some y=>
    simp only[hy] at h;obtain⟨c1,c2⟩:=sH hy;have hl:(xs.drop 4).length=ys.length+2:=by rw[hd];rfl
    rw[List.length_drop] at hl
    split at h
    ·cases h
    injection h with h
    subst h;refine⟨by rw[cS];simp;omega,by simp,by simp only;omega⟩
  ·cases h
theorem Fe {p:Nat×Nat}(h:tL xs=some p):dF p.1=true/\1<=p.2/\p.2<=xs.length+1:=by
 unfold tL at h
 split at h <;> first
  |(injection h with h;subst h;exact⟨by decide,by decide,by simp⟩)
  |(have:=EM h;exact⟨this.1,this.2.1,by simpa using this.2.2⟩)
  |cases h
theorem mQ {p:Nat×Nat}(h:bP xs=some (some p)):dF p.1=true/\1<=p.2/\p.2<=xs.length:=by
 rcases xs with _|⟨x,xs⟩
 ·cases h
 simp only[bP] at h
 split at h
 ·cases h
 split at h
 ·rw[Option.map_eq_some_iff] at h;obtain⟨q,hq,e⟩:=h;injection e with e
  subst e;have:=Fe hq;exact⟨this.1,this.2.1,by simpa using this.2.2⟩
 split at h
 ·cases h
 split at h
 ·rename_i h0
  injection h with h
  injection h with h
  subst h;exact⟨(ju h0).2,eB h0,ob _⟩
 ·cases h
theorem pU (h:bP xs=some none):1<=xs.length:=by
 rcases xs with _|⟨x,xs⟩
 ·cases h
 ·simp
theorem GP:∀n:Nat,n<32->n=8\/n=9\/n=10\/n=12\/n=13\/(cJ (n:Nat):List UInt8)= ((⟨#[92,117,48,48]⟩:ByteArray)++ (⟨#[48,49,50,51,52,53,54,55,56,57,97,98,99,100,101,102]⟩:ByteArray).extract (n/16) (n/16+1)++ (⟨#[48,49,50,51,52,53,54,55,56,57,97,98,99,100,101,102]⟩:ByteArray).extract (n % 16) (n % 16+1)).data.toList:=by decide +kernel
theorem uD (h:n<32)(h8:n≠8)(h9:n≠9)(a5:n≠10)(a1:n≠12)(a3:n≠13)(w:World):Calls Tryz.prog 60 #[.int .i32 n] w fun e w'=>e =.returned (.string ⟨(cJ n).toArray⟩)/\Below w.heap.size w w':=by
 have b8:((n:Int)==8)=false:=by simp only[beq_eq_false_iff_ne];omega
 have b9:((n:Int)==9)=false:=by simp only[beq_eq_false_iff_ne];omega
 have b10:((n:Int)==10)=false:=by simp only[beq_eq_false_iff_ne];omega
 have b12:((n:Int)==12)=false:=by simp only[beq_eq_false_iff_ne];omega
 have b13:((n:Int)==13)=false:=by simp only[beq_eq_false_iff_ne];omega
 have b34:((n:Int)==34)=false:=by simp only[beq_eq_false_iff_ne];omega
 have b92:((n:Int)==92)=false:=by simp only[beq_eq_false_iff_ne];omega
 have hlt:(n:Int)<32:=by omega
 obtain⟨d,hd⟩:∃d:Int,bits .and .i32 (n:Int) 15=d:=⟨_,rfl⟩;have a4:d= ((n % 16:Nat):Int):=by rw[<-hd];exact F1 n (by omega)
 have a9:0<=d:=by omega
 have a7:d<16:=by omega
 obtain⟨q,hq⟩:∃q:Int,(n:Int)/16=q:=⟨_,rfl⟩;have a6:0<=q:=by omega
 have b0:q<16:=by omega
 have w1:IntKind.i32.wrap (q+1)=q+1:=by simp[IntKind.wrap,IntKind.bits,IntKind.signed];omega
 have w2:IntKind.i32.wrap (d+1)=d+1:=by simp[IntKind.wrap,IntKind.bits,IntKind.signed];omega
 have q2:q+1<=16:=by omega
 have d2:d+1<=16:=by omega
 have q3:q<=q+1:=by omega
 have d3:d<=d+1:=by omega
 have q4:0<=q+1:=by omega
 have d4:0<=d+1:=by omega
 have x1:(q+1).toNat - q.toNat=1:=by omega
 have x2:(d+1).toNat - d.toNat=1:=by omega
 have a2:=Qa a4;have Hq:=Qa hq;have hle:=GP n h;rcases hle with e|e|e|e|e|hle
 ·exact absurd e h8
 ·exact absurd e h9
 ·exact absurd e a5
 ·exact absurd e a1
 ·exact absurd e a3
 have Hl:=Qa hle;clear hle;clear a4 h8 h9 a5 a1 a3 h;go_enter Tryz.func60,Tryz.ntmps60;go_wp2_with fail;refine aA (fun _=>True) (trivial) fun a0=>?_
 refine tH 0 a0 ?_;refine tH 1 a0 ?_;refine tH 2 a0 ?_;refine tH 3 a0 ?_;refine tH 4 a0 ?_;refine tH 5 a0 ?_
 try simp only[Act.put,jP,jQ,jR]
 refine tH 6 a0 ?_;refine tH 7 a0 ?_;refine tH 8 a0 ?_;refine tH 9 a0 ?_;refine tH 10 a0 ?_;refine tH 11 a0 ?_
 try simp only[Act.put,jP,jQ,jR]
 refine tH 12 a0 ?_;refine tH 13 a0 ?_;refine tH 14 a0 ?_
 try simp only[Act.put,jP,jQ,jR]
 refine wpAnyH_done (by kernel_rfl) (NoPanic.normal ?_) _;go_wp2_with fail;go_ret;refine⟨?_,av (Ze _ _) 1⟩;have e1:q.toNat=n/16:=by have:=Hq.out;omega
 have e2:(q+1).toNat=n/16+1:=by have:=Hq.out;omega
 have e3:d.toNat=n % 16:=by have:=a2.out;omega
 have e4:(d+1).toNat=n % 16+1:=by have:=a2.out;omega
 rw[e1,e2,e3,e4]
 show Ending.returned (.string _)=_
 rw[Hl.out]
theorem Il {c:Int}(h:dF c=true):Utf8.encode c= ⟨(bE c).toArray⟩:=by
 have e:=qw h
 cases hx:Utf8.encode c with
 |mk d=>rw[hx] at e;simp only at e;rw[<-e]
theorem tX {c:Int}(h:dF c=true)(w:World):Calls Tryz.prog 60 #[.int .i32 c] w fun e w'=>e =.returned (.string ⟨(cJ c).toArray⟩)/\Below w.heap.size w w':=by
 by_cases h34:c=34
 ·subst h34;go_enter Tryz.func60,Tryz.ntmps60;go_wp2_with fail;go_ret;exact⟨rfl,Ze _ _⟩
 by_cases h92:c=92
 ·subst h92;go_enter Tryz.func60,Tryz.ntmps60;go_wp2_with fail;go_ret;exact⟨rfl,Ze _ _⟩
 by_cases h8:c=8
 ·subst h8;go_enter Tryz.func60,Tryz.ntmps60;go_wp2_with fail;go_ret;exact⟨rfl,Ze _ _⟩
 by_cases h9:c=9
 ·subst h9;go_enter Tryz.func60,Tryz.ntmps60;go_wp2_with fail;go_ret;exact⟨rfl,Ze _ _⟩
 by_cases h10:c=10
 ·subst h10;go_enter Tryz.func60,Tryz.ntmps60;go_wp2_with fail;go_ret;exact⟨rfl,Ze _ _⟩
 by_cases h12:c=12
 ·subst h12;go_enter Tryz.func60,Tryz.ntmps60;go_wp2_with fail;go_ret;exact⟨rfl,Ze _ _⟩
 by_cases h13:c=13
 ·subst h13;go_enter Tryz.func60,Tryz.ntmps60;go_wp2_with fail;go_ret;exact⟨rfl,Ze _ _⟩
 have h0:=dZ h
 by_cases h32:c<32
 ·obtain⟨n,rfl⟩:∃n:Nat,c=n:=⟨c.toNat,by omega⟩;exact uD (by omega) (by omega) (by omega) (by omega) (by omega) (by omega) w
 have b8:(c==8)=false:=by simpa using h8
 have b9:(c==9)=false:=by simpa using h9
 have b10:(c==10)=false:=by simpa using h10
 have b12:(c==12)=false:=by simpa using h12
 have b13:(c==13)=false:=by simpa using h13
 have b34:(c==34)=false:=by simpa using h34
 have b92:(c==92)=false:=by simpa using h92
 have Hl:=Qa (show cJ c=bE c by unfold cJ;rw[if_neg h34,if_neg h92,if_neg h8,if_neg h9,if_neg h10,if_neg h12,if_neg h13,if_neg h32]);have He:=Qa (Il h);clear h h0 h8 h9 h10 h12 h13 h34 h92;go_enter Tryz.func60,Tryz.ntmps60;go_wp2_with fail;go_ret;refine⟨?_,Ze _ _⟩;rw[Hl.out,<-He.out];rfl
theorem rh {c:Int}(h:dF c=true)(ys:List UInt8):bD (bE c++ys)= (c.toNat,(bE c).length,0):=by
 obtain⟨n,rfl⟩:∃n:Nat,c=n:=⟨c.toNat,by have:=dZ h;omega⟩;exact ip n h ys
theorem sD:∀ (cs:List Int) (f:Nat) (pre:List UInt8),(∀c∈cs,dF c=true)->cs.length<f->sL (pre++cs.flatMap bE) f pre.length= (pre++cs.flatMap bE).length
 | [],f+1,pre,_,_=>by
  unfold sL;rw[List.flatMap_nil,List.append_nil,List.drop_length,if_neg (by decide)]
 |c::cs,f+1,pre,hc,hf=>by
  have h0:=hc c (by simp);unfold sL;rw[List.flatMap_cons,List.drop_left,rh h0,if_pos rfl];have:=sD cs f (pre++bE c) (fun d hd=>hc d (by simp[hd])) (by simpa using hf);rw[List.length_append,List.append_assoc] at this;exact this
 |_,0,_,_,hf=>by omega
theorem iA:∀ {cs:List Int},(∀c∈cs,dF c=true)->cs.length<=(cs.flatMap bE).length
 | [],_=>Zb _
 |c::cs,h=>by
  have h1:=iA (cs:=cs) (fun d hd=>h d (by simp[hd]));have h2:(bE c).length≠0:=fun e=>nY (h c (by simp)) (List.eq_nil_of_length_eq_zero e)
  rw[List.flatMap_cons,List.length_append,List.length_cons];omega
theorem En {cs:List Int}(h:∀c∈cs,dF c=true):ET (cs.flatMap bE)= (cs.flatMap bE).length:=by
 have:=sD cs ((cs.flatMap bE).length+1) [] h (by have:=iA h;omega);simpa [ET] using this
theorem Dv {cs:List Int}(h:∀c∈cs,dF c=true)(hb:Bs w v (cs.flatMap bE))(hg:ce w aU aE):Calls Tryz.prog 59 #[v] w fun e w'=>e =.returned .nilIface/\Below w.heap.size w w':=by
 refine(zH hb hg).mono ?_;rintro e w' ⟨a0,⟨_,rfl⟩|⟨hlt,_⟩⟩
 ·exact⟨rfl,a0⟩
 ·rw[jL _ hb.1,En h] at hlt;omega
theorem Fv {c:Int}:(cJ c).length<=6:=by
 unfold cJ
 repeat' split
 all_goals first|simp|(have:=fV c;omega)
theorem aZ.iter {j:Nat}{s:ByteArray}:aZ (fun k=>k=j) w (w.iterAt j s q):=⟨rfl,rfl,rfl,by rw[Lib.iterAt_size];exact Zb _,fun k _ hk=>Lib.iterAt_other w j k s q hk⟩
def F8 (s:ByteArray)(cs:List Int)(j:Nat)(w:World)(m:Nat)(s5:Value)(wr:World):Prop:=
 ∃ (pre rest:List Int) (p:Nat),cs=pre++rest/\m=rest.length/\s.data.toList.drop p=rest.flatMap bE/\wr.heap[j]?=some (.stringIter s p)/\aq wr w.heap.size s5 (34::pre.flatMap cJ)/\(pre.flatMap cJ).length<=6*pre.length/\Below w.heap.size w wr
def JA (xs:List UInt8)(w:World)(e:Ending)(w':World):Prop:= ∃v,e =.returned (.tuple #[v,.nilIface])/\aq w' w.heap.size v xs/\Below w.heap.size w w'
theorem p6 {s:ByteArray}(hs:du s)(hG:ce w aU aE)(hl:s.size<=1000000000):Calls Tryz.prog 35 #[.string s] w (JA (ea s) w):=by
 obtain⟨hc,hd⟩:=hs.nm;unfold ea;generalize Proofs.YtohibglohlfjfaaGreatDoor.nm s=cs at *;clear hs;obtain⟨W2,cap,c7,a1,b6⟩:=ij w s (by omega);rw[<-hd] at b6;have Hv:=Qa (Dv hc b6 (hG.below a1));have d1:=Qa a1;have Hd:=Qa hd;have Hc:=Qa hc;have d6:cs.length<=1000000000:=by
  have h1:=iA hc;rw[hd] at h1;have:s.data.toList.length=s.size:=by simp
  omega
 clear a1 b6 hd hc hG;go_enter Tryz.func35,Tryz.ntmps35;go_wp2_with fail;refine Za Hv ?_;rintro e w1 ⟨rfl,c3⟩;have c2:=Qa (bu d1.out c3);have c9:=c2.out.size;clear c3;go_wp2_with fail;have a6:=ac w1 (.cells #[.int .u8 34] 5);have a7:=Zf w1 (.cells #[.int .u8 34] 5);have a5:aq (w1.alloc (.cells #[.int .u8 34] 5)) w.heap.size (.slice (some ⟨w1.heap.size,0,none⟩) 1 1) [34]:=eF (n:=1) (k:=1) a7 c9 (by unfold maxLen;omega) rfl;have a0:=ac (w1.alloc (.cells #[.int .u8 34] 5)) (.stringIter s 0);have Hi:=Qa (Zf (w1.alloc (.cells #[.int .u8 34] 5)) (.stringIter s 0));have Ho:=Qa (a5.below a0 (Zb _));have Hb:=Qa (bu (bu c2.out a6) a0);clear a6 a0 a7 a5
 go_loopg [5] cs.length (fun m s5 wr=>F8 s cs (w1.heap.size+1) w m s5 wr)
 case atStart=>exact⟨[],cs,0,rfl,rfl,Hd.out.symm,by have:=Hi.out;rwa[World.size_alloc] at this,Ho.out,Zb _,Hb.out⟩
 case round=>
  clear Ho Hi Hb;obtain⟨pre,rest,p,he,hm,a3,hi,ho,c1,hb⟩:=hrel;have hji:w.heap.size<=w1.heap.size+1:=by omega
  generalize w1.heap.size+1=j at *;have Ho:=Qa ho;have Hi:=Qa hi;have Hb:=Qa hb;have He:=Qa he;have b3:=Qa c1;have d5:=Qa a3;have hsz:s.data.toList.length=s.size:=by simp
  have b1:∀b,u5.ownBlock=some b->b≠j:=fun b a1 e=>by
   obtain⟨_,cur,hg⟩:=aj ho a1;rw[e,hi] at hg
   cases hg
  have d9:=Qa b1;have d2:pre.length<=1000000000:=by have:=congrArg List.length he;rw[List.length_append] at this;omega
  cases rest with
  |nil=>
   have hlt:¬p<s.size:=by
    have:=congrArg List.length a3;rw[List.length_drop] at this;simp at this;omega
   have a9:∀ty,(Instr.next (.pointer (some ⟨j,0,none⟩)) true ty).run Tryz.prog wr =.ok (.tuple #[.bool false]) wr:=fun ty=>Lib.run_next_end_at wr j s p ty hi hlt
   clear ho hi hb he c1 a3 b1 hlt hm;have b4:=ac wr (.cells #[.int .u8 34] 5);have c6:=Qa (Ho.out.below b4 (Zb _));have Hn:=Qa (lr wr [34] (by decide));have a4:=Qa (bu Hb.out b4);have b5:=Qa (show w.heap.size<=(wr.alloc (.cells #[.int .u8 34] 5)).heap.size from a4.out.size);have b9:=Qa (show(34::pre.flatMap cJ).length+ ([34]:List UInt8).length<=140737488355328 by have:=b3.out;simp at *;omega);clear b4;go_wp2_with (at_builtin;refine pR c6.out Hn.out b9.out b5.out ?_;intro v' w3 h1 h2 h3;have HK:=Qa h1;have b2:=Qa h2;clear h1 h2 h3);obtain⟨A3,q3,rfl,-⟩:=ag HK.out;go_ret2;refine⟨_,rfl,?_,a4.out.grown b2.out a4.out.size (fun g e=>(aq.blk c6.out e).1)⟩;have e:lx cs= (34::pre.flatMap cJ) ++ [34]:=by rw[He.out,List.append_nil];rfl
   rw[e];exact HK.out
  |cons c rest=>
   have h0:=Hc.out c (by rw[he];simp);have hlen:=congrArg List.length a3;rw[List.length_drop,hsz,List.flatMap_cons,List.length_append] at hlen;have d0:(bE c).length≠0:=fun e=>nY h0 (List.eq_nil_of_length_eq_zero e)
   have hlt:p<s.size:=by omega
   have a9:∀ty,(Instr.next (.pointer (some ⟨j,0,none⟩)) true ty).run Tryz.prog wr =.ok (.tuple #[.bool true,.int .i64 p,.int .i32 (Utf8.decode s p).1]) (wr.iterAt j s (p+ (Utf8.decode s p).2)):=fun ty=>Lib.run_next_any_at wr j s p ty hi hlt
   rw[mS s p hlt,a3,List.flatMap_cons,rh h0,if_pos rfl] at a9;have hcn:((c.toNat:Nat):Int)=c:=by have:=dZ h0;omega
   dsimp only at a9
   rw[hcn] at a9;have a2:=aZ.iter (w:=wr) (j:=j) (q:=p+ (bE c).length) (s:=s);have d3:=Qa (Lib.iterAt_heap wr j s p (p+ (bE c).length) hi);have c8:=Qa (ho.stayB a2 b1);have d4:=Qa (hb.trans (a2.below hb.size (fun k hk=>by rw[hk];exact hji)));have b7:=Qa (show s.data.toList.drop (p+ (bE c).length)=rest.flatMap bE by rw[<-List.drop_drop,a3,List.flatMap_cons,List.drop_left]);have H0:=Qa h0;have c4:=Qa (Fv (c:=c));have Hgk:Hid (gk=rest.length+1):=Qa hm;clear ho hi hb he c1 a3 b1 hlt hlen d0 a2 h0 hcn hm;generalize wr.iterAt j s (p+ (bE c).length)=wi at *;go_wp2_with fail;refine(tX H0.out _).mono ?_;rintro e w3 ⟨rfl,b0⟩;have b8:=Qa (c8.out.below b0 (Zb _));have a4:=Qa (bu d4.out b0);have c5:=Qa (ai d3.out b0);have b5:=Qa a4.out.size;have b9:=Qa (show(34::pre.flatMap cJ).length+ (⟨(cJ c).toArray⟩:ByteArray).size<=140737488355328 by
    have h1:=b3.out;have h2:=c4.out;have h3:(⟨(cJ c).toArray⟩:ByteArray).size= (cJ c).length:=by simp[ByteArray.size]
    rw[h3,List.length_cons];omega)
   clear b0;go_wp2_with (at_builtin;refine cm rfl (.tmp 20) (.tmp 22) rfl w.heap.size u5 (34::pre.flatMap cJ) ⟨(cJ c).toArray⟩ (by simp[Act.eval]) b8.out (by simp[Act.eval]) b9.out b5.out ?_;intro v' w4 h1 h2;have HK:=Qa h1;have b2:=Qa h2;clear h1 h2);have c0:∀b,u5.ownBlock=some b->b≠j:=fun b a1 e=>by
    obtain⟨_,cur,hg⟩:=aj b8.out a1;rw[e,c5.out] at hg
    cases hg
   have h3:F8 s cs j w rest.length v' w4:=by
    refine⟨pre ++ [c],rest,p+ (bE c).length,by rw[He.out];simp,rfl,b7.out,aB c5.out b2.out (fun e=>c0 j e rfl),?_,?_,a4.out.grown b2.out a4.out.size (fun g e=>(aq.blk b8.out e).1)⟩
    ·have e:34:: (pre ++ [c]).flatMap cJ= (34::pre.flatMap cJ)++cJ c:=by simp
     rw[e];exact HK.out
    ·have h1:=b3.out;have h2:=c4.out;simp only[List.flatMap_append,List.flatMap_cons,List.flatMap_nil,List.append_nil,List.length_append,List.length_cons,List.length_nil];omega
   go_roundg (rest.length)
   case measure=>have:=Hgk.out;omega
   case rel=>exact h3
theorem zC {f:Nat}{p:Nat×Nat}(h:bP xs=some (some p)):fG (f+1) xs out n=fG f (xs.drop p.2) (out++bE p.1) (n+p.2):=by
 conv=>lhs;unfold fG
 rw[h]
theorem Bo {f:Nat}(h:bP xs=none):fG (f+1) xs out n=none:=by
 unfold fG;rw[h]
theorem Cs {f:Nat}(h:bP xs=some none):fG (f+1) xs out n=some (out,n+1):=by
 unfold fG;rw[h]
theorem ls (h:Below w.heap.size w w1)(j:Nat)(u:Value):Below w.heap.size w (w1.setCell ⟨w.heap.size,j,none⟩ u):=
 h.trans ((aZ.set _ j u).below h.size (fun i e=>by omega))
theorem sF.put {k:Nat}(hb:Bs w v xs)(hB:Below w.heap.size w w1)(h:sF w1 w.heap.size v xs k){z:Int}(j:Nat)(hz:z=j):sF (w1.setCell ⟨w.heap.size,1,none⟩ (.int .i64 z)) w.heap.size v xs j:=by
 subst hz;exact⟨au h.1 1 _,hb.below (ls hB 1 _)⟩
theorem aq.put (h:aq w1 (g+1) v out)(u:Value):aq (w1.setCell ⟨g,1,none⟩ u) (g+1) v out:=
 h.stayB (aZ.set g 1 u) (fun b hb e=>by have:=(aq.blk h hb).1;omega)
theorem DU {c:Int}(h:dF c=true):(Utf8.encode c).size<=4:=by
 have h2:=qw h;generalize Utf8.encode c=e at *
 show e.data.size<=4
 rw[<-Array.length_toList,h2];exact fV c
def FO (p:List UInt8×Nat):Value:=.tuple #[.string ⟨p.1.toArray⟩,.int .i64 p.2,.nilIface]
def JK (r:Option (List UInt8×Nat))(w:World)(e:Ending)(w':World):Prop:=(∃p,r=some p/\e =.returned (FO p)/\Below w.heap.size w w')\/(r=none/\iY w e w')
def F7 (R:Option (List UInt8×Nat))(xs:List UInt8)(vx:Value)(g:Nat)(w:World)(m:Nat)(s6:Value)(wr:World):Prop:=
 ∃ (f k:Nat) (out:List UInt8),m+k=xs.length/\1<=k/\m<f/\fG f (xs.drop k) out k=R/\aq wr (g+1) s6 out/\out.length<=4*k/\sF wr g vx xs k/\Below g w wr
theorem re (hb:Bs w v xs)(hG:ce w aU aE)(hQ:br w 14)(hS:br w 19)(hU:br w 20)(hC:br w 18)(hl:xs.length<=1000000000):Calls Tryz.prog 209 #[v] w (JK (mD xs) w):=by
 obtain⟨hm,A,cap,rfl,c6,a0⟩:=id hb;obtain⟨aQ,d6⟩:=hQ;obtain rfl|⟨x,t,hx⟩:xs = []\/∃x t,xs=x::t:=by
  cases xs with
  |nil=>exact .inl rfl
  |cons x t=>exact .inr ⟨x,t,rfl⟩
 ·clear a0 hb;go_enter Tryz.func209,Tryz.ntmps209;go_wp2_with fail;refine(bm _ aQ _).mono ?_;rintro e w' ⟨vP,rfl,hv,hb⟩;exact⟨rfl,.inr ⟨rfl,vP,rfl,hv,hb⟩⟩
 have hlen:xs.length=t.length+1:=by rw[hx];rfl
 obtain⟨b,o,rfl,a7⟩:=a0 (by omega);have c0:=a7 0 (by omega);rw[Nat.add_zero] at c0;have b2:am xs 0=x.toNat:=by rw[hx];rfl
 rw[b2] at c0;have n0:((xs.length:Int)==0)=false:=by simp only[beq_eq_false_iff_ne];omega
 have d5:(0:Int)<xs.length:=by omega
 have e2:0<xs.length:=by omega
 by_cases h34:x=34
 case neg=>
  have n34:((x.toNat:Int) !=34)=true:=by
   simp only[bne_iff_ne,ne_eq];intro e;exact h34 (UInt8.toNat_inj.1 (by show x.toNat=34;omega))
  have Hn:=Qa (show mD xs=none by rw[hx];unfold mD;split <;> first|rfl|(rename_i e;injection e with e _;exact absurd e h34));clear hx hlen h34 a7 a0 hb b2;go_enter Tryz.func209,Tryz.ntmps209;go_wp2_with fail;refine(bm _ aQ _).mono ?_;rintro e w' ⟨vP,rfl,hv,hb⟩;exact⟨rfl,.inr ⟨Hn.out,vP,rfl,hv,hb⟩⟩
 have n34:((x.toNat:Int) !=34)=false:=by rw[h34];rfl
 have Hr:=Qa (show fG (t.length+1) (xs.drop 1) [] 1=mD xs by rw[hx,h34];rfl);have Hb:=Qa hb;have HG:=Qa hG;have HS:=Qa hS;have HU:=Qa hU;have HC:=Qa hC;have Hlen:=Qa hlen;generalize mD xs=R at *;have Hbox:=Qa (Zf w (.cells #[.slice (some ⟨b,o,none⟩) xs.length cap,.int .i64 1] 367));have Hba:=Qa (ac w (.cells #[.slice (some ⟨b,o,none⟩) xs.length cap,.int .i64 1] 367));clear hx hlen h34 a7 a0 hb b2 hG hS hU hC;go_enter Tryz.func209,Tryz.ntmps209;go_wp2_with fail;generalize w.alloc (.cells #[.slice (some ⟨b,o,none⟩) xs.length cap,.int .i64 1] 367)=w0 at *
 go_loopg [6] (xs.length - 1) (fun m s6 wr=>F7 R xs (.slice (some ⟨b,o,none⟩) xs.length cap) w.heap.size w m s6 wr)
 case atStart=>exact⟨t.length+1,1, [],by have:=Hlen.out;omega,Zb _,by have:=Hlen.out;omega,Hr.out,aq.nil _ _,Zk _,⟨Hbox.out,Hb.out.below Hba.out⟩,Hba.out⟩
 case round=>
  obtain⟨f,k,out,d9,hk,hf,hq,ho,b4,hR,a4⟩:=hrel;have Ho:=Qa ho;have d2:=Qa b4;have HR:=Qa hR;have b6:=Qa a4;have Hq:=Qa hq;have hsz:=ae hR.1;have d4:=Qa (wy hR (HG.out.below (show Below w.heap.size w wr from a4)) (HS.out.below a4) (HU.out.below a4) (HC.out.below a4) (by omega) (by omega));obtain⟨f,rfl⟩:∃f',f=f'+1:=⟨f - 1,by omega⟩;clear ho b4 hR hq a4;go_wp2_with fail;refine Za d4 ?_;rintro e w1 (⟨p,hp,rfl,a2⟩|⟨hn,vP,rfl,hv,a2⟩)
  case inr=>
   have Hn:=Qa (Hq.out.symm.trans (Bo hn));have Hv:=Qa hv;have d1:=Qa (bu b6.out a2);clear hn hv a2;go_wp2_with fail;exact⟨rfl,.inr ⟨Hn.out,vP,rfl,Hv.out,d1.out⟩⟩
  have b0:=Qa (HR.out.below a2);have a6:=Qa (bu b6.out a2);have b7:=Qa (Ho.out.below a2 (Zb _));have c1:=aa b0.out.1 (j:=1) (u:=.int .i64 k) rfl;have f1:=ak b0.out.1 1;have b3:w.heap.size+1<=w1.heap.size:=Nat.lt_of_lt_of_le hsz a2.size;clear a2
  cases p with
  |none=>
   have Hn:=Qa (Hq.out.symm.trans (Cs hp));have c4:=pU hp;rw[List.length_drop] at c4;clear hp;rw[show JD none =.tuple #[.int .i32 0,.int .i64 1,.bool false] from rfl];have e1:(k:Int)+1= ((k+1:Nat):Int):=by omega
   have b1:=Qa (b0.out.put Hb.out a6.out (k+1) e1);have a5:=Qa (b7.out.put (.int .i64 ((k:Int)+1)));have a9:=Qa (ls a6.out 1 (.int .i64 ((k:Int)+1)));have s1:IntKind.i64.wrap ((k:Int)+1)= (k:Int)+1:=IntWalk.i64_in _ (by omega);clear e1;go_wp2_with fail;have c2:=aa b1.out.1 (j:=1) (u:=.int .i64 (k+1:Nat)) rfl;have a3:(w1.setCell ⟨w.heap.size,1,none⟩ (.int .i64 ((k:Int)+1))).drew.cell? ⟨w.heap.size,1,none⟩=some (.int .i64 (k+1:Nat))/\(convert 22 9 u6).run Tryz.prog (w1.setCell ⟨w.heap.size,1,none⟩ (.int .i64 ((k:Int)+1))).drew =.ok (.string ⟨out.toArray⟩) (w1.setCell ⟨w.heap.size,1,none⟩ (.int .i64 ((k:Int)+1))).drew:=⟨c2,aO (aq.bs (aq.drewN a5.out 1))⟩;generalize w1.setCell ⟨w.heap.size,1,none⟩ (.int .i64 ((k:Int)+1))=w2 at *;clear c1 f1 c2;refine aA (fun w'=>w'.cell? ⟨w.heap.size,1,none⟩=some (.int .i64 (k+1:Nat))/\(convert 22 9 u6).run Tryz.prog w' =.ok (.string ⟨out.toArray⟩) w') (a3) fun a1=>?_
   refine tH 0 a1 ?_;refine tH 1 a1 ?_;refine tH 2 a1 ?_;refine tH 3 a1 ?_;refine tH 4 a1 ?_;refine tH 5 a1 ?_
   try simp only[Act.put,jP,jQ,jR]
   refine tH 6 a1 ?_;refine tH 7 a1 ?_;refine tH 8 a1 ?_
   try simp only[Act.put,jP,jQ,jR]
   refine wpAnyH_done (by kernel_rfl) (NoPanic.normal ?_) _;go_wp2_with fail;go_ret3;exact .inl ⟨(out,k+1),Hn.out,rfl,av a9.out 1⟩
  |some p=>
   obtain⟨ca,cl⟩:=p;obtain⟨hi,c8,b9⟩:=mQ hp;rw[List.length_drop] at b9
   dsimp only at hi c8 b9
   have c5:=Qa ((zC hp).symm.trans Hq.out);have Hi:=Qa hi;rw[show JD (some (ca,cl)) =.tuple #[.int .i32 ca,.int .i64 cl,.bool true] from rfl];have a7:cl<=1000000000:=by omega
   have d0:=d2.out;have e0:k<=1000000000:=by omega
   obtain⟨z,hz⟩:∃z:Int,(k:Int)+cl=z:=⟨_,rfl⟩;have s1:IntKind.i64.wrap ((k:Int)+cl)=z:=by rw[hz];exact IntWalk.i64_in _ (by omega)
   have b1:=Qa (b0.out.put Hb.out a6.out (z:=z) (k+cl) (by omega));have a5:=Qa (b7.out.put (.int .i64 z));have a9:=Qa (ls a6.out 1 (.int .i64 z));have c7:=Qa (show w.heap.size+1<=(w1.setCell ⟨w.heap.size,1,none⟩ (.int .i64 z)).heap.size by simpa using b3);have c9:(Utf8.encode (ca:Int)).size<=4:=DU Hi.out;have d3:=Qa (show out.length+ (Utf8.encode (ca:Int)).size<=140737488355328 by omega);clear hp hi hz c9;go_wp2_with (at_builtin;refine cm rfl (.tmp 46) (.tmp 48) rfl (w.heap.size+1) u6 out (Utf8.encode ca) (by simp[Act.eval]) a5.out (by simp[Act.eval]) d3.out c7.out ?_;intro v' w3 h1 h2;have HK:=Qa h1;have b8:=Qa h2;clear h1 h2);have b5:Below w.heap.size w w3:=a9.out.grown b8.out a9.out.size (fun g e=>by have:=(aq.blk a5.out e).1;omega);have c3:w3.heap[w.heap.size]?=_:=aB b1.out.1 b8.out (fun e=>by have:=(aq.blk a5.out e).1;omega);have h3:F7 R xs (.slice (some ⟨b,o,none⟩) xs.length cap) w.heap.size w (xs.length - (k+cl)) v' w3:=by
    refine⟨f,k+cl,out++bE ca,by omega,by omega,by omega,?_,?_,?_,⟨c3,Hb.out.below b5⟩,b5⟩
    ·rw[<-c5.out,List.drop_drop]
    ·rw[<-qw Hi.out];exact HK.out
    ·have:=fV ca;rw[List.length_append];omega
   go_roundg (xs.length - (k+cl))
   case measure=>omega
   case rel=>exact h3
theorem wX (a:Addr)(W:World):(Instr.typeAssert (.iface 226 (.pointer (some a))) 20 226 true).run Tryz.prog W =.ok (.tuple #[.pointer (some a),.bool true]) W:=by kernel_rfl
theorem mz (a:Addr)(w:World):Calls Tryz.prog 208 #[.iface 226 (.pointer (some a))] w fun e w'=>e =.returned (.iface 226 (.pointer (some a)))/\w=w':=by
 go_enter Tryz.func208,Tryz.ntmps208;have q:=wX a w;go_wp2_with fail;go_ret;exact⟨rfl,rfl⟩
theorem Cw (p q r:Value)(w:World):CallsD Tryz.prog 207 #[p,q,r] .returning w fun e u' w'=>e =.returned (.tuple #[])/\u' =.returning/\w'=w:=by
 refine callsD_of_wpS Tryz.func207 rfl fun c₀ cs hu=>?_
 apply wpS_seq
 apply wpS_region
 simp[wpOpsS,go_sem,recoverD,hu,Tryz.ntmps207,Exit.thenS];apply wpS_seq;apply wpS_region;simp[wpOpsS,go_sem,Exit.thenS];refine wpS_cond (t:=false) (by simp[Act.eval,Array.replicate]) ?_;simp only[Bool.false_eq_true,if_false];refine wpS_of_wp (wp_skip ?_)
 cases c₀
 simp_all [bodyPostS,results,Tryz.results207]
theorem Bz {x0:Value}(h0:w.heap[p]?=some (.cells #[x0] t0 (0,0)))(h1:w.heap[p+1]?=some (.cells #[x1] t1 (0,0)))(h2:w.heap[p+1+1]?=some (.cells #[x2] t2 (0,0)))(a:Addr)(older:List PanicEntry) :
  CallsD Tryz.prog 207 #[.pointer (some ⟨p,0,none⟩),.pointer (some ⟨p+1,0,none⟩),.pointer (some ⟨p+1+1,0,none⟩)] (.panicking ({v:=.iface 226 (.pointer (some a)),recovered:=false}::older)) w fun e u' w'=>
   e =.returned (.tuple #[])/\u' =.panicking ({v:=.iface 226 (.pointer (some a)),recovered:=true}::older)/\w'= ((w.setCell ⟨p,0,none⟩ (.string ⟨#[]⟩)).setCell ⟨p+1,0,none⟩ (.int .i64 0)).setCell ⟨p+1+1,0,none⟩ (.iface 226 (.pointer (some a))):=by
 have c0:=aa h0 (j:=0) rfl;have f0:=ak h0 0;have c1:=aa h1 (j:=0) rfl;have f1:=ak h1 0;have c2:=aa h2 (j:=0) rfl;have f2:=ak h2 0;clear h0 h1 h2;refine callsD_of_wpS Tryz.func207 rfl fun c₀ cs hu=>?_
 apply wpS_seq
 apply wpS_region
 simp[wpOpsS,go_sem,recoverD,hu,Tryz.ntmps207,Exit.thenS];apply wpS_seq;apply wpS_region;simp[wpOpsS,go_sem,Exit.thenS];refine wpS_cond (t:=true) (by simp[Act.eval,Array.replicate]) ?_;simp only[if_true];refine wpS_of_wp ?_;go_wp2_with fail;refine(mz _ _).mono ?_;rintro e w' ⟨rfl,rfl⟩;go_wp2_with fail;refine⟨rfl,_,rfl,.tuple #[],?_,rfl,rfl,rfl⟩;simp[results,Tryz.results207,go_sem]
theorem p5 {x0:Value}(h0:w2.heap[w.heap.size]?=some (.cells #[x0] t0 (0,0)))(h1:w2.heap[w.heap.size+1]?=some (.cells #[x1] t1 (0,0)))(h2:w2.heap[w.heap.size+1+1]?=some (.cells #[x2] t2 (0,0)))(hb:Below w.heap.size w w2)(y0 y1 y2:Value) :
  Below w.heap.size w (((w2.setCell ⟨w.heap.size,0,none⟩ y0).setCell ⟨w.heap.size+1,0,none⟩ y1).setCell ⟨w.heap.size+1+1,0,none⟩ y2)/\(((w2.setCell ⟨w.heap.size,0,none⟩ y0).setCell ⟨w.heap.size+1,0,none⟩ y1).setCell ⟨w.heap.size+1+1,0,none⟩ y2).cell? ⟨w.heap.size,0,none⟩=some y0/\
   (((w2.setCell ⟨w.heap.size,0,none⟩ y0).setCell ⟨w.heap.size+1,0,none⟩ y1).setCell ⟨w.heap.size+1+1,0,none⟩ y2).cell? ⟨w.heap.size+1,0,none⟩=some y1/\(((w2.setCell ⟨w.heap.size,0,none⟩ y0).setCell ⟨w.heap.size+1,0,none⟩ y1).setCell ⟨w.heap.size+1+1,0,none⟩ y2).cell? ⟨w.heap.size+1+1,0,none⟩=some y2:=by
 have a0:=au h0 0 y0;have a1:=ar w2 (w.heap.size+1) w.heap.size 0 y0 _ _ (by omega) h1;have a2:=ar w2 (w.heap.size+1+1) w.heap.size 0 y0 _ _ (by omega) h2;have b0:=ar _ w.heap.size (w.heap.size+1) 0 y1 _ _ (by omega) a0;have b1:=au a1 0 y1;have b2:=ar _ (w.heap.size+1+1) (w.heap.size+1) 0 y1 _ _ (by omega) a2;have d0:=ar _ w.heap.size (w.heap.size+1+1) 0 y2 _ _ (by omega) b0;have d1:=ar _ (w.heap.size+1) (w.heap.size+1+1) 0 y2 _ _ (by omega) b1;have d2:=au b2 0 y2;refine⟨((hb.setCell (p:=⟨w.heap.size,0,none⟩) (Zb _) _).setCell (p:=⟨w.heap.size+1,0,none⟩) (Nat.le_succ _) _).setCell (p:=⟨w.heap.size+1+1,0,none⟩) (by show w.heap.size<=w.heap.size+1+1;omega) _,aa d0 (j:=0) rfl,aa d1 (j:=0) rfl,aa d2 (j:=0) rfl⟩
def JI (r:Option (List UInt8×Nat))(w:World)(e:Ending)(w':World):Prop:=(∃p,r=some p/\e =.returned (FO p)/\Below w.heap.size w w')\/(r=none/\∃v,e =.returned (.tuple #[.string ⟨#[]⟩,.int .i64 0,v])/\GU w' v/\Below w.heap.size w w')
theorem qA (hb:Bs w v xs)(hG:ce w aU aE)(hQ:br w 14)(hS:br w 19)(hU:br w 20)(hC:br w 18)(hl:xs.length<=1000000000):Calls Tryz.prog 195 #[v] w (JI (mD xs) w):=by
 have a7:∀ (fn:Fn) (first cap:Array Value) (w:World),(Instr.makeFunc fn first cap).run Tryz.prog w =.ok (.func fn first cap) w:=fun _ _ _ _=>rfl
 have a1:Below w.heap.size w (((w.alloc (.cells #[.string ⟨#[]⟩] 9)).alloc (.cells #[.int .i64 0] 3)).alloc (.cells #[.nilIface] 40)):=(((Ze _ _).alloc (Zb _) _).alloc (by simp) _).alloc (by simp only[World.size_alloc];omega) _;have h0:(((w.alloc (.cells #[.string ⟨#[]⟩] 9)).alloc (.cells #[.int .i64 0] 3)).alloc (.cells #[.nilIface] 40)).heap[w.heap.size]?=some (.cells #[.string ⟨#[]⟩] 9 (0,0)):=(Below.heap_alloc _ _ _ (by simp only[World.size_alloc];omega)).trans ((Below.heap_alloc _ _ _ (by simp)).trans (Zf w _));have h1:(((w.alloc (.cells #[.string ⟨#[]⟩] 9)).alloc (.cells #[.int .i64 0] 3)).alloc (.cells #[.nilIface] 40)).heap[w.heap.size+1]?=some (.cells #[.int .i64 0] 3 (0,0)):=by
  have:=Zf (w.alloc (.cells #[.string ⟨#[]⟩] 9)) (.cells #[.int .i64 0] 3);rw[World.size_alloc] at this;exact(Below.heap_alloc _ _ _ (by simp)).trans this
 have h2:(((w.alloc (.cells #[.string ⟨#[]⟩] 9)).alloc (.cells #[.int .i64 0] 3)).alloc (.cells #[.nilIface] 40)).heap[w.heap.size+1+1]?=some (.cells #[.nilIface] 40 (0,0)):=by
  have:=Zf ((w.alloc (.cells #[.string ⟨#[]⟩] 9)).alloc (.cells #[.int .i64 0] 3)) (.cells #[.nilIface] 40)
  rwa[World.size_alloc,World.size_alloc] at this
 have hz:(((w.alloc (.cells #[.string ⟨#[]⟩] 9)).alloc (.cells #[.int .i64 0] 3)).alloc (.cells #[.nilIface] 40)).heap.size=w.heap.size+3:=by simp
 have a2:=Qa a1;have H0:=Qa h0;have H1:=Qa h1;have H2:=Qa h2;have Hz:=Qa hz;have a6:=Qa (re (hb.below a1) (hG.below a1) (hQ.below a1) (hS.below a1) (hU.below a1) (hC.below a1) hl);clear a1 h0 h1 h2 hz hb hG hQ hS hU hC;go_enter_defers Tryz.func195,Tryz.ntmps195;go_wp2_with fail;generalize ((w.alloc (.cells #[.string ⟨#[]⟩] 9)).alloc (.cells #[.int .i64 0] 3)).alloc (.cells #[.nilIface] 40)=w1 at *;refine Za a6 ?_;rintro e w2 (⟨p,hp,rfl,a0⟩|⟨hn,vP,rfl,hv,a0⟩)
 ·have Hp:=Qa hp;have g0:=ai H0.out a0;have g1:=ai H1.out a0;have g2:=ai H2.out a0;have a4:=Qa (a2.out.trans (a0.mono a2.out.size));have G0:=Qa g0;have G1:=Qa g1;have G2:=Qa g2;have c0:=aa g0 (j:=0) rfl;have f0:=ak g0 0;have c1:=aa g1 (j:=0) rfl;have f1:=ak g1 0;have c2:=aa g2 (j:=0) rfl;have f2:=ak g2 0;clear hp a0 g0 g1 g2;rw[show FO p =.tuple #[.string ⟨p.1.toArray⟩,.int .i64 p.2,.nilIface] from rfl];go_wp2_with fail;obtain⟨a3,d0,d1,d2⟩:=p5 G0.out G1.out G2.out a4.out (.string ⟨p.1.toArray⟩) (.int .i64 p.2) .nilIface;clear c0 c1 c2 f0 f1 f2;generalize ((w2.setCell ⟨w.heap.size,0,none⟩ (.string ⟨p.1.toArray⟩)).setCell ⟨w.heap.size+1,0,none⟩ (.int .i64 p.2)).setCell ⟨w.heap.size+1+1,0,none⟩ .nilIface=w3 at *;refine leaves_cons (f:=207) (args:= #[.pointer (some ⟨w.heap.size,0,none⟩),.pointer (some ⟨w.heap.size+1,0,none⟩),.pointer (some ⟨w.heap.size+1+1,0,none⟩)]) (by simp) (by simp[go_sem]) ?_;refine(Cw _ _ _ _).mono ?_;rintro e u' w'' ⟨rfl,rfl,rfl⟩;simp[Leaves,settle,results,Tryz.results195,go_sem,d0,d1,d2];exact .inl ⟨p,Hp.out,rfl,a3⟩
 ·obtain⟨g,pz,a,rfl,hg⟩:=hv;have Hn:=Qa hn;have Hg:=Qa hg;have G0:=Qa (ai H0.out a0);have G1:=Qa (ai H1.out a0);have G2:=Qa (ai H2.out a0);have a4:=Qa (a2.out.trans (a0.mono a2.out.size));clear hn hg a0;go_wp2_with fail;obtain⟨a3,d0,d1,d2⟩:=p5 G0.out G1.out G2.out a4.out (.string ⟨#[]⟩) (.int .i64 0) (.iface 226 (.pointer (some ⟨g,0,none⟩)));refine leaves_cons (f:=207) (args:= #[.pointer (some ⟨w.heap.size,0,none⟩),.pointer (some ⟨w.heap.size+1,0,none⟩),.pointer (some ⟨w.heap.size+1+1,0,none⟩)]) (by simp) (by simp[go_sem]) ?_;refine(Bz G0.out G1.out G2.out ⟨g,0,none⟩ []).mono ?_;rintro e u' w'' ⟨rfl,rfl,rfl⟩;have hne:∀ {i:Nat} {x:Value} {t:TypeId},w2.heap[i]?=some (.cells #[x] t (0,0))->g≠i:=fun hi e=>by
   subst e;have h:=Hg.out.symm.trans hi;injection h with h
   injection h with h
   simp at h
  have a5:=ar _ g (w.heap.size+1+1) 0 (.iface 226 (.pointer (some ⟨g,0,none⟩))) _ _ (hne G2.out) (ar _ g (w.heap.size+1) 0 (.int .i64 0) _ _ (hne G1.out) (ar w2 g w.heap.size 0 (.string ⟨#[]⟩) _ _ (hne G0.out) Hg.out));simp[Leaves,settle,results,Tryz.results195,go_sem,d0,d1,d2];exact .inr ⟨Hn.out,_,rfl,⟨g,pz,a,rfl,a5⟩,a3⟩
