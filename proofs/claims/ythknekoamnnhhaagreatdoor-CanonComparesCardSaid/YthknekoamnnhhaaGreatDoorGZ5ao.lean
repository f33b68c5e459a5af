import Derived.Test.YthknekoamnnhhaaGreatDoorGZ5an
import Derived.Laws.EntriesVeiled
set_option linter.unusedVariables false
set_option linter.unusedSimpArgs false
set_option maxHeartbeats 64000000
set_option maxRecDepth 100000
namespace Go.Proofs.YthknekoamnnhhaaGreatDoor
open Go.RowKit Go.Shelf
variable {aE aU:Addr}{j:JV}{l out xs ys:List UInt8}{B g i k0 n p q:Nat}{e t0 t1 t2:TypeId}{v x1 x2 z:Value}{w w' w1 w2:World}
theorem GL:∀n:Nat,n<32->n=8\/n=9\/n=10\/n=12\/n=13\/(cO (n:Nat):List UInt8)= ((⟨#[92,117,48,48]⟩:ByteArray)++ (⟨#[48,49,50,51,52,53,54,55,56,57,97,98,99,100,101,102]⟩:ByteArray).extract (n/16) (n/16+1)++ (⟨#[48,49,50,51,52,53,54,55,56,57,97,98,99,100,101,102]⟩:ByteArray).extract (n % 16) (n % 16+1)).data.toList:=by decide +kernel
theorem vF (h:n<32)(h8:n≠8)(h9:n≠9)(a1:n≠10)(a4:n≠12)(a2:n≠13)(w:World):Calls Tryz.prog 87 #[.int .i32 n] w fun e w'=>e =.returned (.string ⟨(cO n).toArray⟩)/\Below w.heap.size w w':=by
 have b8:((n:Int)==8)=false:=by simp only[beq_eq_false_iff_ne];omega
 have b9:((n:Int)==9)=false:=by simp only[beq_eq_false_iff_ne];omega
 have b10:((n:Int)==10)=false:=by simp only[beq_eq_false_iff_ne];omega
 have b12:((n:Int)==12)=false:=by simp only[beq_eq_false_iff_ne];omega
 have b13:((n:Int)==13)=false:=by simp only[beq_eq_false_iff_ne];omega
 have b34:((n:Int)==34)=false:=by simp only[beq_eq_false_iff_ne];omega
 have b92:((n:Int)==92)=false:=by simp only[beq_eq_false_iff_ne];omega
 have hlt:(n:Int)<32:=by omega
 obtain⟨d,hd⟩:∃d:Int,bits .and .i32 (n:Int) 15=d:=⟨_,rfl⟩;have a5:d= ((n % 16:Nat):Int):=by rw[<-hd];exact FW n (by omega)
 have b0:0<=d:=by omega
 have a7:d<16:=by omega
 obtain⟨q,hq⟩:∃q:Int,(n:Int)/16=q:=⟨_,rfl⟩;have a6:0<=q:=by omega
 have a9:q<16:=by omega
 have w1:IntKind.i32.wrap (q+1)=q+1:=by simp[IntKind.wrap,IntKind.bits,IntKind.signed];omega
 have w2:IntKind.i32.wrap (d+1)=d+1:=by simp[IntKind.wrap,IntKind.bits,IntKind.signed];omega
 have q2:q+1<=16:=by omega
 have d2:d+1<=16:=by omega
 have q3:q<=q+1:=by omega
 have d3:d<=d+1:=by omega
 have q4:0<=q+1:=by omega
 have d4:0<=d+1:=by omega
 have x1:(q+1).toNat - q.toNat=1:=by omega
 have x2:(d+1).toNat - d.toNat=1:=by omega
 have a3:=Qa a5;have Hq:=Qa hq;have hle:=GL n h;rcases hle with e|e|e|e|e|hle
 ·exact absurd e h8
 ·exact absurd e h9
 ·exact absurd e a1
 ·exact absurd e a4
 ·exact absurd e a2
 have Hl:=Qa hle;clear hle;clear a5 h8 h9 a1 a4 a2 h;go_enter Tryz.func87,Tryz.ntmps87;go_wp2_with fail;refine aR (fun _=>True) (trivial) fun a0=>?_
 refine tH 0 a0 ?_;refine tH 1 a0 ?_;refine tH 2 a0 ?_;refine tH 3 a0 ?_;refine tH 4 a0 ?_;refine tH 5 a0 ?_
 try simp only[Act.put,jP,jQ,jR]
 refine tH 6 a0 ?_;refine tH 7 a0 ?_;refine tH 8 a0 ?_;refine tH 9 a0 ?_;refine tH 10 a0 ?_;refine tH 11 a0 ?_
 try simp only[Act.put,jP,jQ,jR]
 refine tH 12 a0 ?_;refine tH 13 a0 ?_;refine tH 14 a0 ?_
 try simp only[Act.put,jP,jQ,jR]
 refine wpAnyH_done (by kernel_rfl) (NoPanic.normal ?_) _;go_wp2_with fail;go_ret;refine⟨?_,az (Zd _ _) 1⟩;have e1:q.toNat=n/16:=by have:=Hq.out;omega
 have e2:(q+1).toNat=n/16+1:=by have:=Hq.out;omega
 have e3:d.toNat=n % 16:=by have:=a3.out;omega
 have e4:(d+1).toNat=n % 16+1:=by have:=a3.out;omega
 rw[e1,e2,e3,e4]
 show Ending.returned (.string _)=_
 rw[Hl.out]
theorem Gf {c:Int}(h:dO c=true):Utf8.encode c= ⟨(bG c).toArray⟩:=by
 have e:=sD h
 cases hx:Utf8.encode c with
 |mk d=>rw[hx] at e;simp only at e;rw[<-e]
theorem ug {c:Int}(h:dO c=true)(w:World):Calls Tryz.prog 87 #[.int .i32 c] w fun e w'=>e =.returned (.string ⟨(cO c).toArray⟩)/\Below w.heap.size w w':=by
 by_cases h34:c=34
 ·subst h34;go_enter Tryz.func87,Tryz.ntmps87;go_wp2_with fail;go_ret;exact⟨rfl,Zd _ _⟩
 by_cases h92:c=92
 ·subst h92;go_enter Tryz.func87,Tryz.ntmps87;go_wp2_with fail;go_ret;exact⟨rfl,Zd _ _⟩
 by_cases h8:c=8
 ·subst h8;go_enter Tryz.func87,Tryz.ntmps87;go_wp2_with fail;go_ret;exact⟨rfl,Zd _ _⟩
 by_cases h9:c=9
 ·subst h9;go_enter Tryz.func87,Tryz.ntmps87;go_wp2_with fail;go_ret;exact⟨rfl,Zd _ _⟩
 by_cases h10:c=10
 ·subst h10;go_enter Tryz.func87,Tryz.ntmps87;go_wp2_with fail;go_ret;exact⟨rfl,Zd _ _⟩
 by_cases h12:c=12
 ·subst h12;go_enter Tryz.func87,Tryz.ntmps87;go_wp2_with fail;go_ret;exact⟨rfl,Zd _ _⟩
 by_cases h13:c=13
 ·subst h13;go_enter Tryz.func87,Tryz.ntmps87;go_wp2_with fail;go_ret;exact⟨rfl,Zd _ _⟩
 have h0:=em h
 by_cases h32:c<32
 ·obtain⟨n,rfl⟩:∃n:Nat,c=n:=⟨c.toNat,by omega⟩;exact vF (by omega) (by omega) (by omega) (by omega) (by omega) (by omega) w
 have b8:(c==8)=false:=by simpa using h8
 have b9:(c==9)=false:=by simpa using h9
 have b10:(c==10)=false:=by simpa using h10
 have b12:(c==12)=false:=by simpa using h12
 have b13:(c==13)=false:=by simpa using h13
 have b34:(c==34)=false:=by simpa using h34
 have b92:(c==92)=false:=by simpa using h92
 have Hl:=Qa (show cO c=bG c by unfold cO;rw[if_neg h34,if_neg h92,if_neg h8,if_neg h9,if_neg h10,if_neg h12,if_neg h13,if_neg h32]);have He:=Qa (Gf h);clear h h0 h8 h9 h10 h12 h13 h34 h92;go_enter Tryz.func87,Tryz.ntmps87;go_wp2_with fail;go_ret;refine⟨?_,Zd _ _⟩;rw[Hl.out,<-He.out];rfl
theorem sq {c:Int}(h:dO c=true)(ys:List UInt8):bF (bG c++ys)= (c.toNat,(bG c).length,0):=by
 obtain⟨n,rfl⟩:∃n:Nat,c=n:=⟨c.toNat,by have:=em h;omega⟩;exact ix n h ys
theorem vE:∀ (cs:List Int) (f:Nat) (pre:List UInt8),(∀c∈cs,dO c=true)->cs.length<f->wF (pre++cs.flatMap bG) f pre.length= (pre++cs.flatMap bG).length
 | [],f+1,pre,_,_=>by
  unfold wF;rw[List.flatMap_nil,List.append_nil,List.drop_length,if_neg (by decide)]
 |c::cs,f+1,pre,hc,hf=>by
  have h0:=hc c (by simp);unfold wF;rw[List.flatMap_cons,List.drop_left,sq h0,if_pos rfl];have:=vE cs f (pre++bG c) (fun d hd=>hc d (by simp[hd])) (by simpa using hf);rw[List.length_append,List.append_assoc] at this;exact this
 |_,0,_,_,hf=>by omega
theorem jj:∀ {cs:List Int},(∀c∈cs,dO c=true)->cs.length<=(cs.flatMap bG).length
 | [],_=>Za _
 |c::cs,h=>by
  have h1:=jj (cs:=cs) (fun d hd=>h d (by simp[hd]));have h2:(bG c).length≠0:=fun e=>nE (h c (by simp)) (List.eq_nil_of_length_eq_zero e)
  rw[List.flatMap_cons,List.length_append,List.length_cons];omega
theorem DH {cs:List Int}(h:∀c∈cs,dO c=true):Ep (cs.flatMap bG)= (cs.flatMap bG).length:=by
 have:=vE cs ((cs.flatMap bG).length+1) [] h (by have:=jj h;omega);simpa [Ep] using this
theorem B0 {cs:List Int}(h:∀c∈cs,dO c=true)(hb:Bs w v (cs.flatMap bG))(hg:cR w aU aE):Calls Tryz.prog 86 #[v] w fun e w'=>e =.returned .nilIface/\Below w.heap.size w w':=by
 refine(Bi hb hg).mono ?_;rintro e w' ⟨a0,⟨_,rfl⟩|⟨hlt,_⟩⟩
 ·exact⟨rfl,a0⟩
 ·rw[kd _ hb.1,DH h] at hlt;omega
theorem ER {c:Int}:(cO c).length<=6:=by
 unfold cO
 repeat' split
 all_goals first|simp|(have:=gC c;omega)
theorem br.iter {j:Nat}{s:ByteArray}:br (fun k=>k=j) w (w.iterAt j s q):=⟨rfl,rfl,rfl,by rw[Lib.iterAt_size];exact Za _,fun k _ hk=>Lib.iterAt_other w j k s q hk⟩
def FM (s:ByteArray)(cs:List Int)(j:Nat)(w:World)(m:Nat)(s5:Value)(wr:World):Prop:=
 ∃ (pre rest:List Int) (p:Nat),cs=pre++rest/\m=rest.length/\s.data.toList.drop p=rest.flatMap bG/\wr.heap[j]?=some (.stringIter s p)/\au wr w.heap.size s5 (34::pre.flatMap cO)/\(pre.flatMap cO).length<=6*pre.length/\Below w.heap.size w wr
def Jy (xs:List UInt8)(w:World)(e:Ending)(w':World):Prop:= ∃v,e =.returned (.tuple #[v,.nilIface])/\au w' w.heap.size v xs/\Below w.heap.size w w'
theorem ql {s:ByteArray}(hs:dB s)(hG:cR w aU aE)(hl:s.size<=1000000000):Calls Tryz.prog 47 #[.string s] w (Jy (el s) w):=by
 obtain⟨hc,hd⟩:=hs.nm;unfold el;generalize Proofs.YthknekoamnnhhaaGreatDoor.nm s=cs at *;clear hs;obtain⟨W2,cap,c6,a3,b9⟩:=iy w s (by omega);rw[<-hd] at b9;have Hv:=Qa (B0 hc b9 (hG.below a3));have c9:=Qa a3;have Hd:=Qa hd;have Hc:=Qa hc;have d5:cs.length<=1000000000:=by
  have h1:=jj hc;rw[hd] at h1;have:s.data.toList.length=s.size:=by simp
  omega
 clear a3 b9 hd hc hG;go_enter Tryz.func47,Tryz.ntmps47;go_wp2_with fail;(with_reducible refine Hv.out.mono ?_);rintro e w1 ⟨rfl,c2⟩;have c7:=Qa (bE c9.out c2);have d1:=c7.out.size;clear c2;go_wp2_with fail;have a7:=ac w1 (.cells #[.int .u8 34] 5);have a5:=Ze w1 (.cells #[.int .u8 34] 5);have a6:au (w1.alloc (.cells #[.int .u8 34] 5)) w.heap.size (.slice (some ⟨w1.heap.size,0,none⟩) 1 1) [34]:=fc (n:=1) (k:=1) a5 d1 (by unfold maxLen;omega) rfl;have a1:=ac (w1.alloc (.cells #[.int .u8 34] 5)) (.stringIter s 0);have Hi:=Qa (Ze (w1.alloc (.cells #[.int .u8 34] 5)) (.stringIter s 0));have Ho:=Qa (a6.below a1 (Za _));have Hb:=Qa (bE (bE c7.out a7) a1);clear a7 a1 a5 a6
 go_loopg [5] cs.length (fun m s5 wr=>FM s cs (w1.heap.size+1) w m s5 wr)
 case atStart=>exact⟨[],cs,0,rfl,rfl,Hd.out.symm,by have:=Hi.out;rwa[World.size_alloc] at this,Ho.out,Za _,Hb.out⟩
 case round=>
  clear Ho Hi Hb;obtain⟨pre,rest,p,he,hm,a0,hi,ho,c0,hb⟩:=hrel;have hji:w.heap.size<=w1.heap.size+1:=by omega
  generalize w1.heap.size+1=j at *;have Ho:=Qa ho;have Hi:=Qa hi;have Hb:=Qa hb;have He:=Qa he;have b3:=Qa c0;have d9:=Qa a0;have hsz:s.data.toList.length=s.size:=by simp
  have b2:∀b,u5.ownBlock=some b->b≠j:=fun b a3 e=>by
   obtain⟨_,cur,hg⟩:=al ho a3;rw[e,hi] at hg
   cases hg
  have d6:=Qa b2;have d4:pre.length<=1000000000:=by have:=congrArg List.length he;rw[List.length_append] at this;omega
  cases rest with
  |nil=>
   have hlt:¬p<s.size:=by
    have:=congrArg List.length a0;rw[List.length_drop] at this;simp at this;omega
   have b0:∀ty,(Instr.next (.pointer (some ⟨j,0,none⟩)) true ty).run Tryz.prog wr =.ok (.tuple #[.bool false]) wr:=fun ty=>Lib.run_next_end_at wr j s p ty hi hlt
   clear ho hi hb he c0 a0 b2 hlt hm;have b7:=ac wr (.cells #[.int .u8 34] 5);have c4:=Qa (Ho.out.below b7 (Za _));have Hn:=Qa (lW wr [34] (by decide));have a2:=Qa (bE Hb.out b7);have b6:=Qa (show w.heap.size<=(wr.alloc (.cells #[.int .u8 34] 5)).heap.size from a2.out.size);have c1:=Qa (show(34::pre.flatMap cO).length+ ([34]:List UInt8).length<=140737488355328 by have:=b3.out;simp at *;omega);clear b7;go_wp2_with (at_builtin;refine pW c4.out Hn.out c1.out b6.out ?_;intro v' w3 h1 h2 h3;have HK:=Qa h1;have b1:=Qa h2;clear h1 h2 h3);obtain⟨A3,q3,rfl,-⟩:=ah HK.out;go_ret2;refine⟨_,rfl,?_,a2.out.grown b1.out a2.out.size (fun g e=>(au.blk c4.out e).1)⟩;have e:lF cs= (34::pre.flatMap cO) ++ [34]:=by rw[He.out,List.append_nil];rfl
   rw[e];exact HK.out
  |cons c rest=>
   have h0:=Hc.out c (by rw[he];simp);have hlen:=congrArg List.length a0;rw[List.length_drop,hsz,List.flatMap_cons,List.length_append] at hlen;have d3:(bG c).length≠0:=fun e=>nE h0 (List.eq_nil_of_length_eq_zero e)
   have hlt:p<s.size:=by omega
   have b0:∀ty,(Instr.next (.pointer (some ⟨j,0,none⟩)) true ty).run Tryz.prog wr =.ok (.tuple #[.bool true,.int .i64 p,.int .i32 (Utf8.decode s p).1]) (wr.iterAt j s (p+ (Utf8.decode s p).2)):=fun ty=>Lib.run_next_any_at wr j s p ty hi hlt
   rw[oI s p hlt,a0,List.flatMap_cons,sq h0,if_pos rfl] at b0;have hcn:((c.toNat:Nat):Int)=c:=by have:=em h0;omega
   dsimp only at b0
   rw[hcn] at b0;have a4:=br.iter (w:=wr) (j:=j) (q:=p+ (bG c).length) (s:=s);have d2:=Qa (Lib.iterAt_heap wr j s p (p+ (bG c).length) hi);have d0:=Qa (ho.stayB a4 b2);have c8:=Qa (hb.trans (a4.below hb.size (fun k hk=>by rw[hk];exact hji)));have b5:=Qa (show s.data.toList.drop (p+ (bG c).length)=rest.flatMap bG by rw[<-List.drop_drop,a0,List.flatMap_cons,List.drop_left]);have H0:=Qa h0;have c3:=Qa (ER (c:=c));have Hgk:Hid (gk=rest.length+1):=Qa hm;clear ho hi hb he c0 a0 b2 hlt hlen d3 a4 h0 hcn hm;generalize wr.iterAt j s (p+ (bG c).length)=wi at *;go_wp2_with fail;(with_reducible refine(ug H0.out _).mono ?_);rintro e w3 ⟨rfl,a9⟩;have b4:=Qa (d0.out.below a9 (Za _));have a2:=Qa (bE c8.out a9);have c5:=Qa (aj d2.out a9);have b6:=Qa a2.out.size;have c1:=Qa (show(34::pre.flatMap cO).length+ (⟨(cO c).toArray⟩:ByteArray).size<=140737488355328 by
    have h1:=b3.out;have h2:=c3.out;have h3:(⟨(cO c).toArray⟩:ByteArray).size= (cO c).length:=by simp[ByteArray.size]
    rw[h3,List.length_cons];omega)
   clear a9;go_wp2_with (at_builtin;refine cA rfl (.tmp 20) (.tmp 22) rfl w.heap.size u5 (34::pre.flatMap cO) ⟨(cO c).toArray⟩ (by simp[Act.eval]) b4.out (by simp[Act.eval]) c1.out b6.out ?_;intro v' w4 h1 h2;have HK:=Qa h1;have b1:=Qa h2;clear h1 h2);have b8:∀b,u5.ownBlock=some b->b≠j:=fun b a3 e=>by
    obtain⟨_,cur,hg⟩:=al b4.out a3;rw[e,c5.out] at hg
    cases hg
   have h3:FM s cs j w rest.length v' w4:=by
    refine⟨pre ++ [c],rest,p+ (bG c).length,by rw[He.out];simp,rfl,b5.out,aF c5.out b1.out (fun e=>b8 j e rfl),?_,?_,a2.out.grown b1.out a2.out.size (fun g e=>(au.blk b4.out e).1)⟩
    ·have e:34:: (pre ++ [c]).flatMap cO= (34::pre.flatMap cO)++cO c:=by simp
     rw[e];exact HK.out
    ·have h1:=b3.out;have h2:=c3.out;simp only[List.flatMap_append,List.flatMap_cons,List.flatMap_nil,List.append_nil,List.length_append,List.length_cons,List.length_nil];omega
   go_roundg (rest.length)
   case measure=>have:=Hgk.out;omega
   case rel=>exact h3
theorem Bd {f:Nat}{p:Nat×Nat}(h:bW xs=some (some p)):fZ (f+1) xs out n=fZ f (xs.drop p.2) (out++bG p.1) (n+p.2):=by
 conv=>lhs;unfold fZ
 rw[h]
theorem Bl {f:Nat}(h:bW xs=none):fZ (f+1) xs out n=none:=by
 unfold fZ;rw[h]
theorem Cg {f:Nat}(h:bW xs=some none):fZ (f+1) xs out n=some (out,n+1):=by
 unfold fZ;rw[h]
theorem ls (h:Below w.heap.size w w1)(j:Nat)(u:Value):Below w.heap.size w (w1.setCell ⟨w.heap.size,j,none⟩ u):=
 h.trans ((br.set _ j u).below h.size (fun i e=>by omega))
theorem vg.put {k:Nat}(hb:Bs w v xs)(hB:Below w.heap.size w w1)(h:vg w1 w.heap.size v xs k){z:Int}(j:Nat)(hz:z=j):vg (w1.setCell ⟨w.heap.size,1,none⟩ (.int .i64 z)) w.heap.size v xs j:=by
 subst hz;exact⟨aw h.1 1 _,hb.below (ls hB 1 _)⟩
theorem au.put (h:au w1 (g+1) v out)(u:Value):au (w1.setCell ⟨g,1,none⟩ u) (g+1) v out:=
 h.stayB (br.set g 1 u) (fun b hb e=>by have:=(au.blk h hb).1;omega)
theorem Cy {c:Int}(h:dO c=true):(Utf8.encode c).size<=4:=by
 have h2:=sD h;generalize Utf8.encode c=e at *
 show e.data.size<=4
 rw[<-Array.length_toList,h2];exact gC c
def FI (p:List UInt8×Nat):Value:=.tuple #[.string ⟨p.1.toArray⟩,.int .i64 p.2,.nilIface]
def Jh (r:Option (List UInt8×Nat))(w:World)(e:Ending)(w':World):Prop:=(∃p,r=some p/\e =.returned (FI p)/\Below w.heap.size w w')\/(r=none/\jp w e w')
def FK (R:Option (List UInt8×Nat))(xs:List UInt8)(vx:Value)(g:Nat)(w:World)(m:Nat)(s6:Value)(wr:World):Prop:=
 ∃ (f k:Nat) (out:List UInt8),m+k=xs.length/\1<=k/\m<f/\fZ f (xs.drop k) out k=R/\au wr (g+1) s6 out/\out.length<=4*k/\vg wr g vx xs k/\Below g w wr
theorem qX (hb:Bs w v xs)(hG:cR w aU aE)(hQ:bC w 14)(hS:bC w 19)(hU:bC w 20)(hC:bC w 18)(hl:xs.length<=1000000000):Calls Tryz.prog 241 #[v] w (Jh (mT xs) w):=by
 obtain⟨hm,A,cap,rfl,d4,a0⟩:=id hb;obtain⟨aQ,d9⟩:=hQ;obtain rfl|⟨x,t,hx⟩:xs = []\/∃x t,xs=x::t:=by
  cases xs with
  |nil=>exact .inl rfl
  |cons x t=>exact .inr ⟨x,t,rfl⟩
 ·clear a0 hb;go_enter Tryz.func241,Tryz.ntmps241;go_wp2_with fail;(with_reducible refine(bz _ aQ _).mono ?_);rintro e w' ⟨vP,rfl,hv,hb⟩;exact⟨rfl,.inr ⟨rfl,vP,rfl,hv,hb⟩⟩
 have hlen:xs.length=t.length+1:=by rw[hx];rfl
 obtain⟨b,o,rfl,a6⟩:=a0 (by omega);have c0:=a6 0 (by omega);rw[Nat.add_zero] at c0;have b3:ap xs 0=x.toNat:=by rw[hx];rfl
 rw[b3] at c0;have n0:((xs.length:Int)==0)=false:=by simp only[beq_eq_false_iff_ne];omega
 have e2:(0:Int)<xs.length:=by omega
 have e0:0<xs.length:=by omega
 by_cases h34:x=34
 case neg=>
  have n34:((x.toNat:Int) !=34)=true:=by
   simp only[bne_iff_ne,ne_eq];intro e;exact h34 (UInt8.toNat_inj.1 (by show x.toNat=34;omega))
  have Hn:=Qa (show mT xs=none by rw[hx];unfold mT;split <;> first|rfl|(rename_i e;injection e with e _;exact absurd e h34));clear hx hlen h34 a6 a0 hb b3;go_enter Tryz.func241,Tryz.ntmps241;go_wp2_with fail;(with_reducible refine(bz _ aQ _).mono ?_);rintro e w' ⟨vP,rfl,hv,hb⟩;exact⟨rfl,.inr ⟨Hn.out,vP,rfl,hv,hb⟩⟩
 have n34:((x.toNat:Int) !=34)=false:=by rw[h34];rfl
 have Hr:=Qa (show fZ (t.length+1) (xs.drop 1) [] 1=mT xs by rw[hx,h34];rfl);have Hb:=Qa hb;have HG:=Qa hG;have HS:=Qa hS;have HU:=Qa hU;have HC:=Qa hC;have Hlen:=Qa hlen;generalize mT xs=R at *;have Hbox:=Qa (Ze w (.cells #[.slice (some ⟨b,o,none⟩) xs.length cap,.int .i64 1] 385));have Hba:=Qa (ac w (.cells #[.slice (some ⟨b,o,none⟩) xs.length cap,.int .i64 1] 385));clear hx hlen h34 a6 a0 hb b3 hG hS hU hC;go_enter Tryz.func241,Tryz.ntmps241;go_wp2_with fail;generalize w.alloc (.cells #[.slice (some ⟨b,o,none⟩) xs.length cap,.int .i64 1] 385)=w0 at *
 go_loopg [6] (xs.length - 1) (fun m s6 wr=>FK R xs (.slice (some ⟨b,o,none⟩) xs.length cap) w.heap.size w m s6 wr)
 case atStart=>exact⟨t.length+1,1, [],by have:=Hlen.out;omega,Za _,by have:=Hlen.out;omega,Hr.out,au.nil _ _,Zj _,⟨Hbox.out,Hb.out.below Hba.out⟩,Hba.out⟩
 case round=>
  obtain⟨f,k,out,d6,hk,hf,hq,ho,b4,hR,a4⟩:=hrel;have Ho:=Qa ho;have c6:=Qa b4;have HR:=Qa hR;have b9:=Qa a4;have Hq:=Qa hq;have hsz:=ae hR.1;have c9:=Qa (yE hR (HG.out.below (show Below w.heap.size w wr from a4)) (HS.out.below a4) (HU.out.below a4) (HC.out.below a4) (by omega) (by omega));obtain⟨f,rfl⟩:∃f',f=f'+1:=⟨f - 1,by omega⟩;clear ho b4 hR hq a4;go_wp2_with fail;refine c9.out.mono ?_;rintro e w1 (⟨p,hp,rfl,a2⟩|⟨hn,vP,rfl,hv,a2⟩)
  case inr=>
   have Hn:=Qa (Hq.out.symm.trans (Bl hn));have Hv:=Qa hv;have d2:=Qa (bE b9.out a2);clear hn hv a2;go_wp2_with fail;exact⟨rfl,.inr ⟨Hn.out,vP,rfl,Hv.out,d2.out⟩⟩
  have a9:=Qa (HR.out.below a2);have b0:=Qa (bE b9.out a2);have b5:=Qa (Ho.out.below a2 (Za _));have c1:=aa a9.out.1 (j:=1) (u:=.int .i64 k) rfl;have f1:=am a9.out.1 1;have b2:w.heap.size+1<=w1.heap.size:=Nat.lt_of_lt_of_le hsz a2.size;clear a2
  cases p with
  |none=>
   have Hn:=Qa (Hq.out.symm.trans (Cg hp));have c4:=pV hp;rw[List.length_drop] at c4;clear hp;rw[show JA none =.tuple #[.int .i32 0,.int .i64 1,.bool false] from rfl];have e1:(k:Int)+1= ((k+1:Nat):Int):=by omega
   have b1:=Qa (a9.out.put Hb.out b0.out (k+1) e1);have a5:=Qa (b5.out.put (.int .i64 ((k:Int)+1)));have a7:=Qa (ls b0.out 1 (.int .i64 ((k:Int)+1)));have s1:IntKind.i64.wrap ((k:Int)+1)= (k:Int)+1:=IntWalk.i64_in _ (by omega);clear e1;go_wp2_with fail;have c2:=aa b1.out.1 (j:=1) (u:=.int .i64 (k+1:Nat)) rfl;have a3:(w1.setCell ⟨w.heap.size,1,none⟩ (.int .i64 ((k:Int)+1))).drew.cell? ⟨w.heap.size,1,none⟩=some (.int .i64 (k+1:Nat))/\(convert 22 9 u6).run Tryz.prog (w1.setCell ⟨w.heap.size,1,none⟩ (.int .i64 ((k:Int)+1))).drew =.ok (.string ⟨out.toArray⟩) (w1.setCell ⟨w.heap.size,1,none⟩ (.int .i64 ((k:Int)+1))).drew:=⟨c2,aW (au.bs (au.drewN a5.out 1))⟩;generalize w1.setCell ⟨w.heap.size,1,none⟩ (.int .i64 ((k:Int)+1))=w2 at *;clear c1 f1 c2;refine aR (fun w'=>w'.cell? ⟨w.heap.size,1,none⟩=some (.int .i64 (k+1:Nat))/\(convert 22 9 u6).run Tryz.prog w' =.ok (.string ⟨out.toArray⟩) w') (a3) fun a1=>?_
   refine tH 0 a1 ?_;refine tH 1 a1 ?_;refine tH 2 a1 ?_;refine tH 3 a1 ?_;refine tH 4 a1 ?_;refine tH 5 a1 ?_
   try simp only[Act.put,jP,jQ,jR]
   refine tH 6 a1 ?_;refine tH 7 a1 ?_;refine tH 8 a1 ?_
   try simp only[Act.put,jP,jQ,jR]
   refine wpAnyH_done (by kernel_rfl) (NoPanic.normal ?_) _;go_wp2_with fail;go_ret3;exact .inl ⟨(out,k+1),Hn.out,rfl,az a7.out 1⟩
  |some p=>
   obtain⟨ca,cl⟩:=p;obtain⟨hi,c5,b8⟩:=oW hp;rw[List.length_drop] at b8
   dsimp only at hi c5 b8
   have c3:=Qa ((Bd hp).symm.trans Hq.out);have Hi:=Qa hi;rw[show JA (some (ca,cl)) =.tuple #[.int .i32 ca,.int .i64 cl,.bool true] from rfl];have a6:cl<=1000000000:=by omega
   have d1:=c6.out;have d5:k<=1000000000:=by omega
   obtain⟨z,hz⟩:∃z:Int,(k:Int)+cl=z:=⟨_,rfl⟩;have s1:IntKind.i64.wrap ((k:Int)+cl)=z:=by rw[hz];exact IntWalk.i64_in _ (by omega)
   have b1:=Qa (a9.out.put Hb.out b0.out (z:=z) (k+cl) (by omega));have a5:=Qa (b5.out.put (.int .i64 z));have a7:=Qa (ls b0.out 1 (.int .i64 z));have c7:=Qa (show w.heap.size+1<=(w1.setCell ⟨w.heap.size,1,none⟩ (.int .i64 z)).heap.size by simpa using b2);have d0:(Utf8.encode (ca:Int)).size<=4:=Cy Hi.out;have d3:=Qa (show out.length+ (Utf8.encode (ca:Int)).size<=140737488355328 by omega);clear hp hi hz d0;go_wp2_with (at_builtin;refine cA rfl (.tmp 46) (.tmp 48) rfl (w.heap.size+1) u6 out (Utf8.encode ca) (by simp[Act.eval]) a5.out (by simp[Act.eval]) d3.out c7.out ?_;intro v' w3 h1 h2;have HK:=Qa h1;have b7:=Qa h2;clear h1 h2);have b6:Below w.heap.size w w3:=a7.out.grown b7.out a7.out.size (fun g e=>by have:=(au.blk a5.out e).1;omega);have c8:w3.heap[w.heap.size]?=_:=aF b1.out.1 b7.out (fun e=>by have:=(au.blk a5.out e).1;omega);have h3:FK R xs (.slice (some ⟨b,o,none⟩) xs.length cap) w.heap.size w (xs.length - (k+cl)) v' w3:=by
    refine⟨f,k+cl,out++bG ca,by omega,by omega,by omega,?_,?_,?_,⟨c8,Hb.out.below b6⟩,b6⟩
    ·rw[<-c3.out,List.drop_drop]
    ·rw[<-sD Hi.out];exact HK.out
    ·have:=gC ca;rw[List.length_append];omega
   go_roundg (xs.length - (k+cl))
   case measure=>omega
   case rel=>exact h3
theorem yu (a:Addr)(W:World):(Instr.typeAssert (.iface 251 (.pointer (some a))) 20 251 true).run Tryz.prog W =.ok (.tuple #[.pointer (some a),.bool true]) W:=by kernel_rfl
theorem mR (a:Addr)(w:World):Calls Tryz.prog 240 #[.iface 251 (.pointer (some a))] w fun e w'=>e =.returned (.iface 251 (.pointer (some a)))/\w=w':=by
 go_enter Tryz.func240,Tryz.ntmps240;have q:=yu a w;go_wp2_with fail;go_ret;exact⟨rfl,rfl⟩
theorem Do (p q r:Value)(w:World):CallsD Tryz.prog 239 #[p,q,r] .returning w fun e u' w'=>e =.returned (.tuple #[])/\u' =.returning/\w'=w:=by
 refine callsD_of_wpS Tryz.func239 rfl fun c₀ cs hu=>?_
 apply wpS_seq
 apply wpS_region
 simp[wpOpsS,go_sem,recoverD,hu,Tryz.ntmps239,Exit.thenS];apply wpS_seq;apply wpS_region;simp[wpOpsS,go_sem,Exit.thenS];refine wpS_cond (t:=false) (by simp[Act.eval,Array.replicate]) ?_;simp only[Bool.false_eq_true,if_false];refine wpS_of_wp (wp_skip ?_)
 cases c₀
 simp_all [bodyPostS,results,Tryz.results239]
theorem Bc {x0:Value}(h0:w.heap[p]?=some (.cells #[x0] t0 (0,0)))(h1:w.heap[p+1]?=some (.cells #[x1] t1 (0,0)))(h2:w.heap[p+1+1]?=some (.cells #[x2] t2 (0,0)))(a:Addr)(older:List PanicEntry) :
  CallsD Tryz.prog 239 #[.pointer (some ⟨p,0,none⟩),.pointer (some ⟨p+1,0,none⟩),.pointer (some ⟨p+1+1,0,none⟩)] (.panicking ({v:=.iface 251 (.pointer (some a)),recovered:=false}::older)) w fun e u' w'=>
   e =.returned (.tuple #[])/\u' =.panicking ({v:=.iface 251 (.pointer (some a)),recovered:=true}::older)/\w'= ((w.setCell ⟨p,0,none⟩ (.string ⟨#[]⟩)).setCell ⟨p+1,0,none⟩ (.int .i64 0)).setCell ⟨p+1+1,0,none⟩ (.iface 251 (.pointer (some a))):=by
 have c0:=aa h0 (j:=0) rfl;have f0:=am h0 0;have c1:=aa h1 (j:=0) rfl;have f1:=am h1 0;have c2:=aa h2 (j:=0) rfl;have f2:=am h2 0;clear h0 h1 h2;refine callsD_of_wpS Tryz.func239 rfl fun c₀ cs hu=>?_
 apply wpS_seq
 apply wpS_region
 simp[wpOpsS,go_sem,recoverD,hu,Tryz.ntmps239,Exit.thenS];apply wpS_seq;apply wpS_region;simp[wpOpsS,go_sem,Exit.thenS];refine wpS_cond (t:=true) (by simp[Act.eval,Array.replicate]) ?_;simp only[if_true];refine wpS_of_wp ?_;go_wp2_with fail;(with_reducible refine(mR _ _).mono ?_);rintro e w' ⟨rfl,rfl⟩;go_wp2_with fail;refine⟨rfl,_,rfl,.tuple #[],?_,rfl,rfl,rfl⟩;simp[results,Tryz.results239,go_sem]
theorem qj {x0:Value}(h0:w2.heap[w.heap.size]?=some (.cells #[x0] t0 (0,0)))(h1:w2.heap[w.heap.size+1]?=some (.cells #[x1] t1 (0,0)))(h2:w2.heap[w.heap.size+1+1]?=some (.cells #[x2] t2 (0,0)))(hb:Below w.heap.size w w2)(y0 y1 y2:Value) :
  Below w.heap.size w (((w2.setCell ⟨w.heap.size,0,none⟩ y0).setCell ⟨w.heap.size+1,0,none⟩ y1).setCell ⟨w.heap.size+1+1,0,none⟩ y2)/\(((w2.setCell ⟨w.heap.size,0,none⟩ y0).setCell ⟨w.heap.size+1,0,none⟩ y1).setCell ⟨w.heap.size+1+1,0,none⟩ y2).cell? ⟨w.heap.size,0,none⟩=some y0/\
   (((w2.setCell ⟨w.heap.size,0,none⟩ y0).setCell ⟨w.heap.size+1,0,none⟩ y1).setCell ⟨w.heap.size+1+1,0,none⟩ y2).cell? ⟨w.heap.size+1,0,none⟩=some y1/\(((w2.setCell ⟨w.heap.size,0,none⟩ y0).setCell ⟨w.heap.size+1,0,none⟩ y1).setCell ⟨w.heap.size+1+1,0,none⟩ y2).cell? ⟨w.heap.size+1+1,0,none⟩=some y2:=by
 have a0:=aw h0 0 y0;have a1:=av w2 (w.heap.size+1) w.heap.size 0 y0 _ _ (by omega) h1;have a2:=av w2 (w.heap.size+1+1) w.heap.size 0 y0 _ _ (by omega) h2;have b0:=av _ w.heap.size (w.heap.size+1) 0 y1 _ _ (by omega) a0;have b1:=aw a1 0 y1;have b2:=av _ (w.heap.size+1+1) (w.heap.size+1) 0 y1 _ _ (by omega) a2;have d0:=av _ w.heap.size (w.heap.size+1+1) 0 y2 _ _ (by omega) b0;have d1:=av _ (w.heap.size+1) (w.heap.size+1+1) 0 y2 _ _ (by omega) b1;have d2:=aw b2 0 y2;refine⟨((hb.setCell (p:=⟨w.heap.size,0,none⟩) (Za _) _).setCell (p:=⟨w.heap.size+1,0,none⟩) (Nat.le_succ _) _).setCell (p:=⟨w.heap.size+1+1,0,none⟩) (by show w.heap.size<=w.heap.size+1+1;omega) _,aa d0 (j:=0) rfl,aa d1 (j:=0) rfl,aa d2 (j:=0) rfl⟩
def Jw (r:Option (List UInt8×Nat))(w:World)(e:Ending)(w':World):Prop:=(∃p,r=some p/\e =.returned (FI p)/\Below w.heap.size w w')\/(r=none/\∃v,e =.returned (.tuple #[.string ⟨#[]⟩,.int .i64 0,v])/\Gm w' v/\Below w.heap.size w w')
theorem rU (hb:Bs w v xs)(hG:cR w aU aE)(hQ:bC w 14)(hS:bC w 19)(hU:bC w 20)(hC:bC w 18)(hl:xs.length<=1000000000):Calls Tryz.prog 230 #[v] w (Jw (mT xs) w):=by
 have a7:∀ (fn:Fn) (first cap:Array Value) (w:World),(Instr.makeFunc fn first cap).run Tryz.prog w =.ok (.func fn first cap) w:=fun _ _ _ _=>rfl
 have a1:Below w.heap.size w (((w.alloc (.cells #[.string ⟨#[]⟩] 9)).alloc (.cells #[.int .i64 0] 3)).alloc (.cells #[.nilIface] 49)):=(((Zd _ _).alloc (Za _) _).alloc (by simp) _).alloc (by simp only[World.size_alloc];omega) _;have h0:(((w.alloc (.cells #[.string ⟨#[]⟩] 9)).alloc (.cells #[.int .i64 0] 3)).alloc (.cells #[.nilIface] 49)).heap[w.heap.size]?=some (.cells #[.string ⟨#[]⟩] 9 (0,0)):=(Below.heap_alloc _ _ _ (by simp only[World.size_alloc];omega)).trans ((Below.heap_alloc _ _ _ (by simp)).trans (Ze w _));have h1:(((w.alloc (.cells #[.string ⟨#[]⟩] 9)).alloc (.cells #[.int .i64 0] 3)).alloc (.cells #[.nilIface] 49)).heap[w.heap.size+1]?=some (.cells #[.int .i64 0] 3 (0,0)):=by
  have:=Ze (w.alloc (.cells #[.string ⟨#[]⟩] 9)) (.cells #[.int .i64 0] 3);rw[World.size_alloc] at this;exact(Below.heap_alloc _ _ _ (by simp)).trans this
 have h2:(((w.alloc (.cells #[.string ⟨#[]⟩] 9)).alloc (.cells #[.int .i64 0] 3)).alloc (.cells #[.nilIface] 49)).heap[w.heap.size+1+1]?=some (.cells #[.nilIface] 49 (0,0)):=by
  have:=Ze ((w.alloc (.cells #[.string ⟨#[]⟩] 9)).alloc (.cells #[.int .i64 0] 3)) (.cells #[.nilIface] 49)
  rwa[World.size_alloc,World.size_alloc] at this
 have hz:(((w.alloc (.cells #[.string ⟨#[]⟩] 9)).alloc (.cells #[.int .i64 0] 3)).alloc (.cells #[.nilIface] 49)).heap.size=w.heap.size+3:=by simp
 have a2:=Qa a1;have H0:=Qa h0;have H1:=Qa h1;have H2:=Qa h2;have Hz:=Qa hz;have a5:=Qa (qX (hb.below a1) (hG.below a1) (hQ.below a1) (hS.below a1) (hU.below a1) (hC.below a1) hl);clear a1 h0 h1 h2 hz hb hG hQ hS hU hC;go_enter_defers Tryz.func230,Tryz.ntmps230;go_wp2_with fail;generalize ((w.alloc (.cells #[.string ⟨#[]⟩] 9)).alloc (.cells #[.int .i64 0] 3)).alloc (.cells #[.nilIface] 49)=w1 at *;refine a5.out.mono ?_;rintro e w2 (⟨p,hp,rfl,a0⟩|⟨hn,vP,rfl,hv,a0⟩)
 ·have Hp:=Qa hp;have g0:=aj H0.out a0;have g1:=aj H1.out a0;have g2:=aj H2.out a0;have a4:=Qa (a2.out.trans (a0.mono a2.out.size));have G0:=Qa g0;have G1:=Qa g1;have G2:=Qa g2;have c0:=aa g0 (j:=0) rfl;have f0:=am g0 0;have c1:=aa g1 (j:=0) rfl;have f1:=am g1 0;have c2:=aa g2 (j:=0) rfl;have f2:=am g2 0;clear hp a0 g0 g1 g2;rw[show FI p =.tuple #[.string ⟨p.1.toArray⟩,.int .i64 p.2,.nilIface] from rfl];go_wp2_with fail;obtain⟨a3,d0,d1,d2⟩:=qj G0.out G1.out G2.out a4.out (.string ⟨p.1.toArray⟩) (.int .i64 p.2) .nilIface;clear c0 c1 c2 f0 f1 f2;generalize ((w2.setCell ⟨w.heap.size,0,none⟩ (.string ⟨p.1.toArray⟩)).setCell ⟨w.heap.size+1,0,none⟩ (.int .i64 p.2)).setCell ⟨w.heap.size+1+1,0,none⟩ .nilIface=w3 at *;refine leaves_cons (f:=239) (args:= #[.pointer (some ⟨w.heap.size,0,none⟩),.pointer (some ⟨w.heap.size+1,0,none⟩),.pointer (some ⟨w.heap.size+1+1,0,none⟩)]) (by simp) (by simp[go_sem]) ?_;refine(Do _ _ _ _).mono ?_;rintro e u' w'' ⟨rfl,rfl,rfl⟩;simp[Leaves,settle,results,Tryz.results230,go_sem,d0,d1,d2];exact .inl ⟨p,Hp.out,rfl,a3⟩
 ·obtain⟨g,pz,a,rfl,hg⟩:=hv;have Hn:=Qa hn;have Hg:=Qa hg;have G0:=Qa (aj H0.out a0);have G1:=Qa (aj H1.out a0);have G2:=Qa (aj H2.out a0);have a4:=Qa (a2.out.trans (a0.mono a2.out.size));clear hn hg a0;go_wp2_with fail;obtain⟨a3,d0,d1,d2⟩:=qj G0.out G1.out G2.out a4.out (.string ⟨#[]⟩) (.int .i64 0) (.iface 251 (.pointer (some ⟨g,0,none⟩)));refine leaves_cons (f:=239) (args:= #[.pointer (some ⟨w.heap.size,0,none⟩),.pointer (some ⟨w.heap.size+1,0,none⟩),.pointer (some ⟨w.heap.size+1+1,0,none⟩)]) (by simp) (by simp[go_sem]) ?_;refine(Bc G0.out G1.out G2.out ⟨g,0,none⟩ []).mono ?_;rintro e u' w'' ⟨rfl,rfl,rfl⟩;have hne:∀ {i:Nat} {x:Value} {t:TypeId},w2.heap[i]?=some (.cells #[x] t (0,0))->g≠i:=fun hi e=>by
   subst e;have h:=Hg.out.symm.trans hi;injection h with h
   injection h with h
   simp at h
  have a6:=av _ g (w.heap.size+1+1) 0 (.iface 251 (.pointer (some ⟨g,0,none⟩))) _ _ (hne G2.out) (av _ g (w.heap.size+1) 0 (.int .i64 0) _ _ (hne G1.out) (av w2 g w.heap.size 0 (.string ⟨#[]⟩) _ _ (hne G0.out) Hg.out));simp[Leaves,settle,results,Tryz.results230,go_sem,d0,d1,d2];exact .inr ⟨Hn.out,_,rfl,⟨g,pz,a,rfl,a6⟩,a3⟩
structure qJ (w:World) (aU aE:Addr):Prop where
 glob:cR w aU aE
 goes:oA w
 begins:lV w
 number:bC w 12
 exponent:bC w 13
 quote:bC w 14
 escape:bC w 19
 surrogate:bC w 20
 control:bC w 18
theorem qJ.below (h:qJ w aU aE)(hb:Below w.heap.size w w'):qJ w' aU aE:=
 ⟨h.glob.below hb,h.goes.below hb,h.begins.below hb,h.number.below hb,h.exponent.below hb,h.quote.below hb,h.escape.below hb,h.surrogate.below hb,h.control.below hb⟩
def JV.kindOf:JV->Int | .mk k _ _ _ _ _=>k
def JV.numOf:JV->Dc | .mk _ _ _ d _ _=>d
def JV.trOf:JV->Bool | .mk _ t _ _ _ _=>t
def ky (j:JV):List UInt8:=if j.kindOf=1 then [110,117,108,108] else if j.trOf then [116,114,117,101] else [102,97,108,115,101]
def mN (k:Nat):sX->Value
 | .mark c=>.iface 301 (.agg #[.int .i64 k,.int .u8 c.toNat])
 | .str s=>.iface 304 (.agg #[.int .i64 k,.string s])
 | .leaf j=>if j.kindOf=3 then .iface 362 (.agg #[.int .i64 k,.bool j.numOf.neg,.string j.numOf.digits,.int .i64 j.numOf.exp]) else .iface 355 (.agg #[.int .i64 k,.string ⟨(ky j).toArray⟩])
def pe (w:World)(g:Nat)(v:Value)(xs:List UInt8)(k:Nat):Prop:=w.heap[g]?=some (.cells #[v,.int .i64 k] 292 (0,0))/\Bs w v xs
theorem pe.below {k:Nat}(h:pe w g v xs k)(hb:Below w.heap.size w w'):pe w' g v xs k:=⟨aj h.1 hb,h.2.below hb⟩
theorem yF (h:vC l=some j):Gi l=true/\j.kindOf≠3/\ky j=l:=by
 unfold vC at h
 split at h
 ·injection h with h;subst h;rename_i e;subst e;exact⟨by decide,by decide,rfl⟩
 split at h
 ·injection h with h;subst h;rename_i e;subst e;exact⟨by decide,by decide,rfl⟩
 split at h
 ·injection h with h;subst h;rename_i e;subst e;exact⟨by decide,by decide,rfl⟩
 ·cases h
theorem Ir (h:i< (l.takeWhile dX).length):∃c,l[i]?=some c/\dX c=true:=by
 induction l generalizing i with
 |nil=>simp at h
 |cons x t ih=>
  by_cases hx:dX x=true
  ·rw[List.takeWhile_cons,if_pos hx] at h
   cases i with
   |zero=>exact⟨x,rfl,hx⟩
   |succ i=>exact ih (by simpa using h)
  ·rw[List.takeWhile_cons,if_neg hx] at h;simp at h
theorem GC {c:UInt8}(h:l[(l.takeWhile dX).length]?=some c):dX c=false:=by
 induction l with
 |nil=>cases h
 |cons x t ih=>
  by_cases hx:dX x=true
  ·rw[List.takeWhile_cons,if_pos hx] at h;exact ih h
  ·rw[List.takeWhile_cons,if_neg hx] at h;injection h with h
   subst h;simpa using hx
theorem Fs (l:List UInt8):l.take (l.takeWhile dX).length=l.takeWhile dX:=by
 induction l with
 |nil=>rfl
 |cons x t ih=>
  by_cases hx:dX x=true
  ·rw[List.takeWhile_cons,if_pos hx,List.length_cons,List.take_succ_cons,ih]
  ·rw[List.takeWhile_cons,if_neg hx];rfl
def B4 (k:Nat)(t:sX)(n:Nat)(w:World)(e:Ending)(w':World):Prop:=e =.returned (.tuple #[mN k t,.int .i64 n,.nilIface])/\Below w.heap.size w w'
theorem qV {k:Nat}(hE:qJ w aU aE)(h:pe w g v xs k0)(hl:xs.length<=1000000000){x:UInt8}(hx:xs[k]?=some x)(hk:cD x=2):Calls Tryz.prog 208 #[.pointer (some ⟨g,0,none⟩),.int .i64 k] w (B4 k (.mark x) 1 w):=by
 obtain⟨hg,hb⟩:=h;obtain⟨hm,A,cap,rfl,a6,a0⟩:=id hb;have c0:=aa hg (j:=0) (u:=.slice A xs.length cap) rfl;obtain⟨hlt,a5⟩:=List.getElem?_eq_some_iff.1 hx;obtain⟨b,o,rfl,a1⟩:=a0 (by omega);have a3:ap xs k=x.toNat:=by unfold ap;rw[List.getD_eq_getElem?_getD,hx];rfl
 have ck:=a1 k hlt;rw[a3] at ck;have a2:=Qa (dW x hE.begins);have hki:(k:Int)<=xs.length:=by omega
 have a7:(0:Int)< (xs.length - k:Nat):=by omega
 have a4:0<xs.length - k:=by omega
 have a9:¬cap=k:=by omega
 clear hg hb a0 a1 hx a5 a3 hE;go_enter Tryz.func208,Tryz.ntmps208;go_wp2_with fail;(with_reducible refine a2.out.mono ?_);rintro e w' ⟨rfl,rfl⟩;rw[hk];clear hk a2;go_wp2_with fail;go_ret3;exact⟨rfl,Zd _ _⟩
theorem tO {k:Nat}(hE:qJ w aU aE)(h:pe w g v xs k0)(hl:xs.length<=1000000000){x:UInt8}(hx:xs[k]?=some x)(hk:cD x=5){p:List UInt8×Nat}(hp:mT (xs.drop k)=some p):Calls Tryz.prog 208 #[.pointer (some ⟨g,0,none⟩),.int .i64 k] w (B4 k (.str ⟨p.1.toArray⟩) p.2 w):=by
 obtain⟨hg,hb⟩:=h;obtain⟨hm,A,cap,rfl,a9,a0⟩:=id hb;have c0:=aa hg (j:=0) (u:=.slice A xs.length cap) rfl;obtain⟨hlt,a6⟩:=List.getElem?_eq_some_iff.1 hx;obtain⟨b,o,rfl,a3⟩:=a0 (by omega);have a5:ap xs k=x.toNat:=by unfold ap;rw[List.getD_eq_getElem?_getD,hx];rfl
 have ck:=a3 k hlt;rw[a5] at ck;have a2:=Qa (dW x hE.begins);have hki:(k:Int)<=xs.length:=by omega
 have b0:(0:Int)< (xs.length - k:Nat):=by omega
 have a7:0<xs.length - k:=by omega
 have b2:¬cap=k:=by omega
 have a4:=Qa (rU (show Bs w (.slice (some ⟨b,o+k,none⟩) (xs.length - k) (cap - k)) (xs.drop k) from hb.cut (Zi hlt)) hE.glob hE.quote hE.escape hE.surrogate hE.control (by rw[List.length_drop];omega));rw[hp] at a4;clear hg hb a0 a3 hx a6 a5 hE hp;go_enter Tryz.func208,Tryz.ntmps208;go_wp2_with fail;(with_reducible refine a2.out.mono ?_);rintro e w' ⟨rfl,rfl⟩;rw[hk];clear hk a2;go_wp2_with fail;(with_reducible refine a4.out.mono ?_);rintro e w1 (⟨q,hq,rfl,a1⟩|⟨hn,_⟩)
 case inr=>cases hn
 injection hq with hq
 subst hq;have b1:=Qa a1;clear a1;rw[show FI p =.tuple #[.string ⟨p.1.toArray⟩,.int .i64 p.2,.nilIface] from rfl];go_wp2_with fail;go_ret3;exact⟨rfl,b1.out⟩
theorem tT {k:Nat}(hE:qJ w aU aE)(h:pe w g v xs k0)(hl:xs.length<=1000000000){x:UInt8}(hx:xs[k]?=some x)(hk:cD x=4){p:Dc×Nat}(hp:o5 (xs.drop k)=some p):Calls Tryz.prog 208 #[.pointer (some ⟨g,0,none⟩),.int .i64 k] w fun e w'=>B4 k (.leaf (ef p.1)) p.2 w e w':=by
 obtain⟨hg,hb⟩:=h;obtain⟨hm,A,cap,rfl,a9,a0⟩:=id hb;have c0:=aa hg (j:=0) (u:=.slice A xs.length cap) rfl;obtain⟨hlt,a6⟩:=List.getElem?_eq_some_iff.1 hx;obtain⟨b,o,rfl,a3⟩:=a0 (by omega);have a5:ap xs k=x.toNat:=by unfold ap;rw[List.getD_eq_getElem?_getD,hx];rfl
 have ck:=a3 k hlt;rw[a5] at ck;have a2:=Qa (dW x hE.begins);have hki:(k:Int)<=xs.length:=by omega
 have b0:(0:Int)< (xs.length - k:Nat):=by omega
 have a7:0<xs.length - k:=by omega
 have b2:¬cap=k:=by omega
 have a4:=Qa (qR (show Bs w (.slice (some ⟨b,o+k,none⟩) (xs.length - k) (cap - k)) (xs.drop k) from hb.cut (Zi hlt)) (by rw[List.length_drop];omega) hE.goes hE.number hE.exponent);rw[hp] at a4;clear hg hb a0 a3 hx a6 a5 hE hp;go_enter Tryz.func208,Tryz.ntmps208;go_wp2_with fail;(with_reducible refine a2.out.mono ?_);rintro e w' ⟨rfl,rfl⟩;rw[hk];clear hk a2;go_wp2_with fail;(with_reducible refine a4.out.mono ?_);rintro e w1 ⟨a1,rfl⟩;have b1:=Qa a1;clear a1;obtain⟨⟨dneg,ddig,dexp⟩,n⟩:=p;rw[show JU (⟨dneg,ddig,dexp⟩:Dc) =.agg #[.bool dneg,.string ddig,.int .i64 dexp] from rfl];go_wp2_with fail;go_ret3;exact⟨rfl,bE b1.out (ac _ _)⟩
theorem sN {k:Nat}(hE:qJ w aU aE)(h:pe w g v xs k0)(hl:xs.length<=1000000000){x:UInt8}(hx:xs[k]?=some x)(hk:cD x=3)(hp:vC (x:: (xs.drop (k+1)).takeWhile dX)=some j):Calls Tryz.prog 208 #[.pointer (some ⟨g,0,none⟩),.int .i64 k] w fun e w'=>B4 k (.leaf j) (1+ ((xs.drop (k+1)).takeWhile dX).length) w e w':=by
 obtain⟨hg,hb⟩:=h;obtain⟨hm,A,cap,rfl,d2,a0⟩:=id hb;have c0:=aa hg (j:=0) (u:=.slice A xs.length cap) rfl;obtain⟨hlt,b5⟩:=List.getElem?_eq_some_iff.1 hx;obtain⟨b,o,rfl,a9⟩:=a0 (by omega);have c5:ap xs k=x.toNat:=by unfold ap;rw[List.getD_eq_getElem?_getD,hx];rfl
 have ck:=a9 k hlt;rw[c5] at ck;have c2:=Qa (dW x hE.begins);have hki:(k:Int)<=xs.length:=by omega
 have c6:(0:Int)< (xs.length - k:Nat):=by omega
 have d1:0<xs.length - k:=by omega
 have d9:¬cap=k:=by omega
 have hd:xs.drop k=x::xs.drop (k+1):=by rw[List.drop_eq_getElem_cons hlt,b5]
 have hcut:Bs w (.slice (some ⟨b,o+k,none⟩) (xs.length - k) (cap - k)) (xs.drop k):=hb.cut (Zi hlt);obtain⟨b1,b9,b2⟩:=yF hp;obtain⟨tw,a2⟩:∃tw,tw= ((xs.drop (k+1)).takeWhile dX).length:=⟨_,rfl⟩;have hin:∀i,i<tw->∃c,xs[k+ (i+1)]?=some c/\dX c=true:=fun i hi=>by
  rw[a2] at hi;obtain⟨c,h1,h2⟩:=Ir hi;rw[List.getElem?_drop] at h1;exact⟨c,by rw[<-h1];congr 1;omega,h2⟩
 have a4:∀c,xs[k+ (tw+1)]?=some c->dX c=false:=fun c hc=>by
  refine GC (l:=xs.drop (k+1)) ?_;rw[<-a2,List.getElem?_drop,<-hc];congr 1;omega
 have c7:tw+1<=xs.length - k:=by
  have:=(List.takeWhile_prefix dX (l:=xs.drop (k+1))).length_le;rw[<-a2,List.length_drop] at this;omega
 have b4:(xs.drop k).take (tw+1)=x:: (xs.drop (k+1)).takeWhile dX:=by rw[hd,List.take_succ_cons,a2,Fs]
 have a5:(convert 22 9 (.slice (some ⟨b,o+k,none⟩) (tw+1) (cap - k))).run Tryz.prog w =.ok (.string ⟨(ky j).toArray⟩) w:=by
  rw[b2,<-b4];exact aW (hcut.upto (by rw[List.length_drop];omega))
 rw[<-b2] at b1;have b7:∀i c,i<xs.length - k->xs[k+i]?=some c->w.cell? ⟨b,o+k+i,none⟩=some (.int .u8 c.toNat):=fun i c hi hc=>by
  have h1:=a9 (k+i) (by omega);have h2:ap xs (k+i)=c.toNat:=by unfold ap;rw[List.getD_eq_getElem?_getD,hc];rfl
  rw[h2,<-Nat.add_assoc] at h1;exact h1
 have c4:=Qa b7;have d0:=Qa hin;have b3:=Qa a4;have c3:=Qa b1;have a7:=Qa a5;have Hv:=Qa (show mN k (.leaf j) =.iface 355 (.agg #[.int .i64 k,.string ⟨(ky j).toArray⟩]) from if_neg b9);rw[<-a2];generalize ky j=wl at *;have d5:tw+1<=cap - k:=by omega
 have d4:=Qa a2;clear hd hcut b1 b9 b2 hin a4 b4 a5 b7 hp a2;clear hg hb a0 a9 hx b5 c5 hE;go_enter Tryz.func208,Tryz.ntmps208;go_wp2_with fail;(with_reducible refine c2.out.mono ?_);rintro e w' ⟨rfl,rfl⟩;rw[hk];clear hk c2;go_wp2_with fail
 go_loopg [8] tw (fun m s8 wr=> ∃n:Nat,m+n=tw/\s8 =.int .i64 (n+1:Nat)/\wr=w)
 case atStart=>exact⟨0,rfl,rfl,rfl⟩
 case round=>
  obtain⟨n,a6,rfl,rfl⟩:=hrel;have a1:((n+1:Nat):Int)= (n:Int)+1:=by omega
  obtain⟨z,hz⟩:∃z:Int,((n+1:Nat):Int)=z:=⟨_,rfl⟩
  by_cases hlt2:n<tw
  ·obtain⟨c,a3,b8⟩:=d0.out n hlt2;have a0:=c4.out (n+1) c (by omega) a3;have b6:((n+1:Nat):Int)< (xs.length - k:Nat):=by omega
   have c1:n+1<xs.length - k:=by omega
   have s1:IntKind.i64.wrap ((n:Int)+1+1)= (n:Int)+1+1:=IntWalk.i64_in _ (by omega);have b0:=Qa b8;have Hmn:=Qa a6;clear a6 a3 b8 a1 hz;go_wp2_with fail;(with_reducible refine(kU c _).mono ?_);rintro e w' ⟨rfl,rfl⟩;rw[b0.out];go_wp2_with fail;go_roundg (tw - (n+1))
   case measure=>have:=Hmn.out;omega
   case rel=>exact⟨n+1,by have:=Hmn.out;omega,by go_num,rfl⟩
  ·obtain rfl:n=tw:=by omega
   have Hmn:=Qa a6;have c8:n+1<=xs.length - k:=c7;have q1:(0:Int)<=(n:Int)+1:=by omega
   have q2:(n:Int)+1<=(cap - k:Nat):=by omega
   have d6:=a7.out;have d3:((n:Int)+1).toNat=n+1:=by omega
   have c9:¬ (cap - k=0):=by omega
   clear a6 a1 hz hlt2
   by_cases hend:n+1=xs.length - k
   ·have b6:¬ (n:Int)+1< (xs.length - k:Nat):=by omega
    have c1:¬n+1<xs.length - k:=by omega
    clear hend;go_wp2_with fail;(with_reducible refine(mG wl _).mono ?_);rintro e w' ⟨rfl,rfl⟩;rw[c3.out];go_wp2_with fail;go_ret3;refine⟨?_,Zd _ _⟩;rw[Hv.out,show((1+n:Nat):Int)= (n:Int)+1 from by omega];rfl
   ·obtain⟨c,a3⟩:∃c,xs[k+ (n+1)]?=some c:=⟨_,Zc (by omega)⟩;have a0:=c4.out (n+1) c (by omega) a3;have b6:(n:Int)+1< (xs.length - k:Nat):=by omega
    have c1:n+1<xs.length - k:=by omega
    have b0:=Qa (b3.out c a3);clear hend a3;go_wp2_with fail;(with_reducible refine(kU c _).mono ?_);rintro e w' ⟨rfl,rfl⟩;rw[b0.out];go_wp2_with fail;(with_reducible refine(mG wl _).mono ?_);rintro e w' ⟨rfl,rfl⟩;rw[c3.out];go_wp2_with fail;go_ret3;refine⟨?_,Zd _ _⟩;rw[Hv.out,show((1+n:Nat):Int)= (n:Int)+1 from by omega];rfl
theorem td {k:Nat}(hE:qJ w aU aE)(h:pe w g v xs k0)(hl:xs.length<=1000000000){t:sX}(hx:dC (xs.drop k)=some (t,n)):Calls Tryz.prog 208 #[.pointer (some ⟨g,0,none⟩),.int .i64 k] w (B4 k t n w):=by
 obtain⟨x,a1⟩:∃x,xs[k]?=some x:=by
  cases hd:xs.drop k with
  |nil=>rw[hd] at hx;cases hx
  |cons x r=>exact⟨x,by have:=congrArg (·[0]?) hd;simpa [List.getElem?_drop] using this⟩
 obtain⟨hlt,a2⟩:=List.getElem?_eq_some_iff.1 a1;have hd:xs.drop k=x::xs.drop (k+1):=by rw[List.drop_eq_getElem_cons hlt,a2]
 have a0:=hx;rw[hd] at a0;simp only[dC] at a0
 split at a0
 ·rename_i hk
  injection a0 with a0
  injection a0 with e1 e2
  subst e1 e2;exact qV hE h hl a1 hk
 ·rename_i hk
  rw[Option.map_eq_some_iff] at a0;obtain⟨j,hj,a0⟩:=a0;injection a0 with e1 e2
  subst e1 e2;exact sN hE h hl a1 hk hj
 ·rename_i hk
  rw[Option.map_eq_some_iff] at a0;obtain⟨p,hp,a0⟩:=a0;injection a0 with e1 e2
  subst e1 e2;rw[<-hd] at hp;exact tT hE h hl a1 hk hp
 ·rename_i hk
  rw[Option.map_eq_some_iff] at a0;obtain⟨p,hp,a0⟩:=a0;injection a0 with e1 e2
  subst e1 e2;rw[<-hd] at hp;exact tO hE h hl a1 hk hp
 ·cases a0
theorem FN (h:i< (l.takeWhile cV).length):∃c,l[i]?=some c/\cV c=true:=by
 induction l generalizing i with
 |nil=>simp at h
 |cons x t ih=>
  by_cases hx:cV x=true
  ·rw[List.takeWhile_cons,if_pos hx] at h
   cases i with
   |zero=>exact⟨x,rfl,hx⟩
   |succ i=>exact ih (by simpa using h)
  ·rw[List.takeWhile_cons,if_neg hx] at h;simp at h
theorem Gv {c:UInt8}(h:l[(l.takeWhile cV).length]?=some c):cV c=false:=by
 induction l with
 |nil=>cases h
 |cons x t ih=>
  by_cases hx:cV x=true
  ·rw[List.takeWhile_cons,if_pos hx] at h;exact ih h
  ·rw[List.takeWhile_cons,if_neg hx] at h;injection h with h
   subst h;simpa using hx
theorem rX (l:List UInt8):l.drop (l.takeWhile cV).length=l.dropWhile cV:=by
 induction l with
 |nil=>rfl
 |cons x t ih=>
  by_cases hx:cV x=true
  ·rw[List.takeWhile_cons,if_pos hx,List.length_cons,List.drop_succ_cons,ih,List.dropWhile_cons,if_pos hx]
  ·rw[List.takeWhile_cons,if_neg hx,List.dropWhile_cons,if_neg hx];rfl
theorem B6 (c:UInt8):((cD c:Nat)==1)=cV c:=by
 have:=uK (p:=fun c=>decide (((cD c:Nat)==1)=cV c)) (by decide +kernel) c;simpa using this
theorem oy (c:UInt8):(((cD c:Nat):Int)==1)=cV c:=by
 rw[<-B6];rw[Bool.eq_iff_iff];simp only[beq_iff_eq];omega
def IE (g:Nat)(v:Value)(xs:List UInt8)(tv:Value)(k:Nat)(w:World)(e:Ending)(w':World):Prop:=e =.returned (.tuple #[tv,.nilIface])/\pe w' g v xs k/\br (fun i=>i=g) w w'
theorem pe.apart {k b o:Nat}(h:w.heap[g]?=some (.cells #[v,.int .i64 k] 292 (0,0)))(hv:∃A n q,v =.slice A n q)(hc:∃z:Nat,w.cell? ⟨b,o,none⟩=some (.int .u8 z)):g≠b:=by
 intro e;subst e;obtain⟨z,hz⟩:=hc;obtain⟨A,n,q,rfl⟩:=hv;rcases o with _|_|o
 ·rw[aa h (j:=0) rfl] at hz;injection hz with hz
  cases hz
 ·rw[aa h (j:=1) rfl] at hz;injection hz with hz
  cases hz
 ·unfold World.cell? at hz;simp[h] at hz
theorem pe.set {k:Nat}(h:pe w g v xs k){z:Int}{j:Nat}(hz:z=j):pe (w.setCell ⟨g,1,none⟩ (.int .i64 z)) g v xs j:=by
 subst hz;refine⟨aw h.1 1 _,?_⟩;obtain⟨hm,A,c,rfl,hc,a0⟩:=h.2;refine⟨hm,A,c,rfl,hc,fun h0=>?_⟩;obtain⟨b,o,rfl,a1⟩:=a0 h0;refine⟨b,o,rfl,fun i hi=>?_⟩;rw[World.cell?_setCell_far _ _ _ _ (pe.apart h.1 ⟨_,_,_,rfl⟩ ⟨_,a1 i hi⟩)];exact a1 i hi
theorem rY:∀ (f:Nat) (xs out:List UInt8) (n:Nat) (p:List UInt8×Nat),fZ f xs out n=some p->p.2<=n+xs.length
 |0,_,_,_,_,h=>by cases h
 |f+1,xs,out,n,p,h=>by
  unfold fZ at h
  split at h
  ·cases h
  ·rename_i hp
   have:=pV hp;injection h with h;subst h
   simp only;omega
  ·rename_i c k hp
   have h1:=(oW hp).2.2;have h2:=rY f _ _ _ p h;rw[List.length_drop] at h2;simp only at h1;omega
theorem oH {t:sX}(h:dC xs=some (t,n)):1<=n/\n<=xs.length:=by
 refine⟨(DC h).1,?_⟩
 cases xs with
 |nil=>cases h
 |cons x xs=>
  simp only[dC] at h
  split at h
  ·injection h with h;injection h with _ h;subst h;simp
  ·rw[Option.map_eq_some_iff] at h;obtain⟨j,-,h⟩:=h;injection h with _ h;subst h
   have:=(List.takeWhile_prefix dX (l:=xs)).length_le;rw[List.length_cons];omega
  ·rw[Option.map_eq_some_iff] at h;obtain⟨p,hp,h⟩:=h;injection h with _ h;subst h
   exact(wE hp).2
  ·rw[Option.map_eq_some_iff] at h;obtain⟨p,hp,h⟩:=h;injection h with _ h;subst h
   unfold mT at hp
   split at hp
   ·rename_i ys e
    injection e with e1 e2
    subst e2;have:=rY _ _ _ _ _ hp;rw[List.length_cons];omega
   ·cases hp
  ·cases h
theorem xl (k:Nat)(t:sX):∃ty v,mN k t =.iface ty v:=by
 cases t with
 |mark c=>exact⟨_,_,rfl⟩
 |str s=>exact⟨_,_,rfl⟩
 |leaf j=>
  unfold mN;simp only
  split
  ·exact⟨_,_,rfl⟩
  ·exact⟨_,_,rfl⟩
theorem uI {k:Nat}(hE:qJ w aU aE)(h:pe w g v xs k)(hk:k<=xs.length)(hl:xs.length<=1000000000)(hd:(xs.drop k).dropWhile cV = []):Calls Tryz.prog 177 #[.pointer (some ⟨g,0,none⟩)] w fun e w'=>IE g v xs (.iface 299 (.agg #[.int .i64 xs.length])) xs.length w e w':=by
 obtain⟨hg,hb⟩:=id h;obtain⟨hm,A,cap,rfl,b5,a0⟩:=id hb;obtain⟨tw,a3⟩:∃tw,tw= ((xs.drop k).takeWhile cV).length:=⟨_,rfl⟩;have a4:=rX (xs.drop k);rw[hd,<-a3,List.drop_drop] at a4;have b0:=congrArg List.length a4;rw[List.length_drop,List.length_nil] at b0;have b2:tw+k<=xs.length:=by
  have:=(List.takeWhile_prefix cV (l:=xs.drop k)).length_le;rw[<-a3,List.length_drop] at this;omega
 have hin:∀i,i<tw->∃c,xs[k+i]?=some c/\(((cD c:Nat):Int)==1)=true:=fun i hi=>by
  rw[a3] at hi;obtain⟨c,h1,h2⟩:=FN hi;rw[List.getElem?_drop] at h1;exact⟨c,h1,by rw[oy];exact h2⟩
 have c0:=aa hg (j:=0) (u:=.slice A xs.length cap) rfl;have c1:=aa hg (j:=1) (u:=.int .i64 k) rfl;have f1:=am hg 1;have b4:=Qa hin;have a2:=Qa a0;have H:=Qa h;have HB:=Qa hE.begins;clear hd a4 hin hg hb a0 h hE a3;go_enter Tryz.func177,Tryz.ntmps177;go_wp2_with fail
 go_loopg [4] tw (fun m s4 wr=> ∃n:Nat,m+n=tw/\s4 =.int .i64 (k+n:Nat)/\wr=w)
 case atStart=>exact⟨0,rfl,rfl,rfl⟩
 case round=>
  obtain⟨n,a5,rfl,rfl⟩:=hrel;have a1:((k+n:Nat):Int)= (k:Int)+n:=by omega
  by_cases hlt2:n<tw
  ·obtain⟨c,a9,a6⟩:=b4.out n hlt2;obtain⟨b,o,rfl,a7⟩:=a2.out (by omega);have b3:=a7 (k+n) (by omega);have h2:ap xs (k+n)=c.toNat:=by unfold ap;rw[List.getD_eq_getElem?_getD,a9];rfl
   rw[h2] at b3;have b7:(k:Int)+n<xs.length:=by omega
   have b9:k+n<xs.length:=by omega
   have s1:IntKind.i64.wrap (((k+n:Nat):Int)+1)= ((k+ (n+1):Nat):Int):=by rw[IntWalk.i64_in _ (by omega)];omega
   have b6:=Qa a6;have Hmn:=Qa a5;have b1:=Qa (dW c HB.out);clear a5 a9 a6 a1 a7 h2;go_wp2_with fail;(with_reducible refine b1.out.mono ?_);rintro e w' ⟨rfl,rfl⟩;have b8:=b6.out;go_wp2_with fail;go_roundg (tw - (n+1))
   case measure=>have:=Hmn.out;omega
   case rel=>exact⟨n+1,by have:=Hmn.out;omega,rfl,rfl⟩
  ·have e:k+n=xs.length:=by omega
   rw[e];have s2:(xs.length:Int)= ((xs.length:Nat):Int):=rfl;have H2:=Qa (H.out.set (z:=((xs.length:Nat):Int)) (j:=xs.length) rfl);clear a1 hlt2 a5 e b0 b2 s2;go_wp2_with fail;go_ret2;exact⟨rfl,H2.out,br.set g 1 _⟩
theorem uJ {k:Nat}(hE:qJ w aU aE)(h:pe w g v xs k)(hk:k<=xs.length)(hl:xs.length<=1000000000){y:UInt8}(hd:(xs.drop k).dropWhile cV=y::ys){t:sX}(hx:dC (y::ys)=some (t,n)):Calls Tryz.prog 177 #[.pointer (some ⟨g,0,none⟩)] w fun e w'=>IE g v xs (mN (xs.length - (ys.length+1)) t) (xs.length - (ys.length+1)+n) w e w':=by
 obtain⟨hg,hb⟩:=id h;obtain⟨hm,A,cap,rfl,d0,a0⟩:=id hb;obtain⟨tw,a4⟩:∃tw,tw= ((xs.drop k).takeWhile cV).length:=⟨_,rfl⟩;have a5:=rX (xs.drop k);rw[hd,<-a4,List.drop_drop] at a5;have b7:=congrArg List.length a5;rw[List.length_drop,List.length_cons] at b7;have c5:tw+k<=xs.length:=by
  have:=(List.takeWhile_prefix cV (l:=xs.drop k)).length_le;rw[<-a4,List.length_drop] at this;omega
 have hin:∀i,i<tw->∃c,xs[k+i]?=some c/\(((cD c:Nat):Int)==1)=true:=fun i hi=>by
  rw[a4] at hi;obtain⟨c,h1,h2⟩:=FN hi;rw[List.getElem?_drop] at h1;exact⟨c,h1,by rw[oy];exact h2⟩
 have c0:=aa hg (j:=0) (u:=.slice A xs.length cap) rfl;have c1:=aa hg (j:=1) (u:=.int .i64 k) rfl;have f1:=am hg 1;have hfr:xs.length - (ys.length+1)=k+tw:=by omega
 have d3:k+tw<xs.length:=by omega
 rw[hfr];have b1:xs[k+tw]?=some y:=by
  have:=congrArg (·[0]?) a5;simpa [List.getElem?_drop] using this
 have b6:cV y=false:=by
  refine Gv (l:=xs.drop k) ?_;rw[<-a4,List.getElem?_drop];exact b1
 rw[<-a5] at hx;have c6:=Qa (td hE h hl hx);have hnl:=(oH hx).2;rw[List.length_drop] at hnl;have b3:(((cD y:Nat):Int)==1)=false:=by rw[oy];exact b6
 have b8:=Qa b3;have c7:=Qa b1;clear b1 b6 hx b3 hfr;have c9:=Qa hin;have a1:=Qa a0;have H:=Qa h;have HB:=Qa hE.begins;clear hd a5 hin b7 hg hb a0 h hE a4;go_enter Tryz.func177,Tryz.ntmps177;go_wp2_with fail
 go_loopg [4] tw (fun m s4 wr=> ∃n0:Nat,m+n0=tw/\s4 =.int .i64 (k+n0:Nat)/\wr=w)
 case atStart=>exact⟨0,rfl,rfl,rfl⟩
 case round=>
  obtain⟨n0,b2,rfl,rfl⟩:=hrel;have a2:((k+n0:Nat):Int)= (k:Int)+n0:=by omega
  by_cases hlt2:n0<tw
  ·obtain⟨c,b5,b4⟩:=c9.out n0 hlt2;obtain⟨b,o,rfl,a3⟩:=a1.out (by omega);have a7:=a3 (k+n0) (by omega);have h2:ap xs (k+n0)=c.toNat:=by unfold ap;rw[List.getD_eq_getElem?_getD,b5];rfl
   rw[h2] at a7;have b9:(k:Int)+n0<xs.length:=by omega
   have c3:k+n0<xs.length:=by omega
   have s1:IntKind.i64.wrap (((k+n0:Nat):Int)+1)= ((k+ (n0+1):Nat):Int):=by rw[IntWalk.i64_in _ (by omega)];omega
   have c4:=Qa b4;have Hmn:=Qa b2;have b0:=Qa (dW c HB.out);clear b2 b5 b4 a2 a3 h2;go_wp2_with fail;(with_reducible refine b0.out.mono ?_);rintro e w' ⟨rfl,rfl⟩;have c2:=c4.out;go_wp2_with fail;go_roundg (tw - (n0+1))
   case measure=>have:=Hmn.out;omega
   case rel=>exact⟨n0+1,by have:=Hmn.out;omega,rfl,rfl⟩
  ·obtain rfl:n0=tw:=by omega
   obtain⟨b,o,rfl,a3⟩:=a1.out (by omega);have a7:=a3 (k+n0) (by omega);have h2:ap xs (k+n0)=y.toNat:=by unfold ap;rw[List.getD_eq_getElem?_getD,c7.out];rfl
   rw[h2] at a7;have b9:(k:Int)+n0<xs.length:=by omega
   have c3:k+n0<xs.length:=by omega
   have hne:(((k+n0:Nat):Int)== (xs.length:Int))=false:=by simp only[beq_eq_false_iff_ne];omega
   have b0:=Qa (dW y HB.out);have d1:k+n0+n<=1000000000:=by omega
   clear b2 a2 hlt2 a3 h2 c5;go_wp2_with fail;(with_reducible refine b0.out.mono ?_);rintro e w' ⟨rfl,rfl⟩;have c2:=b8.out;go_wp2_with fail;(try rw[show(k:Int)+n0= ((k+n0:Nat):Int) from by omega]);(with_reducible refine c6.out.mono ?_);rintro e w1 ⟨rfl,a6⟩;have H1:=Qa (H.out.below a6);have d2:=Qa a6;have f1':=am H1.out.1 1;have c1':=aa H1.out.1 (j:=1) (u:=.int .i64 k) rfl;have s1:IntKind.i64.wrap (((k+n0:Nat):Int)+n)= ((k+n0+n:Nat):Int):=by rw[IntWalk.i64_in _ (by omega)];omega
   have H2:=Qa (H1.out.set (z:=((k+n0+n:Nat):Int)) (j:=k+n0+n) rfl);obtain⟨tt,tv,a9⟩:=xl (k+n0) t;rw[a9];have c8:=Qa a9;clear a6 a9;go_wp2_with fail;go_ret2;exact⟨by rw[c8.out];rfl,H2.out,(br.of_below d2.out).trans (br.set g 1 _) (fun i hi=>.inl hi)⟩
theorem xX (hb:Bs w v xs)(h0:0<xs.length)(hl:xs.length<=1000000000):Calls Tryz.prog 176 #[v] w fun e w'=> ∃u,e =.returned u/\au w' w.heap.size u xs/\Below w.heap.size w w':=by
 obtain⟨hm,A,cap,rfl,a5,a0⟩:=id hb;obtain⟨b,o,rfl,a3⟩:=a0 h0;have a1:=ac w (.cells #[] 5);have Hb:=Qa (hb.below a1);have Ho:=Qa (au.made (base:=w.heap.size) (Ze w (.cells #[] 5)) (Za _) (cap:=0) (Zj _) rfl);have a2:=Qa a1;have a4:=Qa (show([]:List UInt8).length+xs.length<=140737488355328 by simp;omega);have a6:=Qa a1.size;clear hb a0 a3 a1;have hq:(binOp .eql 22 (.slice (some ⟨b,o,none⟩) xs.length cap) (.slice none 0 0)).run Tryz.prog w =.ok (.bool false) w:=by
  simp only[binOp];simp[run_equal_slice_nil w 22 5 (some ⟨b,o,none⟩) xs.length cap Tryz.underlying22]
 go_enter Tryz.func176,Tryz.ntmps176;go_wp2_with (at_builtin;refine pW Ho.out Hb.out a4.out a6.out ?_;intro v' w3 h1 h2 h3;have HK:=Qa h1;have a7:=Qa h2;clear h1 h2 h3);go_ret;exact⟨_,rfl,HK.out,a2.out.grown a7.out a2.out.size (fun g e=>Nat.le_of_eq (Zh e))⟩
theorem yp (hb:Bs w v xs)(h0:0<xs.length)(hl:xs.length<=1000000000):Calls Tryz.prog 135 #[v] w fun e w'=> ∃g u,e =.returned (.pointer (some ⟨g,0,none⟩))/\pe w' g u xs 0/\Below w.heap.size w w'/\w.heap.size<=g/\au w' w.heap.size u xs:=by
 have Hc:=Qa (xX hb h0 hl);clear hb;go_enter Tryz.func135,Tryz.ntmps135;go_wp2_with fail;(with_reducible refine Hc.out.mono ?_);rintro e w1 ⟨u,rfl,ho,a0⟩;obtain⟨A,q,rfl,-⟩:=ah ho;have Ho:=Qa (au.bs ho);have a2:=Qa ho;have a1:=Qa a0;clear ho a0;go_wp2_with fail;go_ret;exact⟨w1.heap.size,_,rfl,⟨Ze _ _,Ho.out.below (ac _ _)⟩,bE a1.out (ac _ _),a1.out.size,aq a2.out (ac _ _) (Za _)⟩
theorem il {t:TypeId}{k:Nat}(E:dE t e z k B){ops:Array Oper}{rest:List Oper}{o:Oper}{a:Act}{Q:Exit->Act->World->Prop}(a2:o.guard=none)(s x:Operand)
  (ho:o.op =.call {callee:=.builtin .append,args:= #[s,x],argTypes:= #[t,t]})
  (base:Nat) (v:Value) (n g c m:Nat) (us news:List Value) (hs:a.eval s=v) (a1:w.ownsRow base e k v n us) (hx:a.eval x =.slice (some ⟨g,0,none⟩) m c) (hl:news.length=m*k)
  (hg:∀j u,news[j]?=some u->w.cell? ⟨g,j,none⟩=some u) (h1:∀u∈news,u.oneCell'=true) (hm:0<m)
  (hlen:n+m<=maxLen) (hby:(n+m)*B<=140737488355328) (a0:base<=w.heap.size)
  (h:∀v' w',w'.ownsRow base e k v' (n+m) (us++news)->w.grownBy w' v.ownBlock->w.drawn<=w'.drawn->wpList Tryz.prog ops Q rest (a.put o.dst v') w'):wpList Tryz.prog ops Q (o::rest) a w:=by
 refine wpList_plain a2 fun K hK=>?_
 obtain⟨v',w',hr,h2,h3,h4,h5⟩:=rg E (ty:=o.type) base v n g c m us news a1 hl hg h1 hm hlen hby a0;unfold Oper.wp execOp;simp only[ho,resolve,invoke,builtin,Sem.run_bind,Sem.run_pure,Result.andThen_ok,List.map_toArray,List.map_cons,List.map_nil,hs,hx,hr];exact hK _ _ (h v' w' h2 h3 h5)
theorem tW (w:World){s:ByteArray}{t:List UInt8}(hs:s.data.toList=239::191::189::t):Calls Tryz.prog 199 #[.string s,.string ⟨#[239,191,189]⟩] w fun e w'=>e =.returned (.bool true)/\w=w':=by
 have hsz:s.data.toList.length=s.size:=by simp
 rw[hs] at hsz;simp only[List.length_cons] at hsz;have h3:¬ (s.size:Int)<3:=by omega
 have a0:(3:Int)<=s.size:=by omega
 have a1:3<=s.size:=by omega
 have he:s.extract 0 3= ⟨#[239,191,189]⟩:=by
  have h:(s.extract 0 3).data.toList = [239,191,189]:=by
   rw[ByteArray.data_extract,Array.toList_extract,hs];rfl
  cases hx:s.extract 0 3 with
  |mk d=>rw[hx] at h;simp only at h;rw[<-h]
 have He:=Qa he;clear hs hsz he;go_enter Tryz.func199,Tryz.ntmps199;go_wp2_with fail;go_ret;refine⟨?_,rfl⟩
 show Ending.returned (.bool ((s.extract 0 3).toList == [239,191,189]))=_
 rw[He.out,ByteArray.toList_eq];rfl
theorem ra (w:World){s:ByteArray}{t:List UInt8}(hs:s.data.toList=239::191::189::t):Calls Tryz.prog 166 #[.string s,.string ⟨#[239,191,189]⟩] w fun e w'=>e =.returned (.bool true)/\w=w':=by
 have H:=Qa (tW w hs);clear hs;go_enter Tryz.func166,Tryz.ntmps166;go_wp2_with fail;(with_reducible refine H.out.mono ?_);rintro e w' ⟨rfl,rfl⟩;go_wp2_with fail;go_ret;exact⟨rfl,rfl⟩
def Ga (s:ByteArray)(cs:List Int)(j:Nat)(w:World)(m:Nat)(s3:Value)(wr:World):Prop:=
 ∃ (pre rest:List Int) (p:Nat),cs=pre++rest/\m=rest.length/\s.data.toList.drop p=rest.flatMap bG/\wr.heap[j]?=some (.stringIter s p)/\qy wr w.heap.size s3 pre/\bX w wr
theorem bX.iter {j:Nat}{s:ByteArray}(hj:w.heap[j]?=some (.stringIter s p)){B:World}(hb:bX B w)(hB:B.heap.size<=j):bX B (w.iterAt j s q):=by
 refine⟨hb.b.trans ((br.iter (w:=w) (j:=j) (q:=q) (s:=s)).below hb.b.size (fun k hk=>by rw[hk];exact hB)),Zb hb.d ?_⟩;exact Za _
theorem qD {s:ByteArray}(hs:dB s)(hl:s.size<=4294967296):Calls Tryz.prog 125 #[.string s] w fun e w'=> ∃v,e =.returned v/\qy w' w.heap.size v (nm s)/\bX w w':=by
 obtain⟨hc,hd⟩:=hs.nm;generalize Proofs.YthknekoamnnhhaaGreatDoor.nm s=cs at *;have c5:cs.length<=4294967296:=by
  have h1:=jj hc;rw[hd] at h1;have:s.data.toList.length=s.size:=by simp
  omega
 have Hd:=Qa hd;have Hc:=Qa hc;have Hi:=Qa (Ze w (.stringIter s 0));have Hb:=Qa (bX.alloc w (.stringIter s 0));clear hs hd hc;go_enter Tryz.func125,Tryz.ntmps125;go_wp2_with fail
 go_loopg [3] cs.length (fun m s3 wr=>Ga s cs w.heap.size w m s3 wr)
 case atStart=>exact⟨[],cs,0,rfl,rfl,Hd.out.symm,Hi.out,⟨rfl,.inl ⟨rfl,rfl⟩⟩,Hb.out⟩
 case round=>
  clear Hi Hb;obtain⟨pre,rest,p,he,hm,a0,hi,ho,hb⟩:=hrel;have hji:w.heap.size<=w.heap.size:=Za _;have hj:w.heap.size<wr.heap.size:=ae hi;obtain⟨j,a6⟩:∃j,w.heap.size=j:=⟨_,rfl⟩;rw[a6] at hi;have Ho:=Qa ho;have Hi:=Qa hi;have Hb:=Qa hb;have He:=Qa he;have c6:=Qa a0;have a7:=Qa a6;have hsz:s.data.toList.length=s.size:=by simp
  have b2:∀b,u3.ownBlock=some b->b≠j:=fun b b1 e=>by
   obtain⟨_,cur,hg⟩:=al ho b1;rw[e,hi] at hg
   cases hg
  have c4:pre.length<=4294967296:=by have:=congrArg List.length he;rw[List.length_append] at this;omega
  rw[a6]
  cases rest with
  |nil=>
   have hlt:¬p<s.size:=by
    have:=congrArg List.length a0;rw[List.length_drop] at this;simp at this;omega
   have a9:∀ty,(Instr.next (.pointer (some ⟨j,0,none⟩)) true ty).run Tryz.prog wr =.ok (.tuple #[.bool false]) wr:=fun ty=>Lib.run_next_end_at wr j s p ty hi hlt
   clear ho hi hb he a0 b2 hlt hm hji hj a6;go_wp2_with fail;go_ret;have e:cs=pre:=by rw[He.out,List.append_nil]
   rw[e];exact⟨_,rfl,Ho.out,Hb.out⟩
  |cons c rest=>
   have h0:=Hc.out c (by rw[he];simp);have hlen:=congrArg List.length a0;rw[List.length_drop,hsz,List.flatMap_cons,List.length_append] at hlen;have c2:(bG c).length≠0:=fun e=>nE h0 (List.eq_nil_of_length_eq_zero e)
   have hlt:p<s.size:=by omega
   have a9:∀ty,(Instr.next (.pointer (some ⟨j,0,none⟩)) true ty).run Tryz.prog wr =.ok (.tuple #[.bool true,.int .i64 p,.int .i32 (Utf8.decode s p).1]) (wr.iterAt j s (p+ (Utf8.decode s p).2)):=fun ty=>Lib.run_next_any_at wr j s p ty hi hlt
   rw[oI s p hlt,a0,List.flatMap_cons,sq h0,if_pos rfl] at a9;have hcn:((c.toNat:Nat):Int)=c:=by have:=em h0;omega
   dsimp only at a9
   rw[hcn] at a9;have b3:bX w (wr.iterAt j s (p+ (bG c).length)):=bX.iter hi hb (by omega);have a5:=br.iter (w:=wr) (j:=j) (q:=p+ (bG c).length) (s:=s);have c1:=Qa (Lib.iterAt_heap wr j s p (p+ (bG c).length) hi);have b9:=Qa (show qy (wr.iterAt j s (p+ (bG c).length)) w.heap.size u3 pre from bH ho (fun b b1=>by obtain⟨_,cur,hg⟩:=al ho b1;exact a5.block b (ae hg) (b2 b b1)));have b8:=Qa b3;have a3:=Qa (show s.data.toList.drop (p+ (bG c).length)=rest.flatMap bG by rw[<-List.drop_drop,a0,List.flatMap_cons,List.drop_left]);have q1:(p:Int)<=s.size:=by omega
   have q2:p<=s.size:=by omega
   have H0:=Qa h0;have Hgk:Hid (gk=rest.length+1):=Qa hm;have c0:=Qa (show c=65533->(s.extract p s.size).data.toList=239::191::189::rest.flatMap bG from fun e=>by
    rw[ByteArray.data_extract,Array.toList_extract,List.extract_eq_take_drop,a0,List.take_of_length_le (by rw[List.flatMap_cons,List.length_append];omega),List.flatMap_cons,e]
    show bG ((65533:Nat):Int)++_=_
    rw[Cn];rfl)
   clear ho hi hb he a0 b2 hlt hlen c2 a5 h0 hcn hm b3 hji hj a6;generalize wr.iterAt j s (p+ (bG c).length)=wi at *;have a4:=bX.alloc wi (.cells #[.int .i32 c] 21);have a2:=Qa (show qy (wi.alloc (.cells #[.int .i32 c] 21)) w.heap.size u3 pre from aq b9.out a4.b (Za _));have b7:=Qa (ar wi [ft c] 21);have a1:=Qa (b8.out.trans a4);have b0:=Qa (aj c1.out a4.b);have b5:=Qa (show pre.length+1<=maxLen by unfold maxLen;omega);have b4:=Qa (show(pre.length+1)*4<=140737488355328 by omega);have b6:=Qa a1.out.b.size
   by_cases hf:c=65533
   ·have Hx:=Qa (c0.out hf);have c3:(c==65533)=true:=by simpa using hf
    clear a4 hf;go_wp2_with fail;(with_reducible refine(ra _ Hx.out).mono ?_);rintro e w' ⟨rfl,rfl⟩;go_wp2_with (at_builtin;refine il lM rfl (.tmp 26) (.tmp 28) rfl w.heap.size u3 pre.length wi.heap.size 1 1 (pre.map ft) [ft c] (by simp[Act.eval]) a2.out (by simp[Act.eval]) rfl b7.out (by simp[ft,Value.oneCell']) (by decide) b5.out b4.out b6.out ?_;intro v' w5 p1 p2 p3;have HK:=Qa p1;have HG:=Qa p2;have HD:=Qa p3;clear p1 p2 p3);have hfin:Ga s cs w.heap.size w rest.length v' w5:=by
     refine⟨pre ++ [c],rest,p+ (bG c).length,by rw[He.out];simp,rfl,a3.out,?_,by unfold qy;rw[List.length_append,List.map_append];exact HK.out,⟨aL a1.out.b a2.out a1.out.b.size HG.out,Zb a1.out.d HD.out⟩⟩;rw[a7.out];exact aF b0.out HG.out (fun e=>by
      obtain⟨_,cur,hg⟩:=al a2.out e;rw[b0.out] at hg
      cases hg)
    rw[<-a7.out];go_roundg (rest.length)
    case measure=>have:=Hgk.out;omega
    case rel=>exact hfin
   ·have c3:(c==65533)=false:=by simpa using hf
    clear a4;go_wp2_with (at_builtin;refine il lM rfl (.tmp 26) (.tmp 28) rfl w.heap.size u3 pre.length wi.heap.size 1 1 (pre.map ft) [ft c] (by simp[Act.eval]) a2.out (by simp[Act.eval]) rfl b7.out (by simp[ft,Value.oneCell']) (by decide) b5.out b4.out b6.out ?_;intro v' w5 p1 p2 p3;have HK:=Qa p1;have HG:=Qa p2;have HD:=Qa p3;clear p1 p2 p3);have hfin:Ga s cs w.heap.size w rest.length v' w5:=by
     refine⟨pre ++ [c],rest,p+ (bG c).length,by rw[He.out];simp,rfl,a3.out,?_,by unfold qy;rw[List.length_append,List.map_append];exact HK.out,⟨aL a1.out.b a2.out a1.out.b.size HG.out,Zb a1.out.d HD.out⟩⟩;rw[a7.out];exact aF b0.out HG.out (fun e=>by
      obtain⟨_,cur,hg⟩:=al a2.out e;rw[b0.out] at hg
      cases hg)
    rw[<-a7.out];go_roundg (rest.length)
    case measure=>have:=Hgk.out;omega
    case rel=>exact hfin
