import Derived.Test.YtohibglohlfjfaaGreatDoorGZ6af
set_option linter.unusedVariables false
set_option linter.unusedSimpArgs false
set_option maxHeartbeats 64000000
set_option maxRecDepth 100000
namespace Go.Proofs.YtohibglohlfjfaaGreatDoor
open Go.RowKit
variable {cs:Array Value}{l xs:List UInt8}{v:Value}{w:World}
def fo (l:List UInt8):Prop:= ∃cs:List Int,(∀c∈cs,dF c=true)/\l=cs.flatMap bE
theorem fo.nil:fo []:=⟨[],by simp,rfl⟩
theorem fo.snoc {c:Int}(h:fo l)(hc:dF c=true):fo (l++bE c):=by
 obtain⟨cs,h1,rfl⟩:=h;refine⟨cs ++ [c],fun d hd=>?_,by simp⟩;rcases List.mem_append.1 hd with h|h
 ·exact h1 d h
 ·rw[List.mem_singleton] at h;rw[h];exact hc
def G9 (len k:Nat)(w:World)(e:Ending)(w':World):Prop:= ∃ (v:Value) (n:Nat) (c:Int) (u:Value),e =.returned (.tuple #[v,.int .i64 n,u])/\dE w' c u/\Below w.heap.size w w'/\(∃A q r,v =.slice A q r)/\
 (c=0->∃d:Int,dF d=true/\Bs w' v (bE d)/\1<=n/\k+n<=len/\(bE d).length<=n)
theorem qQ {b:Nat}(hh:w.heap[b]?=some (.cells #[.int .i64 0,.int .i64 0,.int .i64 0,.slice none 0 0] 62 (0,0)))(hv:Bs w v xs):Bs (w.setRow b cs) v xs:=by
 obtain⟨hm,A,c,e,hc,a0⟩:=hv;refine⟨hm,A,c,e,hc,fun h0=>?_⟩;obtain⟨g,o,rfl,a1⟩:=a0 h0;refine⟨g,o,rfl,fun i hi=>(ah w b cs).cell (a1 i hi) (fun e=>?_)⟩;injection e with e
 have e:g=b:=e;subst e;have h1:=a1 i hi;unfold World.cell? at h1;simp only[hh] at h1;generalize o+i=j at h1;rcases(by omega:j=0\/j=1\/j=2\/j=3\/4<=j) with rfl|rfl|rfl|rfl|hj
 ·simp at h1
 ·simp at h1
 ·simp at h1
 ·simp at h1
 ·rw[Array.getElem?_eq_none (by simpa using hj)] at h1;cases h1
theorem Bg (hb:Bs w v xs)(hl:xs.length<=1000000)(k:Nat)(hk:k<xs.length){a:Int}(ha:a=k):Calls Tryz.prog 184 #[v,.int .i64 a] w (G9 xs.length k w):=by
 subst ha;obtain⟨hm,A,cap,rfl,e4,b4⟩:=id hb;obtain⟨b,o,rfl,d9⟩:=b4 (by omega);have c9:=Qa hb;have a7:=Qa (Zf w (.cells #[.int .i64 0,.int .i64 0,.int .i64 0,.slice none 0 0] 62));have Hb:=Qa (ac w (.cells #[.int .i64 0,.int .i64 0,.int .i64 0,.slice none 0 0] 62));have c1:=Zg Hb.out (d9 k hk);have f0:=aI xs k;obtain⟨X,hX,f9,f8⟩:∃X:Int,(am xs k:Int)=X/\0<=X/\X<256:=⟨_,rfl,by omega,by omega⟩;rw[hX] at c1;have hki:(k:Int)<xs.length:=by omega
 clear hb b4 d9 f0;have HX:=Qa hX;clear hX;go_enter Tryz.func184,Tryz.ntmps184
 by_cases e1:X<32
 ·go_wp2_with fail;generalize (w.alloc (.cells #[.int .i64 0,.int .i64 0,.int .i64 0,.slice none 0 0] 62))=w0 at *;refine(aJ 104 k w0).mono ?_;rintro e wz ⟨u,rfl,hu,a9⟩;obtain⟨fh,fl,fA,fq,fr,rfl,Hh,H1,H2⟩:=bg hu a9 a7.out Hb.out (Zb _);clear hu a9;go_wp2_with (refine bF Hh.out ?_);exact Zh (aM Tryz.results184 _ _ _ _ _ _ _ _ (0,0) (by simp) (setRow_heap _ _ _ _ _ _ Hh.out)) rfl ⟨_,0,104,_,rfl,H2.out,H1.out,⟨_,_,_,rfl⟩,fun h=>by cases h⟩
 by_cases e2:X=92
 ·subst e2;go_wp2_with fail;generalize (w.alloc (.cells #[.int .i64 0,.int .i64 0,.int .i64 0,.slice none 0 0] 62))=w0 at *;refine(xg (c9.out.below Hb.out) hl k hk rfl).mono ?_;rintro e w1 ⟨y,n,c,u,rfl,⟨fh,fl,fs,rfl,c8⟩,b1,hy⟩;obtain⟨fA,fq,fr,rfl,-⟩:=c8.slice;rw[show dA c fh fl (.slice fA fq fr) =.agg #[.int .i64 c,.int .i64 fh,.int .i64 fl,.slice fA fq fr] from rfl];have c5:=ac w1 (.cells #[.int .i64 c,.int .i64 fh,.int .i64 fl,.slice fA fq fr] 62);have c0:=ap w1 [.int .i64 c,.int .i64 fh,.int .i64 fl,.slice fA fq fr] 62;have d0:=c0 0 _ rfl;have d1:=c0 1 _ rfl;have d2:=c0 2 _ rfl;have d3:=c0 3 _ rfl;have Hu:=Qa (show dE (w1.alloc (.cells #[.int .i64 c,.int .i64 fh,.int .i64 fl,.slice fA fq fr] 62)) c (dA c fh fl (.slice fA fq fr)) from⟨fh,fl,_,rfl,c8.below c5⟩);have b9:=Qa (Hb.out.trans ((b1.trans (c5.mono b1.size)).mono Hb.out.size));have a6:=Qa ((c5.block _ (Nat.lt_of_lt_of_le (ae a7.out) b1.size)).trans ((b1.block _ (ae a7.out)).trans a7.out));have Hy:=Qa hy;have b2:w.heap.size<w1.heap.size:=Nat.lt_of_lt_of_le (ae a7.out) b1.size;clear hy c0 c5 b1 c8
  by_cases hc:c=0
  ·subst hc;have hr:=(Hy.out rfl).1;have e8:=(Hy.out rfl).2;have Hr:=Qa hr;clear hr;go_wp2_with fail;have a3:(w1.alloc (.cells #[.int .i64 0,.int .i64 fh,.int .i64 fl,.slice fA fq fr] 62)).cell? ⟨w1.heap.size,0,none⟩=some (.int .i64 0)/\(w1.alloc (.cells #[.int .i64 0,.int .i64 fh,.int .i64 fl,.slice fA fq fr] 62)).cell? ⟨w1.heap.size,1,none⟩=some (.int .i64 fh)/\(w1.alloc (.cells #[.int .i64 0,.int .i64 fh,.int .i64 fl,.slice fA fq fr] 62)).cell? ⟨w1.heap.size,2,none⟩=some (.int .i64 fl)/\(w1.alloc (.cells #[.int .i64 0,.int .i64 fh,.int .i64 fl,.slice fA fq fr] 62)).cell? ⟨w1.heap.size,3,none⟩=some (.slice fA fq fr):=⟨d0,d1,d2,d3⟩;have a0:=Qa a3;generalize hw2:(w1.alloc (.cells #[.int .i64 0,.int .i64 fh,.int .i64 fl,.slice fA fq fr] 62))=w2 at *;have g0:w1.heap.size<w2.heap.size:=by rw[<-hw2];simp
   clear hw2 a3 d0 d1 d2 d3;refine aA (fun w'=>w'.cell? ⟨w1.heap.size,0,none⟩=some (.int .i64 0)/\w'.cell? ⟨w1.heap.size,1,none⟩=some (.int .i64 fh)/\w'.cell? ⟨w1.heap.size,2,none⟩=some (.int .i64 fl)/\w'.cell? ⟨w1.heap.size,3,none⟩=some (.slice fA fq fr)) (a0.out) fun a2=>?_
   refine tH 0 a2 ?_;refine tH 2 a2 ?_;refine tH 3 a2 ?_
   try simp only[Act.put,jP,jQ,jR]
   refine rH 1 fun K hK=>?_
   go_simp;refine(lW (w:=w2.drew) y Hr.out).mono ?_;rintro e w5 ⟨vf,rfl,c4,c7⟩;obtain⟨f3,fA5,fc5,rfl,f5,-⟩:=id c7;have a4:Below w2.heap.size w2 w5:=(Ze w2.heap.size w2).drew.trans c4;have d5:w5.cell? ⟨w1.heap.size,0,none⟩=some (.int .i64 0)/\w5.cell? ⟨w1.heap.size,1,none⟩=some (.int .i64 fh)/\w5.cell? ⟨w1.heap.size,2,none⟩=some (.int .i64 fl)/\w5.cell? ⟨w1.heap.size,3,none⟩=some (.slice fA fq fr):=⟨Zg a4 a0.out.1,Zg a4 a0.out.2.1,Zg a4 a0.out.2.2.1,Zg a4 a0.out.2.2.2⟩;have c3:=Qa d5;have e5:=Qa c7;have b7:=Qa a4;have a1:=Qa ((a4.block _ (ae a6.out)).trans a6.out);clear c4 c7 a4 d5 f5 f3;go_wp2_with fail;refine hK.out _ _ (c3.out) (fun a2=>?_);clear hK K
   try simp only[Act.put,jP,jQ,jR]
   refine tH 4 a2 ?_;refine tH 5 a2 ?_
   try simp only[Act.put,jP,jQ,jR]
   refine rH 6 fun K hK=>?_
   refine bM a1.out ?_;refine hK.out _ _ (⟨(ah _ _ _).cell c3.out.1 (fun e=>by injection e with e;exact Nat.ne_of_gt b2 e),(ah _ _ _).cell c3.out.2.1 (fun e=>by injection e with e;exact Nat.ne_of_gt b2 e),(ah _ _ _).cell c3.out.2.2.1 (fun e=>by injection e with e;exact Nat.ne_of_gt b2 e),(ah _ _ _).cell c3.out.2.2.2 (fun e=>by injection e with e;exact Nat.ne_of_gt b2 e)⟩) (fun a2=>?_);clear hK K
   try simp only[Act.put,jP,jQ,jR]
   refine wpAnyH_done (by kernel_rfl) (NoPanic.normal ?_) _;go_wp2_with fail;have d4:Below w.heap.size w (w5.setRow w.heap.size #[.int .i64 0,.int .i64 fh,.int .i64 fl,.slice fA fq fr]):=(b9.out.trans (b7.out.mono b9.out.size)).grown (ah ..) (Zc b9.out.size b7.out.size) (fun g e=>by cases e;exact Zb _);obtain⟨gh,gl',gA,gq,gr,b0,h1,h2⟩:=bH (Hu.out.below b7.out) a1.out;injection b0 with b0
   obtain⟨rfl,rfl,b0⟩:fh=gh/\fl=gl'/\Value.slice fA fq fr=Value.slice gA gq gr:=by simpa using b0
   obtain⟨rfl,rfl,rfl⟩:fA=gA/\fq=gq/\fr=gr:=by simpa using b0
   exact Zh (aM Tryz.results184 _ _ _ _ _ _ _ _ (0,0) (by simp) (setRow_heap _ _ _ _ _ _ a1.out)) rfl ⟨_,n,0,_,rfl,h2,d4,⟨_,_,_,rfl⟩,fun _=>⟨y,Hr.out,qQ a1.out e5.out,by omega,by omega,e8.2.2⟩⟩
  ·have g2:(c !=0)=true:=by simpa using hc
   have Hc:=Qa hc;clear hc;go_wp2_with fail;generalize (w1.alloc (.cells #[.int .i64 c,.int .i64 fh,.int .i64 fl,.slice fA fq fr] 62))=w2 at *;obtain⟨gh,gl',gA,gq,gr,b0,h1,h2⟩:=bH (w:=w2.drew) Hu.out a6.out;injection b0 with b0
   obtain⟨rfl,rfl,b0⟩:fh=gh/\fl=gl'/\Value.slice fA fq fr=Value.slice gA gq gr:=by simpa using b0
   obtain⟨rfl,rfl,rfl⟩:fA=gA/\fq=gq/\fr=gr:=by simpa using b0
   have H1:=Qa ((b9.out.drew).grown h1 b9.out.size (fun g e=>by cases e;exact Zb _));have H2:=Qa h2;have hne:some (w1.heap.size)≠some (w.heap.size):=fun e=>by injection e with e;exact(Nat.ne_of_gt b2) e
   have a3:w2.drew.cell? ⟨w1.heap.size,0,none⟩=some (.int .i64 c)/\w2.drew.cell? ⟨w1.heap.size,1,none⟩=some (.int .i64 fh)/\w2.drew.cell? ⟨w1.heap.size,2,none⟩=some (.int .i64 fl)/\w2.drew.cell? ⟨w1.heap.size,3,none⟩=some (.slice fA fq fr):=⟨d0,d1,d2,d3⟩;have b6:(w2.drew.setRow (w.heap.size) #[.int .i64 c,.int .i64 fh,.int .i64 fl,.slice fA fq fr]).cell? ⟨w1.heap.size,0,none⟩=some (.int .i64 c)/\(w2.drew.setRow (w.heap.size) #[.int .i64 c,.int .i64 fh,.int .i64 fl,.slice fA fq fr]).cell? ⟨w1.heap.size,1,none⟩=some (.int .i64 fh)/\(w2.drew.setRow (w.heap.size) #[.int .i64 c,.int .i64 fh,.int .i64 fl,.slice fA fq fr]).cell? ⟨w1.heap.size,2,none⟩=some (.int .i64 fl)/\(w2.drew.setRow (w.heap.size) #[.int .i64 c,.int .i64 fh,.int .i64 fl,.slice fA fq fr]).cell? ⟨w1.heap.size,3,none⟩=some (.slice fA fq fr):=⟨(ah _ _ _).cell d0 hne,(ah _ _ _).cell d1 hne,(ah _ _ _).cell d2 hne,(ah _ _ _).cell d3 hne⟩;have a0:=Qa a3;have c2:=Qa b6;clear h1 h2 b0 a3 b6 hne d0 d1 d2 d3;refine aA (fun w'=>w'.cell? ⟨w1.heap.size,0,none⟩=some (.int .i64 c)/\w'.cell? ⟨w1.heap.size,1,none⟩=some (.int .i64 fh)/\w'.cell? ⟨w1.heap.size,2,none⟩=some (.int .i64 fl)/\w'.cell? ⟨w1.heap.size,3,none⟩=some (.slice fA fq fr)) (a0.out) fun a2=>?_
   refine tH 0 a2 ?_;refine tH 1 a2 ?_;refine tH 2 a2 ?_
   try simp only[Act.put,jP,jQ,jR]
   refine rH 3 fun K hK=>?_
   refine bM a6.out ?_;refine hK.out _ _ (c2.out) (fun a2=>?_);clear hK K
   try simp only[Act.put,jP,jQ,jR]
   refine wpAnyH_done (by kernel_rfl) (NoPanic.normal ?_) _;go_wp2_with fail;exact Zh (aM Tryz.results184 _ _ _ _ _ _ _ _ (0,0) (by simp) (setRow_heap _ _ _ _ _ _ a6.out)) rfl ⟨_,0,c,_,rfl,H2.out,H1.out,⟨_,_,_,rfl⟩,fun h=>absurd h Hc.out⟩
 have e2':(X==92)=false:=by simpa using e2
 have g1:¬cap=k:=by omega
 go_wp2_with fail;generalize (w.alloc (.cells #[.int .i64 0,.int .i64 0,.int .i64 0,.slice none 0 0] 62))=w0 at *;have hcut:=c9.out.cut (Zj hk);refine(oK (hcut.below Hb.out)).mono ?_;rintro e w1 ⟨⟨code,rfl,b5⟩,b1⟩;have a5:=Qa ((b1.block _ (ae a7.out)).trans a7.out);have b3:=Qa (Hb.out.trans (b1.mono Hb.out.size));have b8:=Qa b5;have e3:=Qa (c9.out.below (Hb.out.trans (b1.mono Hb.out.size)));have hle:=fM xs k (Zj hk);clear b1 b5 hcut
 by_cases q1:code=103
 ·subst q1;go_wp2_with fail;refine(aJ 103 xs.length w1).mono ?_;rintro e wz ⟨u,rfl,hu,a9⟩;have Hh:=Qa ((a9.block _ (ae a5.out)).trans a5.out);obtain⟨fh,fl,fA,fq,fr,rfl,h1,h2⟩:=bH hu Hh.out;have H1:=Qa ((b3.out.trans (a9.mono b3.out.size)).grown h1 (Zc b3.out.size a9.size) (fun g e=>by cases e;exact Zb _));have H2:=Qa h2;have Hg:=Qa h1;have f6:=Qa a9;clear h1 h2 hu a9;go_wp2_with (refine bF Hh.out ?_);exact Zh (aM Tryz.results184 _ _ _ _ _ _ _ _ (0,0) (by simp) (setRow_heap _ _ _ _ _ _ Hh.out)) rfl ⟨_,0,103,_,rfl,H2.out,H1.out,⟨_,_,_,rfl⟩,fun h=>by cases h⟩
 have q1':(code==103)=false:=by simpa using q1
 by_cases q2:code=0
 case neg=>
  have q2':(code !=0)=true:=by simpa using q2
  clear q1 q2;go_wp2_with fail;refine(aJ 101 k w1).mono ?_;rintro e wz ⟨u,rfl,hu,a9⟩;have Hh:=Qa ((a9.block _ (ae a5.out)).trans a5.out);obtain⟨fh,fl,fA,fq,fr,rfl,h1,h2⟩:=bH hu Hh.out;have H1:=Qa ((b3.out.trans (a9.mono b3.out.size)).grown h1 (Zc b3.out.size a9.size) (fun g e=>by cases e;exact Zb _));have H2:=Qa h2;have Hg:=Qa h1;have f6:=Qa a9;clear h1 h2 hu a9;go_wp2_with (refine bF Hh.out ?_);exact Zh (aM Tryz.results184 _ _ _ _ _ _ _ _ (0,0) (by simp) (setRow_heap _ _ _ _ _ _ Hh.out)) rfl ⟨_,0,101,_,rfl,H2.out,H1.out,⟨_,_,_,rfl⟩,fun h=>by cases h⟩
 subst q2;have hz:=b8.out.1 rfl;have hp:=eB hz;obtain⟨hfr,e0⟩:=ju hz;have c6:=Qa hfr;have f2:=Qa e0;obtain⟨rn,d6⟩:∃rn,(bD (xs.drop k)).2.1=rn:=⟨_,rfl⟩;rw[d6] at hle hp c6 ⊢;have e6:(k:Int)+rn<=xs.length:=by omega
 have f4:(k:Int)+rn<=cap:=by omega
 clear q1 q1' hz hfr e0 d6;go_wp2_with fail;have s3:k<=k+rn:=by omega
 have s4:k+rn - k=rn:=by omega
 have s1:IntKind.i64.wrap ((k:Int)+rn)= (k:Int)+rn:=IntWalk.i64_in _ (by omega);have s2:0<=(k:Int)+rn:=by omega
 have s5:((k:Int)+rn).toNat=k+rn:=by omega
 refine aA (fun _=>True) (trivial) fun a2=>?_
 refine tH 0 a2 ?_;refine tH 1 a2 ?_;refine tH 2 a2 ?_;refine tH 3 a2 ?_;refine tH 4 a2 ?_;refine tH 5 a2 ?_
 try simp only[Act.put,jP,jQ,jR]
 refine tH 6 a2 ?_
 try simp only[Act.put,jP,jQ,jR]
 refine rH 7 fun K hK=>?_
 go_simp;refine(eo w1.drew).mono ?_;rintro e w5 ⟨u,rfl,hu,c4⟩;have a4:Below w1.heap.size w1 w5:=(Ze w1.heap.size w1).drew.trans c4;have a1:=Qa ((a4.block _ (ae a5.out)).trans a5.out);obtain⟨fh,fl,fA,fq,fr,rfl,h1,h2⟩:=bH hu a1.out;have H2:=Qa h2;have b7:=Qa a4;clear hu c4 a4 h1 h2;go_wp2_with fail;refine hK.out _ _ (trivial) (fun a2=>?_);clear hK K
 try simp only[Act.put,jP,jQ,jR]
 refine tH 8 a2 ?_;refine tH 9 a2 ?_
 try simp only[Act.put,jP,jQ,jR]
 refine rH 10 fun K hK=>?_
 refine bM a1.out ?_;refine hK.out _ _ (trivial) (fun a2=>?_);clear hK K
 try simp only[Act.put,jP,jQ,jR]
 refine wpAnyH_done (by kernel_rfl) (NoPanic.normal ?_) _;go_wp2_with fail;have f1:Bs w5 (.slice (some ⟨b,o+k,none⟩) rn (cap - k)) (bE ((bD (xs.drop k)).1:Nat)):=by
  have h:=((e3.out.below b7.out).cut (Zj hk)).upto (k:=rn) (by rw[List.length_drop];omega);rw[c6.out];exact h
 have d4:Below w.heap.size w (w5.setRow w.heap.size #[.int .i64 0,.int .i64 fh,.int .i64 fl,.slice fA fq fr]):=(b3.out.trans (b7.out.mono b3.out.size)).grown (ah ..) (Zc b3.out.size b7.out.size) (fun g e=>by cases e;exact Zb _);exact Zh (aM Tryz.results184 _ _ _ _ _ _ _ _ (0,0) (by simp) (setRow_heap _ _ _ _ _ _ a1.out)) rfl ⟨_,rn,0,_,rfl,H2.out,d4,⟨_,_,_,rfl⟩,fun _=>⟨_,f2.out,qQ a1.out f1,hp,hle,by rw[c6.out,List.length_take];exact Nat.min_le_left _ _⟩⟩
def J2 (len:Nat)(w:World)(e:Ending)(w':World):Prop:= ∃ (s:ByteArray) (n:Nat) (c:Int) (u:Value),e =.returned (.tuple #[.string s,.int .i64 n,u])/\dE w' c u/\Below w.heap.size w w'/\(c=0->fo s.data.toList/\s.size<=len/\2<=n/\n<=len)
def Gj (w0:World)(len:Nat)(s5 s6:Value)(wr:World):Prop:= ∃ (k:Nat) (ys:List UInt8),1<=k/\k<=len/\s6 =.int .i64 k/\aq wr w0.heap.size s5 ys/\fo ys/\ys.length<=k/\Below w0.heap.size w0 wr
theorem tK (hb:Bs w v xs)(hl:xs.length<=1000000):Calls Tryz.prog 152 #[v] w (J2 xs.length w):=by
 obtain⟨hm,A,cap,rfl,e8,b1⟩:=id hb;have f1:=Qa hb;have b8:=Qa b1;have a7:=Qa (Zf w (.cells #[.int .i64 0,.int .i64 0,.int .i64 0,.slice none 0 0] 62));have Hb:=Qa (ac w (.cells #[.int .i64 0,.int .i64 0,.int .i64 0,.slice none 0 0] 62));have Hz:=Qa (show(w.alloc (.cells #[.int .i64 0,.int .i64 0,.int .i64 0,.slice none 0 0] 62)).heap.size=w.heap.size+1 by simp);clear hb b1;go_enter Tryz.func152,Tryz.ntmps152
 by_cases e0:xs.length=0
 ·have e0':((xs.length:Int)==0)=true:=by simp[e0]
  clear e0;go_wp2_with fail;generalize (w.alloc (.cells #[.int .i64 0,.int .i64 0,.int .i64 0,.slice none 0 0] 62))=w0 at *;refine(aJ 102 0 w0).mono ?_;rintro e wz ⟨u,rfl,hu,a3⟩;obtain⟨fh,fl,fA,fq,fr,rfl,Hh,H1,H2⟩:=bg hu a3 a7.out Hb.out (Zb _);clear hu a3;go_wp2_with (refine bF Hh.out ?_);exact Zh (aM Tryz.results152 _ _ _ _ _ _ _ _ (0,0) (by simp) (setRow_heap _ _ _ _ _ _ Hh.out)) rfl ⟨_,0,102,_,rfl,H2.out,H1.out,fun h=>by cases h⟩
 have e0':((xs.length:Int)==0)=false:=by simpa using e0
 obtain⟨b,o,rfl,c6⟩:=b8.out (by omega);have c0:=Zg Hb.out (c6 0 (by omega));rw[Nat.add_zero] at c0;have f5:(0:Int)<xs.length:=by omega
 have g7:0<xs.length:=by omega
 have f2:=Qa (fun i hi=>Zg Hb.out (c6 i hi));clear c6
 by_cases e1:am xs 0=34
 case neg=>
  have e1':((am xs 0:Int) !=34)=true:=by simp;omega
  clear e1;go_wp2_with fail;generalize (w.alloc (.cells #[.int .i64 0,.int .i64 0,.int .i64 0,.slice none 0 0] 62))=w0 at *;refine(aJ 102 0 w0).mono ?_;rintro e wz ⟨u,rfl,hu,a3⟩;obtain⟨fh,fl,fA,fq,fr,rfl,Hh,H1,H2⟩:=bg hu a3 a7.out Hb.out (Zb _);clear hu a3;go_wp2_with (refine bF Hh.out ?_);exact Zh (aM Tryz.results152 _ _ _ _ _ _ _ _ (0,0) (by simp) (setRow_heap _ _ _ _ _ _ Hh.out)) rfl ⟨_,0,102,_,rfl,H2.out,H1.out,fun h=>by cases h⟩
 have e1':((am xs 0:Int) !=34)=false:=by simp[e1]
 clear e1;go_wp2_with fail;generalize (w.alloc (.cells #[.int .i64 0,.int .i64 0,.int .i64 0,.slice none 0 0] 62))=w0 at *
 go_loopw [5,6] (Gj w0 xs.length) (fun _ i _=>xs.length - (intOf i).toNat)
 case atStart=>exact⟨1, [],by omega,by omega,rfl,aq.nil _ _,fo.nil,by simp,Ze _ _⟩
 case round=>
  obtain⟨k,ys,g6,g3,rfl,ho,c4,g4,b3⟩:=hrel;have Ho:=Qa ho;have d9:=Qa c4;have f0:=Qa b3;have c3:=b3.size;have a0:=Qa ((b3.block _ (ae a7.out)).trans a7.out);have a6:=Qa (Hb.out.trans (b3.mono Hb.out.size))
  by_cases hlt:k<xs.length
  case neg=>
   have hki:¬ (k:Int)<xs.length:=by omega
   clear ho c4 b3;go_wp2_with fail;refine(aJ 103 xs.length wr).mono ?_;rintro e wz ⟨u,rfl,hu,a3⟩;have Hh:=Qa ((a3.block _ (ae a0.out)).trans a0.out);obtain⟨fh,fl,fA,fq,fr,rfl,h1,h2⟩:=bH hu Hh.out;have H1:=Qa ((a6.out.trans (a3.mono a6.out.size)).grown h1 (Zc a6.out.size a3.size) (fun g e=>by cases e;exact Zb _));have H2:=Qa h2;have Hg:=Qa h1;have g8:=Qa a3;clear h1 h2 hu a3;go_wp2_with (refine bF Hh.out ?_);exact Zh (aM Tryz.results152 _ _ _ _ _ _ _ _ (0,0) (by simp) (setRow_heap _ _ _ _ _ _ Hh.out)) rfl ⟨_,0,103,_,rfl,H2.out,H1.out,fun h=>by cases h⟩
  have hki:(k:Int)<xs.length:=by omega
  have ck:=Zg b3 (f2.out k hlt);obtain⟨X,hX,g2,g1⟩:∃X:Int,(am xs k:Int)=X/\0<=X/\X<256:=⟨_,rfl,by omega,by have:=aI xs k;omega⟩;rw[hX] at ck;clear hX ho c4 b3
  by_cases e2:X=34
  ·subst e2;have hq:=aO Ho.out.bs;have Hq:=Qa (show ∀W:World,Below wr.heap.size wr W->(convert 22 9 u5).run Tryz.prog W =.ok (.string ⟨ys.toArray⟩) W from fun W hW=>aO (Ho.out.bs.below hW));have c9:=Hq.out wr.drew ((Ze wr.heap.size wr).drew);have e5:=Qa c9;have s1:IntKind.i64.wrap ((k:Int)+1)= (k:Int)+1:=IntWalk.i64_in _ (by omega);clear hq c9;go_wp2_with fail;refine aA (fun w'=>(convert 22 9 u5).run Tryz.prog w' =.ok (.string ⟨ys.toArray⟩) w') (e5.out) fun a2=>?_
   refine tH 0 a2 ?_;refine tH 1 a2 ?_;refine tH 2 a2 ?_;refine tH 3 a2 ?_
   try simp only[Act.put,jP,jQ,jR]
   refine rH 4 fun K hK=>?_
   go_simp;refine(eo wr.drew).mono ?_;rintro e w5 ⟨u,rfl,hu,e3⟩;have a9:Below wr.heap.size wr w5:=(Ze wr.heap.size wr).drew.trans e3;have a1:=Qa ((a9.block _ (ae a0.out)).trans a0.out);obtain⟨fh,fl,fA,fq,fr,rfl,h1,h2⟩:=bH hu a1.out;have H2:=Qa h2;have c5:=Qa a9;have e6:=Qa (Hq.out w5 a9);clear hu e3 a9 h1 h2;go_wp2_with fail;refine hK.out _ _ (e6.out) (fun a2=>?_);clear hK K
   try simp only[Act.put,jP,jQ,jR]
   refine tH 5 a2 ?_;refine tH 6 a2 ?_
   try simp only[Act.put,jP,jQ,jR]
   refine rH 7 fun K hK=>?_
   refine bM a1.out ?_;refine hK.out _ _ (aO (qQ a1.out (Ho.out.bs.below c5.out))) (fun a2=>?_);clear hK K
   try simp only[Act.put,jP,jQ,jR]
   refine wpAnyH_done (by kernel_rfl) (NoPanic.normal ?_) _;go_wp2_with fail;have f4:Below w.heap.size w (w5.setRow w.heap.size #[.int .i64 0,.int .i64 fh,.int .i64 fl,.slice fA fq fr]):=(a6.out.trans (c5.out.mono a6.out.size)).grown (ah ..) (Zc a6.out.size c5.out.size) (fun g e=>by cases e;exact Zb _);exact Zh (aM Tryz.results152 _ _ _ _ _ _ _ _ (0,0) (by simp) (setRow_heap _ _ _ _ _ _ a1.out)) rfl ⟨_,k+1,0,_,by go_num,H2.out,f4,fun _=>⟨by simpa using d9.out,by simp[ByteArray.size];omega,by omega,by omega⟩⟩
  have e2':(X==34)=false:=by simpa using e2
  clear e2;go_wp2_with fail;refine(Bg (f1.out.below a6.out) hl k hlt rfl).mono ?_;rintro e w1 ⟨pv,n,c,u,rfl,⟨fh,fl,fs,rfl,c7⟩,b6,⟨pA,pq,pr,rfl⟩,hy⟩;obtain⟨fA,fq,fr,rfl,-⟩:=c7.slice;rw[show dA c fh fl (.slice fA fq fr) =.agg #[.int .i64 c,.int .i64 fh,.int .i64 fl,.slice fA fq fr] from rfl];have c2:=ac w1 (.cells #[.int .i64 c,.int .i64 fh,.int .i64 fl,.slice fA fq fr] 62);have b9:=ap w1 [.int .i64 c,.int .i64 fh,.int .i64 fl,.slice fA fq fr] 62;have d0:=b9 0 _ rfl;have d1:=b9 1 _ rfl;have d2:=b9 2 _ rfl;have d3:=b9 3 _ rfl;have Hu:=Qa (show dE (w1.alloc (.cells #[.int .i64 c,.int .i64 fh,.int .i64 fl,.slice fA fq fr] 62)) c (dA c fh fl (.slice fA fq fr)) from⟨fh,fl,_,rfl,c7.below c2⟩);have b5:=b6.trans (c2.mono b6.size);have b0:=Qa b5;have d5:=Qa (a6.out.trans (b5.mono a6.out.size));have a5:=Qa ((c2.block _ (Nat.lt_of_lt_of_le (ae a0.out) b6.size)).trans ((b6.block _ (ae a0.out)).trans a0.out));have Hy:=Qa (show c=0->∃d:Int,dF d=true/\Bs (w1.alloc (.cells #[.int .i64 c,.int .i64 fh,.int .i64 fl,.slice fA fq fr] 62)) (.slice pA pq pr) (bE d)/\1<=n/\k+n<=xs.length/\(bE d).length<=n from fun h=>by obtain⟨d,h1,h2,h3⟩:=hy h;exact⟨d,h1,h2.below c2,h3⟩);have c8:w.heap.size<w1.heap.size:=Nat.lt_of_lt_of_le (ae a0.out) b6.size;clear hy b9 c2 b6 c7 b5
  by_cases hc:c=0
  ·obtain⟨d,d6,d4,f9,f6,f8⟩:=Hy.out hc;subst hc;have e4:=Qa d6;have f3:=Qa d4;have g0:=fV d;have g5:(k:Int)+n<=xs.length:=by omega
   clear d6 d4 d1 d2 d3;go_wp2_with (at_builtin;refine pR (Ho.out.below b0.out (Zb _)) f3.out (by omega) (by have:=b0.out.size;omega) ?_;intro v' w3 h1 h2 h3;have HK:=Qa h1;have HG:=Qa h2;clear h1 h2 h3);have a3:Below w0.heap.size w0 w3:=(f0.out.trans (b0.out.mono c3)).grown HG.out (Zc c3 b0.out.size) (fun g e=>(aj Ho.out e).1);exact⟨⟨k+n,ys++bE d,by omega,by omega,by go_num,HK.out,d9.out.snoc e4.out,by rw[List.length_append];omega,a3⟩,by simp[intOf];omega⟩
  ·have g9:(c !=0)=true:=by simpa using hc
   have Hc:=Qa hc;clear hc;go_wp2_with fail;generalize (w1.alloc (.cells #[.int .i64 c,.int .i64 fh,.int .i64 fl,.slice fA fq fr] 62))=w2 at *;obtain⟨gh,gl',gA,gq,gr,b7,h1,h2⟩:=bH (w:=w2.drew) Hu.out a5.out;injection b7 with b7
   obtain⟨rfl,rfl,b7⟩:fh=gh/\fl=gl'/\Value.slice fA fq fr=Value.slice gA gq gr:=by simpa using b7
   obtain⟨rfl,rfl,rfl⟩:fA=gA/\fq=gq/\fr=gr:=by simpa using b7
   have H1:=Qa ((d5.out.drew).grown h1 d5.out.size (fun g e=>by cases e;exact Zb _));have H2:=Qa h2;have hne:some (w1.heap.size)≠some (w.heap.size):=fun e=>by injection e with e;exact(Nat.ne_of_gt c8) e
   have a4:w2.drew.cell? ⟨w1.heap.size,0,none⟩=some (.int .i64 c)/\w2.drew.cell? ⟨w1.heap.size,1,none⟩=some (.int .i64 fh)/\w2.drew.cell? ⟨w1.heap.size,2,none⟩=some (.int .i64 fl)/\w2.drew.cell? ⟨w1.heap.size,3,none⟩=some (.slice fA fq fr):=⟨d0,d1,d2,d3⟩;have b2:(w2.drew.setRow (w.heap.size) #[.int .i64 c,.int .i64 fh,.int .i64 fl,.slice fA fq fr]).cell? ⟨w1.heap.size,0,none⟩=some (.int .i64 c)/\(w2.drew.setRow (w.heap.size) #[.int .i64 c,.int .i64 fh,.int .i64 fl,.slice fA fq fr]).cell? ⟨w1.heap.size,1,none⟩=some (.int .i64 fh)/\(w2.drew.setRow (w.heap.size) #[.int .i64 c,.int .i64 fh,.int .i64 fl,.slice fA fq fr]).cell? ⟨w1.heap.size,2,none⟩=some (.int .i64 fl)/\(w2.drew.setRow (w.heap.size) #[.int .i64 c,.int .i64 fh,.int .i64 fl,.slice fA fq fr]).cell? ⟨w1.heap.size,3,none⟩=some (.slice fA fq fr):=⟨(ah _ _ _).cell d0 hne,(ah _ _ _).cell d1 hne,(ah _ _ _).cell d2 hne,(ah _ _ _).cell d3 hne⟩;have b4:=Qa a4;have c1:=Qa b2;clear h1 h2 b7 a4 b2 hne d0 d1 d2 d3;refine aA (fun w'=>w'.cell? ⟨w1.heap.size,0,none⟩=some (.int .i64 c)/\w'.cell? ⟨w1.heap.size,1,none⟩=some (.int .i64 fh)/\w'.cell? ⟨w1.heap.size,2,none⟩=some (.int .i64 fl)/\w'.cell? ⟨w1.heap.size,3,none⟩=some (.slice fA fq fr)) (b4.out) fun a2=>?_
   refine tH 0 a2 ?_;refine tH 1 a2 ?_;refine tH 2 a2 ?_
   try simp only[Act.put,jP,jQ,jR]
   refine rH 3 fun K hK=>?_
   refine bM a5.out ?_;refine hK.out _ _ (c1.out) (fun a2=>?_);clear hK K
   try simp only[Act.put,jP,jQ,jR]
   refine wpAnyH_done (by kernel_rfl) (NoPanic.normal ?_) _;go_wp2_with fail;exact Zh (aM Tryz.results152 _ _ _ _ _ _ _ _ (0,0) (by simp) (setRow_heap _ _ _ _ _ _ a5.out)) rfl ⟨_,0,c,_,rfl,H2.out,H1.out,fun h=>absurd h Hc.out⟩
