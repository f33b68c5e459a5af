import Derived.Test.YthknekoamnnhhaaGreatDoorGZ5ac
import Derived.Deep.CutBlock
set_option linter.unusedVariables false
set_option linter.unusedSimpArgs false
set_option maxHeartbeats 64000000
set_option maxRecDepth 100000
namespace Go.Proofs.YthknekoamnnhhaaGreatDoor
open Go.RowKit
variable {D cs:Array Value}{d:Dc}{c0:Int}{l xs:List UInt8}{bf i p q:Nat}{u v y1 y2 y3:Value}{w w0:World}
def fM (l:List UInt8):Prop:= ∃cs:List Int,(∀c∈cs,dO c=true)/\l=cs.flatMap bG
theorem fM.nil:fM []:=⟨[],by simp,rfl⟩
theorem fM.snoc {c:Int}(h:fM l)(hc:dO c=true):fM (l++bG c):=by
 obtain⟨cs,h1,rfl⟩:=h;refine⟨cs ++ [c],fun d hd=>?_,by simp⟩;rcases List.mem_append.1 hd with h|h
 ·exact h1 d h
 ·rw[List.mem_singleton] at h;rw[h];exact hc
def GY (len k:Nat)(w:World)(e:Ending)(w':World):Prop:= ∃ (v:Value) (n:Nat) (c:Int) (u:Value),e =.returned (.tuple #[v,.int .i64 n,u])/\dQ w' c u/\Below w.heap.size w w'/\(∃A q r,v =.slice A q r)/\
 (c=0->∃d:Int,dO d=true/\Bs w' v (bG d)/\1<=n/\k+n<=len/\(bG d).length<=n)
theorem sy {b:Nat}(hh:w.heap[b]?=some (.cells #[.int .i64 0,.int .i64 0,.int .i64 0,.slice none 0 0] 70 (0,0)))(hv:Bs w v xs):Bs (w.setRow b cs) v xs:=by
 obtain⟨hm,A,c,e,hc,a0⟩:=hv;refine⟨hm,A,c,e,hc,fun h0=>?_⟩;obtain⟨g,o,rfl,a1⟩:=a0 h0;refine⟨g,o,rfl,fun i hi=>(ai w b cs).cell (a1 i hi) (fun e=>?_)⟩;injection e with e
 have e:g=b:=e;subst e;have h1:=a1 i hi;unfold World.cell? at h1;simp only[hh] at h1;generalize o+i=j at h1;rcases(by omega:j=0\/j=1\/j=2\/j=3\/4<=j) with rfl|rfl|rfl|rfl|hj
 ·simp at h1
 ·simp at h1
 ·simp at h1
 ·simp at h1
 ·rw[Array.getElem?_eq_none (by simpa using hj)] at h1;cases h1
theorem Br (hb:Bs w v xs)(hl:xs.length<=1000000)(k:Nat)(hk:k<xs.length){a:Int}(ha:a=k):Calls Tryz.prog 221 #[v,.int .i64 a] w (GY xs.length k w):=by
 subst ha;obtain⟨hm,A,cap,rfl,f4,b4⟩:=id hb;obtain⟨b,o,rfl,d6⟩:=b4 (by omega);have c9:=Qa hb;have a7:=Qa (Ze w (.cells #[.int .i64 0,.int .i64 0,.int .i64 0,.slice none 0 0] 70));have Hb:=Qa (ac w (.cells #[.int .i64 0,.int .i64 0,.int .i64 0,.slice none 0 0] 70));have c1:=Zf Hb.out (d6 k hk);have f1:=aK xs k;obtain⟨X,hX,f6,f8⟩:∃X:Int,(ap xs k:Int)=X/\0<=X/\X<256:=⟨_,rfl,by omega,by omega⟩;rw[hX] at c1;have hki:(k:Int)<xs.length:=by omega
 clear hb b4 d6 f1;have HX:=Qa hX;clear hX;go_enter Tryz.func221,Tryz.ntmps221
 by_cases e1:X<32
 ·go_wp2_with fail;generalize (w.alloc (.cells #[.int .i64 0,.int .i64 0,.int .i64 0,.slice none 0 0] 70))=w0 at *;refine(aM 104 k w0).mono ?_;rintro e wz ⟨u,rfl,hu,a9⟩;obtain⟨fh,fl,fA,fq,fr,rfl,Hh,H1,H2⟩:=bm hu a9 a7.out Hb.out (Za _);clear hu a9;go_wp2_with (refine bM Hh.out ?_);exact Zg (aP Tryz.results221 _ _ _ _ _ _ _ _ (0,0) (by simp) (setRow_heap _ _ _ _ _ _ Hh.out)) rfl ⟨_,0,104,_,rfl,H2.out,H1.out,⟨_,_,_,rfl⟩,fun h=>by cases h⟩
 by_cases e2:X=92
 ·subst e2;go_wp2_with fail;generalize (w.alloc (.cells #[.int .i64 0,.int .i64 0,.int .i64 0,.slice none 0 0] 70))=w0 at *;refine(xp (c9.out.below Hb.out) hl k hk rfl).mono ?_;rintro e w1 ⟨y,n,c,u,rfl,⟨fh,fl,fs,rfl,c7⟩,b1,hy⟩;obtain⟨fA,fq,fr,rfl,-⟩:=c7.slice;rw[show dJ c fh fl (.slice fA fq fr) =.agg #[.int .i64 c,.int .i64 fh,.int .i64 fl,.slice fA fq fr] from rfl];have c5:=ac w1 (.cells #[.int .i64 c,.int .i64 fh,.int .i64 fl,.slice fA fq fr] 70);have c4:=ar w1 [.int .i64 c,.int .i64 fh,.int .i64 fl,.slice fA fq fr] 70;have d0:=c4 0 _ rfl;have d1:=c4 1 _ rfl;have d2:=c4 2 _ rfl;have d3:=c4 3 _ rfl;have Hu:=Qa (show dQ (w1.alloc (.cells #[.int .i64 c,.int .i64 fh,.int .i64 fl,.slice fA fq fr] 70)) c (dJ c fh fl (.slice fA fq fr)) from⟨fh,fl,_,rfl,c7.below c5⟩);have b8:=Qa (Hb.out.trans ((b1.trans (c5.mono b1.size)).mono Hb.out.size));have a6:=Qa ((c5.block _ (Nat.lt_of_lt_of_le (ae a7.out) b1.size)).trans ((b1.block _ (ae a7.out)).trans a7.out));have Hy:=Qa hy;have b2:w.heap.size<w1.heap.size:=Nat.lt_of_lt_of_le (ae a7.out) b1.size;clear hy c4 c5 b1 c7
  by_cases hc:c=0
  ·subst hc;have hr:=(Hy.out rfl).1;have e3:=(Hy.out rfl).2;have Hr:=Qa hr;clear hr;go_wp2_with fail;have a4:(w1.alloc (.cells #[.int .i64 0,.int .i64 fh,.int .i64 fl,.slice fA fq fr] 70)).cell? ⟨w1.heap.size,0,none⟩=some (.int .i64 0)/\(w1.alloc (.cells #[.int .i64 0,.int .i64 fh,.int .i64 fl,.slice fA fq fr] 70)).cell? ⟨w1.heap.size,1,none⟩=some (.int .i64 fh)/\(w1.alloc (.cells #[.int .i64 0,.int .i64 fh,.int .i64 fl,.slice fA fq fr] 70)).cell? ⟨w1.heap.size,2,none⟩=some (.int .i64 fl)/\(w1.alloc (.cells #[.int .i64 0,.int .i64 fh,.int .i64 fl,.slice fA fq fr] 70)).cell? ⟨w1.heap.size,3,none⟩=some (.slice fA fq fr):=⟨d0,d1,d2,d3⟩;have a0:=Qa a4;generalize hw2:(w1.alloc (.cells #[.int .i64 0,.int .i64 fh,.int .i64 fl,.slice fA fq fr] 70))=w2 at *;have g0:w1.heap.size<w2.heap.size:=by rw[<-hw2];simp
   clear hw2 a4 d0 d1 d2 d3;refine aR (fun w'=>w'.cell? ⟨w1.heap.size,0,none⟩=some (.int .i64 0)/\w'.cell? ⟨w1.heap.size,1,none⟩=some (.int .i64 fh)/\w'.cell? ⟨w1.heap.size,2,none⟩=some (.int .i64 fl)/\w'.cell? ⟨w1.heap.size,3,none⟩=some (.slice fA fq fr)) (a0.out) fun a2=>?_
   refine tH 0 a2 ?_;refine tH 2 a2 ?_;refine tH 3 a2 ?_
   try simp only[Act.put,jP,jQ,jR]
   refine rH 1 fun K hK=>?_
   go_simp;refine(lY (w:=w2.drew) y Hr.out).mono ?_;rintro e w5 ⟨vf,rfl,c3,c8⟩;obtain⟨f5,fA5,fc5,rfl,f0,-⟩:=id c8;have a3:Below w2.heap.size w2 w5:=(Zd w2.heap.size w2).drew.trans c3;have d5:w5.cell? ⟨w1.heap.size,0,none⟩=some (.int .i64 0)/\w5.cell? ⟨w1.heap.size,1,none⟩=some (.int .i64 fh)/\w5.cell? ⟨w1.heap.size,2,none⟩=some (.int .i64 fl)/\w5.cell? ⟨w1.heap.size,3,none⟩=some (.slice fA fq fr):=⟨Zf a3 a0.out.1,Zf a3 a0.out.2.1,Zf a3 a0.out.2.2.1,Zf a3 a0.out.2.2.2⟩;have c0:=Qa d5;have e8:=Qa c8;have b7:=Qa a3;have a1:=Qa ((a3.block _ (ae a6.out)).trans a6.out);clear c3 c8 a3 d5 f0 f5;go_wp2_with fail;refine hK.out _ _ (c0.out) (fun a2=>?_);clear hK K
   try simp only[Act.put,jP,jQ,jR]
   refine tH 4 a2 ?_;refine tH 5 a2 ?_
   try simp only[Act.put,jP,jQ,jR]
   refine rH 6 fun K hK=>?_
   refine bT a1.out ?_;refine hK.out _ _ (⟨(ai _ _ _).cell c0.out.1 (fun e=>by injection e with e;exact Nat.ne_of_gt b2 e),(ai _ _ _).cell c0.out.2.1 (fun e=>by injection e with e;exact Nat.ne_of_gt b2 e),(ai _ _ _).cell c0.out.2.2.1 (fun e=>by injection e with e;exact Nat.ne_of_gt b2 e),(ai _ _ _).cell c0.out.2.2.2 (fun e=>by injection e with e;exact Nat.ne_of_gt b2 e)⟩) (fun a2=>?_);clear hK K
   try simp only[Act.put,jP,jQ,jR]
   refine wpAnyH_done (by kernel_rfl) (NoPanic.normal ?_) _;go_wp2_with fail;have c6:Below w.heap.size w (w5.setRow w.heap.size #[.int .i64 0,.int .i64 fh,.int .i64 fl,.slice fA fq fr]):=(b8.out.trans (b7.out.mono b8.out.size)).grown (ai ..) (Zb b8.out.size b7.out.size) (fun g e=>by cases e;exact Za _);obtain⟨gh,gl',gA,gq,gr,b0,h1,h2⟩:=bO (Hu.out.below b7.out) a1.out;injection b0 with b0
   obtain⟨rfl,rfl,b0⟩:fh=gh/\fl=gl'/\Value.slice fA fq fr=Value.slice gA gq gr:=by simpa using b0
   obtain⟨rfl,rfl,rfl⟩:fA=gA/\fq=gq/\fr=gr:=by simpa using b0
   exact Zg (aP Tryz.results221 _ _ _ _ _ _ _ _ (0,0) (by simp) (setRow_heap _ _ _ _ _ _ a1.out)) rfl ⟨_,n,0,_,rfl,h2,c6,⟨_,_,_,rfl⟩,fun _=>⟨y,Hr.out,sy a1.out e8.out,by omega,by omega,e3.2.2⟩⟩
  ·have g1:(c !=0)=true:=by simpa using hc
   have Hc:=Qa hc;clear hc;go_wp2_with fail;generalize (w1.alloc (.cells #[.int .i64 c,.int .i64 fh,.int .i64 fl,.slice fA fq fr] 70))=w2 at *;obtain⟨gh,gl',gA,gq,gr,b0,h1,h2⟩:=bO (w:=w2.drew) Hu.out a6.out;injection b0 with b0
   obtain⟨rfl,rfl,b0⟩:fh=gh/\fl=gl'/\Value.slice fA fq fr=Value.slice gA gq gr:=by simpa using b0
   obtain⟨rfl,rfl,rfl⟩:fA=gA/\fq=gq/\fr=gr:=by simpa using b0
   have H1:=Qa ((b8.out.drew).grown h1 b8.out.size (fun g e=>by cases e;exact Za _));have H2:=Qa h2;have hne:some (w1.heap.size)≠some (w.heap.size):=fun e=>by injection e with e;exact(Nat.ne_of_gt b2) e
   have a4:w2.drew.cell? ⟨w1.heap.size,0,none⟩=some (.int .i64 c)/\w2.drew.cell? ⟨w1.heap.size,1,none⟩=some (.int .i64 fh)/\w2.drew.cell? ⟨w1.heap.size,2,none⟩=some (.int .i64 fl)/\w2.drew.cell? ⟨w1.heap.size,3,none⟩=some (.slice fA fq fr):=⟨d0,d1,d2,d3⟩;have b5:(w2.drew.setRow (w.heap.size) #[.int .i64 c,.int .i64 fh,.int .i64 fl,.slice fA fq fr]).cell? ⟨w1.heap.size,0,none⟩=some (.int .i64 c)/\(w2.drew.setRow (w.heap.size) #[.int .i64 c,.int .i64 fh,.int .i64 fl,.slice fA fq fr]).cell? ⟨w1.heap.size,1,none⟩=some (.int .i64 fh)/\(w2.drew.setRow (w.heap.size) #[.int .i64 c,.int .i64 fh,.int .i64 fl,.slice fA fq fr]).cell? ⟨w1.heap.size,2,none⟩=some (.int .i64 fl)/\(w2.drew.setRow (w.heap.size) #[.int .i64 c,.int .i64 fh,.int .i64 fl,.slice fA fq fr]).cell? ⟨w1.heap.size,3,none⟩=some (.slice fA fq fr):=⟨(ai _ _ _).cell d0 hne,(ai _ _ _).cell d1 hne,(ai _ _ _).cell d2 hne,(ai _ _ _).cell d3 hne⟩;have a0:=Qa a4;have c2:=Qa b5;clear h1 h2 b0 a4 b5 hne d0 d1 d2 d3;refine aR (fun w'=>w'.cell? ⟨w1.heap.size,0,none⟩=some (.int .i64 c)/\w'.cell? ⟨w1.heap.size,1,none⟩=some (.int .i64 fh)/\w'.cell? ⟨w1.heap.size,2,none⟩=some (.int .i64 fl)/\w'.cell? ⟨w1.heap.size,3,none⟩=some (.slice fA fq fr)) (a0.out) fun a2=>?_
   refine tH 0 a2 ?_;refine tH 1 a2 ?_;refine tH 2 a2 ?_
   try simp only[Act.put,jP,jQ,jR]
   refine rH 3 fun K hK=>?_
   refine bT a6.out ?_;refine hK.out _ _ (c2.out) (fun a2=>?_);clear hK K
   try simp only[Act.put,jP,jQ,jR]
   refine wpAnyH_done (by kernel_rfl) (NoPanic.normal ?_) _;go_wp2_with fail;exact Zg (aP Tryz.results221 _ _ _ _ _ _ _ _ (0,0) (by simp) (setRow_heap _ _ _ _ _ _ a6.out)) rfl ⟨_,0,c,_,rfl,H2.out,H1.out,⟨_,_,_,rfl⟩,fun h=>absurd h Hc.out⟩
 have e2':(X==92)=false:=by simpa using e2
 have f9:¬cap=k:=by omega
 go_wp2_with fail;generalize (w.alloc (.cells #[.int .i64 0,.int .i64 0,.int .i64 0,.slice none 0 0] 70))=w0 at *;have hcut:=c9.out.cut (Zi hk);refine(oJ (hcut.below Hb.out)).mono ?_;rintro e w1 ⟨⟨code,rfl,b6⟩,b1⟩;have a5:=Qa ((b1.block _ (ae a7.out)).trans a7.out);have b3:=Qa (Hb.out.trans (b1.mono Hb.out.size));have b9:=Qa b6;have e5:=Qa (c9.out.below (Hb.out.trans (b1.mono Hb.out.size)));have hle:=gI xs k (Zi hk);clear b1 b6 hcut
 by_cases q1:code=103
 ·subst q1;go_wp2_with fail;refine(aM 103 xs.length w1).mono ?_;rintro e wz ⟨u,rfl,hu,a9⟩;have Hh:=Qa ((a9.block _ (ae a5.out)).trans a5.out);obtain⟨fh,fl,fA,fq,fr,rfl,h1,h2⟩:=bO hu Hh.out;have H1:=Qa ((b3.out.trans (a9.mono b3.out.size)).grown h1 (Zb b3.out.size a9.size) (fun g e=>by cases e;exact Za _));have H2:=Qa h2;have Hg:=Qa h1;have e7:=Qa a9;clear h1 h2 hu a9;go_wp2_with (refine bM Hh.out ?_);exact Zg (aP Tryz.results221 _ _ _ _ _ _ _ _ (0,0) (by simp) (setRow_heap _ _ _ _ _ _ Hh.out)) rfl ⟨_,0,103,_,rfl,H2.out,H1.out,⟨_,_,_,rfl⟩,fun h=>by cases h⟩
 have q1':(code==103)=false:=by simpa using q1
 by_cases q2:code=0
 case neg=>
  have q2':(code !=0)=true:=by simpa using q2
  clear q1 q2;go_wp2_with fail;refine(aM 101 k w1).mono ?_;rintro e wz ⟨u,rfl,hu,a9⟩;have Hh:=Qa ((a9.block _ (ae a5.out)).trans a5.out);obtain⟨fh,fl,fA,fq,fr,rfl,h1,h2⟩:=bO hu Hh.out;have H1:=Qa ((b3.out.trans (a9.mono b3.out.size)).grown h1 (Zb b3.out.size a9.size) (fun g e=>by cases e;exact Za _));have H2:=Qa h2;have Hg:=Qa h1;have e7:=Qa a9;clear h1 h2 hu a9;go_wp2_with (refine bM Hh.out ?_);exact Zg (aP Tryz.results221 _ _ _ _ _ _ _ _ (0,0) (by simp) (setRow_heap _ _ _ _ _ _ Hh.out)) rfl ⟨_,0,101,_,rfl,H2.out,H1.out,⟨_,_,_,rfl⟩,fun h=>by cases h⟩
 subst q2;have hz:=b9.out.1 rfl;have hp:=eO hz;obtain⟨hfr,e0⟩:=iL hz;have d4:=Qa hfr;have e4:=Qa e0;obtain⟨rn,d9⟩:∃rn,(bF (xs.drop k)).2.1=rn:=⟨_,rfl⟩;rw[d9] at hle hp d4 ⊢;have f2:(k:Int)+rn<=xs.length:=by omega
 have f3:(k:Int)+rn<=cap:=by omega
 clear q1 q1' hz hfr e0 d9;go_wp2_with fail;have s3:k<=k+rn:=by omega
 have s4:k+rn - k=rn:=by omega
 have s1:IntKind.i64.wrap ((k:Int)+rn)= (k:Int)+rn:=IntWalk.i64_in _ (by omega);have s2:0<=(k:Int)+rn:=by omega
 have s5:((k:Int)+rn).toNat=k+rn:=by omega
 refine aR (fun _=>True) (trivial) fun a2=>?_
 refine tH 0 a2 ?_;refine tH 1 a2 ?_;refine tH 2 a2 ?_;refine tH 3 a2 ?_;refine tH 4 a2 ?_;refine tH 5 a2 ?_
 try simp only[Act.put,jP,jQ,jR]
 refine tH 6 a2 ?_
 try simp only[Act.put,jP,jQ,jR]
 refine rH 7 fun K hK=>?_
 go_simp;refine(eG w1.drew).mono ?_;rintro e w5 ⟨u,rfl,hu,c3⟩;have a3:Below w1.heap.size w1 w5:=(Zd w1.heap.size w1).drew.trans c3;have a1:=Qa ((a3.block _ (ae a5.out)).trans a5.out);obtain⟨fh,fl,fA,fq,fr,rfl,h1,h2⟩:=bO hu a1.out;have H2:=Qa h2;have b7:=Qa a3;clear hu c3 a3 h1 h2;go_wp2_with fail;refine hK.out _ _ (trivial) (fun a2=>?_);clear hK K
 try simp only[Act.put,jP,jQ,jR]
 refine tH 8 a2 ?_;refine tH 9 a2 ?_
 try simp only[Act.put,jP,jQ,jR]
 refine rH 10 fun K hK=>?_
 refine bT a1.out ?_;refine hK.out _ _ (trivial) (fun a2=>?_);clear hK K
 try simp only[Act.put,jP,jQ,jR]
 refine wpAnyH_done (by kernel_rfl) (NoPanic.normal ?_) _;go_wp2_with fail;have e6:Bs w5 (.slice (some ⟨b,o+k,none⟩) rn (cap - k)) (bG ((bF (xs.drop k)).1:Nat)):=by
  have h:=((e5.out.below b7.out).cut (Zi hk)).upto (k:=rn) (by rw[List.length_drop];omega);rw[d4.out];exact h
 have c6:Below w.heap.size w (w5.setRow w.heap.size #[.int .i64 0,.int .i64 fh,.int .i64 fl,.slice fA fq fr]):=(b3.out.trans (b7.out.mono b3.out.size)).grown (ai ..) (Zb b3.out.size b7.out.size) (fun g e=>by cases e;exact Za _);exact Zg (aP Tryz.results221 _ _ _ _ _ _ _ _ (0,0) (by simp) (setRow_heap _ _ _ _ _ _ a1.out)) rfl ⟨_,rn,0,_,rfl,H2.out,c6,⟨_,_,_,rfl⟩,fun _=>⟨_,e4.out,sy a1.out e6,hp,hle,by rw[d4.out,List.length_take];exact Nat.min_le_left _ _⟩⟩
def Jv (len:Nat)(w:World)(e:Ending)(w':World):Prop:= ∃ (s:ByteArray) (n:Nat) (c:Int) (u:Value),e =.returned (.tuple #[.string s,.int .i64 n,u])/\dQ w' c u/\Below w.heap.size w w'/\(c=0->fM s.data.toList/\s.size<=len/\2<=n/\n<=len)
def Ic (w0:World)(len:Nat)(s5 s6:Value)(wr:World):Prop:= ∃ (k:Nat) (ys:List UInt8),1<=k/\k<=len/\s6 =.int .i64 k/\au wr w0.heap.size s5 ys/\fM ys/\ys.length<=k/\Below w0.heap.size w0 wr
theorem uw (hb:Bs w v xs)(hl:xs.length<=1000000):Calls Tryz.prog 188 #[v] w (Jv xs.length w):=by
 obtain⟨hm,A,cap,rfl,f2,b1⟩:=id hb;have f1:=Qa hb;have c1:=Qa b1;have b0:=Qa (Ze w (.cells #[.int .i64 0,.int .i64 0,.int .i64 0,.slice none 0 0] 70));have Hb:=Qa (ac w (.cells #[.int .i64 0,.int .i64 0,.int .i64 0,.slice none 0 0] 70));have Hz:=Qa (show(w.alloc (.cells #[.int .i64 0,.int .i64 0,.int .i64 0,.slice none 0 0] 70)).heap.size=w.heap.size+1 by simp);clear hb b1;go_enter Tryz.func188,Tryz.ntmps188
 by_cases e0:xs.length=0
 ·have e0':((xs.length:Int)==0)=true:=by simp[e0]
  clear e0;go_wp2_with fail;generalize (w.alloc (.cells #[.int .i64 0,.int .i64 0,.int .i64 0,.slice none 0 0] 70))=w0 at *;refine(aM 102 0 w0).mono ?_;rintro e wz ⟨u,rfl,hu,a3⟩;obtain⟨fh,fl,fA,fq,fr,rfl,Hh,H1,H2⟩:=bm hu a3 b0.out Hb.out (Za _);clear hu a3;go_wp2_with (refine bM Hh.out ?_);exact Zg (aP Tryz.results188 _ _ _ _ _ _ _ _ (0,0) (by simp) (setRow_heap _ _ _ _ _ _ Hh.out)) rfl ⟨_,0,102,_,rfl,H2.out,H1.out,fun h=>by cases h⟩
 have e0':((xs.length:Int)==0)=false:=by simpa using e0
 obtain⟨b,o,rfl,c4⟩:=c1.out (by omega);have c0:=Zf Hb.out (c4 0 (by omega));rw[Nat.add_zero] at c0;have g3:(0:Int)<xs.length:=by omega
 have g0:0<xs.length:=by omega
 have e8:=Qa (fun i hi=>Zf Hb.out (c4 i hi));clear c4
 by_cases e1:ap xs 0=34
 case neg=>
  have e1':((ap xs 0:Int) !=34)=true:=by simp;omega
  clear e1;go_wp2_with fail;generalize (w.alloc (.cells #[.int .i64 0,.int .i64 0,.int .i64 0,.slice none 0 0] 70))=w0 at *;refine(aM 102 0 w0).mono ?_;rintro e wz ⟨u,rfl,hu,a3⟩;obtain⟨fh,fl,fA,fq,fr,rfl,Hh,H1,H2⟩:=bm hu a3 b0.out Hb.out (Za _);clear hu a3;go_wp2_with (refine bM Hh.out ?_);exact Zg (aP Tryz.results188 _ _ _ _ _ _ _ _ (0,0) (by simp) (setRow_heap _ _ _ _ _ _ Hh.out)) rfl ⟨_,0,102,_,rfl,H2.out,H1.out,fun h=>by cases h⟩
 have e1':((ap xs 0:Int) !=34)=false:=by simp[e1]
 clear e1;go_wp2_with fail;generalize (w.alloc (.cells #[.int .i64 0,.int .i64 0,.int .i64 0,.slice none 0 0] 70))=w0 at *
 go_loopw [5,6] (Ic w0 xs.length) (fun _ i _=>xs.length - (intOf i).toNat)
 case atStart=>exact⟨1, [],by omega,by omega,rfl,au.nil _ _,fM.nil,by simp,Zd _ _⟩
 case round=>
  obtain⟨k,ys,g8,f6,rfl,ho,c7,g2,b5⟩:=hrel;have Ho:=Qa ho;have e3:=Qa c7;have f3:=Qa b5;have b8:=b5.size;have a0:=Qa ((b5.block _ (ae b0.out)).trans b0.out);have a6:=Qa (Hb.out.trans (b5.mono Hb.out.size))
  by_cases hlt:k<xs.length
  case neg=>
   have hki:¬ (k:Int)<xs.length:=by omega
   clear ho c7 b5;go_wp2_with fail;refine(aM 103 xs.length wr).mono ?_;rintro e wz ⟨u,rfl,hu,a3⟩;have Hh:=Qa ((a3.block _ (ae a0.out)).trans a0.out);obtain⟨fh,fl,fA,fq,fr,rfl,h1,h2⟩:=bO hu Hh.out;have H1:=Qa ((a6.out.trans (a3.mono a6.out.size)).grown h1 (Zb a6.out.size a3.size) (fun g e=>by cases e;exact Za _));have H2:=Qa h2;have Hg:=Qa h1;have g1:=Qa a3;clear h1 h2 hu a3;go_wp2_with (refine bM Hh.out ?_);exact Zg (aP Tryz.results188 _ _ _ _ _ _ _ _ (0,0) (by simp) (setRow_heap _ _ _ _ _ _ Hh.out)) rfl ⟨_,0,103,_,rfl,H2.out,H1.out,fun h=>by cases h⟩
  have hki:(k:Int)<xs.length:=by omega
  have ck:=Zf b5 (e8.out k hlt);obtain⟨X,hX,f4,f5⟩:∃X:Int,(ap xs k:Int)=X/\0<=X/\X<256:=⟨_,rfl,by omega,by have:=aK xs k;omega⟩;rw[hX] at ck;clear hX ho c7 b5
  by_cases e2:X=34
  ·subst e2;have hq:=aW Ho.out.bs;have Hq:=Qa (show ∀W:World,Below wr.heap.size wr W->(convert 22 9 u5).run Tryz.prog W =.ok (.string ⟨ys.toArray⟩) W from fun W hW=>aW (Ho.out.bs.below hW));have d6:=Hq.out wr.drew ((Zd wr.heap.size wr).drew);have e5:=Qa d6;have s1:IntKind.i64.wrap ((k:Int)+1)= (k:Int)+1:=IntWalk.i64_in _ (by omega);clear hq d6;go_wp2_with fail;refine aR (fun w'=>(convert 22 9 u5).run Tryz.prog w' =.ok (.string ⟨ys.toArray⟩) w') (e5.out) fun a2=>?_
   refine tH 0 a2 ?_;refine tH 1 a2 ?_;refine tH 2 a2 ?_;refine tH 3 a2 ?_
   try simp only[Act.put,jP,jQ,jR]
   refine rH 4 fun K hK=>?_
   go_simp;refine(eG wr.drew).mono ?_;rintro e w5 ⟨u,rfl,hu,d9⟩;have a9:Below wr.heap.size wr w5:=(Zd wr.heap.size wr).drew.trans d9;have a1:=Qa ((a9.block _ (ae a0.out)).trans a0.out);obtain⟨fh,fl,fA,fq,fr,rfl,h1,h2⟩:=bO hu a1.out;have H2:=Qa h2;have c6:=Qa a9;have e7:=Qa (Hq.out w5 a9);clear hu d9 a9 h1 h2;go_wp2_with fail;refine hK.out _ _ (e7.out) (fun a2=>?_);clear hK K
   try simp only[Act.put,jP,jQ,jR]
   refine tH 5 a2 ?_;refine tH 6 a2 ?_
   try simp only[Act.put,jP,jQ,jR]
   refine rH 7 fun K hK=>?_
   refine bT a1.out ?_;refine hK.out _ _ (aW (sy a1.out (Ho.out.bs.below c6.out))) (fun a2=>?_);clear hK K
   try simp only[Act.put,jP,jQ,jR]
   refine wpAnyH_done (by kernel_rfl) (NoPanic.normal ?_) _;go_wp2_with fail;have e4:Below w.heap.size w (w5.setRow w.heap.size #[.int .i64 0,.int .i64 fh,.int .i64 fl,.slice fA fq fr]):=(a6.out.trans (c6.out.mono a6.out.size)).grown (ai ..) (Zb a6.out.size c6.out.size) (fun g e=>by cases e;exact Za _);exact Zg (aP Tryz.results188 _ _ _ _ _ _ _ _ (0,0) (by simp) (setRow_heap _ _ _ _ _ _ a1.out)) rfl ⟨_,k+1,0,_,by go_num,H2.out,e4,fun _=>⟨by simpa using e3.out,by simp[ByteArray.size];omega,by omega,by omega⟩⟩
  have e2':(X==34)=false:=by simpa using e2
  clear e2;go_wp2_with fail;refine(Br (f1.out.below a6.out) hl k hlt rfl).mono ?_;rintro e w1 ⟨pv,n,c,u,rfl,⟨fh,fl,fs,rfl,c5⟩,b6,⟨pA,pq,pr,rfl⟩,hy⟩;obtain⟨fA,fq,fr,rfl,-⟩:=c5.slice;rw[show dJ c fh fl (.slice fA fq fr) =.agg #[.int .i64 c,.int .i64 fh,.int .i64 fl,.slice fA fq fr] from rfl];have c2:=ac w1 (.cells #[.int .i64 c,.int .i64 fh,.int .i64 fl,.slice fA fq fr] 70);have c3:=ar w1 [.int .i64 c,.int .i64 fh,.int .i64 fl,.slice fA fq fr] 70;have d0:=c3 0 _ rfl;have d1:=c3 1 _ rfl;have d2:=c3 2 _ rfl;have d3:=c3 3 _ rfl;have Hu:=Qa (show dQ (w1.alloc (.cells #[.int .i64 c,.int .i64 fh,.int .i64 fl,.slice fA fq fr] 70)) c (dJ c fh fl (.slice fA fq fr)) from⟨fh,fl,_,rfl,c5.below c2⟩);have b3:=b6.trans (c2.mono b6.size);have a7:=Qa b3;have d4:=Qa (a6.out.trans (b3.mono a6.out.size));have a4:=Qa ((c2.block _ (Nat.lt_of_lt_of_le (ae a0.out) b6.size)).trans ((b6.block _ (ae a0.out)).trans a0.out));have Hy:=Qa (show c=0->∃d:Int,dO d=true/\Bs (w1.alloc (.cells #[.int .i64 c,.int .i64 fh,.int .i64 fl,.slice fA fq fr] 70)) (.slice pA pq pr) (bG d)/\1<=n/\k+n<=xs.length/\(bG d).length<=n from fun h=>by obtain⟨d,h1,h2,h3⟩:=hy h;exact⟨d,h1,h2.below c2,h3⟩);have c8:w.heap.size<w1.heap.size:=Nat.lt_of_lt_of_le (ae a0.out) b6.size;clear hy c3 c2 b6 c5 b3
  by_cases hc:c=0
  ·obtain⟨d,c9,d5,f9,g7,f8⟩:=Hy.out hc;subst hc;have e6:=Qa c9;have f0:=Qa d5;have g6:=gC d;have g4:(k:Int)+n<=xs.length:=by omega
   clear c9 d5 d1 d2 d3;go_wp2_with (at_builtin;refine pW (Ho.out.below a7.out (Za _)) f0.out (by omega) (by have:=a7.out.size;omega) ?_;intro v' w3 h1 h2 h3;have HK:=Qa h1;have HG:=Qa h2;clear h1 h2 h3);have a3:Below w0.heap.size w0 w3:=(f3.out.trans (a7.out.mono b8)).grown HG.out (Zb b8 a7.out.size) (fun g e=>(al Ho.out e).1);exact⟨⟨k+n,ys++bG d,by omega,by omega,by go_num,HK.out,e3.out.snoc e6.out,by rw[List.length_append];omega,a3⟩,by simp[intOf];omega⟩
  ·have g5:(c !=0)=true:=by simpa using hc
   have Hc:=Qa hc;clear hc;go_wp2_with fail;generalize (w1.alloc (.cells #[.int .i64 c,.int .i64 fh,.int .i64 fl,.slice fA fq fr] 70))=w2 at *;obtain⟨gh,gl',gA,gq,gr,b7,h1,h2⟩:=bO (w:=w2.drew) Hu.out a4.out;injection b7 with b7
   obtain⟨rfl,rfl,b7⟩:fh=gh/\fl=gl'/\Value.slice fA fq fr=Value.slice gA gq gr:=by simpa using b7
   obtain⟨rfl,rfl,rfl⟩:fA=gA/\fq=gq/\fr=gr:=by simpa using b7
   have H1:=Qa ((d4.out.drew).grown h1 d4.out.size (fun g e=>by cases e;exact Za _));have H2:=Qa h2;have hne:some (w1.heap.size)≠some (w.heap.size):=fun e=>by injection e with e;exact(Nat.ne_of_gt c8) e
   have a5:w2.drew.cell? ⟨w1.heap.size,0,none⟩=some (.int .i64 c)/\w2.drew.cell? ⟨w1.heap.size,1,none⟩=some (.int .i64 fh)/\w2.drew.cell? ⟨w1.heap.size,2,none⟩=some (.int .i64 fl)/\w2.drew.cell? ⟨w1.heap.size,3,none⟩=some (.slice fA fq fr):=⟨d0,d1,d2,d3⟩;have b2:(w2.drew.setRow (w.heap.size) #[.int .i64 c,.int .i64 fh,.int .i64 fl,.slice fA fq fr]).cell? ⟨w1.heap.size,0,none⟩=some (.int .i64 c)/\(w2.drew.setRow (w.heap.size) #[.int .i64 c,.int .i64 fh,.int .i64 fl,.slice fA fq fr]).cell? ⟨w1.heap.size,1,none⟩=some (.int .i64 fh)/\(w2.drew.setRow (w.heap.size) #[.int .i64 c,.int .i64 fh,.int .i64 fl,.slice fA fq fr]).cell? ⟨w1.heap.size,2,none⟩=some (.int .i64 fl)/\(w2.drew.setRow (w.heap.size) #[.int .i64 c,.int .i64 fh,.int .i64 fl,.slice fA fq fr]).cell? ⟨w1.heap.size,3,none⟩=some (.slice fA fq fr):=⟨(ai _ _ _).cell d0 hne,(ai _ _ _).cell d1 hne,(ai _ _ _).cell d2 hne,(ai _ _ _).cell d3 hne⟩;have b4:=Qa a5;have b9:=Qa b2;clear h1 h2 b7 a5 b2 hne d0 d1 d2 d3;refine aR (fun w'=>w'.cell? ⟨w1.heap.size,0,none⟩=some (.int .i64 c)/\w'.cell? ⟨w1.heap.size,1,none⟩=some (.int .i64 fh)/\w'.cell? ⟨w1.heap.size,2,none⟩=some (.int .i64 fl)/\w'.cell? ⟨w1.heap.size,3,none⟩=some (.slice fA fq fr)) (b4.out) fun a2=>?_
   refine tH 0 a2 ?_;refine tH 1 a2 ?_;refine tH 2 a2 ?_
   try simp only[Act.put,jP,jQ,jR]
   refine rH 3 fun K hK=>?_
   refine bT a4.out ?_;refine hK.out _ _ (b9.out) (fun a2=>?_);clear hK K
   try simp only[Act.put,jP,jQ,jR]
   refine wpAnyH_done (by kernel_rfl) (NoPanic.normal ?_) _;go_wp2_with fail;exact Zg (aP Tryz.results188 _ _ _ _ _ _ _ _ (0,0) (by simp) (setRow_heap _ _ _ _ _ _ a4.out)) rfl ⟨_,0,c,_,rfl,H2.out,H1.out,fun h=>absurd h Hc.out⟩
def JK (X:Int)(w:World)(e:Ending)(w':World):Prop:=(∃b:Bool,e =.returned (.bool b)/\(b=true->48<=X/\X<=57))/\w=w'
theorem o3 (X:Int)(w:World):Calls Tryz.prog 238 #[.int .u8 X] w (JK X w):=by
 by_cases h1:48<=X
 ·by_cases h2:X<=57
  ·go_enter Tryz.func238,Tryz.ntmps238;go_wp2;go_ret;exact⟨⟨_,rfl,fun _=>⟨h1,h2⟩⟩,rfl⟩
  ·go_enter Tryz.func238,Tryz.ntmps238;go_wp2;go_ret;exact⟨⟨_,rfl,fun h=>by simp_all⟩,rfl⟩
 ·go_enter Tryz.func238,Tryz.ntmps238;go_wp2;go_ret;exact⟨⟨_,rfl,fun h=>by simp_all⟩,rfl⟩
def IF (X:Int)(w:World)(e:Ending)(w':World):Prop:=(∃t:Int,e =.returned (.int .i64 t)/\1<=t/\t<=9/\(t=8->48<=X/\X<=57))/\w=w'
theorem BG (s X:Int)(w:World):Calls Tryz.prog 222 #[.int .i64 s,.int .u8 X] w (IF X w):=by
 go_enter Tryz.func222,Tryz.ntmps222;go_wp2_with fail;refine(o3 X w).mono ?_;rintro e w' ⟨⟨b,rfl,hb⟩,rfl⟩;have Hb:=Qa hb;clear hb
 cases b
 ·go_wp2_with fail
  all_goals
   go_ret;exact⟨⟨_,rfl,by omega,by omega,fun h=>by cases h⟩,rfl⟩
 ·have a0:=Qa (Hb.out rfl);go_wp2_with fail
  all_goals
   go_ret;exact⟨⟨_,rfl,by omega,by omega,fun _=>a0.out⟩,rfl⟩
theorem fX {fn:Func}{p q:Tmp}(h:fn.results = #[.cell p 75,.cell q 70])(tmps:Array Value)(w:World)(g1 g:Nat)(t1 t:TypeId)(d0 d1 d2 c0 c1 c2 c3:Value)(fr1 fr:Nat×Nat)
  (a2:tmps.getD p undef =.pointer (some ⟨g1,0,none⟩)) (a3:w.heap[g1]?=some (.cells #[d0,d1,d2] t1 fr1))
  (hp:tmps.getD q undef =.pointer (some ⟨g,0,none⟩)) (hg:w.heap[g]?=some (.cells #[c0,c1,c2,c3] t fr)) :
  (results fn tmps).run Tryz.prog w =.ok (.tuple #[.agg #[d0,d1,d2],.agg #[c0,c1,c2,c3]]) w:=by
 have a0:tmps[p]?.getD undef =.pointer (some ⟨g1,0,none⟩):=by simpa using a2
 have a1:tmps[q]?.getD undef =.pointer (some ⟨g,0,none⟩):=by simpa using hp
 have a4:=run_loadVar_row (P:=Tryz.prog) w g1 t1 75 #[d0,d1,d2] fr1 _ a3 Tryz.underlying75 rfl (by kernel_rfl);have hl:=run_loadVar_row (P:=Tryz.prog) w g t 70 #[c0,c1,c2,c3] fr _ hg Tryz.underlying70 rfl bo;simp[results,h,a0,a1,asAddr,a4,hl]
theorem dq {k x2:Int}{x0:Bool}{x1:ByteArray}{bd:Nat}(hu:dQ w k u)(hd:w.heap[bd]?=some (.cells #[.bool x0,.string x1,.int .i64 x2] 75 (0,0)))(hf:w.heap[bf]?=some (.cells #[.int .i64 c0,y1,y2,y3] 70 (0,0)))(a3:w0.heap.size<=bd)(a5:w0.heap.size<=bf)(hb:Below w0.heap.size w0 w) :
  ∃h l A q r,u =.agg #[.int .i64 k,.int .i64 h,.int .i64 l,.slice A q r]/\(w.setRow bd D).heap[bf]?=some (.cells #[.int .i64 c0,y1,y2,y3] 70 (0,0))/\((w.setRow bd D).setRow bf #[.int .i64 k,.int .i64 h,.int .i64 l,.slice A q r]).heap[bd]?=some (.cells D 75 (0,0))/\
   ((w.setRow bd D).setRow bf #[.int .i64 k,.int .i64 h,.int .i64 l,.slice A q r]).heap[bf]?=some (.cells #[.int .i64 k,.int .i64 h,.int .i64 l,.slice A q r] 70 (0,0))/\
   dQ ((w.setRow bd D).setRow bf #[.int .i64 k,.int .i64 h,.int .i64 l,.slice A q r]) k u/\Below w0.heap.size w0 ((w.setRow bd D).setRow bf #[.int .i64 k,.int .i64 h,.int .i64 l,.slice A q r]):=by
 have hne:bd≠bf:=fun e=>by subst e;rw[hd] at hf;cases hf
 have a4:dQ (w.setRow bd D) k u:=by
  obtain⟨h,l,s,rfl,hs⟩:=hu;refine⟨h,l,s,rfl,?_⟩;rcases hs with e|⟨g,c',b',p,s',e,h1,h2,h3⟩
  ·exact .inl e
  ·have hne:some g≠some bd:=fun e'=>by
    injection e' with e';subst e'
    have a2:=h2;unfold World.cell? at a2;simp[hd] at a2
   exact .inr ⟨g,c',b',p,s',e,(ai w _ _).cell h1 hne,(ai w _ _).cell h2 hne,(ai w _ _).cell h3 hne⟩
 have a0:(w.setRow bd D).heap[bf]?=some (.cells #[.int .i64 c0,y1,y2,y3] 70 (0,0)):=(setRow_other w bd bf D (Ne.symm hne)).trans hf;obtain⟨h,l,A,q,r,e,h1,h2⟩:=bO a4 a0;refine⟨h,l,A,q,r,e,a0,?_,setRow_heap _ _ _ _ _ _ a0,h2,?_⟩
 ·exact(setRow_other _ bf bd _ hne).trans (setRow_heap _ _ _ _ _ _ hd)
 ·have a1:Below w0.heap.size w0 (w.setRow bd D):=hb.grown (ai ..) hb.size (fun g e=>by cases e;exact a3);exact a1.grown (ai ..) a1.size (fun g e=>by cases e;exact a5)
theorem eS (c:Int)(w:World):Calls Tryz.prog 113 #[.int .i64 c] w fun e w'=>e =.returned (dJ c 0 0 (.slice none 0 0))/\Below w.heap.size w w':=by
 go_enter Tryz.func113,Tryz.ntmps113;go_wp2;exact Zg (results_cell_row Tryz.results113 _ _ w.heap.size 70 #[.int .i64 c,.int .i64 0,.int .i64 0,.slice none 0 0] (0,0) _ (by simp) (Ze w _) Tryz.underlying70 rfl bo) rfl ⟨rfl,ac _ _⟩
def qO (neg:Bool)(s:ByteArray)(x:Int)(d:Dc):Prop:=0<s.size/\(∀i (h:i<s.size),48<=s[i].toNat/\s[i].toNat<=57)/\(((∀i (h:i<s.size),s[i].toNat=48)/\d= ⟨false,⟨#[48]⟩,0⟩)\/∃p q,p<q/\q<=s.size/\(∀i (h:i<s.size),i<p->s[i].toNat=48)/\(∀h:p<s.size,s[p].toNat≠48)/\(∀h:q - 1<s.size,s[q - 1].toNat≠48)/\(∀i (h:i<s.size),q<=i->s[i].toNat=48)/\d= ⟨neg,s.extract p q,x+s.size - q⟩/\ -1000000000<=d.exp/\d.exp<=1000000000)
def Ja (neg:Bool)(s:ByteArray)(x:Int)(w:World)(e:Ending)(w':World):Prop:= ∃ (d:Dc) (c:Int),e =.returned (.tuple #[Im d,dJ c 0 0 (.slice none 0 0)])/\Below w.heap.size w w'/\d.digits.size<=s.size+1/\(c=0->qO neg s x d)
def Jc (s:ByteArray)(w:World)(s8:Value)(wr:World):Prop:= ∃k:Nat,k<=s.size/\s8 =.int .i64 k/\w=wr/\(∀i (h:i<s.size),i<k->48<=s[i].toNat/\s[i].toNat<=57)
def IG (s:ByteArray)(w:World)(s8:Value)(wr:World):Prop:= ∃k:Nat,k<=s.size/\s8 =.int .i64 k/\w=wr/\(∀i (h:i<s.size),i<k->s[i].toNat=48)
def IJ (p:Nat)(s:ByteArray)(w:World)(s12:Value)(wr:World):Prop:= ∃q:Nat,p<q/\q<=s.size/\s12 =.int .i64 q/\w=wr/\(∀i (h:i<s.size),q<=i->s[i].toNat=48)
theorem yx {s:ByteArray}{k:Nat}(hk:k<s.size)(h:∀i (h:i<s.size),i<k->48<=s[i].toNat/\s[i].toNat<=57)(hd:48<=s[k].toNat/\s[k].toNat<=57):∀i (h:i<s.size),i<k+1->48<=s[i].toNat/\s[i].toNat<=57:=by
 intro i hi hlt
 by_cases e:i=k
 ·subst e;exact hd
 ·exact h i hi (by omega)
theorem xQ {s:ByteArray}{k:Nat}(hk:k<s.size)(h:∀i (h:i<s.size),i<k->s[i].toNat=48)(hd:s[k].toNat=48):∀i (h:i<s.size),i<k+1->s[i].toNat=48:=by
 intro i hi hlt
 by_cases e:i=k
 ·subst e;exact hd
 ·exact h i hi (by omega)
theorem wN {s:ByteArray}(hq:q - 1<s.size)(h:∀i (h:i<s.size),q<=i->s[i].toNat=48)(hd:s[q - 1].toNat=48):∀i (h:i<s.size),q - 1<=i->s[i].toNat=48:=by
 intro i hi hlt
 by_cases e:i=q - 1
 ·subst e;exact hd
 ·exact h i hi (by omega)
theorem yA (neg:Bool)(s:ByteArray)(x:Int)(hs:s.size<=1000000)(w:World):Calls Tryz.prog 223 #[.bool neg,.string s,.int .i64 x] w (Ja neg s x w):=by
 have c7:=Ze w (.cells #[.bool false,.string es,.int .i64 0] 75);have c3:=Ze (w.alloc (.cells #[.bool false,.string es,.int .i64 0] 75)) (.cells #[.int .i64 0,.int .i64 0,.int .i64 0,.slice none 0 0] 70);rw[World.size_alloc] at c3;have d6:Below w.heap.size w ((w.alloc (.cells #[.bool false,.string es,.int .i64 0] 75)).alloc (.cells #[.int .i64 0,.int .i64 0,.int .i64 0,.slice none 0 0] 70)):=((Zd _ _).alloc (Za _) _).alloc (by simp) _;have b6:((w.alloc (.cells #[.bool false,.string es,.int .i64 0] 75)).alloc (.cells #[.int .i64 0,.int .i64 0,.int .i64 0,.slice none 0 0] 70)).heap[w.heap.size]?=some (.cells #[.bool false,.string es,.int .i64 0] 75 (0,0)):=(Below.heap_alloc _ _ _ (by simp)).trans c7;have b3:=Qa b6;have b0:=Qa c3;have b1:=Qa d6;clear c7 b6 c3 d6;go_enter Tryz.func223,Tryz.ntmps223
 by_cases h0:s=es
 ·subst h0;go_wp2_with fail;generalize (w.alloc (.cells #[.bool false,.string es,.int .i64 0] 75)).alloc (.cells #[.int .i64 0,.int .i64 0,.int .i64 0,.slice none 0 0] 70)=w0 at *;refine(eS 107 w0).mono ?_;rintro e wz ⟨rfl,a3⟩;have hu:dQ wz 107 (dJ 107 0 0 (.slice none 0 0)):=⟨0,0,_,rfl,.inl rfl⟩;rw[show dJ 107 0 0 (.slice none 0 0) =.agg #[.int .i64 107,.int .i64 0,.int .i64 0,.slice none 0 0] from rfl];have a9:=Qa ((a3.block _ (ae b3.out)).trans b3.out);have b5:=Qa ((a3.block _ (ae b0.out)).trans b0.out);obtain⟨gh,gl',gA,gq,gr,a1,h3,h4,h5,h1,h2⟩:=dq (D:= #[.bool false,.string es,.int .i64 0]) hu a9.out b5.out (Za _) (by omega) (b1.out.trans (a3.mono b1.out.size));injection a1 with a1
  obtain⟨rfl,rfl,a1⟩:0=gh/\0=gl'/\Value.slice none 0 0=Value.slice gA gq gr:=by simpa using a1
  obtain⟨rfl,rfl,rfl⟩:none=gA/\0=gq/\0=gr:=by simpa using a1
  have H1:=Qa h1;have H2:=Qa h2;have H3:=Qa h3;have H4:=Qa h4;have H5:=Qa h5;clear h1 h2 h3 h4 h5 hu a3 a1;go_wp2_with (first
   |(refine bM a9.out ?_)
   |(refine bM H3.out ?_))
  have h4:=H4.out;have h5:=H5.out;exact Zg (fX Tryz.results223 _ _ _ _ _ _ _ _ _ _ _ _ _ (0,0) (0,0) rfl h4 rfl h5) rfl ⟨⟨false,es,0⟩,107,rfl,H2.out,Zb (Nat.le_of_eq (rfl:es.size=0)) (Zj _),fun hc=>absurd hc (by decide)⟩
 have d4:¬s.toList = []:=fun h=>h0 (zG.1 (h.trans (by rw[ByteArray.toList_eq])))
 have g0:s.toList.isEmpty=false:=by simpa using d4
 have e8:Hid (0<s.size):=Qa (by rcases Nat.eq_zero_or_pos s.size with h|h;exact absurd (by rw[ByteArray.toList_eq];exact List.eq_nil_of_length_eq_zero h) d4;exact h);clear h0;go_wp2_with fail;generalize (w.alloc (.cells #[.bool false,.string es,.int .i64 0] 75)).alloc (.cells #[.int .i64 0,.int .i64 0,.int .i64 0,.slice none 0 0] 70)=w0 at *
 go_loopw [8] (Jc s w0) (fun i _=>s.size - (intOf i).toNat)
 case atStart=>exact⟨0,by omega,rfl,rfl,fun i hi h0=>absurd h0 (Nat.not_lt_zero _)⟩
 case round=>
  obtain⟨k,hk,rfl,rfl,hA⟩:=hrel;have HA:=Qa hA;clear hA
  by_cases hlt:k<s.size
  ·have hki:(k:Int)<s.size:=by omega
   go_wp2_with fail;refine(o3 _ w0).mono ?_;rintro e w' ⟨⟨b,rfl,d5⟩,rfl⟩;have f1:=Qa d5;clear d5
   cases b
   ·go_wp2_with fail;refine(eS 107 w0).mono ?_;rintro e wz ⟨rfl,a3⟩;have hu:dQ wz 107 (dJ 107 0 0 (.slice none 0 0)):=⟨0,0,_,rfl,.inl rfl⟩;rw[show dJ 107 0 0 (.slice none 0 0) =.agg #[.int .i64 107,.int .i64 0,.int .i64 0,.slice none 0 0] from rfl];have a9:=Qa ((a3.block _ (ae b3.out)).trans b3.out);have b5:=Qa ((a3.block _ (ae b0.out)).trans b0.out);obtain⟨gh,gl',gA,gq,gr,a1,h3,h4,h5,h1,h2⟩:=dq (D:= #[.bool false,.string es,.int .i64 0]) hu a9.out b5.out (Za _) (by omega) (b1.out.trans (a3.mono b1.out.size));injection a1 with a1
    obtain⟨rfl,rfl,a1⟩:0=gh/\0=gl'/\Value.slice none 0 0=Value.slice gA gq gr:=by simpa using a1
    obtain⟨rfl,rfl,rfl⟩:none=gA/\0=gq/\0=gr:=by simpa using a1
    have H1:=Qa h1;have H2:=Qa h2;have H3:=Qa h3;have H4:=Qa h4;have H5:=Qa h5;clear h1 h2 h3 h4 h5 hu a3 a1;go_wp2_with (first
     |(refine bM a9.out ?_)
     |(refine bM H3.out ?_))
    have h4:=H4.out;have h5:=H5.out;exact Zg (fX Tryz.results223 _ _ _ _ _ _ _ _ _ _ _ _ _ (0,0) (0,0) rfl h4 rfl h5) rfl ⟨⟨false,es,0⟩,107,rfl,H2.out,Zb (Nat.le_of_eq (rfl:es.size=0)) (Zj _),fun hc=>absurd hc (by decide)⟩
   ·go_wp2_with fail;exact⟨⟨k+1,by omega,by go_num,rfl,yx hlt HA.out (by have:=f1.out (by trivial);omega)⟩,by simp[intOf];omega⟩
  obtain rfl:k=s.size:=by omega
  have hki:¬ (s.size:Int)<s.size:=by omega
  go_wp2_with fail;refine(eS 0 w0).mono ?_;rintro e w1 ⟨rfl,b8⟩;have d1:Wr w1 (.slice none 0 0):=.inl rfl;rw[show dJ 0 0 0 (.slice none 0 0) =.agg #[.int .i64 0,.int .i64 0,.int .i64 0,.slice none 0 0] from rfl];have c5:=ac w1 (.cells #[.int .i64 0,.int .i64 0,.int .i64 0,.slice none 0 0] 70);have b7:=ar w1 [.int .i64 0,.int .i64 0,.int .i64 0,.slice none 0 0] 70;have d9:=b7 0 _ rfl;have c8:=b7 1 _ rfl;have d3:=b7 2 _ rfl;have d2:=b7 3 _ rfl;have Hu:=Qa (show dQ (w1.alloc (.cells #[.int .i64 0,.int .i64 0,.int .i64 0,.slice none 0 0] 70)) 0 (dJ 0 0 0 (.slice none 0 0)) from⟨0,0,_,rfl,d1.below c5⟩);have a7:=b8.trans (c5.mono b8.size);have b9:=Qa (b1.out.trans (a7.mono b1.out.size));have b2:=Qa ((a7.block _ (ae b3.out)).trans b3.out);have c0:=Qa ((a7.block _ (ae b0.out)).trans b0.out);have f2:w.heap.size+1<w1.heap.size:=Nat.lt_of_lt_of_le (ae b0.out) b8.size;clear b7 c5 b8 d1 a7;have a0:=Qa (show(w1.alloc (.cells #[.int .i64 0,.int .i64 0,.int .i64 0,.slice none 0 0] 70)).cell? ⟨w1.heap.size,0,none⟩=some (.int .i64 0)/\(w1.alloc (.cells #[.int .i64 0,.int .i64 0,.int .i64 0,.slice none 0 0] 70)).cell? ⟨w1.heap.size,1,none⟩=some (.int .i64 0)/\(w1.alloc (.cells #[.int .i64 0,.int .i64 0,.int .i64 0,.slice none 0 0] 70)).cell? ⟨w1.heap.size,2,none⟩=some (.int .i64 0)/\(w1.alloc (.cells #[.int .i64 0,.int .i64 0,.int .i64 0,.slice none 0 0] 70)).cell? ⟨w1.heap.size,3,none⟩=some (.slice none 0 0) from⟨d9,c8,d3,d2⟩);clear d9 c8 d3 d2;go_wp2_with fail;generalize (w1.alloc (.cells #[.int .i64 0,.int .i64 0,.int .i64 0,.slice none 0 0] 70))=w2 at *;generalize w1.heap.size=fb at *
  go_loopw [11] (IG s w2) (fun i _=>s.size - (intOf i).toNat)
  case atStart=>exact⟨0,by omega,rfl,rfl,fun i hi h0=>absurd h0 (Nat.not_lt_zero _)⟩
  case round=>
   obtain⟨p,hp,rfl,rfl,hZ⟩:=hrel;have HZ:=Qa hZ;clear hZ
   by_cases hlt2:p<s.size
   ·have f0:(p:Int)<s.size:=by omega
    by_cases h48:s[p].toNat=48
    ·have c2:((s[p].toNat:Int)==48)=true:=by simp;omega
     have e1:=Qa (xQ hlt2 HZ.out h48);clear h48;go_wp2_with fail;exact⟨⟨p+1,by omega,by go_num,rfl,e1.out⟩,by simp[intOf];omega⟩
    ·have c2:((s[p].toNat:Int)==48)=false:=by simp;omega
     have c9:=Qa h48;have f6:((p:Int)==s.size)=false:=by simp;omega
     clear h48;go_wp2_with fail
     go_loopw [12] (IJ p s w2) (fun i _=>(intOf i).toNat)
     case atStart=>exact⟨s.size,by omega,by omega,rfl,rfl,fun i hi h0=>absurd hi (by omega)⟩
     case round=>
      obtain⟨q,f8,e5,rfl,rfl,hD⟩:=hrel;have HD:=Qa hD;clear hD;have e6:q - 1<s.size:=by omega
      have f4:(q:Int) - 1<s.size:=by omega
      have e0:1<=(q:Int):=by omega
      by_cases z48:s[q - 1].toNat=48
      ·have f5:q - 1≠p:=fun e=>c9.out (by subst e;exact z48)
       have z48':((s[q - 1].toNat:Int)==48)=true:=by simp;omega
       have f3:=Qa (wN e6 HD.out z48);clear z48;go_wp2_with fail;exact⟨⟨q - 1,by omega,by omega,by congr 1;omega,rfl,f3.out⟩,by simp[intOf];omega⟩
      ·have z48':((s[q - 1].toNat:Int)==48)=false:=by simp;omega
       have c6:=Qa z48;clear z48;have e2:p<=q:=by omega
       have e4:(p:Int)<=q:=by omega
       have e3:(q:Int)<=s.size:=by omega
       have d0:(s.extract p q).size<=s.size+1:=by simp[ByteArray.size_extract];omega
       have e7:=Qa d0;clear d0;go_wp2_with fail;have f9:p<=q:=by omega
       have g1:q<=s.size:=e5
       all_goals first
        |(with_reducible refine(eS 108 w2).mono ?_
          rintro e wz ⟨rfl,a3⟩;have hu:dQ wz 108 (dJ 108 0 0 (.slice none 0 0)):=⟨0,0,_,rfl,.inl rfl⟩;rw[show dJ 108 0 0 (.slice none 0 0) =.agg #[.int .i64 108,.int .i64 0,.int .i64 0,.slice none 0 0] from rfl];have a9:=Qa ((a3.block _ (ae b2.out)).trans b2.out);have b5:=Qa ((a3.block _ (ae c0.out)).trans c0.out);obtain⟨gh,gl',gA,gq,gr,a1,h3,h4,h5,h1,h2⟩:=dq (D:= #[.bool false,.string es,.int .i64 0]) hu a9.out b5.out (Za _) (by omega) (b9.out.trans (a3.mono b9.out.size));injection a1 with a1
          obtain⟨rfl,rfl,a1⟩:0=gh/\0=gl'/\Value.slice none 0 0=Value.slice gA gq gr:=by simpa using a1
          obtain⟨rfl,rfl,rfl⟩:none=gA/\0=gq/\0=gr:=by simpa using a1
          have H1:=Qa h1;have H2:=Qa h2;have H3:=Qa h3;have H4:=Qa h4;have H5:=Qa h5;clear h1 h2 h3 h4 h5 hu a3 a1;go_wp2_with (first
           |(refine bM a9.out ?_)
           |(refine bM H3.out ?_))
          have h4:=H4.out;have h5:=H5.out;exact Zg (fX Tryz.results223 _ _ _ _ _ _ _ _ _ _ _ _ _ (0,0) (0,0) rfl h4 rfl h5) rfl ⟨⟨false,es,0⟩,108,rfl,H2.out,Zb (Nat.le_of_eq (rfl:es.size=0)) (Zj _),fun hc=>absurd hc (by decide)⟩
         )
        |(skip
          obtain⟨gh,gl',gA,gq,gr,a1,h3,h4,h5,h1,h2⟩:=dq (w:=w2.drew) (D:= #[.bool neg,.string (s.extract p q),.int .i64 (x+s.size - q)]) Hu.out b2.out c0.out (Za _) (by omega) (b9.out.drew);injection a1 with a1
          obtain⟨rfl,rfl,a1⟩:0=gh/\0=gl'/\Value.slice none 0 0=Value.slice gA gq gr:=by simpa using a1
          obtain⟨rfl,rfl,rfl⟩:none=gA/\0=gq/\0=gr:=by simpa using a1
          have H1:=Qa h1;have H2:=Qa h2;have H3:=Qa h3;have H4:=Qa h4;have H5:=Qa h5;have a6:some (fb)≠some (w.heap.size):=fun e=>by injection e with e;omega
          have a5:some (fb)≠some (w.heap.size+1):=fun e=>by injection e with e;omega
          have a4:(w2.drew.setRow w.heap.size #[.bool neg,.string (s.extract p q),.int .i64 (x+s.size - q)]).cell? ⟨fb,0,none⟩=some (.int .i64 0)/\(w2.drew.setRow w.heap.size #[.bool neg,.string (s.extract p q),.int .i64 (x+s.size - q)]).cell? ⟨fb,1,none⟩=some (.int .i64 0)/\(w2.drew.setRow w.heap.size #[.bool neg,.string (s.extract p q),.int .i64 (x+s.size - q)]).cell? ⟨fb,2,none⟩=some (.int .i64 0)/\(w2.drew.setRow w.heap.size #[.bool neg,.string (s.extract p q),.int .i64 (x+s.size - q)]).cell? ⟨fb,3,none⟩=some (.slice none 0 0):=⟨(ai _ _ _).cell a0.out.1 a6,(ai _ _ _).cell a0.out.2.1 a6,(ai _ _ _).cell a0.out.2.2.1 a6,(ai _ _ _).cell a0.out.2.2.2 a6⟩;have b4:((w2.drew.setRow w.heap.size #[.bool neg,.string (s.extract p q),.int .i64 (x+s.size - q)]).setRow (w.heap.size+1) #[.int .i64 0,.int .i64 0,.int .i64 0,.slice none 0 0]).cell? ⟨fb,0,none⟩=some (.int .i64 0)/\((w2.drew.setRow w.heap.size #[.bool neg,.string (s.extract p q),.int .i64 (x+s.size - q)]).setRow (w.heap.size+1) #[.int .i64 0,.int .i64 0,.int .i64 0,.slice none 0 0]).cell? ⟨fb,1,none⟩=some (.int .i64 0)/\((w2.drew.setRow w.heap.size #[.bool neg,.string (s.extract p q),.int .i64 (x+s.size - q)]).setRow (w.heap.size+1) #[.int .i64 0,.int .i64 0,.int .i64 0,.slice none 0 0]).cell? ⟨fb,2,none⟩=some (.int .i64 0)/\((w2.drew.setRow w.heap.size #[.bool neg,.string (s.extract p q),.int .i64 (x+s.size - q)]).setRow (w.heap.size+1) #[.int .i64 0,.int .i64 0,.int .i64 0,.slice none 0 0]).cell? ⟨fb,3,none⟩=some (.slice none 0 0):=⟨(ai _ _ _).cell a4.1 a5,(ai _ _ _).cell a4.2.1 a5,(ai _ _ _).cell a4.2.2.1 a5,(ai _ _ _).cell a4.2.2.2 a5⟩;have c1:=Qa a4;have c4:=Qa b4;clear h1 h2 h3 h4 h5 a1 a6 a5 a4 b4;refine aR (fun w'=>w'.cell? ⟨fb,0,none⟩=some (.int .i64 0)/\w'.cell? ⟨fb,1,none⟩=some (.int .i64 0)/\w'.cell? ⟨fb,2,none⟩=some (.int .i64 0)/\w'.cell? ⟨fb,3,none⟩=some (.slice none 0 0)) (a0.out) fun a2=>?_
          refine tH 0 a2 ?_;refine tH 1 a2 ?_;refine tH 2 a2 ?_;refine tH 3 a2 ?_;refine tH 4 a2 ?_;refine tH 5 a2 ?_
          try simp only[Act.put,jP,jQ,jR]
          refine tH 6 a2 ?_;refine tH 7 a2 ?_
          try simp only[Act.put,jP,jQ,jR]
          refine rH 8 fun K hK=>?_
          refine bT b2.out ?_;refine hK.out _ _ (c1.out) (fun a2=>?_);clear hK K
          try simp only[Act.put,jP,jQ,jR]
          refine rH 9 fun K hK=>?_
          refine bT H3.out ?_;refine hK.out _ _ (c4.out) (fun a2=>?_);clear hK K
          try simp only[Act.put,jP,jQ,jR]
          refine wpAnyH_done (by kernel_rfl) (NoPanic.normal ?_) _;go_wp2_with fail;have h4:=H4.out;have h5:=H5.out;exact Zg (fX Tryz.results223 _ _ _ _ _ _ _ _ _ _ _ _ _ (0,0) (0,0) rfl h4 rfl h5) rfl ⟨⟨neg,s.extract p q,x+s.size - q⟩,0,rfl,H2.out,e7.out,fun _=>⟨by omega,fun i hi=>HA.out i hi hi,.inr ⟨p,q,by omega,by omega,HZ.out,fun _=>c9.out,fun _=>c6.out,HD.out,rfl,by dsimp only;omega,by dsimp only;omega⟩⟩⟩
         )
   ·have f0:¬ (p:Int)<s.size:=by omega
    obtain rfl:p=s.size:=by omega
    go_wp2_with fail;obtain⟨gh,gl',gA,gq,gr,a1,h3,h4,h5,h1,h2⟩:=dq (w:=w2.drew) (D:= #[.bool false,.string ⟨#[48]⟩,.int .i64 0]) Hu.out b2.out c0.out (Za _) (by omega) (b9.out.drew);injection a1 with a1
    obtain⟨rfl,rfl,a1⟩:0=gh/\0=gl'/\Value.slice none 0 0=Value.slice gA gq gr:=by simpa using a1
    obtain⟨rfl,rfl,rfl⟩:none=gA/\0=gq/\0=gr:=by simpa using a1
    have H1:=Qa h1;have H2:=Qa h2;have H3:=Qa h3;have H4:=Qa h4;have H5:=Qa h5;have a6:some (fb)≠some (w.heap.size):=fun e=>by injection e with e;omega
    have a5:some (fb)≠some (w.heap.size+1):=fun e=>by injection e with e;omega
    have a4:(w2.drew.setRow w.heap.size #[.bool false,.string ⟨#[48]⟩,.int .i64 0]).cell? ⟨fb,0,none⟩=some (.int .i64 0)/\(w2.drew.setRow w.heap.size #[.bool false,.string ⟨#[48]⟩,.int .i64 0]).cell? ⟨fb,1,none⟩=some (.int .i64 0)/\(w2.drew.setRow w.heap.size #[.bool false,.string ⟨#[48]⟩,.int .i64 0]).cell? ⟨fb,2,none⟩=some (.int .i64 0)/\(w2.drew.setRow w.heap.size #[.bool false,.string ⟨#[48]⟩,.int .i64 0]).cell? ⟨fb,3,none⟩=some (.slice none 0 0):=⟨(ai _ _ _).cell a0.out.1 a6,(ai _ _ _).cell a0.out.2.1 a6,(ai _ _ _).cell a0.out.2.2.1 a6,(ai _ _ _).cell a0.out.2.2.2 a6⟩;have b4:((w2.drew.setRow w.heap.size #[.bool false,.string ⟨#[48]⟩,.int .i64 0]).setRow (w.heap.size+1) #[.int .i64 0,.int .i64 0,.int .i64 0,.slice none 0 0]).cell? ⟨fb,0,none⟩=some (.int .i64 0)/\((w2.drew.setRow w.heap.size #[.bool false,.string ⟨#[48]⟩,.int .i64 0]).setRow (w.heap.size+1) #[.int .i64 0,.int .i64 0,.int .i64 0,.slice none 0 0]).cell? ⟨fb,1,none⟩=some (.int .i64 0)/\((w2.drew.setRow w.heap.size #[.bool false,.string ⟨#[48]⟩,.int .i64 0]).setRow (w.heap.size+1) #[.int .i64 0,.int .i64 0,.int .i64 0,.slice none 0 0]).cell? ⟨fb,2,none⟩=some (.int .i64 0)/\((w2.drew.setRow w.heap.size #[.bool false,.string ⟨#[48]⟩,.int .i64 0]).setRow (w.heap.size+1) #[.int .i64 0,.int .i64 0,.int .i64 0,.slice none 0 0]).cell? ⟨fb,3,none⟩=some (.slice none 0 0):=⟨(ai _ _ _).cell a4.1 a5,(ai _ _ _).cell a4.2.1 a5,(ai _ _ _).cell a4.2.2.1 a5,(ai _ _ _).cell a4.2.2.2 a5⟩;have c1:=Qa a4;have c4:=Qa b4;clear h1 h2 h3 h4 h5 a1 a6 a5 a4 b4;refine aR (fun w'=>w'.cell? ⟨fb,0,none⟩=some (.int .i64 0)/\w'.cell? ⟨fb,1,none⟩=some (.int .i64 0)/\w'.cell? ⟨fb,2,none⟩=some (.int .i64 0)/\w'.cell? ⟨fb,3,none⟩=some (.slice none 0 0)) (a0.out) fun a2=>?_
    refine tH 0 a2 ?_;refine tH 1 a2 ?_
    try simp only[Act.put,jP,jQ,jR]
    refine rH 2 fun K hK=>?_
    refine bT b2.out ?_;refine hK.out _ _ (c1.out) (fun a2=>?_);clear hK K
    try simp only[Act.put,jP,jQ,jR]
    refine rH 3 fun K hK=>?_
    refine bT H3.out ?_;refine hK.out _ _ (c4.out) (fun a2=>?_);clear hK K
    try simp only[Act.put,jP,jQ,jR]
    refine wpAnyH_done (by kernel_rfl) (NoPanic.normal ?_) _;go_wp2_with fail;have h4:=H4.out;have h5:=H5.out;exact Zg (fX Tryz.results223 _ _ _ _ _ _ _ _ _ _ _ _ _ (0,0) (0,0) rfl h4 rfl h5) rfl ⟨⟨false,⟨#[48]⟩,0⟩,0,rfl,H2.out,by show 1<=_;omega,fun _=>⟨by have:=e8.out;omega,fun i hi=>HA.out i hi hi,.inl ⟨fun i hi=>HZ.out i hi hi,rfl⟩⟩⟩
theorem pj (c h l p:Int)(w:World):Calls Tryz.prog 224 #[dJ c h l (.slice none 0 0),.int .i64 p] w (uY w c):=by
 unfold dJ;go_enter Tryz.func224,Tryz.ntmps224;go_wp2_with fail;have hb:=((((Zd w.heap.size w).alloc (Za _) (.cells #[.int .i64 c,.int .i64 h,.int .i64 l,.slice none 0 0] 70)).alloc (by simp) (.cells #[.int .i64 c,.int .i64 h,.int .i64 l,.slice (some ⟨w.heap.size+1+1,0,none⟩) 1 1] 70)).alloc (by simp;omega) (.cells #[.bool false,.int .i64 p,.string es] 320));have hc:=ar ((w.alloc (.cells #[.int .i64 c,.int .i64 h,.int .i64 l,.slice none 0 0] 70)).alloc (.cells #[.int .i64 c,.int .i64 h,.int .i64 l,.slice (some ⟨w.heap.size+1+1,0,none⟩) 1 1] 70)) [.bool false,.int .i64 p,.string es] 320;have a0:=Ze (w.alloc (.cells #[.int .i64 c,.int .i64 h,.int .i64 l,.slice none 0 0] 70)) (.cells #[.int .i64 c,.int .i64 h,.int .i64 l,.slice (some ⟨w.heap.size+1+1,0,none⟩) 1 1] 70);simp only[World.size_alloc] at hc a0;exact Zg (results_cell_row Tryz.results224 _ _ (w.heap.size+1) 70 #[.int .i64 c,.int .i64 h,.int .i64 l,.slice (some ⟨w.heap.size+1+1,0,none⟩) 1 1] (0,0) _ (by simp) ((Below.heap_alloc _ _ _ (by simp)).trans a0) Tryz.underlying70 rfl bo) rfl ⟨_,rfl,⟨h,l,_,rfl,.inr ⟨w.heap.size+1+1,1,false,p,es,rfl,hc 0 _ rfl,hc 1 _ rfl,hc 2 _ rfl⟩⟩,hb⟩
theorem iW {fn:Func}{p m q:Tmp}(h:fn.results = #[.cell p 75,.tmp m,.cell q 70])(tmps:Array Value)(w:World)(g1 g:Nat)(t1 t:TypeId)(d0 d1 d2 c0 c1 c2 c3:Value)(fr1 fr:Nat×Nat)
  (a2:tmps.getD p undef =.pointer (some ⟨g1,0,none⟩)) (a3:w.heap[g1]?=some (.cells #[d0,d1,d2] t1 fr1))
  (hp:tmps.getD q undef =.pointer (some ⟨g,0,none⟩)) (hg:w.heap[g]?=some (.cells #[c0,c1,c2,c3] t fr)) :
  (results fn tmps).run Tryz.prog w =.ok (.tuple #[.agg #[d0,d1,d2],tmps.getD m undef,.agg #[c0,c1,c2,c3]]) w:=by
 have a0:tmps[p]?.getD undef =.pointer (some ⟨g1,0,none⟩):=by simpa using a2
 have a1:tmps[q]?.getD undef =.pointer (some ⟨g,0,none⟩):=by simpa using hp
 have a4:=run_loadVar_row (P:=Tryz.prog) w g1 t1 75 #[d0,d1,d2] fr1 _ a3 Tryz.underlying75 rfl (by kernel_rfl);have hl:=run_loadVar_row (P:=Tryz.prog) w g t 70 #[c0,c1,c2,c3] fr _ hg Tryz.underlying70 rfl bo;simp[results,h,a0,a1,asAddr,a4,hl]
def jS (d:Dc):Prop:=d= ⟨false,⟨#[48]⟩,0⟩\/(0<d.digits.size/\(∀i (h:i<d.digits.size),48<=d.digits[i].toNat/\d.digits[i].toNat<=57)/\(∀h:0<d.digits.size,d.digits[0].toNat≠48)/\(∀h:d.digits.size - 1<d.digits.size,d.digits[d.digits.size - 1].toNat≠48)/\ -1000000000<=d.exp/\d.exp<=1000000000)
theorem jw {s:ByteArray}(h:i< (s.extract p q).size)(h2:p+i<s.size):(s.extract p q)[i]=s[p+i]:=by
 show(s.extract p q).data[i]=s.data[p+i]
 have e:(s.extract p q).data=s.data.extract p q:=ByteArray.data_extract ..;simp only[e,Array.getElem_extract]
theorem qO.norm {neg:Bool}{s:ByteArray}{x:Int}(h:qO neg s x d):jS d:=by
 obtain⟨-,hd,⟨-,rfl⟩|⟨p,q,a1,hq,-,hp,hl,-,rfl,h1,h2⟩⟩:=h
 ·exact .inl rfl
 ·have hz:(s.extract p q).size=q - p:=by rw[ByteArray.size_extract];omega
  refine .inr ⟨by show 0< (s.extract p q).size;omega,fun i hi=>?_,fun h=>?_,fun h=>?_,h1,h2⟩
  ·have a0:i< (s.extract p q).size:=hi
   show 48<=(s.extract p q)[i].toNat/\(s.extract p q)[i].toNat<=57
   rw[jw a0 (by omega)];exact hd _ _
  ·have a0:0< (s.extract p q).size:=h
   show(s.extract p q)[0].toNat≠48
   rw[jw a0 (by omega)];exact hp _
  ·have a0:(s.extract p q).size - 1< (s.extract p q).size:=h
   show(s.extract p q)[(s.extract p q).size - 1].toNat≠48
   rw[jw a0 (by omega)];have e:p+ ((s.extract p q).size - 1)=q - 1:=by omega
   have:=hl (by omega);simpa only[e] using this
def Jk (len:Nat)(w:World)(e:Ending)(w':World):Prop:= ∃ (d:Dc) (n:Nat) (c:Int) (u:Value),e =.returned (.tuple #[Im d,.int .i64 n,u])/\dQ w' c u/\Below w.heap.size w w'/\d.digits.size<=len+1/\(c=0->1<=n/\n<=len/\jS d)
def qZ (w0:World)(len:Nat)(s5 s6 s7 s8 s9 s10 s11:Value)(wr:World):Prop:= ∃ (k:Nat) (s p x:Int) (b1 b2:Bool) (ys:List UInt8) (vd:Value),k<=len/\s5 =.int .i64 s/\(k=0->s=0)/\s6 =.int .i64 k/\s7 =.bool b1/\s8 =.bool b2/\vd=s9/\au wr w0.heap.size vd ys/\ys.length<=k/\s10 =.int .i64 p/\s11 =.int .i64 x/\Below w0.heap.size w0 wr
theorem xC (hb:Bs w v xs)(hl:xs.length<=900000):Calls Tryz.prog 190 #[v] w (Jk xs.length w):=by
 obtain⟨hm,A,cap,rfl,g5,b3⟩:=id hb;have e7:=Ze w (.cells #[.bool false,.string es,.int .i64 0] 75);have d9:=Ze (w.alloc (.cells #[.bool false,.string es,.int .i64 0] 75)) (.cells #[.int .i64 0,.int .i64 0,.int .i64 0,.slice none 0 0] 70);rw[World.size_alloc] at d9;have f4:Below w.heap.size w ((w.alloc (.cells #[.bool false,.string es,.int .i64 0] 75)).alloc (.cells #[.int .i64 0,.int .i64 0,.int .i64 0,.slice none 0 0] 70)):=((Zd _ _).alloc (Za _) _).alloc (by simp) _;have c6:((w.alloc (.cells #[.bool false,.string es,.int .i64 0] 75)).alloc (.cells #[.int .i64 0,.int .i64 0,.int .i64 0,.slice none 0 0] 70)).heap[w.heap.size]?=some (.cells #[.bool false,.string es,.int .i64 0] 75 (0,0)):=(Below.heap_alloc _ _ _ (by simp)).trans e7;have f6:=Qa c6;have f2:=Qa d9;have d2:=Qa f4;have g8:=Qa hb;have c7:=Qa b3;clear e7 c6 d9 f4 hb b3;go_enter Tryz.func190,Tryz.ntmps190;go_upto_block 0 with fail
 generalize (w.alloc (.cells #[.bool false,.string es,.int .i64 0] 75)).alloc (.cells #[.int .i64 0,.int .i64 0,.int .i64 0,.slice none 0 0] 70)=w0 at *;go_cut [5,6,7,8,9,10,11] (fun s5 s6 s7 s8 s9 s10 s11 wx=>qZ w0 xs.length s5 s6 s7 s8 s9 s10 s11 wx)
 case first=>
  go_wp2_with fail
  go_loopw [5,6,7,8,9,10,11] (qZ w0 xs.length) (fun _ i _ _ _ _ _ _=>xs.length - (intOf i).toNat)
  case atStart=>exact⟨0,0,0,0,false,false, [],_,by omega,rfl,fun _=>rfl,rfl,rfl,rfl,rfl,au.nil _ _,by simp,rfl,rfl,Zd _ _⟩
  case round=>
   obtain⟨k,s,p,x,b1,b2,ys,vd,hk,rfl,c4,rfl,rfl,rfl,rfl,ho,hyl,rfl,rfl,b5⟩:=hrel;have Ho:=Qa ho;have Hs0:=Qa c4;have Hbr:=Qa b5;clear ho c4 b5
   by_cases hlt:k<xs.length
   case neg=>
    have hki:¬ (k:Int)<xs.length:=by omega
    go_wp2_with fail;go_meet
    case rel=>exact⟨k,s,p,x,b1,b2,ys,vd,hk,rfl,Hs0.out,rfl,rfl,rfl,rfl,Ho.out,hyl,rfl,rfl,Hbr.out⟩
   have hki:(k:Int)<xs.length:=by omega
   obtain⟨b,o,rfl,f0⟩:=c7.out (by omega);have ck:=Zf (d2.out.trans (Hbr.out.mono d2.out.size)) (f0 k hlt);have b6:Bs (wr.alloc (.cells #[.int .u8 (ap xs k)] 5)) (.slice (some ⟨wr.heap.size,0,none⟩) 1 1) [xs.getD k 0]:=qG [xs.getD k 0] (by simp) (by simp) (Ze _ _);obtain⟨X,hX,h0,g7⟩:∃X:Int,(ap xs k:Int)=X/\0<=X/\X<256:=⟨_,rfl,by omega,by have:=aK xs k;omega⟩;rw[hX] at ck b6;have c8:=Qa b6;clear hX f0 b6;go_wp2_with fail;refine(BG s X wr).mono ?_;rintro e w' ⟨⟨t,rfl,h7,h9,f1⟩,rfl⟩;have h6:=Qa f1;clear f1;have hrel:∀ (s p x:Int) (b1 b2:Bool),qZ w0 xs.length (.int .i64 s) (.int .i64 (k+1:Nat)) (.bool b1) (.bool b2) vd (.int .i64 p) (.int .i64 x) wr:=fun s p x b1 b2=>⟨k+1,s,p,x,b1,b2,ys,vd,by omega,rfl,fun h=>by omega,rfl,rfl,rfl,rfl,Ho.out,by omega,rfl,rfl,Hbr.out⟩
   have e0:=Qa hrel;have b0:∀ (v':Value) (w3:World),au w3 w0.heap.size v' (ys ++ [xs.getD k 0])->(wr.alloc (.cells #[.int .u8 X] 5)).grownBy w3 vd.ownBlock->∀ (s p x:Int) (b1 b2:Bool),qZ w0 xs.length (.int .i64 s) (.int .i64 (k+1:Nat)) (.bool b1) (.bool b2) v' (.int .i64 p) (.int .i64 x) w3:=fun v' w3 h1 h2 s p x b1 b2=>
    ⟨k+1,s,p,x,b1,b2,_,_,by omega,rfl,fun h=>by omega,rfl,rfl,rfl,rfl,h1,by simp;omega,rfl,rfl,(Hbr.out.trans ((ac _ _).mono Hbr.out.size)).grown h2 (by simp;have:=Hbr.out.size;omega) (fun g e=>(al Ho.out e).1)⟩
   have c9:=Qa b0;have a9:=Ho.out.below (ac wr (.cells #[.int .u8 X] 5)) (Za _);have b4:=Qa a9;clear hrel b0 a9;have e5:(((k+1:Nat):Int))= (k:Int)+1:=by omega
   have d1:=Qa e5;clear e5;rcases(by omega:t=1\/t=2\/t=3\/t=4\/t=5\/t=6\/t=7\/t=8\/t=9) with rfl|rfl|rfl|rfl|rfl|rfl|rfl|rfl|rfl
   case inr.inr.inr.inr.inr.inr.inr.inr=>
    go_wp2_with fail;go_meet
    case rel=>exact⟨k,s,p,x,b1,b2,ys,vd,hk,rfl,Hs0.out,rfl,rfl,rfl,rfl,Ho.out,hyl,rfl,rfl,Hbr.out⟩
   case inr.inl|inr.inr.inl|inr.inr.inr.inr.inl=>
    go_wp2_with (at_builtin;first
     |(refine pW b4.out c8.out (by simp;omega) (by have:=Hbr.out.size;simp;omega) ?_;intro v' w3 h1 h2 h3;have HK:=Qa h1;have HG:=Qa h2;clear h1 h2 h3)
     |(refine pW b4.out c8.out (by simp;omega) (by have:=Hbr.out.size;simp;omega) ?_;intro v' w3 h1 h2 h3;have HK:=Qa h1;have HG:=Qa h2;clear h1 h2 h3))
    all_goals
     have h:=c9.out v' w3 HK.out HG.out;rw[d1.out] at h;exact⟨h _ _ _ _ _,by simp[intOf];omega⟩
   all_goals
    go_wp2_with fail
    all_goals
     have h:=e0.out;rw[d1.out] at h;exact⟨h _ _ _ _ _,by simp[intOf];omega⟩
 case rest=>
  obtain⟨k,s,p,x,b1,b2,ys,vd,hk,rfl,c4,rfl,rfl,rfl,rfl,ho,hyl,rfl,rfl,b5⟩:=hcut;have Ho:=Qa ho;have Hs0:=Qa c4;have Hbr:=Qa b5;have c0:=Qa ((b5.block _ (ae f6.out)).trans f6.out);have b8:=Qa ((b5.block _ (ae f2.out)).trans f2.out);have b7:=d2.out.trans (b5.mono d2.out.size);have c3:=Qa b7;clear ho c4 b5 b7
  by_cases hs:s=2\/s=3\/s=5\/s=8
  case neg=>
   have h2:(s !=2)=true:=by simp;omega
   have h3:(s !=3)=true:=by simp;omega
   have h5:(s !=5)=true:=by simp;omega
   have h8:(s !=8)=true:=by simp;omega
   clear hs;go_wp2_with fail;refine(cG 107 k wc).mono ?_;rintro e wz ⟨u,rfl,hu,a6⟩;have c5:=Qa ((a6.block _ (ae c0.out)).trans c0.out);have d5:=Qa ((a6.block _ (ae b8.out)).trans b8.out);obtain⟨fh,fl,fA,fq,fr,rfl,h3,h4,h5,h1,h2⟩:=dq (D:= #[.bool false,.string es,.int .i64 0]) hu c5.out d5.out (Za _) (by omega) (c3.out.trans (a6.mono c3.out.size));have H1:=Qa h1;have H2:=Qa h2;have H3:=Qa h3;have H4:=Qa h4;have H5:=Qa h5;clear h1 h2 h3 h4 h5 hu a6;go_wp2_with (first
    |(refine bM c5.out ?_)
    |(refine bM H3.out ?_))
   have h4:=H4.out;have h5:=H5.out;exact Zg (iW Tryz.results190 _ _ _ _ _ _ _ _ _ _ _ _ _ (0,0) (0,0) rfl h4 rfl h5) rfl ⟨⟨false,es,0⟩,0,107,_,rfl,H1.out,H2.out,Zb (Nat.le_of_eq (rfl:es.size=0)) (Zj _),fun h=>by cases h⟩
  have d1:=Qa (show 1<=k from by
   by_cases h:k=0
   ·have:=Hs0.out h;omega
   ·omega)
  have hq:∀W,Below wc.heap.size wc W->(convert 22 9 vd).run Tryz.prog W =.ok (.string ⟨ys.toArray⟩) W:=fun W hW=>aW (Ho.out.bs.below hW)
  have e2:=hq wc (Zd _ _);clear hq;have e3:(⟨ys.toArray⟩:ByteArray).size<=xs.length:=by simp[ByteArray.size];omega
  have e6:=Qa e3;clear e3;obtain⟨w3,d0⟩:∃w3,wc=w3:=⟨_,rfl⟩;rw[d0] at e2 Ho Hbr c0 b8 c3 ⊢;clear d0;go_upto_region 28 with fail
  go_cut [87] (fun s87 wx=>s87 =.bool false/\wx=w3)
  case first=>
   rcases hs with rfl|rfl|rfl|rfl <;> go_wp2_with fail
   all_goals
    go_meet
    case rel=>exact⟨rfl,rfl⟩
  case rest=>
   obtain⟨rfl,rfl⟩:=hcut;go_upto_if 91 with fail
   obtain⟨w3,d0⟩:∃w3,wc=w3:=⟨_,rfl⟩;rw[d0] at e2 Ho Hbr c0 b8 c3 ⊢;clear d0;go_cut [11] (fun s11 wx=>(∃x':Int,s11 =.int .i64 x')/\wx=w3)
   case first=>
    cases b2 <;> go_wp2_with fail
    all_goals
     go_meet
     case rel=>exact⟨⟨_,rfl⟩,rfl⟩
   case rest=>
    obtain⟨⟨x',rfl⟩,rfl⟩:=hcut;go_wp2_with fail;refine(yA b1 ⟨ys.toArray⟩ _ (by have:=e6.out;omega) wc).mono ?_;rintro e w1 ⟨d,c,rfl,b7,g3,e4⟩;have g4:=Qa (fun hc=>qO.norm (e4 hc));have g1:=Qa (show d.digits.size<=xs.length+1 from by have:=e6.out;omega);clear g3 e4;obtain⟨dn,dd,dx⟩:=d;rw[show Im ⟨dn,dd,dx⟩ =.agg #[.bool dn,.string dd,.int .i64 dx] from rfl,show dJ c 0 0 (.slice none 0 0) =.agg #[.int .i64 c,.int .i64 0,.int .i64 0,.slice none 0 0] from rfl];have f3:Below w1.heap.size w1 ((w1.alloc (.cells #[.bool dn,.string dd,.int .i64 dx] 75)).alloc (.cells #[.int .i64 c,.int .i64 0,.int .i64 0,.slice none 0 0] 70)):=(ac w1 _).alloc (by simp) _;have hcd:=ar w1 [.bool dn,.string dd,.int .i64 dx] 75;have b9:=ar (w1.alloc (.cells #[.bool dn,.string dd,.int .i64 dx] 75)) [.int .i64 c,.int .i64 0,.int .i64 0,.slice none 0 0] 70;rw[World.size_alloc] at b9;have d3:=ac (w1.alloc (.cells #[.bool dn,.string dd,.int .i64 dx] 75)) (.cells #[.int .i64 c,.int .i64 0,.int .i64 0,.slice none 0 0] 70);have a0:=Qa (show((w1.alloc (.cells #[.bool dn,.string dd,.int .i64 dx] 75)).alloc (.cells #[.int .i64 c,.int .i64 0,.int .i64 0,.slice none 0 0] 70)).cell? ⟨w1.heap.size,0,none⟩=some (.bool dn)/\((w1.alloc (.cells #[.bool dn,.string dd,.int .i64 dx] 75)).alloc (.cells #[.int .i64 c,.int .i64 0,.int .i64 0,.slice none 0 0] 70)).cell? ⟨w1.heap.size,1,none⟩=some (.string dd)/\((w1.alloc (.cells #[.bool dn,.string dd,.int .i64 dx] 75)).alloc (.cells #[.int .i64 c,.int .i64 0,.int .i64 0,.slice none 0 0] 70)).cell? ⟨w1.heap.size,2,none⟩=some (.int .i64 dx)/\((w1.alloc (.cells #[.bool dn,.string dd,.int .i64 dx] 75)).alloc (.cells #[.int .i64 c,.int .i64 0,.int .i64 0,.slice none 0 0] 70)).cell? ⟨w1.heap.size+1,0,none⟩=some (.int .i64 c)/\((w1.alloc (.cells #[.bool dn,.string dd,.int .i64 dx] 75)).alloc (.cells #[.int .i64 c,.int .i64 0,.int .i64 0,.slice none 0 0] 70)).cell? ⟨w1.heap.size+1,1,none⟩=some (.int .i64 0)/\((w1.alloc (.cells #[.bool dn,.string dd,.int .i64 dx] 75)).alloc (.cells #[.int .i64 c,.int .i64 0,.int .i64 0,.slice none 0 0] 70)).cell? ⟨w1.heap.size+1,2,none⟩=some (.int .i64 0)/\((w1.alloc (.cells #[.bool dn,.string dd,.int .i64 dx] 75)).alloc (.cells #[.int .i64 c,.int .i64 0,.int .i64 0,.slice none 0 0] 70)).cell? ⟨w1.heap.size+1,3,none⟩=some (.slice none 0 0) from⟨Zf d3 (hcd 0 _ rfl),Zf d3 (hcd 1 _ rfl),Zf d3 (hcd 2 _ rfl),b9 0 _ rfl,b9 1 _ rfl,b9 2 _ rfl,b9 3 _ rfl⟩);have a2:=b7.trans (f3.mono b7.size);have f9:=Qa a2;have e1:=Qa (c3.out.trans (a2.mono c3.out.size));have d4:=Qa ((a2.block _ (ae c0.out)).trans c0.out);have d6:=Qa ((a2.block _ (ae b8.out)).trans b8.out);have g0:w.heap.size+1<w1.heap.size:=Nat.lt_of_lt_of_le (ae b8.out) b7.size;clear f3 hcd b9 d3 a2 b7 e2
    by_cases hc:c=0
    case neg=>
     have g9:(c !=0)=true:=by simpa using hc
     have Hc:=Qa hc;clear hc;go_wp2_with fail;generalize ((w1.alloc (.cells #[.bool dn,.string dd,.int .i64 dx] 75)).alloc (.cells #[.int .i64 c,.int .i64 0,.int .i64 0,.slice none 0 0] 70))=w2 at *;refine(pj c 0 0 0 w2).mono ?_;rintro e wz ⟨u,rfl,hu,a6⟩;have c5:=Qa ((a6.block _ (ae d4.out)).trans d4.out);have d5:=Qa ((a6.block _ (ae d6.out)).trans d6.out);obtain⟨fh,fl,fA,fq,fr,rfl,h3,h4,h5,h1,h2⟩:=dq (D:= #[.bool false,.string es,.int .i64 0]) hu c5.out d5.out (Za _) (by omega) (e1.out.trans (a6.mono e1.out.size));have H1:=Qa h1;have H2:=Qa h2;have H3:=Qa h3;have H4:=Qa h4;have H5:=Qa h5;clear h1 h2 h3 h4 h5 hu a6;go_wp2_with (first
      |(refine bM c5.out ?_)
      |(refine bM H3.out ?_))
     have h4:=H4.out;have h5:=H5.out;exact Zg (iW Tryz.results190 _ _ _ _ _ _ _ _ _ _ _ _ _ (0,0) (0,0) rfl h4 rfl h5) rfl ⟨⟨false,es,0⟩,0,c,_,rfl,H1.out,H2.out,Zb (Nat.le_of_eq (rfl:es.size=0)) (Zj _),fun h=>absurd h Hc.out⟩
    subst hc;go_wp2_with fail;generalize ((w1.alloc (.cells #[.bool dn,.string dd,.int .i64 dx] 75)).alloc (.cells #[.int .i64 0,.int .i64 0,.int .i64 0,.slice none 0 0] 70))=w2 at *;have g6:=Qa (rfl:w1.heap.size=w1.heap.size);generalize w1.heap.size=db at *;obtain⟨fb,f5⟩:∃fb,db+1=fb:=⟨_,rfl⟩;rw[f5] at a0 ⊢;have Hu:=Qa (show dQ w2.drew 0 (dJ 0 0 0 (.slice none 0 0)) from⟨0,0,_,rfl,.inl rfl⟩);obtain⟨gh,gl',gA,gq,gr,c2,h3,h4,h5,h1,h2⟩:=dq (w:=w2.drew) (D:= #[.bool dn,.string dd,.int .i64 dx]) Hu.out d4.out d6.out (Za _) (by omega) (e1.out.drew);injection c2 with c2
    obtain⟨rfl,rfl,c2⟩:0=gh/\0=gl'/\Value.slice none 0 0=Value.slice gA gq gr:=by simpa using c2
    obtain⟨rfl,rfl,rfl⟩:none=gA/\0=gq/\0=gr:=by simpa using c2
    have H1:=Qa h1;have H2:=Qa h2;have H3:=Qa h3;have H4:=Qa h4;have H5:=Qa h5;have a4:some db≠some w.heap.size:=fun e=>by injection e with e;omega
    have a1:some fb≠some w.heap.size:=fun e=>by injection e with e;omega
    have a7:some db≠some (w.heap.size+1):=fun e=>by injection e with e;omega
    have a3:some fb≠some (w.heap.size+1):=fun e=>by injection e with e;omega
    have a5:(w2.drew.setRow w.heap.size #[.bool dn,.string dd,.int .i64 dx]).cell? ⟨db,0,none⟩=some (.bool dn)/\(w2.drew.setRow w.heap.size #[.bool dn,.string dd,.int .i64 dx]).cell? ⟨db,1,none⟩=some (.string dd)/\(w2.drew.setRow w.heap.size #[.bool dn,.string dd,.int .i64 dx]).cell? ⟨db,2,none⟩=some (.int .i64 dx)/\(w2.drew.setRow w.heap.size #[.bool dn,.string dd,.int .i64 dx]).cell? ⟨fb,0,none⟩=some (.int .i64 0)/\(w2.drew.setRow w.heap.size #[.bool dn,.string dd,.int .i64 dx]).cell? ⟨fb,1,none⟩=some (.int .i64 0)/\(w2.drew.setRow w.heap.size #[.bool dn,.string dd,.int .i64 dx]).cell? ⟨fb,2,none⟩=some (.int .i64 0)/\(w2.drew.setRow w.heap.size #[.bool dn,.string dd,.int .i64 dx]).cell? ⟨fb,3,none⟩=some (.slice none 0 0):=⟨(ai _ _ _).cell a0.out.1 a4,(ai _ _ _).cell a0.out.2.1 a4,(ai _ _ _).cell a0.out.2.2.1 a4,(ai _ _ _).cell a0.out.2.2.2.1 a1,(ai _ _ _).cell a0.out.2.2.2.2.1 a1,(ai _ _ _).cell a0.out.2.2.2.2.2.1 a1,(ai _ _ _).cell a0.out.2.2.2.2.2.2 a1⟩;have e8:((w2.drew.setRow w.heap.size #[.bool dn,.string dd,.int .i64 dx]).setRow (w.heap.size+1) #[.int .i64 0,.int .i64 0,.int .i64 0,.slice none 0 0]).cell? ⟨db,0,none⟩=some (.bool dn)/\((w2.drew.setRow w.heap.size #[.bool dn,.string dd,.int .i64 dx]).setRow (w.heap.size+1) #[.int .i64 0,.int .i64 0,.int .i64 0,.slice none 0 0]).cell? ⟨db,1,none⟩=some (.string dd)/\((w2.drew.setRow w.heap.size #[.bool dn,.string dd,.int .i64 dx]).setRow (w.heap.size+1) #[.int .i64 0,.int .i64 0,.int .i64 0,.slice none 0 0]).cell? ⟨db,2,none⟩=some (.int .i64 dx)/\((w2.drew.setRow w.heap.size #[.bool dn,.string dd,.int .i64 dx]).setRow (w.heap.size+1) #[.int .i64 0,.int .i64 0,.int .i64 0,.slice none 0 0]).cell? ⟨fb,0,none⟩=some (.int .i64 0)/\((w2.drew.setRow w.heap.size #[.bool dn,.string dd,.int .i64 dx]).setRow (w.heap.size+1) #[.int .i64 0,.int .i64 0,.int .i64 0,.slice none 0 0]).cell? ⟨fb,1,none⟩=some (.int .i64 0)/\((w2.drew.setRow w.heap.size #[.bool dn,.string dd,.int .i64 dx]).setRow (w.heap.size+1) #[.int .i64 0,.int .i64 0,.int .i64 0,.slice none 0 0]).cell? ⟨fb,2,none⟩=some (.int .i64 0)/\((w2.drew.setRow w.heap.size #[.bool dn,.string dd,.int .i64 dx]).setRow (w.heap.size+1) #[.int .i64 0,.int .i64 0,.int .i64 0,.slice none 0 0]).cell? ⟨fb,3,none⟩=some (.slice none 0 0):=⟨(ai _ _ _).cell a5.1 a7,(ai _ _ _).cell a5.2.1 a7,(ai _ _ _).cell a5.2.2.1 a7,(ai _ _ _).cell a5.2.2.2.1 a3,(ai _ _ _).cell a5.2.2.2.2.1 a3,(ai _ _ _).cell a5.2.2.2.2.2.1 a3,(ai _ _ _).cell a5.2.2.2.2.2.2 a3⟩;have f8:=Qa a5;have g2:=Qa e8;clear h1 h2 h3 h4 h5 c2 a4 a1 a7 a3 a5 e8 f5;refine aR (fun w'=>w'.cell? ⟨db,0,none⟩=some (.bool dn)/\w'.cell? ⟨db,1,none⟩=some (.string dd)/\w'.cell? ⟨db,2,none⟩=some (.int .i64 dx)/\w'.cell? ⟨fb,0,none⟩=some (.int .i64 0)/\w'.cell? ⟨fb,1,none⟩=some (.int .i64 0)/\w'.cell? ⟨fb,2,none⟩=some (.int .i64 0)/\w'.cell? ⟨fb,3,none⟩=some (.slice none 0 0)) (a0.out) fun c1=>?_
    refine tH 0 c1 ?_;refine tH 1 c1 ?_;refine tH 2 c1 ?_
    try simp only[Act.put,jP,jQ,jR]
    refine rH 3 fun K hK=>?_
    refine bT d4.out ?_;refine hK.out _ _ (f8.out) (fun c1=>?_);clear hK K
    try simp only[Act.put,jP,jQ,jR]
    refine tH 4 c1 ?_
    try simp only[Act.put,jP,jQ,jR]
    refine rH 5 fun K hK=>?_
    refine bT H3.out ?_;refine hK.out _ _ (g2.out) (fun c1=>?_);clear hK K
    try simp only[Act.put,jP,jQ,jR]
    refine wpAnyH_done (by kernel_rfl) (NoPanic.normal ?_) _;go_wp2_with fail;have h4:=H4.out;have h5:=H5.out;exact Zg (iW Tryz.results190 _ _ _ _ _ _ _ _ _ _ _ _ _ (0,0) (0,0) rfl h4 rfl h5) rfl ⟨⟨dn,dd,dx⟩,k,0,_,rfl,H1.out,H2.out,g1.out,fun _=>⟨d1.out,hk,g4.out (by trivial)⟩⟩
