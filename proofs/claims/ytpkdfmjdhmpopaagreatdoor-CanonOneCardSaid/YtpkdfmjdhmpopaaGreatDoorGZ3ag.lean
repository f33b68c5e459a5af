import Derived.Test.YtpkdfmjdhmpopaaGreatDoorGZ3af
set_option linter.unusedVariables false
set_option linter.unusedSimpArgs false
set_option maxHeartbeats 64000000
set_option maxRecDepth 100000
namespace Go.Proofs.YtpkdfmjdhmpopaaGreatDoor
open Go.RowKit
variable {cs : Array Value} {l xs : List UInt8} {b : Nat} {v : Value} {w : World}
def fF (l:List UInt8):Prop:= ∃cs:List Int,(∀c∈cs,dL c=true)/\l=cs.flatMap bF
theorem fF.nil:fF []:=⟨[],by simp,rfl⟩
theorem fF.snoc {c:Int}(h:fF l)(hc:dL c=true):fF (l++bF c):=by
 obtain⟨cs,h1,rfl⟩:=h;refine⟨cs ++ [c],fun d hd=> ?_,by simp⟩;rcases List.mem_append.1 hd with h | h
 ·exact h1 d h
 ·rw [List.mem_singleton] at h;rw [h];exact hc
def Fo (len k:Nat)(w:World)(e:Ending)(w':World):Prop:= ∃ (v:Value) (n:Nat) (c:Int) (u:Value),e = .returned (.tuple #[v, .int .i64 n,u])/\dT w' c u/\Below w.heap.size w w'/\(∃A q r,v = .slice A q r)/\
 (c=0->∃d:Int,dL d=true/\Bs w' v (bF d)/\1<=n/\k+n<=len/\(bF d).length<=n)
theorem qJ (hh:w.heap[b]?=some (.cells #[.int .i64 0, .int .i64 0, .int .i64 0, .slice none 0 0] 70 (0,0)))(hv:Bs w v xs):Bs (w.setRow b cs) v xs:=by
 obtain⟨hm,A,c,e,hc,a0⟩:=hv;refine⟨hm,A,c,e,hc,fun h0=> ?_⟩;obtain⟨g,o,rfl,a1⟩:=a0 h0;refine⟨g,o,rfl,fun i hi=>(ah w b cs).cell (a1 i hi) (fun e=> ?_)⟩;injection e with e
 have e:g=b:=e;subst e;have h1:=a1 i hi;unfold World.cell? at h1;simp only [hh] at h1;generalize o+i=j at h1;rcases(by omega:j=0\/j=1\/j=2\/j=3\/4<=j) with rfl | rfl | rfl | rfl | hj
 ·simp at h1
 ·simp at h1
 ·simp at h1
 ·simp at h1
 ·rw [Array.getElem?_eq_none (by simpa using hj)] at h1;cases h1
theorem yH (hb:Bs w v xs)(hl:xs.length<=1000000)(k:Nat)(hk:k<xs.length){a:Int}(ha:a=k):Calls Tryz.prog 185 #[v, .int .i64 a] w (Fo xs.length k w):=by
 subst ha;obtain⟨hm,A,cap,rfl,f3,b4⟩:=id hb;obtain⟨b,o,rfl,e3⟩:=b4 (by omega);have c9:=Qa hb;have a6:=Qa (Ze w (.cells #[.int .i64 0, .int .i64 0, .int .i64 0, .slice none 0 0] 70));have Hb:=Qa (ac w (.cells #[.int .i64 0, .int .i64 0, .int .i64 0, .slice none 0 0] 70));have c1:=Zf Hb.out (e3 k hk);have e5:=aM xs k;obtain⟨X,hX,g3,g0⟩:∃X:Int,(am xs k:Int)=X/\0<=X/\X<256:=⟨_,rfl,by omega,by omega⟩;rw [hX] at c1;have g2: (k:Int)<xs.length:=by omega
 clear hb b4 e3 e5;have HX:=Qa hX;clear hX;go_enter Tryz.func185,Tryz.ntmps185
 by_cases e1:X<32
 ·go_wp2_with fail
  generalize (w.alloc (.cells #[.int .i64 0, .int .i64 0, .int .i64 0, .slice none 0 0] 70))=w0 at *;refine(aO 104 k w0).mono ?_;rintro e wz ⟨u,rfl,hu,a7⟩;have Hh:=Qa ((a7.block _ (ae a6.out)).trans a6.out);obtain⟨fh,fl,fA,fq,fr,rfl,h1,h2⟩:=aB hu Hh.out;have H1:=Qa ((Hb.out.trans (a7.mono Hb.out.size)).grown h1 (Zb Hb.out.size a7.size) (fun g e=>by cases e;exact Za _));have H2:=Qa h2;have Hg:=Qa h1;have e0:=Qa a7;clear h1 h2 hu a7;go_wp2_with (refine wpList_store_rowTo rfl 70 (.tmp 6) (.tmp 19) rfl rfl w.heap.size #[.int .i64 104, .int .i64 fh, .int .i64 fl, .slice fA fq fr] (by simp [Act.eval]) (by simp [Act.eval]) 70 _ Hh.out ao rfl (az 104 fh fl rfl) ?_);exact Zg (aV Tryz.results185 _ _ _ _ _ _ _ _ (0,0) (by simp) (setRow_heap _ _ _ _ _ _ Hh.out)) rfl ⟨_,0,104,_,rfl,H2.out,H1.out,⟨_,_,_,rfl⟩,fun h=>by cases h⟩
 by_cases e2:X=92
 ·subst e2
  go_wp2_with fail;generalize (w.alloc (.cells #[.int .i64 0, .int .i64 0, .int .i64 0, .slice none 0 0] 70))=w0 at *;refine(xl (c9.out.below Hb.out) hl k hk rfl).mono ?_;rintro e w1 ⟨y,n,c,u,rfl,⟨fh,fl,fs,rfl,c8⟩,b1,hy⟩;obtain⟨fA,fq,fr,rfl, -⟩:=c8.slice;rw [show dE c fh fl (.slice fA fq fr) = .agg #[.int .i64 c, .int .i64 fh, .int .i64 fl, .slice fA fq fr] from rfl];have c5:=ac w1 (.cells #[.int .i64 c, .int .i64 fh, .int .i64 fl, .slice fA fq fr] 70);have c3:=av w1 [.int .i64 c, .int .i64 fh, .int .i64 fl, .slice fA fq fr] 70;have d0:=c3 0 _ rfl;have d1:=c3 1 _ rfl;have d2:=c3 2 _ rfl;have d3:=c3 3 _ rfl;have Hu:=Qa (show dT (w1.alloc (.cells #[.int .i64 c, .int .i64 fh, .int .i64 fl, .slice fA fq fr] 70)) c (dE c fh fl (.slice fA fq fr)) from⟨fh,fl,_,rfl,c8.below c5⟩);have b8:=Qa (Hb.out.trans ((b1.trans (c5.mono b1.size)).mono Hb.out.size));have a9:=Qa ((c5.block _ (Nat.lt_of_lt_of_le (ae a6.out) b1.size)).trans ((b1.block _ (ae a6.out)).trans a6.out));have Hy:=Qa hy;have b2:w.heap.size<w1.heap.size:=Nat.lt_of_lt_of_le (ae a6.out) b1.size;clear hy c3 c5 b1 c8
  by_cases hc:c=0
  ·subst hc
   have hr:=(Hy.out rfl).1;have e8:=(Hy.out rfl).2;have Hr:=Qa hr;clear hr;go_wp2_with fail;have a3: (w1.alloc (.cells #[.int .i64 0, .int .i64 fh, .int .i64 fl, .slice fA fq fr] 70)).cell? ⟨w1.heap.size,0,none⟩=some (.int .i64 0)/\(w1.alloc (.cells #[.int .i64 0, .int .i64 fh, .int .i64 fl, .slice fA fq fr] 70)).cell? ⟨w1.heap.size,1,none⟩=some (.int .i64 fh)/\(w1.alloc (.cells #[.int .i64 0, .int .i64 fh, .int .i64 fl, .slice fA fq fr] 70)).cell? ⟨w1.heap.size,2,none⟩=some (.int .i64 fl)/\(w1.alloc (.cells #[.int .i64 0, .int .i64 fh, .int .i64 fl, .slice fA fq fr] 70)).cell? ⟨w1.heap.size,3,none⟩=some (.slice fA fq fr):=⟨d0,d1,d2,d3⟩;have a0:=Qa a3;generalize hw2: (w1.alloc (.cells #[.int .i64 0, .int .i64 fh, .int .i64 fl, .slice fA fq fr] 70))=w2 at *;have f9:w1.heap.size<w2.heap.size:=by rw [<- hw2];simp
   clear hw2 a3 d0 d1 d2 d3;refine aW (fun w'=>w'.cell? ⟨w1.heap.size,0,none⟩=some (.int .i64 0)/\w'.cell? ⟨w1.heap.size,1,none⟩=some (.int .i64 fh)/\w'.cell? ⟨w1.heap.size,2,none⟩=some (.int .i64 fl)/\w'.cell? ⟨w1.heap.size,3,none⟩=some (.slice fA fq fr)) (a0.out) fun a2=> ?_
   refine tH 0 a2 ?_;refine tH 2 a2 ?_;refine tH 3 a2 ?_
   try simp only [Act.put,jP,jQ,jR]
   refine rH 1 fun K hK=> ?_
   go_simp;refine(lU (w:=w2.drew) y Hr.out).mono ?_;rintro e w5 ⟨vf,rfl,c2,c7⟩;obtain⟨f2,fA5,fc5,rfl,f4, -⟩:=id c7;have a4:Below w2.heap.size w2 w5:=(Zd w2.heap.size w2).drew.trans c2;have e4:w5.cell? ⟨w1.heap.size,0,none⟩=some (.int .i64 0)/\w5.cell? ⟨w1.heap.size,1,none⟩=some (.int .i64 fh)/\w5.cell? ⟨w1.heap.size,2,none⟩=some (.int .i64 fl)/\w5.cell? ⟨w1.heap.size,3,none⟩=some (.slice fA fq fr):=⟨Zf a4 a0.out.1,Zf a4 a0.out.2.1,Zf a4 a0.out.2.2.1,Zf a4 a0.out.2.2.2⟩;have c0:=Qa e4;have f1:=Qa c7;have b7:=Qa a4;have a1:=Qa ((a4.block _ (ae a9.out)).trans a9.out);clear c2 c7 a4 e4 f4 f2;go_wp2_with fail;refine hK.out _ _ (c0.out) (fun a2=> ?_);clear hK K
   try simp only [Act.put,jP,jQ,jR]
   refine tH 4 a2 ?_;refine tH 5 a2 ?_
   try simp only [Act.put,jP,jQ,jR]
   refine rH 6 fun K hK=> ?_
   refine aq rfl 70 (.tmp 6) (.tmp 39) rfl w.heap.size #[.int .i64 0, .int .i64 fh, .int .i64 fl, .slice fA fq fr] (by simp [Act.eval]) (by simp [Act.eval]) 70 _ a1.out ao rfl (az 0 fh fl rfl) ?_;refine hK.out _ _ (⟨(ah _ _ _).cell c0.out.1 (fun e=>by injection e with e;exact Nat.ne_of_gt b2 e),(ah _ _ _).cell c0.out.2.1 (fun e=>by injection e with e;exact Nat.ne_of_gt b2 e),(ah _ _ _).cell c0.out.2.2.1 (fun e=>by injection e with e;exact Nat.ne_of_gt b2 e),(ah _ _ _).cell c0.out.2.2.2 (fun e=>by injection e with e;exact Nat.ne_of_gt b2 e)⟩) (fun a2=> ?_);clear hK K
   try simp only [Act.put,jP,jQ,jR]
   refine wpAnyH_done (by kernel_rfl) (NoPanic.normal ?_) _;go_wp2_with fail;have c6:Below w.heap.size w (w5.setRow w.heap.size #[.int .i64 0, .int .i64 fh, .int .i64 fl, .slice fA fq fr]):=(b8.out.trans (b7.out.mono b8.out.size)).grown (ah _ _ _) (Zb b8.out.size b7.out.size) (fun g e=>by cases e;exact Za _);obtain⟨gh,gl',gA,gq,gr,b0,h1,h2⟩:=aB (Hu.out.below b7.out) a1.out;injection b0 with b0
   obtain⟨rfl,rfl,b0⟩:fh=gh/\fl=gl'/\Value.slice fA fq fr=Value.slice gA gq gr:=by simpa using b0
   obtain⟨rfl,rfl,rfl⟩:fA=gA/\fq=gq/\fr=gr:=by simpa using b0
   exact Zg (aV Tryz.results185 _ _ _ _ _ _ _ _ (0,0) (by simp) (setRow_heap _ _ _ _ _ _ a1.out)) rfl ⟨_,n,0,_,rfl,h2,c6,⟨_,_,_,rfl⟩,fun _=>⟨y,Hr.out,qJ a1.out f1.out,by omega,by omega,e8.2.2⟩⟩
  ·have g4: (c !=0)=true:=by simpa using hc
   have Hc:=Qa hc;clear hc;go_wp2_with fail;generalize (w1.alloc (.cells #[.int .i64 c, .int .i64 fh, .int .i64 fl, .slice fA fq fr] 70))=w2 at *;obtain⟨gh,gl',gA,gq,gr,b0,h1,h2⟩:=aB (w:=w2.drew) Hu.out a9.out;injection b0 with b0
   obtain⟨rfl,rfl,b0⟩:fh=gh/\fl=gl'/\Value.slice fA fq fr=Value.slice gA gq gr:=by simpa using b0
   obtain⟨rfl,rfl,rfl⟩:fA=gA/\fq=gq/\fr=gr:=by simpa using b0
   have H1:=Qa ((b8.out.drew).grown h1 b8.out.size (fun g e=>by cases e;exact Za _));have H2:=Qa h2;have hne:some (w1.heap.size)≠some (w.heap.size):=fun e=>by injection e with e;exact(Nat.ne_of_gt b2) e
   have a3:w2.drew.cell? ⟨w1.heap.size,0,none⟩=some (.int .i64 c)/\w2.drew.cell? ⟨w1.heap.size,1,none⟩=some (.int .i64 fh)/\w2.drew.cell? ⟨w1.heap.size,2,none⟩=some (.int .i64 fl)/\w2.drew.cell? ⟨w1.heap.size,3,none⟩=some (.slice fA fq fr):=⟨d0,d1,d2,d3⟩;have b5: (w2.drew.setRow (w.heap.size) #[.int .i64 c, .int .i64 fh, .int .i64 fl, .slice fA fq fr]).cell? ⟨w1.heap.size,0,none⟩=some (.int .i64 c)/\(w2.drew.setRow (w.heap.size) #[.int .i64 c, .int .i64 fh, .int .i64 fl, .slice fA fq fr]).cell? ⟨w1.heap.size,1,none⟩=some (.int .i64 fh)/\(w2.drew.setRow (w.heap.size) #[.int .i64 c, .int .i64 fh, .int .i64 fl, .slice fA fq fr]).cell? ⟨w1.heap.size,2,none⟩=some (.int .i64 fl)/\(w2.drew.setRow (w.heap.size) #[.int .i64 c, .int .i64 fh, .int .i64 fl, .slice fA fq fr]).cell? ⟨w1.heap.size,3,none⟩=some (.slice fA fq fr):=⟨(ah _ _ _).cell d0 hne,(ah _ _ _).cell d1 hne,(ah _ _ _).cell d2 hne,(ah _ _ _).cell d3 hne⟩;have a0:=Qa a3;have b9:=Qa b5;clear h1 h2 b0 a3 b5 hne d0 d1 d2 d3;refine aW (fun w'=>w'.cell? ⟨w1.heap.size,0,none⟩=some (.int .i64 c)/\w'.cell? ⟨w1.heap.size,1,none⟩=some (.int .i64 fh)/\w'.cell? ⟨w1.heap.size,2,none⟩=some (.int .i64 fl)/\w'.cell? ⟨w1.heap.size,3,none⟩=some (.slice fA fq fr)) (a0.out) fun a2=> ?_
   refine tH 0 a2 ?_;refine tH 1 a2 ?_;refine tH 2 a2 ?_
   try simp only [Act.put,jP,jQ,jR]
   refine rH 3 fun K hK=> ?_
   refine aq rfl 70 (.tmp 6) (.tmp 35) rfl (w.heap.size) #[.int .i64 c, .int .i64 fh, .int .i64 fl, .slice fA fq fr] (by simp [Act.eval]) (by simp [Act.eval]) 70 _ a9.out ao rfl (az c fh fl rfl) ?_;refine hK.out _ _ (b9.out) (fun a2=> ?_);clear hK K
   try simp only [Act.put,jP,jQ,jR]
   refine wpAnyH_done (by kernel_rfl) (NoPanic.normal ?_) _;go_wp2_with fail;exact Zg (aV Tryz.results185 _ _ _ _ _ _ _ _ (0,0) (by simp) (setRow_heap _ _ _ _ _ _ a9.out)) rfl ⟨_,0,c,_,rfl,H2.out,H1.out,⟨_,_,_,rfl⟩,fun h=>absurd h Hc.out⟩
 have e2': (X==92)=false:=by simpa using e2
 have g1:¬cap=k:=by omega
 go_wp2_with fail;generalize (w.alloc (.cells #[.int .i64 0, .int .i64 0, .int .i64 0, .slice none 0 0] 70))=w0 at *;have hcut:=c9.out.cut (Zi hk);refine(mR (hcut.below Hb.out)).mono ?_;rintro e w1 ⟨⟨code,rfl,b6⟩,b1⟩;have a5:=Qa ((b1.block _ (ae a6.out)).trans a6.out);have b3:=Qa (Hb.out.trans (b1.mono Hb.out.size));have c4:=Qa b6;have f6:=Qa (c9.out.below (Hb.out.trans (b1.mono Hb.out.size)));have hle:=gg xs k (Zi hk);clear b1 b6 hcut
 by_cases q1:code=103
 ·subst q1
  go_wp2_with fail;refine(aO 103 xs.length w1).mono ?_;rintro e wz ⟨u,rfl,hu,a7⟩;have Hh:=Qa ((a7.block _ (ae a5.out)).trans a5.out);obtain⟨fh,fl,fA,fq,fr,rfl,h1,h2⟩:=aB hu Hh.out;have H1:=Qa ((b3.out.trans (a7.mono b3.out.size)).grown h1 (Zb b3.out.size a7.size) (fun g e=>by cases e;exact Za _));have H2:=Qa h2;have Hg:=Qa h1;have e0:=Qa a7;clear h1 h2 hu a7;go_wp2_with (refine wpList_store_rowTo rfl 70 (.tmp 6) (.tmp 52) rfl rfl w.heap.size #[.int .i64 103, .int .i64 fh, .int .i64 fl, .slice fA fq fr] (by simp [Act.eval]) (by simp [Act.eval]) 70 _ Hh.out ao rfl (az 103 fh fl rfl) ?_);exact Zg (aV Tryz.results185 _ _ _ _ _ _ _ _ (0,0) (by simp) (setRow_heap _ _ _ _ _ _ Hh.out)) rfl ⟨_,0,103,_,rfl,H2.out,H1.out,⟨_,_,_,rfl⟩,fun h=>by cases h⟩
 have q1': (code==103)=false:=by simpa using q1
 by_cases q2:code=0
 case neg=>
  have q2': (code !=0)=true:=by simpa using q2
  clear q1 q2;go_wp2_with fail;refine(aO 101 k w1).mono ?_;rintro e wz ⟨u,rfl,hu,a7⟩;have Hh:=Qa ((a7.block _ (ae a5.out)).trans a5.out);obtain⟨fh,fl,fA,fq,fr,rfl,h1,h2⟩:=aB hu Hh.out;have H1:=Qa ((b3.out.trans (a7.mono b3.out.size)).grown h1 (Zb b3.out.size a7.size) (fun g e=>by cases e;exact Za _));have H2:=Qa h2;have Hg:=Qa h1;have e0:=Qa a7;clear h1 h2 hu a7;go_wp2_with (refine wpList_store_rowTo rfl 70 (.tmp 6) (.tmp 56) rfl rfl w.heap.size #[.int .i64 101, .int .i64 fh, .int .i64 fl, .slice fA fq fr] (by simp [Act.eval]) (by simp [Act.eval]) 70 _ Hh.out ao rfl (az 101 fh fl rfl) ?_);exact Zg (aV Tryz.results185 _ _ _ _ _ _ _ _ (0,0) (by simp) (setRow_heap _ _ _ _ _ _ Hh.out)) rfl ⟨_,0,101,_,rfl,H2.out,H1.out,⟨_,_,_,rfl⟩,fun h=>by cases h⟩
 subst q2;have hz:=c4.out.1 rfl;have hp:=eE hz;obtain⟨d5,d9⟩:=jr hz;have d4:=Qa d5;have f5:=Qa d9;obtain⟨rn,d6⟩:∃rn,(bE (xs.drop k)).2.1=rn:=⟨_,rfl⟩;rw [d6] at hle hp d4 ⊢;have e6: (k:Int)+rn<=xs.length:=by omega
 have f0: (k:Int)+rn<=cap:=by omega
 clear q1 q1' hz d5 d9 d6;go_wp2_with fail;have s3:k<=k+rn:=by omega
 have s4:k+rn - k=rn:=by omega
 have s1:IntKind.i64.wrap ((k:Int)+rn)= (k:Int)+rn:=IntWalk.i64_in _ (by omega);have s2:0<=(k:Int)+rn:=by omega
 have s5: ((k:Int)+rn).toNat=k+rn:=by omega
 refine aW (fun _=>True) (trivial) fun a2=> ?_
 refine tH 0 a2 ?_;refine tH 1 a2 ?_;refine tH 2 a2 ?_;refine tH 3 a2 ?_;refine tH 4 a2 ?_;refine tH 5 a2 ?_
 try simp only [Act.put,jP,jQ,jR]
 refine tH 6 a2 ?_
 try simp only [Act.put,jP,jQ,jR]
 refine rH 7 fun K hK=> ?_
 go_simp;refine(eB w1.drew).mono ?_;rintro e w5 ⟨u,rfl,hu,c2⟩;have a4:Below w1.heap.size w1 w5:=(Zd w1.heap.size w1).drew.trans c2;have a1:=Qa ((a4.block _ (ae a5.out)).trans a5.out);obtain⟨fh,fl,fA,fq,fr,rfl,h1,h2⟩:=aB hu a1.out;have H2:=Qa h2;have b7:=Qa a4;clear hu c2 a4 h1 h2;go_wp2_with fail;refine hK.out _ _ (trivial) (fun a2=> ?_);clear hK K
 try simp only [Act.put,jP,jQ,jR]
 refine tH 8 a2 ?_;refine tH 9 a2 ?_
 try simp only [Act.put,jP,jQ,jR]
 refine rH 10 fun K hK=> ?_
 refine aq rfl 70 (.tmp 6) (.tmp 64) rfl w.heap.size #[.int .i64 0, .int .i64 fh, .int .i64 fl, .slice fA fq fr] (by simp [Act.eval]) (by simp [Act.eval]) 70 _ a1.out ao rfl (az 0 fh fl rfl) ?_;refine hK.out _ _ (trivial) (fun a2=> ?_);clear hK K
 try simp only [Act.put,jP,jQ,jR]
 refine wpAnyH_done (by kernel_rfl) (NoPanic.normal ?_) _;go_wp2_with fail;have f8:Bs w5 (.slice (some ⟨b,o+k,none⟩) rn (cap - k)) (bF ((bE (xs.drop k)).1:Nat)):=by
  have h:=((f6.out.below b7.out).cut (Zi hk)).upto (k:=rn) (by rw [List.length_drop];omega);rw [d4.out];exact h
 have c6:Below w.heap.size w (w5.setRow w.heap.size #[.int .i64 0, .int .i64 fh, .int .i64 fl, .slice fA fq fr]):=(b3.out.trans (b7.out.mono b3.out.size)).grown (ah _ _ _) (Zb b3.out.size b7.out.size) (fun g e=>by cases e;exact Za _);exact Zg (aV Tryz.results185 _ _ _ _ _ _ _ _ (0,0) (by simp) (setRow_heap _ _ _ _ _ _ a1.out)) rfl ⟨_,rn,0,_,rfl,H2.out,c6,⟨_,_,_,rfl⟩,fun _=>⟨_,f5.out,qJ a1.out f8,hp,hle,by rw [d4.out,List.length_take];exact Nat.min_le_left _ _⟩⟩
def Ic (len:Nat)(w:World)(e:Ending)(w':World):Prop:= ∃ (s:ByteArray) (n:Nat) (c:Int) (u:Value),e = .returned (.tuple #[.string s, .int .i64 n,u])/\dT w' c u/\Below w.heap.size w w'/\(c=0->fF s.data.toList/\s.size<=len/\2<=n/\n<=len)
def EP (w0:World)(len:Nat)(s5 s6:Value)(wr:World):Prop:= ∃ (k:Nat) (ys:List UInt8),1<=k/\k<=len/\s6 = .int .i64 k/\au wr w0.heap.size s5 ys/\fF ys/\ys.length<=k/\Below w0.heap.size w0 wr
theorem ul (hb:Bs w v xs)(hl:xs.length<=1000000):Calls Tryz.prog 156 #[v] w (Ic xs.length w):=by
 obtain⟨hm,A,cap,rfl,f2,b1⟩:=id hb;have f4:=Qa hb;have c1:=Qa b1;have a3:=Qa (Ze w (.cells #[.int .i64 0, .int .i64 0, .int .i64 0, .slice none 0 0] 70));have Hb:=Qa (ac w (.cells #[.int .i64 0, .int .i64 0, .int .i64 0, .slice none 0 0] 70));have Hz:=Qa (show(w.alloc (.cells #[.int .i64 0, .int .i64 0, .int .i64 0, .slice none 0 0] 70)).heap.size=w.heap.size+1 by simp);clear hb b1;go_enter Tryz.func156,Tryz.ntmps156
 by_cases e0:xs.length=0
 ·have e0': ((xs.length:Int)==0)=true:=by simp [e0]
  clear e0;go_wp2_with fail;generalize (w.alloc (.cells #[.int .i64 0, .int .i64 0, .int .i64 0, .slice none 0 0] 70))=w0 at *;refine(aO 102 0 w0).mono ?_;rintro e wz ⟨u,rfl,hu,a1⟩;have Hh:=Qa ((a1.block _ (ae a3.out)).trans a3.out);obtain⟨fh,fl,fA,fq,fr,rfl,h1,h2⟩:=aB hu Hh.out;have H1:=Qa ((Hb.out.trans (a1.mono Hb.out.size)).grown h1 (Zb Hb.out.size a1.size) (fun g e=>by cases e;exact Za _));have H2:=Qa h2;have Hg:=Qa h1;have d6:=Qa a1;clear h1 h2 hu a1;go_wp2_with (refine wpList_store_rowTo rfl 70 (.tmp 4) (.tmp 19) rfl rfl w.heap.size #[.int .i64 102, .int .i64 fh, .int .i64 fl, .slice fA fq fr] (by simp [Act.eval]) (by simp [Act.eval]) 70 _ Hh.out ao rfl (az 102 fh fl rfl) ?_);exact Zg (aV Tryz.results156 _ _ _ _ _ _ _ _ (0,0) (by simp) (setRow_heap _ _ _ _ _ _ Hh.out)) rfl ⟨_,0,102,_,rfl,H2.out,H1.out,fun h=>by cases h⟩
 have e0': ((xs.length:Int)==0)=false:=by simpa using e0
 obtain⟨b,o,rfl,c6⟩:=c1.out (by omega);have c0:=Zf Hb.out (c6 0 (by omega));rw [Nat.add_zero] at c0;have g3: (0:Int)<xs.length:=by omega
 have g8:0<xs.length:=by omega
 have f3:=Qa (fun i hi=>Zf Hb.out (c6 i hi));clear c6
 by_cases e1:am xs 0=34
 case neg=>
  have e1': ((am xs 0:Int) !=34)=true:=by simp;omega
  clear e1;go_wp2_with fail;generalize (w.alloc (.cells #[.int .i64 0, .int .i64 0, .int .i64 0, .slice none 0 0] 70))=w0 at *;refine(aO 102 0 w0).mono ?_;rintro e wz ⟨u,rfl,hu,a1⟩;have Hh:=Qa ((a1.block _ (ae a3.out)).trans a3.out);obtain⟨fh,fl,fA,fq,fr,rfl,h1,h2⟩:=aB hu Hh.out;have H1:=Qa ((Hb.out.trans (a1.mono Hb.out.size)).grown h1 (Zb Hb.out.size a1.size) (fun g e=>by cases e;exact Za _));have H2:=Qa h2;have Hg:=Qa h1;have d6:=Qa a1;clear h1 h2 hu a1;go_wp2_with (refine wpList_store_rowTo rfl 70 (.tmp 4) (.tmp 19) rfl rfl w.heap.size #[.int .i64 102, .int .i64 fh, .int .i64 fl, .slice fA fq fr] (by simp [Act.eval]) (by simp [Act.eval]) 70 _ Hh.out ao rfl (az 102 fh fl rfl) ?_);exact Zg (aV Tryz.results156 _ _ _ _ _ _ _ _ (0,0) (by simp) (setRow_heap _ _ _ _ _ _ Hh.out)) rfl ⟨_,0,102,_,rfl,H2.out,H1.out,fun h=>by cases h⟩
 have e1': ((am xs 0:Int) !=34)=false:=by simp [e1]
 clear e1;go_wp2_with fail;generalize (w.alloc (.cells #[.int .i64 0, .int .i64 0, .int .i64 0, .slice none 0 0] 70))=w0 at *
 go_loopw [5,6] (EP w0 xs.length) (fun _ i _=>xs.length - (intOf i).toNat)
 case atStart=>exact⟨1, [],by omega,by omega,rfl,au.nil _ _,fF.nil,by simp,Zd _ _⟩
 case round=>
  obtain⟨k,ys,g9,g2,rfl,ho,c7,g0,b5⟩:=hrel;have Ho:=Qa ho;have d5:=Qa c7;have e8:=Qa b5;have b9:=b5.size;have a0:=Qa ((b5.block _ (ae a3.out)).trans a3.out);have b0:=Qa (Hb.out.trans (b5.mono Hb.out.size))
  by_cases hlt:k<xs.length
  case neg=>
   have f1:¬ (k:Int)<xs.length:=by omega
   clear ho c7 b5;go_wp2_with fail;refine(aO 103 xs.length wr).mono ?_;rintro e wz ⟨u,rfl,hu,a1⟩;have Hh:=Qa ((a1.block _ (ae a0.out)).trans a0.out);obtain⟨fh,fl,fA,fq,fr,rfl,h1,h2⟩:=aB hu Hh.out;have H1:=Qa ((b0.out.trans (a1.mono b0.out.size)).grown h1 (Zb b0.out.size a1.size) (fun g e=>by cases e;exact Za _));have H2:=Qa h2;have Hg:=Qa h1;have d6:=Qa a1;clear h1 h2 hu a1;go_wp2_with (refine wpList_store_rowTo rfl 70 (.tmp 4) (.tmp 53) rfl rfl w.heap.size #[.int .i64 103, .int .i64 fh, .int .i64 fl, .slice fA fq fr] (by simp [Act.eval]) (by simp [Act.eval]) 70 _ Hh.out ao rfl (az 103 fh fl rfl) ?_);exact Zg (aV Tryz.results156 _ _ _ _ _ _ _ _ (0,0) (by simp) (setRow_heap _ _ _ _ _ _ Hh.out)) rfl ⟨_,0,103,_,rfl,H2.out,H1.out,fun h=>by cases h⟩
  have f1: (k:Int)<xs.length:=by omega
  have ck:=Zf b5 (f3.out k hlt);obtain⟨X,hX,g6,g1⟩:∃X:Int,(am xs k:Int)=X/\0<=X/\X<256:=⟨_,rfl,by omega,by have:=aM xs k;omega⟩;rw [hX] at ck;clear hX ho c7 b5
  by_cases e2:X=34
  ·subst e2
   have hq:=aF Ho.out.bs;have Hq:=Qa (show ∀W:World,Below wr.heap.size wr W->(convert 22 9 u5).run Tryz.prog W = .ok (.string ⟨ys.toArray⟩) W from fun W hW=>aF (Ho.out.bs.below hW));have e4:=Hq.out wr.drew ((Zd wr.heap.size wr).drew);have f0:=Qa e4;have s1:IntKind.i64.wrap ((k:Int)+1)= (k:Int)+1:=IntWalk.i64_in _ (by omega);clear hq e4;go_wp2_with fail;refine aW (fun w'=>(convert 22 9 u5).run Tryz.prog w' = .ok (.string ⟨ys.toArray⟩) w') (f0.out) fun a4=> ?_
   refine tH 0 a4 ?_;refine tH 1 a4 ?_;refine tH 2 a4 ?_;refine tH 3 a4 ?_
   try simp only [Act.put,jP,jQ,jR]
   refine rH 4 fun K hK=> ?_
   go_simp;refine(eB wr.drew).mono ?_;rintro e w5 ⟨u,rfl,hu,d9⟩;have a9:Below wr.heap.size wr w5:=(Zd wr.heap.size wr).drew.trans d9;have a2:=Qa ((a9.block _ (ae a0.out)).trans a0.out);obtain⟨fh,fl,fA,fq,fr,rfl,h1,h2⟩:=aB hu a2.out;have H2:=Qa h2;have c4:=Qa a9;have f6:=Qa (Hq.out w5 a9);clear hu d9 a9 h1 h2;go_wp2_with fail;refine hK.out _ _ (f6.out) (fun a4=> ?_);clear hK K
   try simp only [Act.put,jP,jQ,jR]
   refine tH 5 a4 ?_;refine tH 6 a4 ?_
   try simp only [Act.put,jP,jQ,jR]
   refine rH 7 fun K hK=> ?_
   refine aq rfl 70 (.tmp 4) (.tmp 33) rfl w.heap.size #[.int .i64 0, .int .i64 fh, .int .i64 fl, .slice fA fq fr] (by simp [Act.eval]) (by simp [Act.eval]) 70 _ a2.out ao rfl (az 0 fh fl rfl) ?_;refine hK.out _ _ (aF (qJ a2.out (Ho.out.bs.below c4.out))) (fun a4=> ?_);clear hK K
   try simp only [Act.put,jP,jQ,jR]
   refine wpAnyH_done (by kernel_rfl) (NoPanic.normal ?_) _;go_wp2_with fail;have e5:Below w.heap.size w (w5.setRow w.heap.size #[.int .i64 0, .int .i64 fh, .int .i64 fl, .slice fA fq fr]):=(b0.out.trans (c4.out.mono b0.out.size)).grown (ah _ _ _) (Zb b0.out.size c4.out.size) (fun g e=>by cases e;exact Za _);exact Zg (aV Tryz.results156 _ _ _ _ _ _ _ _ (0,0) (by simp) (setRow_heap _ _ _ _ _ _ a2.out)) rfl ⟨_,k+1,0,_,by go_num,H2.out,e5,fun _=>⟨by simpa using d5.out,by simp [ByteArray.size];omega,by omega,by omega⟩⟩
  have e2': (X==34)=false:=by simpa using e2
  clear e2;go_wp2_with fail;refine(yH (f4.out.below b0.out) hl k hlt rfl).mono ?_;rintro e w1 ⟨pv,n,c,u,rfl,⟨fh,fl,fs,rfl,c5⟩,b7,⟨pA,pq,pr,rfl⟩,hy⟩;obtain⟨fA,fq,fr,rfl, -⟩:=c5.slice;rw [show dE c fh fl (.slice fA fq fr) = .agg #[.int .i64 c, .int .i64 fh, .int .i64 fl, .slice fA fq fr] from rfl];have c3:=ac w1 (.cells #[.int .i64 c, .int .i64 fh, .int .i64 fl, .slice fA fq fr] 70);have c2:=av w1 [.int .i64 c, .int .i64 fh, .int .i64 fl, .slice fA fq fr] 70;have d0:=c2 0 _ rfl;have d1:=c2 1 _ rfl;have d2:=c2 2 _ rfl;have d3:=c2 3 _ rfl;have Hu:=Qa (show dT (w1.alloc (.cells #[.int .i64 c, .int .i64 fh, .int .i64 fl, .slice fA fq fr] 70)) c (dE c fh fl (.slice fA fq fr)) from⟨fh,fl,_,rfl,c5.below c3⟩);have b4:=b7.trans (c3.mono b7.size);have a7:=Qa b4;have d4:=Qa (b0.out.trans (b4.mono b0.out.size));have a6:=Qa ((c3.block _ (Nat.lt_of_lt_of_le (ae a0.out) b7.size)).trans ((b7.block _ (ae a0.out)).trans a0.out));have Hy:=Qa (show c=0->∃d:Int,dL d=true/\Bs (w1.alloc (.cells #[.int .i64 c, .int .i64 fh, .int .i64 fl, .slice fA fq fr] 70)) (.slice pA pq pr) (bF d)/\1<=n/\k+n<=xs.length/\(bF d).length<=n from fun h=>by obtain⟨d,h1,h2,h3⟩:=hy h;exact⟨d,h1,h2.below c3,h3⟩);have c8:w.heap.size<w1.heap.size:=Nat.lt_of_lt_of_le (ae a0.out) b7.size;clear hy c2 c3 b7 c5 b4
  by_cases hc:c=0
  ·obtain⟨d,e3,c9,f8,f9,g4⟩:=Hy.out hc
   subst hc;have f5:=Qa e3;have e6:=Qa c9;have h0:=fS d;have g5: (k:Int)+n<=xs.length:=by omega
   clear e3 c9 d1 d2 d3;go_wp2_with (at_builtin;refine aA rfl (.tmp 45) (.tmp 46) rfl w0.heap.size u5 (.slice pA pq pr) ys (bF d) (by simp [Act.eval]) (Ho.out.below a7.out (Za _)) (by simp [Act.eval]) e6.out (by omega) (by have:=a7.out.size;omega) ?_;intro v' w3 h1 h2 h3;have HK:=Qa h1;have HG:=Qa h2;clear h1 h2 h3);have a1:Below w0.heap.size w0 w3:=(e8.out.trans (a7.out.mono b9)).grown HG.out (Zb b9 a7.out.size) (fun g e=>(ak Ho.out e).1);exact⟨⟨k+n,ys++bF d,by omega,by omega,by go_num,HK.out,d5.out.snoc f5.out,by rw [List.length_append];omega,a1⟩,by simp [intOf];omega⟩
  ·have g7: (c !=0)=true:=by simpa using hc
   have Hc:=Qa hc;clear hc;go_wp2_with fail;generalize (w1.alloc (.cells #[.int .i64 c, .int .i64 fh, .int .i64 fl, .slice fA fq fr] 70))=w2 at *;obtain⟨gh,gl',gA,gq,gr,b6,h1,h2⟩:=aB (w:=w2.drew) Hu.out a6.out;injection b6 with b6
   obtain⟨rfl,rfl,b6⟩:fh=gh/\fl=gl'/\Value.slice fA fq fr=Value.slice gA gq gr:=by simpa using b6
   obtain⟨rfl,rfl,rfl⟩:fA=gA/\fq=gq/\fr=gr:=by simpa using b6
   have H1:=Qa ((d4.out.drew).grown h1 d4.out.size (fun g e=>by cases e;exact Za _));have H2:=Qa h2;have hne:some (w1.heap.size)≠some (w.heap.size):=fun e=>by injection e with e;exact(Nat.ne_of_gt c8) e
   have a5:w2.drew.cell? ⟨w1.heap.size,0,none⟩=some (.int .i64 c)/\w2.drew.cell? ⟨w1.heap.size,1,none⟩=some (.int .i64 fh)/\w2.drew.cell? ⟨w1.heap.size,2,none⟩=some (.int .i64 fl)/\w2.drew.cell? ⟨w1.heap.size,3,none⟩=some (.slice fA fq fr):=⟨d0,d1,d2,d3⟩;have b2: (w2.drew.setRow (w.heap.size) #[.int .i64 c, .int .i64 fh, .int .i64 fl, .slice fA fq fr]).cell? ⟨w1.heap.size,0,none⟩=some (.int .i64 c)/\(w2.drew.setRow (w.heap.size) #[.int .i64 c, .int .i64 fh, .int .i64 fl, .slice fA fq fr]).cell? ⟨w1.heap.size,1,none⟩=some (.int .i64 fh)/\(w2.drew.setRow (w.heap.size) #[.int .i64 c, .int .i64 fh, .int .i64 fl, .slice fA fq fr]).cell? ⟨w1.heap.size,2,none⟩=some (.int .i64 fl)/\(w2.drew.setRow (w.heap.size) #[.int .i64 c, .int .i64 fh, .int .i64 fl, .slice fA fq fr]).cell? ⟨w1.heap.size,3,none⟩=some (.slice fA fq fr):=⟨(ah _ _ _).cell d0 hne,(ah _ _ _).cell d1 hne,(ah _ _ _).cell d2 hne,(ah _ _ _).cell d3 hne⟩;have b3:=Qa a5;have b8:=Qa b2;clear h1 h2 b6 a5 b2 hne d0 d1 d2 d3;refine aW (fun w'=>w'.cell? ⟨w1.heap.size,0,none⟩=some (.int .i64 c)/\w'.cell? ⟨w1.heap.size,1,none⟩=some (.int .i64 fh)/\w'.cell? ⟨w1.heap.size,2,none⟩=some (.int .i64 fl)/\w'.cell? ⟨w1.heap.size,3,none⟩=some (.slice fA fq fr)) (b3.out) fun a4=> ?_
   refine tH 0 a4 ?_;refine tH 1 a4 ?_;refine tH 2 a4 ?_
   try simp only [Act.put,jP,jQ,jR]
   refine rH 3 fun K hK=> ?_
   refine aq rfl 70 (.tmp 4) (.tmp 44) rfl (w.heap.size) #[.int .i64 c, .int .i64 fh, .int .i64 fl, .slice fA fq fr] (by simp [Act.eval]) (by simp [Act.eval]) 70 _ a6.out ao rfl (az c fh fl rfl) ?_;refine hK.out _ _ (b8.out) (fun a4=> ?_);clear hK K
   try simp only [Act.put,jP,jQ,jR]
   refine wpAnyH_done (by kernel_rfl) (NoPanic.normal ?_) _;go_wp2_with fail;exact Zg (aV Tryz.results156 _ _ _ _ _ _ _ _ (0,0) (by simp) (setRow_heap _ _ _ _ _ _ a6.out)) rfl ⟨_,0,c,_,rfl,H2.out,H1.out,fun h=>absurd h Hc.out⟩
