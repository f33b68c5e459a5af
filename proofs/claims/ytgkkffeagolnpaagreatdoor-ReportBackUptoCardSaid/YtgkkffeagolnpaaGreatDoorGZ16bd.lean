import Derived.Test.YtgkkffeagolnpaaGreatDoorGZ16bc
set_option linter.unusedVariables false
set_option linter.unusedSimpArgs false
set_option maxHeartbeats 64000000
set_option maxRecDepth 100000
namespace Go.Proofs.YtgkkffeagolnpaaGreatDoor
open Go.RowKit
variable {aE aU:Addr}{j:JV}{xs ys:List UInt8}{us:List Value}{base c g gr gt n s1 s2 xb:Nat}{A:Option Addr}{u v v' x:Value}{W w w0 wr:World}
def jO:Array Value:= #[.int .i64 1073741824,.int .i64 1073741824,.int .i64 1073741824,.int .i64 1073741824,.int .i64 1073741824,.int .i64 4611686018427387903]
theorem zu (p q:Value)(w:World):CallsD Tryz.prog 137 #[p,q] .returning w fun e u' w'=>e =.returned (.tuple #[])/\u' =.returning/\w'=w:=by
 refine callsD_of_wpS Tryz.func137 rfl fun c₀ cs hu=>?_
 apply wpS_seq
 apply wpS_region
 simp[wpOpsS,go_sem,recoverD,hu,Tryz.ntmps137,Exit.thenS];apply wpS_seq;apply wpS_region;simp[wpOpsS,go_sem,Exit.thenS];refine wpS_cond (t:=false) (by simp[Act.eval,Array.replicate]) ?_;simp only[Bool.false_eq_true,if_false];refine wpS_of_wp (wp_skip ?_)
 cases c₀
 simp_all [bodyPostS,results,Tryz.results137]
theorem De (hne:s1≠s2)(h1:wr.heap[s1]?=some (.cells #[.int .i64 0,.int .i64 0,.int .i64 0,.int .i64 0] 151 (0,0)))(h2:wr.heap[s2]?=some (.cells #[.nilIface] 30 (0,0)))(a b c d:Value)
  (hW:((((wr.setCell ⟨s1,0,none⟩ a).setCell ⟨s1,1,none⟩ b).setCell ⟨s1,2,none⟩ c).setCell ⟨s1,3,none⟩ d).setCell ⟨s2,0,none⟩ .nilIface=W) :
  W.heap[s1]?=some (.cells #[a,b,c,d] 151 (0,0))/\W.heap[s2]?=some (.cells #[.nilIface] 30 (0,0))/\aP (fun k=>k=s1\/k=s2) wr W:=by
 subst hW;have g1:=ar (ar (ar (ar h1 0 a) 1 b) 2 c) 3 d;have g2:=au _ s2 s1 3 d _ _ hne.symm (au _ s2 s1 2 c _ _ hne.symm (au _ s2 s1 1 b _ _ hne.symm (au wr s2 s1 0 a _ _ hne.symm h2)));refine⟨au _ s1 s2 0 .nilIface _ _ hne g1,ar g2 0 .nilIface,?_⟩;exact(((((aP.set s1 0 a).mono fun _ h=>.inl h).trans (aP.set s1 1 b) fun i h=>.inl (.inl h)).trans (aP.set s1 2 c) fun i h=>.inl (.inl h)).trans (aP.set s1 3 d) fun i h=>.inl (.inl h)).trans (aP.set s2 0 _) fun i h=>.inl (.inr h)
def Cx (w0:World)(rb lb xb:Nat)(v:Value)(xs:List UInt8)(j:JV)(m:Nat)(wr:World):Prop:=
 (∃ (f:Nat) (c:bR) (k nd:Nat),m=xs.length - k+1/\gi f c (xs.drop k)=some j/\PS w0.heap.size rb lb xb v xs c k nd false wr/\c.ok dd/\cQ c.frs<=k/\nd<=k/\k<=xs.length/\Below w0.heap.size w0 wr)\/
 (m=0/\∃nd bs,gK w0.heap.size wr rb lb xb v xs [] 7 xs.length nd true/\d8 w0.heap.size wr xb [] (some j) bs/\Below w0.heap.size w0 wr)
def I0 (w0:World)(xb:Nat)(j:JV)(e:Ending)(w':World):Prop:= ∃a b c d:Int,e =.returned (.tuple #[.agg #[.int .i64 a,.int .i64 b,.int .i64 c,.int .i64 d],.nilIface])/\Below w0.heap.size w0 w'/\∃bs,d8 w0.heap.size w' xb [] (some j) bs
theorem yI (hE:lg w0 aU aE)(hM:iE w0)(f8:Below w0.heap.size w0 w)(hb:Bs w v xs)(h0:0<xs.length)(hl:xs.length<=1000000000)(h8:d8 w0.heap.size w xb [] none [])(hp:dB xs=some j) :
  Calls Tryz.prog 113 #[v,cX,.func (.func 114) #[.pointer (some ⟨xb,0,none⟩)] #[]] w (I0 w0 xb j):=by
 have k0:∀ (fn:Fn) (first cap:Array Value) (w:World),(Instr.makeFunc fn first cap).run Tryz.prog w =.ok (.func fn first cap) w:=fun _ _ _ _=>rfl
 obtain⟨hm,A,cap,rfl,h9,b4⟩:=id hb;have HE:=Qa hE;have HM:=Qa hM;have b1:=Qa f8;have Hb:=Qa hb;have H0:=Qa h0;have Hl:=Qa hl;have j0:=Qa h8;have Hp:=Qa hp;have h5:=Qa (fun w=>ni w);have g5:=Qa (fun w=>mW (m:=1) (x:=(xs.length:Int)) (by omega) (by omega) w);unfold cX at *;have hlen:(xs.length:Int)<=1000000000:=by omega
 clear hE hM f8 hb h0 hl h8 hp b4;have g7:Below w.heap.size w (((w.alloc (.cells #[.int .i64 1073741824,.int .i64 1073741824,.int .i64 1073741824,.int .i64 1073741824,.int .i64 1073741824,.int .i64 4611686018427387903] 155)).alloc (.cells #[.int .i64 0,.int .i64 0,.int .i64 0,.int .i64 0] 151)).alloc (.cells #[.nilIface] 30)):=aj (aj (aa _ _) (aa _ _)) (aa _ _);have g0:(((w.alloc (.cells #[.int .i64 1073741824,.int .i64 1073741824,.int .i64 1073741824,.int .i64 1073741824,.int .i64 1073741824,.int .i64 4611686018427387903] 155)).alloc (.cells #[.int .i64 0,.int .i64 0,.int .i64 0,.int .i64 0] 151)).alloc (.cells #[.nilIface] 30)).heap[w.heap.size]?=some (.cells #[.int .i64 1073741824,.int .i64 1073741824,.int .i64 1073741824,.int .i64 1073741824,.int .i64 1073741824,.int .i64 4611686018427387903] 155 (0,0)):=(Below.heap_alloc _ _ _ (by simp only[World.size_alloc];omega)).trans ((Below.heap_alloc _ _ _ (by simp)).trans (Zf w _));have g1:(((w.alloc (.cells #[.int .i64 1073741824,.int .i64 1073741824,.int .i64 1073741824,.int .i64 1073741824,.int .i64 1073741824,.int .i64 4611686018427387903] 155)).alloc (.cells #[.int .i64 0,.int .i64 0,.int .i64 0,.int .i64 0] 151)).alloc (.cells #[.nilIface] 30)).heap[w.heap.size+1]?=some (.cells #[.int .i64 0,.int .i64 0,.int .i64 0,.int .i64 0] 151 (0,0)):=by
  have:=Zf (w.alloc (.cells #[.int .i64 1073741824,.int .i64 1073741824,.int .i64 1073741824,.int .i64 1073741824,.int .i64 1073741824,.int .i64 4611686018427387903] 155)) (.cells #[.int .i64 0,.int .i64 0,.int .i64 0,.int .i64 0] 151);rw[World.size_alloc] at this;exact(Below.heap_alloc _ _ _ (by simp)).trans this
 have g2:(((w.alloc (.cells #[.int .i64 1073741824,.int .i64 1073741824,.int .i64 1073741824,.int .i64 1073741824,.int .i64 1073741824,.int .i64 4611686018427387903] 155)).alloc (.cells #[.int .i64 0,.int .i64 0,.int .i64 0,.int .i64 0] 151)).alloc (.cells #[.nilIface] 30)).heap[w.heap.size+1+1]?=some (.cells #[.nilIface] 30 (0,0)):=by
  have:=Zf ((w.alloc (.cells #[.int .i64 1073741824,.int .i64 1073741824,.int .i64 1073741824,.int .i64 1073741824,.int .i64 1073741824,.int .i64 4611686018427387903] 155)).alloc (.cells #[.int .i64 0,.int .i64 0,.int .i64 0,.int .i64 0] 151)) (.cells #[.nilIface] 30)
  rwa[World.size_alloc,World.size_alloc] at this
 have i3:=Qa g7;have G0:=Qa g0;have G1:=Qa g1;have G2:=Qa g2;clear g7 g0 g1 g2;go_enter_defers Tryz.func113,Tryz.ntmps113;go_wp2_with fail;generalize ((w.alloc (.cells #[.int .i64 1073741824,.int .i64 1073741824,.int .i64 1073741824,.int .i64 1073741824,.int .i64 1073741824,.int .i64 4611686018427387903] 155)).alloc (.cells #[.int .i64 0,.int .i64 0,.int .i64 0,.int .i64 0] 151)).alloc (.cells #[.nilIface] 30)=w1 at *;refine(h5.out _).mono ?_;rintro e w2 ⟨rfl,f0⟩;have l0:=ah G0.out f0;have c0:=ac l0 (j:=0) (u:=.int .i64 1073741824) rfl;have c1:=ac l0 (j:=1) (u:=.int .i64 1073741824) rfl;have c2:=ac l0 (j:=2) (u:=.int .i64 1073741824) rfl;have c3:=ac l0 (j:=3) (u:=.int .i64 1073741824) rfl;have c4:=ac l0 (j:=4) (u:=.int .i64 1073741824) rfl;have c5:=ac l0 (j:=5) (u:=.int .i64 4611686018427387903) rfl;have e3:=Qa f0;clear l0 f0;go_wp2_with fail;refine(g5.out _).mono ?_;rintro e w3 ⟨rfl,b9⟩;have i8:=Qa (aj (aj i3.out e3.out) b9);have L0:=Qa (ah (ah G0.out e3.out) b9);have L1:=Qa (ah (ah G1.out e3.out) b9);have L2:=Qa (ah (ah G2.out e3.out) b9);clear c0 c1 c2 c3 c4 c5 b9;go_wp2_with fail;obtain⟨wr,e2⟩:∃wr,w3.drew=wr:=⟨_,rfl⟩;have e1:Below w3.heap.size w3 wr:=by rw[<-e2];exact(Ze _ _).drew
 have b2:=Qa (aj i8.out e1);have h6:=ah L0.out e1;have d6:∀ (w':World),w'.heap[w.heap.size]?=some (.cells #[.int .i64 1073741824,.int .i64 1073741824,.int .i64 1073741824,.int .i64 1073741824,.int .i64 1073741824,.int .i64 4611686018427387903] 155 (0,0))->w'.cell? ⟨w.heap.size,0,none⟩=some (.int .i64 1073741824)/\w'.cell? ⟨w.heap.size,1,none⟩=some (.int .i64 1073741824)/\w'.cell? ⟨w.heap.size,2,none⟩=some (.int .i64 1073741824)/\w'.cell? ⟨w.heap.size,3,none⟩=some (.int .i64 1073741824)/\w'.cell? ⟨w.heap.size,4,none⟩=some (.int .i64 1073741824)/\w'.cell? ⟨w.heap.size,5,none⟩=some (.int .i64 4611686018427387903):=fun _ h=>
  ⟨ac h (j:=0) rfl,ac h (j:=1) rfl,ac h (j:=2) rfl,ac h (j:=3) rfl,ac h (j:=4) rfl,ac h (j:=5) rfl⟩
 have a4:=Qa d6;have e5:=Qa h6;have c6:=Qa (mj (w:=wr) (Hb.out.below b2.out) H0.out (by have:=Hl.out;omega));have R1:=Qa (ah L1.out e1);have R2:=Qa (ah L2.out e1);clear e1 h6 d6;refine bF (fun w2=>w2.cell? ⟨w.heap.size,0,none⟩=some (.int .i64 1073741824)/\w2.cell? ⟨w.heap.size,1,none⟩=some (.int .i64 1073741824)/\w2.cell? ⟨w.heap.size,2,none⟩=some (.int .i64 1073741824)/\w2.cell? ⟨w.heap.size,3,none⟩=some (.int .i64 1073741824)/\w2.cell? ⟨w.heap.size,4,none⟩=some (.int .i64 1073741824)/\w2.cell? ⟨w.heap.size,5,none⟩=some (.int .i64 4611686018427387903)) ((by rw[e2];exact a4.out _ e5.out)) fun a1=>?_
 refine tH 0 a1 ?_;refine tH 2 a1 ?_;refine tH 3 a1 ?_;refine tH 4 a1 ?_;refine tH 5 a1 ?_;refine tH 6 a1 ?_
 try simp only[Act.put,jP,jQ,jR]
 refine rH 1 fun K hK=>?_
 go_simp;(try rw[e2]);refine Za c6 ?_;rintro e w5 ⟨lb,u,rfl,h4,g6,f9,e0⟩;have b3:=Qa g6;have i5:=Qa h4;have i9:=Qa f9;have f3:=Qa e0;clear g6 h4 f9 e0;go_wp2_with fail;refine hK.out _ _ (a4.out _ (ah e5.out b3.out)) (fun a1=>?_);clear hK K
 try simp only[Act.put,jP,jQ,jR]
 refine tH 7 a1 ?_
 try simp only[Act.put,jP,jQ,jR]
 refine rH 8 fun K hK=>?_
 go_simp;refine hK.out _ _ (a4.out _ (ah (ah e5.out b3.out) (aa _ _))) (fun a1=>?_);clear hK K
 try simp only[Act.put,jP,jQ,jR]
 refine tH 9 a1 ?_
 try simp only[Act.put,jP,jQ,jR]
 refine wpAnyH_done (by kernel_rfl) (NoPanic.normal ?_) _;clear a1 e2;have e4:Below w0.heap.size w0 w5:=(b1.out.trans (b2.out.mono b1.out.size)).trans (b3.out.mono (Zc b1.out.size b2.out.size));have a0:=aa w5 (.cells (bI lb xb xs.length 0 0 0 (.slice none 0 0) (.slice none 0 0) 0 false) 238);have a5:=Zf w5 (.cells (bI lb xb xs.length 0 0 0 (.slice none 0 0) (.slice none 0 0) 0 false) 238);have g4:fW w0.heap.size (w5.alloc (.cells (bI lb xb xs.length 0 0 0 (.slice none 0 0) (.slice none 0 0) 0 false) 238)) w5.heap.size lb xb u xs [] 0 0 0 false xs.length 0 0 (.slice none 0 0) (.slice none 0 0) []:=
  ⟨a5,e4.size,i5.out.below a0,Zc (Zc b1.out.size b2.out.size) i9.out,ai (bj f3.out (Zc b1.out.size b2.out.size)) a0 (Zb _),⟨rfl,.inl ⟨rfl,rfl⟩⟩,⟨rfl,.inl ⟨rfl,rfl⟩⟩,ch.nil _,List.nodup_nil,Zj _⟩
 have b5:=(j0.out.below (aj b2.out b3.out)).below a0;have Hrel:=Qa (show Cx w0 w5.heap.size lb xb u xs j (xs.length+1) (w5.alloc (.cells (bI lb xb xs.length 0 0 0 (.slice none 0 0) (.slice none 0 0) 0 false) 238)) from
  .inl ⟨xs.length+1,⟨[],0,none⟩,0,0,rfl,Hp.out,⟨g4.s, [],b5⟩,bR.ok.start dd,Zb _,Zb _,Zj _,e4.trans (a0.mono e4.size)⟩)
 have Q1:=Qa (ah (ah R1.out b3.out) a0);have Q2:=Qa (ah (ah R2.out b3.out) a0);unfold bI at Hrel Q1 Q2;clear g4 b5 a5 a0 e4 c6 e5 a4 R1 R2 L0 L1 L2 G0 G1 G2 h5 g5;go_wp2_with fail
 go_loopg [] (xs.length+1) (fun m wr=>Cx w0 w5.heap.size lb xb u xs j m wr/\wr.heap[w.heap.size+1]?=some (.cells #[.int .i64 0,.int .i64 0,.int .i64 0,.int .i64 0] 151 (0,0))/\wr.heap[w.heap.size+1+1]?=some (.cells #[.nilIface] 30 (0,0)))
 case atStart=>exact⟨Hrel.out,Q1.out,Q2.out⟩
 case round=>
  obtain⟨hrel,q1,q2⟩:=hrel;have HQ1:=Qa q1;have HQ2:=Qa q2;clear Hrel Q1 Q2 q1 q2;rcases hrel with ⟨f,c,k,nd,hm,hrun,b0,b8,g8,g3,hk,a3⟩|⟨i4,nd,bs,hR,d5,a3⟩
  ·obtain⟨by9,dp9,ex9,ov9,nv9,maps9,a2⟩:=id b0.1;have c15:=ac a2.row (j:=15) (u:=.bool false) rfl;have k1:=Qa b0;have Hm:=Qa hm;have Hbl:=Qa a3
   cases f with
   |zero=>cases hrun
   |succ f=>
    unfold gi at hrun
    cases hdw:(xs.drop k).dropWhile bA with
    |nil=>
     rw[hdw] at hrun;simp only at hrun
     split at hrun
     case isFalse=>cases hrun
     rename_i hw7
     obtain⟨frs,want,done⟩:=c;simp only at hw7 hrun;subst hw7 hrun;have i0:frs = []:=b8.want.1;subst i0;obtain⟨bs9,f4⟩:=b0.2;have e6:=Qa (Dq (HE.out.below a3) b0.1 f4 Hl.out a3.size hdw);clear b0 b8 g8 g3 hk a3 hm a2 f4 hdw;go_wp2_with fail;refine Za e6 ?_;rintro e w7 ⟨rfl,h1,h2,h3⟩;have R:=Qa (And.intro h1 (And.intro h2 h3));clear h1 h2 h3 c15;go_wp2_with fail;go_roundg 0
     case measure=>have:=Hm.out;omega
     case rel=>exact⟨.inr ⟨rfl,nd,bs9,R.out.2.1,R.out.2.2,Hbl.out.trans R.out.1.b⟩,R.out.1.k.2 _ _ _ _ HQ1.out (by simp only[TA,TB,TV,js];decide),R.out.1.k.2 _ _ _ _ HQ2.out (by simp only[TA,TB,TV,js];decide)⟩
    |cons y ys=>
     rw[hdw] at hrun;simp only at hrun
     cases hlx:bK (y::ys) with
     |none=>rw[hlx] at hrun;cases hrun
     |some tn=>
      obtain⟨t,n⟩:=tn;rw[hlx] at hrun;simp only at hrun
      cases hsb:bH c t with
      |none=>rw[hsb] at hrun;cases hrun
      |some c'=>
       rw[hsb] at hrun;simp only at hrun;have f5:=gU hlx;have hin:(y::ys).length<=xs.length - k:=by
        have h1:=bV (xs.drop k);rw[hdw,List.length_drop] at h1;exact h1
       rw[List.length_cons] at f5 hin;have a9:xs.drop (xs.length - (ys.length+1))=y::ys:=by
        have h1:=io (xs.drop k);rw[hdw,List.drop_drop] at h1;have h2:=congrArg List.length h1;rw[List.length_drop,List.length_cons] at h2;rw[<-h1]
        congr 1
        omega
       have e6:=Qa (rA (⟨HE.out,HM.out,b0,b8,by have:=Hl.out;omega,by have:=Hl.out;omega,Hl.out,a3⟩:cY w0 w5.heap.size lb xb u xs c k nd wr aU aE) hdw hlx hsb);have Hrun:=Qa (show gi f c' (xs.drop (xs.length - (ys.length+1)+n))=some j by rw[<-List.drop_drop,a9];exact hrun);have Hok:=Qa (pA b8 (pM (by rw[List.length_cons];have:=Hl.out;omega) hlx) hsb);have Hcn:=Qa (show cQ c'.frs<=xs.length - (ys.length+1)+n/\nd+1<=xs.length - (ys.length+1)+n/\xs.length - (ys.length+1)+n<=xs.length/\k<xs.length - (ys.length+1)+n by have:=mb hsb;omega);clear b0 b8 g8 g3 hk a3 hm a2 hdw hlx hsb hrun f5 hin a9;go_wp2_with fail;refine Za e6 ?_;rintro e w7 ⟨nd',h7,rfl,h1,h2⟩;have R:=Qa (And.intro h7 (And.intro h1 h2));clear h7 h1 h2 c15;go_wp2_with fail;go_roundg (xs.length - (xs.length - (ys.length+1)+n)+1)
       case measure=>have:=Hm.out;have:=Hcn.out;omega
       case rel=>exact⟨.inl ⟨f,c',_,nd',rfl,Hrun.out,R.out.2.2,Hok.out,Hcn.out.1,Zc R.out.1 Hcn.out.2.1,Hcn.out.2.2.1,Hbl.out.trans R.out.2.1.b⟩,R.out.2.1.k.2 _ _ _ _ HQ1.out (by simp only[TA,TB,TV,js];decide),R.out.2.1.k.2 _ _ _ _ HQ2.out (by simp only[TA,TB,TV,js];decide)⟩
  ·obtain⟨by9,dp9,ex9,ov9,nv9,maps9,a2⟩:=id hR;have c15:=ac a2.row (j:=15) (u:=.bool true) rfl;have c7:=ac a2.row (j:=7) (u:=.int .i64 by9) rfl;have c8:=ac a2.row (j:=8) (u:=.int .i64 dp9) rfl;have c9:=ac a2.row (j:=9) (u:=.int .i64 nd) rfl;have c10:=ac a2.row (j:=10) (u:=.int .i64 ex9) rfl;have i2:=Qa d5;have Hbl:=Qa a3;have r0:=ac HQ1.out (j:=0) rfl;have r1:=ac HQ1.out (j:=1) rfl;have r2:=ac HQ1.out (j:=2) rfl;have r3:=ac HQ1.out (j:=3) rfl;have r4:=ac HQ2.out (j:=0) rfl;have z0:=al HQ1.out 0;have z1:=al HQ1.out 1;have z2:=al HQ1.out 2;have z3:=al HQ1.out 3;have z4:=al HQ2.out 0;clear i4 hR d5 a3 a2;go_wp2_with fail;obtain⟨W,hW⟩:∃W,((((wr.setCell ⟨w.heap.size+1,0,none⟩ (.int .i64 by9)).setCell ⟨w.heap.size+1,1,none⟩ (.int .i64 dp9)).setCell ⟨w.heap.size+1,2,none⟩ (.int .i64 nd)).setCell ⟨w.heap.size+1,3,none⟩ (.int .i64 ex9)).setCell ⟨w.heap.size+1+1,0,none⟩ .nilIface=W:=⟨_,rfl⟩;rw[hW];obtain⟨g1,g2,f1⟩:=De (by omega) HQ1.out HQ2.out _ _ _ _ hW;have d0:=ac g1 (j:=0) (u:=.int .i64 by9) rfl;have d1:=ac g1 (j:=1) (u:=.int .i64 dp9) rfl;have d2:=ac g1 (j:=2) (u:=.int .i64 nd) rfl;have d3:=ac g1 (j:=3) (u:=.int .i64 ex9) rfl;have d4:=ac g2 (j:=0) (u:=.nilIface) rfl;have f7:Kp (fun e=>e=151\/e=30) wr W:=Kp.of_chg f1 fun g hg _=>by
    rcases hg with rfl|rfl
    ·exact⟨_,_,_,HQ1.out,.inl rfl⟩
    ·exact⟨_,_,_,HQ2.out,.inr rfl⟩
   have f6:=i2.out.kp f7 fun e he=>by rcases he with (rfl|rfl|rfl|rfl)|rfl|rfl <;> decide
   have d9:Below w0.heap.size w0 W:=Hbl.out.trans (f1.below Hbl.out.size fun i hi=>by have:=b1.out.size;rcases hi with rfl|rfl <;> omega);have f2:I0 w0 xb j (.returned (.tuple #[.agg #[.int .i64 by9,.int .i64 dp9,.int .i64 nd,.int .i64 ex9],.nilIface])) W:=⟨_,_,_,_,rfl,d9,bs,f6⟩;clear hW f1 f7 f6 d9 r0 r1 r2 r3 r4 z0 z1 z2 z3 z4 c7 c8 c9 c10 c15;refine leaves_cons (f:=137) (args:= #[.pointer (some ⟨w.heap.size+1,0,none⟩),.pointer (some ⟨w.heap.size+1+1,0,none⟩)]) (by simp) (by simp[go_sem]) ?_;refine(zu _ _ _).mono ?_;rintro e u' w'' ⟨rfl,rfl,rfl⟩;simp[Leaves,settle,results,Tryz.results113,go_sem,d0,d1,d2,d3,d4];exact f2
def Jw (w:World)(j:JV)(e:Ending)(w':World):Prop:= ∃ (u:Value) (a b c d:Int),e =.returned (.tuple #[u,.agg #[.int .i64 a,.int .i64 b,.int .i64 c,.int .i64 d],.nilIface])/\Below w.heap.size w w'/\VW (w.heap.size<= ·) w' u j
theorem yN (hE:lg w aU aE)(hM:iE w)(hb:Bs w v xs)(h0:0<xs.length)(hl:xs.length<=1000000000)(hp:dB xs=some j) :
  Calls Tryz.prog 78 #[v,cX] w (Jw w j):=by
 have f3:∀ (fn:Fn) (first cap:Array Value) (w:World),(Instr.makeFunc fn first cap).run Tryz.prog w =.ok (.func fn first cap) w:=fun _ _ _ _=>rfl
 have a9:Below w.heap.size w ((w.alloc (.cells jO 155)).alloc (.cells #[.int .i64 0,.int .i64 0,.int .i64 0,.int .i64 0] 151)):=aj (aa _ _) (aa _ _);have g0:((w.alloc (.cells jO 155)).alloc (.cells #[.int .i64 0,.int .i64 0,.int .i64 0,.int .i64 0] 151)).heap[w.heap.size]?=some (.cells jO 155 (0,0)):=(Below.heap_alloc _ _ _ (by simp)).trans (Zf w _);have g1:((w.alloc (.cells jO 155)).alloc (.cells #[.int .i64 0,.int .i64 0,.int .i64 0,.int .i64 0] 151)).heap[w.heap.size+1]?=some (.cells #[.int .i64 0,.int .i64 0,.int .i64 0,.int .i64 0] 151 (0,0)):=by
  have:=Zf (w.alloc (.cells jO 155)) (.cells #[.int .i64 0,.int .i64 0,.int .i64 0,.int .i64 0] 151)
  rwa[World.size_alloc] at this
 have hz:((w.alloc (.cells jO 155)).alloc (.cells #[.int .i64 0,.int .i64 0,.int .i64 0,.int .i64 0] 151)).heap.size=w.heap.size+1+1:=by simp
 unfold jO at a9 g0 g1 hz;have H2:=Qa a9;have G0:=Qa g0;have G1:=Qa g1;have Hz:=Qa hz;have HE:=Qa (hE.below a9);have HM:=Qa (hM.below a9);have Hb:=Qa (hb.below a9);have H0:=Qa h0;have Hl:=Qa hl;have Hp:=Qa hp;have e1:=hE;unfold cX;clear a9 g0 g1 hz hE hM hb h0 hl hp e1;go_enter Tryz.func78,Tryz.ntmps78;go_wp2_with fail;generalize ((w.alloc (.cells #[.int .i64 1073741824,.int .i64 1073741824,.int .i64 1073741824,.int .i64 1073741824,.int .i64 1073741824,.int .i64 4611686018427387903] 155)).alloc (.cells #[.int .i64 0,.int .i64 0,.int .i64 0,.int .i64 0] 151))=w1 at *;rw[<-Hz.out];have a5:=aa w1 (.cells #[.slice none 0 0,.nilIface] 200);have a4:=Zf w1 (.cells #[.slice none 0 0,.nilIface] 200);have b4:d8 w1.heap.size (w1.alloc (.cells #[.slice none 0 0,.nilIface] 200)) w1.heap.size [] none []:=⟨.slice none 0 0,.nilIface, [],a4,Zb _,⟨rfl,.inl ⟨rfl,rfl⟩⟩,ch.nil _,rfl,List.nodup_nil,rfl⟩;have c3:=Qa (yI HE.out HM.out a5 (Hb.out.below a5) H0.out Hl.out b4 Hp.out);unfold cX at c3;clear a5 a4 b4;refine Za c3 ?_;rintro e w3 ⟨a,b,c,d,rfl,b5,bs,pv,dv,us,b8⟩;have c5:VW (Pb w1.heap.size bs) w3 dv j:=b8.done;obtain⟨tv,xv,f1⟩:=c5.iface;subst f1;have a0:=aa w3 (.cells #[.int .i64 a,.int .i64 b,.int .i64 c,.int .i64 d] 151);obtain⟨w4,c0⟩:∃w4,w3.alloc (.cells #[.int .i64 a,.int .i64 b,.int .i64 c,.int .i64 d] 151)=w4:=⟨_,rfl⟩;have c1:=Zf w3 (.cells #[.int .i64 a,.int .i64 b,.int .i64 c,.int .i64 d] 151);rw[c0] at a0 c1;have d9:=Qa (c5.later a0);have f2:=Qa (ah b8.row a0);have e2:=Qa c1;have d4:w3.heap[w.heap.size+1]?=some (.cells #[.int .i64 0,.int .i64 0,.int .i64 0,.int .i64 0] 151 (0,0)):=(b5.block _ (ak G1.out)).trans G1.out;have d6:=Qa (ah d4 a0);have d5:=Qa (show Below w1.heap.size w1 w4 from b5.trans (a0.mono b5.size));have e0:=Qa c0;have hlt:w1.heap.size<w3.heap.size:=ak b8.row;have e5:=Qa hlt;clear b5 b8 c5 a0 c1 d4 c0 hlt c3;go_wp2_with fail
 try rw[e0.out]
 obtain⟨wr,c6⟩:∃wr,w4.drew=wr:=⟨_,rfl⟩;have b0:Below w4.heap.size w4 wr:=by rw[<-c6];exact(Ze _ _).drew
 have f0:=Qa (d9.out.later b0);have hX:=ah f2.out b0;have hN:=ah e2.out b0;have hG:=ah d6.out b0;have e3:=Qa hX;have b9:=Qa hN;have c8:=Qa hG;have c7:=Qa (d5.out.trans (b0.mono d5.out.size));have z0:=al hG 0;have z1:=al hG 1;have z2:=al hG 2;have z3:=al hG 3;have y0:=ac hG (j:=0) (u:=.int .i64 0) rfl;have y1:=ac hG (j:=1) (u:=.int .i64 0) rfl;have y2:=ac hG (j:=2) (u:=.int .i64 0) rfl;have y3:=ac hG (j:=3) (u:=.int .i64 0) rfl;have b2:w.heap.size+1≠w1.heap.size:=by have:=Hz.out;omega
 have b3:w.heap.size+1≠w3.heap.size:=by have:=Hz.out;have:=e5.out;omega
 have c2:=Qa b2;have a1:=Qa b3;clear b0 hX hN hG b2 b3;have hS:wr.cell? ⟨w1.heap.size,1,none⟩=some (.iface tv xv)/\wr.cell? ⟨w3.heap.size,0,none⟩=some (.int .i64 a)/\wr.cell? ⟨w3.heap.size,1,none⟩=some (.int .i64 b)/\wr.cell? ⟨w3.heap.size,2,none⟩=some (.int .i64 c)/\wr.cell? ⟨w3.heap.size,3,none⟩=some (.int .i64 d):=
  ⟨ac e3.out (j:=1) rfl,ac b9.out (j:=0) rfl,ac b9.out (j:=1) rfl,ac b9.out (j:=2) rfl,ac b9.out (j:=3) rfl⟩
 have HS:=Qa hS;clear hS;have b1:∀ (W:World) (i:Nat) (x:Value),(W.cell? ⟨w1.heap.size,1,none⟩=some (.iface tv xv)/\W.cell? ⟨w3.heap.size,0,none⟩=some (.int .i64 a)/\W.cell? ⟨w3.heap.size,1,none⟩=some (.int .i64 b)/\W.cell? ⟨w3.heap.size,2,none⟩=some (.int .i64 c)/\W.cell? ⟨w3.heap.size,3,none⟩=some (.int .i64 d))->
   ((W.setCell ⟨w.heap.size+1,i,none⟩ x).cell? ⟨w1.heap.size,1,none⟩=some (.iface tv xv)/\(W.setCell ⟨w.heap.size+1,i,none⟩ x).cell? ⟨w3.heap.size,0,none⟩=some (.int .i64 a)/\(W.setCell ⟨w.heap.size+1,i,none⟩ x).cell? ⟨w3.heap.size,1,none⟩=some (.int .i64 b)/\(W.setCell ⟨w.heap.size+1,i,none⟩ x).cell? ⟨w3.heap.size,2,none⟩=some (.int .i64 c)/\(W.setCell ⟨w.heap.size+1,i,none⟩ x).cell? ⟨w3.heap.size,3,none⟩=some (.int .i64 d)):=fun W i x ⟨h1,h2,h3,h4,h5⟩=>
  ⟨(World.cell?_setCell_far _ _ _ _ c2.out).trans h1,(World.cell?_setCell_far _ _ _ _ a1.out).trans h2,(World.cell?_setCell_far _ _ _ _ a1.out).trans h3,(World.cell?_setCell_far _ _ _ _ a1.out).trans h4,(World.cell?_setCell_far _ _ _ _ a1.out).trans h5⟩
 have a2:=Qa b1;clear b1;refine bF (fun w2=>w2.cell? ⟨w1.heap.size,1,none⟩=some (.iface tv xv)/\w2.cell? ⟨w3.heap.size,0,none⟩=some (.int .i64 a)/\w2.cell? ⟨w3.heap.size,1,none⟩=some (.int .i64 b)/\w2.cell? ⟨w3.heap.size,2,none⟩=some (.int .i64 c)/\w2.cell? ⟨w3.heap.size,3,none⟩=some (.int .i64 d)) ((by rw[c6];exact HS.out)) fun a3=>?_
 refine tH 0 a3 ?_;refine tH 1 a3 ?_;refine tH 2 a3 ?_;refine tH 3 a3 ?_
 try simp only[Act.put,jP,jQ,jR]
 refine rH 4 fun K hK=>?_
 (try rw[c6] at a3 ⊢);go_simp;refine hK.out _ _ (a2.out _ _ _ (a2.out _ _ _ (a2.out _ _ _ (a2.out _ _ _ HS.out)))) (fun a3=>?_);clear hK K
 try simp only[Act.put,jP,jQ,jR]
 refine tH 5 a3 ?_
 try simp only[Act.put,jP,jQ,jR]
 refine wpAnyH_done (by kernel_rfl) (NoPanic.normal ?_) _;clear y0 y1 y2 y3 z0 z1 z2 z3
 try clear a3
 go_wp2_with fail;obtain⟨W,hW⟩:∃W,(((wr.setCell ⟨w.heap.size+1,0,none⟩ (.int .i64 a)).setCell ⟨w.heap.size+1,1,none⟩ (.int .i64 b)).setCell ⟨w.heap.size+1,2,none⟩ (.int .i64 c)).setCell ⟨w.heap.size+1,3,none⟩ (.int .i64 d)=W:=⟨_,rfl⟩;rw[hW];have g:=ar (ar (ar (ar c8.out 0 (.int .i64 a)) 1 (.int .i64 b)) 2 (.int .i64 c)) 3 (.int .i64 d);rw[hW] at g;have c9:aP (fun k=>k=w.heap.size+1) wr W:=by
  rw[<-hW];exact((((aP.set _ 0 _).trans (aP.set _ 1 _) fun i h=>.inl h).trans (aP.set _ 2 _) fun i h=>.inl h).trans (aP.set _ 3 _) fun i h=>.inl h)
 have d0:=ac g (j:=0) (u:=.int .i64 a) rfl;have d1:=ac g (j:=1) (u:=.int .i64 b) rfl;have d2:=ac g (j:=2) (u:=.int .i64 c) rfl;have d3:=ac g (j:=3) (u:=.int .i64 d) rfl;have e6:Kp (fun e=>e=151) wr W:=Kp.of_chg c9 fun g hg _=>by subst hg;exact⟨_,_,_,c8.out,rfl⟩
 have e4:=(f0.out.keeps e6.keeps (fun e he=>by rcases he with rfl|rfl|rfl|rfl <;> decide)).imp (Q:=(w.heap.size<= ·)) (fun g hg _=>Zc H2.out.size hg.1);have c4:Below w.heap.size w W:=(H2.out.trans (c7.out.mono H2.out.size)).trans (c9.below (by have:=H2.out.size;have:=c7.out.size;omega) fun i hi=>by rw[hi];omega);refine Zh (v:=.tuple #[.iface tv xv,.agg #[.int .i64 a,.int .i64 b,.int .i64 c,.int .i64 d],.nilIface]) ?_ rfl ⟨_,_,_,_,_,rfl,c4,e4⟩;simp[results,Tryz.results78,go_sem,d0,d1,d2,d3]
theorem th (w:World):Calls Tryz.prog 79 #[] w fun e w'=>e =.returned cX/\Below w.heap.size w w':=by
 unfold cX;go_enter Tryz.func79,Tryz.ntmps79;go_wp2_with fail;have hn:=Zf w (.cells #[.int .i64 1073741824,.int .i64 1073741824,.int .i64 1073741824,.int .i64 1073741824,.int .i64 1073741824,.int .i64 4611686018427387903] 155);have n0:=ac hn (j:=0) rfl;have n1:=ac hn (j:=1) rfl;have n2:=ac hn (j:=2) rfl;have n3:=ac hn (j:=3) rfl;have n4:=ac hn (j:=4) rfl;have n5:=ac hn (j:=5) rfl;have Hb:=aa w (.cells #[.int .i64 1073741824,.int .i64 1073741824,.int .i64 1073741824,.int .i64 1073741824,.int .i64 1073741824,.int .i64 4611686018427387903] 155);refine Zh (v:=.agg #[.int .i64 1073741824,.int .i64 1073741824,.int .i64 1073741824,.int .i64 1073741824,.int .i64 1073741824,.int .i64 4611686018427387903]) ?_ rfl ⟨rfl,Hb⟩;simp[results,Tryz.results79,go_sem,n0,n1,n2,n3,n4,n5]
def I4 (w:World)(j:JV)(e:Ending)(w':World):Prop:= ∃u,e =.returned (.tuple #[u,.nilIface])/\Below w.heap.size w w'/\VW (w.heap.size<= ·) w' u j
theorem ou (hE:lg w aU aE)(hM:iE w)(hb:Bs w v xs)(h0:0<xs.length)(hl:xs.length<=1000000000)(hp:dB xs=some j) :
  Calls Tryz.prog 48 #[v] w (I4 w j):=by
 have Hf:=Qa (th w);have H:=Qa (fun (w1:World) (h:Below w.heap.size w w1)=>yN (hE.below h) (hM.below h) (hb.below h) h0 hl hp);clear hE hM hb h0 hl hp;go_enter Tryz.func48,Tryz.ntmps48;go_wp2_with fail;refine Za Hf ?_;rintro e w1 ⟨rfl,a1⟩;have a2:=Qa a1;have Hp:=Qa (H.out w1 a1);clear a1;go_wp2_with fail;refine Za Hp ?_;rintro e w2 ⟨u,a,b,c,d,rfl,a3,hv⟩;obtain⟨tv,xv,rfl⟩:=hv.iface;have a0:=aa w2 (.cells #[.int .i64 a,.int .i64 b,.int .i64 c,.int .i64 d] 151);have HV:=Qa ((hv.later a0).imp (Q:=(w.heap.size<= ·)) fun g hg _=>Zc a2.out.size hg);have HB:=Qa (aj (aj a2.out a3) a0);clear a3 hv a0 Hp;go_wp2_with fail;go_ret2;exact⟨_,rfl,HB.out,HV.out⟩
open Go.Shelf
theorem gD (h:Bs w v xs)(h':Bs w v' ys):Calls Tryz.prog 26 #[v,v'] w fun e w'=>e =.returned (.bool (decide (xs=ys)))/\w=w':=by
 have c1:=aI h;have c2:=aI h';have He:Hid (((⟨xs.toArray⟩:ByteArray).toList== (⟨ys.toArray⟩:ByteArray).toList)=decide (xs=ys)):=Qa (by
  rw[lN,lN,Bool.eq_iff_iff];simp)
 clear h h';generalize (⟨xs.toArray⟩:ByteArray)=a at *;generalize (⟨ys.toArray⟩:ByteArray)=b at *;go_enter Tryz.func26,Tryz.ntmps26;go_wp2_with fail;go_ret;rw[<-He.out];exact⟨rfl,rfl⟩
theorem nw:Calls Tryz.prog 33 #[] w fun e w'=>e =.returned (.pointer (some ⟨w.heap.size,0,none⟩))/\w'.heap[w.heap.size]?=some (.cells #[.slice none 0 0,.nilIface] 128 (0,0))/\Below w.heap.size w w':=by
 have h0:=Qa (Zf w (.cells #[.slice none 0 0,.nilIface] 128));have hb:=Qa (aa w (.cells #[.slice none 0 0,.nilIface] 128));go_enter Tryz.func33,Tryz.ntmps33;go_wp2_with fail;go_ret;exact⟨rfl,h0.out,hb.out⟩
theorem mp {d:Value}(h:w.heap[g]?=some (.cells #[.slice A 0 c,d] 128 (0,0))):Calls Tryz.prog 66 #[.pointer (some ⟨g,0,none⟩)] w fun e w'=>e =.returned .nilIface/\w=w':=by
 have c0:=ac h (j:=0) (u:=.slice A 0 c) rfl;clear h;go_enter Tryz.func66,Tryz.ntmps66;go_wp2_with fail;go_ret;exact⟨rfl,rfl⟩
theorem AX {d:Value}(h:w.heap[g]?=some (.cells #[.slice (some ⟨gr,0,none⟩) (n+1) c,d] 128 (0,0)))(hn:n<1000000000)(hu:w.cell? ⟨gr,n,none⟩=some u):Calls Tryz.prog 66 #[.pointer (some ⟨g,0,none⟩)] w fun e w'=>e =.returned u/\∃m,w'=w.drewN m:=by
 have c0:=ac h (j:=0) (u:=.slice (some ⟨gr,0,none⟩) (n+1) c) rfl;have s1:IntKind.i64.wrap (n:Int)= (n:Int):=IntWalk.i64_in _ (by omega);have s2:(n:Int)< (n:Int)+1:=by omega
 have s3:((n:Int)+1==0)=false:=by simp only[beq_eq_false_iff_ne];omega
 clear h;go_enter Tryz.func66,Tryz.ntmps66;go_wp2_with fail;go_quiet (fail);go_wp2_with fail;go_ret;exact⟨rfl,_,rfl⟩
theorem pw:Calls Tryz.prog 302 #[x] w fun e w'=>e =.returned (.bool true)/\w=w':=by
 go_enter Tryz.func302,Tryz.ntmps302;go_wp2_with fail;go_ret;exact⟨rfl,rfl⟩
theorem mD {m nm:Value}{b:Bool}(h:w.heap[g]?=some (.cells #[m,nm,.bool b] 135 (0,0))):Calls Tryz.prog 305 #[.pointer (some ⟨g,0,none⟩)] w fun e w'=>e =.returned (.bool b)/\w=w':=by
 have c0:=ac h (j:=2) (u:=.bool b) rfl;clear h;go_enter Tryz.func305,Tryz.ntmps305;go_wp2_with fail;go_ret;exact⟨rfl,rfl⟩
theorem tg (h:w.heap[g]?=some (.cells #[.slice A 0 c,.nilIface] 128 (0,0))):Calls Tryz.prog 65 #[.pointer (some ⟨g,0,none⟩)] w fun e w'=>e =.returned (.bool true)/\Below w.heap.size w w':=by
 have c1:=ac h (j:=1) (u:=.nilIface) rfl;have H:=Qa (mp h);clear h;go_enter Tryz.func65,Tryz.ntmps65;go_wp2_with fail;refine Za H ?_;rintro e w1 ⟨rfl,rfl⟩;go_wp2_with fail;go_ret;exact⟨rfl,Ze _ _⟩
theorem re {t:TypeId}(h:w.heap[g]?=some (.cells #[.slice A 0 c,.iface t x] 128 (0,0))):Calls Tryz.prog 65 #[.pointer (some ⟨g,0,none⟩)] w fun e w'=>e =.returned (.bool false)/\Below w.heap.size w w':=by
 have c1:=ac h (j:=1) (u:=.iface t x) rfl;have H:=Qa (mp h);clear h;go_enter Tryz.func65,Tryz.ntmps65;go_wp2_with fail;refine Za H ?_;rintro e w1 ⟨rfl,rfl⟩;go_wp2_with fail;go_ret;exact⟨rfl,Ze _ _⟩
theorem uq (H:Calls Tryz.prog 66 #[.pointer (some ⟨g,0,none⟩)] w fun e w'=>e =.returned (.iface 129 x)/\Below w.heap.size w w'):Calls Tryz.prog 65 #[.pointer (some ⟨g,0,none⟩)] w fun e w'=>e =.returned (.bool true)/\Below w.heap.size w w':=by
 go_enter Tryz.func65,Tryz.ntmps65;go_wp2_with fail;refine H.mono ?_;rintro e w1 ⟨rfl,hb⟩;go_wp2_with fail;refine pw.mono ?_;rintro e w2 ⟨rfl,rfl⟩;go_wp2_with fail;go_ret;exact⟨rfl,hb⟩
theorem p6 {m nm:Value}{b:Bool}(h:w.heap[gt]?=some (.cells #[m,nm,.bool b] 135 (0,0)))(H:Calls Tryz.prog 66 #[.pointer (some ⟨g,0,none⟩)] w fun e w'=>e =.returned (.iface 133 (.pointer (some ⟨gt,0,none⟩)))/\Below w.heap.size w w'):Calls Tryz.prog 65 #[.pointer (some ⟨g,0,none⟩)] w fun e w'=>e =.returned (.bool b)/\Below w.heap.size w w':=by
 have HT:=Qa (fun w1 (hw:Below w.heap.size w w1)=>mD (ah h hw));clear h;go_enter Tryz.func65,Tryz.ntmps65;go_wp2_with fail;refine H.mono ?_;rintro e w1 ⟨rfl,hb⟩;have a0:=Qa (HT.out w1 hb);go_wp2_with fail;refine Za a0 ?_;rintro e w2 ⟨rfl,rfl⟩;go_wp2_with fail;go_ret;exact⟨rfl,hb⟩
theorem vh {t:TypeId}(h:w.heap[g]?=some (.cells #[.slice A us.length c] 132 (0,0)))(ho:w.ownsRow base 80 1 (.slice A us.length c) us.length us)(hb:base<=w.heap.size)(hl:us.length<=1000000000)(hn:∀b,(Value.slice A us.length c).ownBlock=some b->b≠g) :
  Calls Tryz.prog 300 #[.pointer (some ⟨g,0,none⟩),.iface t x] w fun e w'=>e =.returned (.tuple #[])/\∃A' q,w'.heap[g]?=some (.cells #[.slice A' (us.length+1) q] 132 (0,0))/\w'.ownsRow base 80 1 (.slice A' (us.length+1) q) (us.length+1) (us ++ [.iface t x])/\aP (fun k=>k=g\/(Value.slice A us.length c).ownBlock=some k) w w'/\((Value.slice A' (us.length+1) q).ownBlock= (Value.slice A us.length c).ownBlock\/∃b,(Value.slice A' (us.length+1) q).ownBlock=some b/\w.heap.size<=b):=by
 have c0:=ac h (j:=0) (u:=.slice A us.length c) rfl;have a0:=Qa (aa w (.cells #[.iface t x] 80));have a2:=Qa (av w [.iface t x] 80);have Ho:=Qa (ai ho a0.out (Zb _));have H:=Qa (ah h a0.out);have a3:=Qa (show base<=(w.alloc (.cells #[.iface t x] 80)).heap.size from Zc hb a0.out.size);have Hn:=Qa hn;obtain⟨n,a1⟩:∃n,us.length=n:=⟨_,rfl⟩;have a4:=Qa a1;rw[a1] at Ho H Hn c0 hl ⊢;clear h ho hn a1;go_enter Tryz.func300,Tryz.ntmps300;go_wp2_with (at_builtin;refine j3 AH Ho.out a2.out a3.out ?_;intro v' w5 p1 p2 p3;obtain⟨A5,q5,rfl,-,-,-⟩:=ag p1;have g5:=ay H.out p2 (fun e=>Hn.out g e rfl);have f5:=al g5 0;have c5:=ac g5 (j:=0) (u:=.slice A n c) rfl;have G5:=Qa g5;have HK:=Qa p1;have HG:=Qa p2;have HD:=Qa p3;clear p1 p2 p3 g5);go_end0;have hne:∀b,(Value.slice A5 (n+1) q5).ownBlock=some b->¬b=g:=fun b hb e=>by
  have hg:=ak H.out;rcases HD.out with h|h
  ·exact Hn.out b (h▸hb) e
  ·rw[h] at hb;have:=Zi hb;omega
 refine⟨rfl,⟨A5,q5,ar G5.out 0 _,bh HK.out (fun b hb=>?_),?_,?_⟩⟩
 ·exact(aP.set g 0 _).block b (by obtain⟨_,cur,hg⟩:=ao HK.out hb;exact ak hg) (hne b hb)
 ·exact((aP.of_below a0.out).trans (aP.grown HG.out) (fun i h=>.inl (.inr h))).trans (aP.set g 0 _) (fun i h=>.inl (.inl h))
 ·rcases HD.out with h|h
  ·exact .inl h
  ·exact .inr ⟨_,h,a0.out.size⟩
theorem o4 {d:Value}{t:TypeId}(h:w.heap[g]?=some (.cells #[.slice A 0 c,d] 128 (0,0)))(hd:d.oneCell'=true):Calls Tryz.prog 69 #[.pointer (some ⟨g,0,none⟩),.iface t x] w fun e w'=>e =.returned (.tuple #[])/\w'.heap[g]?=some (.cells #[.slice A 0 c,.iface t x] 128 (0,0))/\aP (fun k=>k=g) w w':=by
 have c1:=ac h (j:=1) (u:=d) rfl;have f1:=al h 1;have H:=Qa (mp h);have Hs:=Qa (ar h 1 (.iface t x));clear h;go_enter Tryz.func69,Tryz.ntmps69;go_wp2_with fail;refine Za H ?_;rintro e w1 ⟨rfl,rfl⟩;go_wp2_with fail;go_end0;exact⟨rfl,Hs.out,aP.set g 1 _⟩
def CA (w:World)(base gr:Nat)(A:Option Addr)(c:Nat)(us:List Value)(v:Value)(w':World):Prop:= ∃A' q,w'.heap[gr]?=some (.cells #[.slice A' (us.length+1) q] 132 (0,0))/\w'.ownsRow base 80 1 (.slice A' (us.length+1) q) (us.length+1) (us ++ [v])/\aP (fun k=>k=gr\/(Value.slice A us.length c).ownBlock=some k) w w'/\((Value.slice A' (us.length+1) q).ownBlock= (Value.slice A us.length c).ownBlock\/∃b,(Value.slice A' (us.length+1) q).ownBlock=some b/\w.heap.size<=b)
theorem ss {t:TypeId}(HI:Calls Tryz.prog 66 #[.pointer (some ⟨g,0,none⟩)] w fun e w'=>e =.returned (.iface 129 (.pointer (some ⟨gr,0,none⟩)))/\∃m,w'=w.drewN m)
  (h:w.heap[gr]?=some (.cells #[.slice A us.length c] 132 (0,0))) (ho:w.ownsRow base 80 1 (.slice A us.length c) us.length us) (hb:base<=w.heap.size) (hl:us.length<=1000000000) (hn:∀b,(Value.slice A us.length c).ownBlock=some b->b≠gr) :
  Calls Tryz.prog 69 #[.pointer (some ⟨g,0,none⟩),.iface t x] w fun e w'=>e =.returned (.tuple #[])/\∃m,CA (w.drewN m) base gr A c us (.iface t x) w':=by
 have HA:=Qa (fun m=>vh (w:=w.drewN m) (t:=t) (x:=x) h ho hb hl hn);clear h ho hb hl hn;go_enter Tryz.func69,Tryz.ntmps69;go_wp2_with fail;refine HI.mono ?_;rintro e w1 ⟨rfl,m,rfl⟩;have a0:=Qa (HA.out m);go_wp2_with fail;refine Za a0 ?_;rintro e w2 ⟨rfl,hr⟩;go_wp2_with fail;(try simp only[Exit.inBlock,Exit.then]);refine Zh (results_none rfl ..) rfl ?_;exact⟨rfl,m,hr⟩
theorem vy {K:Nat->World->Prop}(h:w.heap[gr]?=some (.cells #[.slice A us.length c] 132 (0,0)))
  (H:Calls Tryz.prog 171 #[.slice A us.length c] w fun e w'=> ∃gl,e =.returned (.tuple #[.pointer (some ⟨gl,0,none⟩),.nilIface])/\K gl w') :
  Calls Tryz.prog 301 #[.pointer (some ⟨gr,0,none⟩)] w fun e w'=> ∃gl,e =.returned (.tuple #[.iface 104 (.pointer (some ⟨gl,0,none⟩)),.bool true])/\∃w1 m,K gl w1/\w'=w1.drewN m:=by
 have c0:=ac h (j:=0) (u:=.slice A us.length c) rfl;clear h;go_enter Tryz.func301,Tryz.ntmps301;go_wp2_with fail;refine H.mono ?_;rintro e w1 ⟨gl,rfl,hk⟩;have Hk:=Qa hk;clear hk;go_wp2_with fail;go_quiet (fail);go_wp2_with fail;go_ret2;exact⟨gl,rfl,w1,_,Hk.out,rfl⟩
