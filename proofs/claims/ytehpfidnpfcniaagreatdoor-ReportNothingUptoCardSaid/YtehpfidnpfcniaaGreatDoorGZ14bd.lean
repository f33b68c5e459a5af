import Derived.Test.YtehpfidnpfcniaaGreatDoorGZ14bc
set_option linter.unusedVariables false
set_option linter.unusedSimpArgs false
set_option maxHeartbeats 64000000
set_option maxRecDepth 100000
namespace Go.Proofs.YtehpfidnpfcniaaGreatDoor
open Go.RowKit
variable {aE aU:Addr}{j:JV}{xs ys:List UInt8}{us:List Value}{base c g gr gt n xb:Nat}{A:Option Addr}{u v v' x:Value}{W w w0:World}
def ud:Array Value:= #[.int .i64 1073741824,.int .i64 1073741824,.int .i64 1073741824,.int .i64 1073741824,.int .i64 1073741824,.int .i64 4611686018427387903]
theorem wI (p q:Value)(w:World):CallsD Tryz.prog 147 #[p,q] .returning w fun e u' w'=>e =.returned (.tuple #[])/\u' =.returning/\w'=w:=by
 refine callsD_of_wpS Tryz.func147 rfl fun c₀ cs hu=>?_
 apply wpS_seq
 apply wpS_region
 simp[wpOpsS,go_sem,recoverD,hu,Tryz.ntmps147,Exit.thenS];apply wpS_seq;apply wpS_region;simp[wpOpsS,go_sem,Exit.thenS];refine wpS_cond (t:=false) (by simp[Act.eval,Array.replicate]) ?_;simp only[Bool.false_eq_true,if_false];refine wpS_of_wp (wp_skip ?_)
 cases c₀
 simp_all [bodyPostS,results,Tryz.results147]
theorem zy {wr:World}{s1 s2:Nat}(hne:s1≠s2)(h1:wr.heap[s1]?=some (.cells #[.int .i64 0,.int .i64 0,.int .i64 0,.int .i64 0] 158 (0,0)))(h2:wr.heap[s2]?=some (.cells #[.nilIface] 30 (0,0)))(a b c d:Value)
  (hW:((((wr.setCell ⟨s1,0,none⟩ a).setCell ⟨s1,1,none⟩ b).setCell ⟨s1,2,none⟩ c).setCell ⟨s1,3,none⟩ d).setCell ⟨s2,0,none⟩ .nilIface=W) :
  W.heap[s1]?=some (.cells #[a,b,c,d] 158 (0,0))/\W.heap[s2]?=some (.cells #[.nilIface] 30 (0,0))/\aM (fun k=>k=s1\/k=s2) wr W:=by
 subst hW;have g1:=au (au (au (au h1 0 a) 1 b) 2 c) 3 d;have g2:=aq _ s2 s1 3 d _ _ hne.symm (aq _ s2 s1 2 c _ _ hne.symm (aq _ s2 s1 1 b _ _ hne.symm (aq wr s2 s1 0 a _ _ hne.symm h2)));refine⟨aq _ s1 s2 0 .nilIface _ _ hne g1,au g2 0 .nilIface,?_⟩;exact(((((aM.set s1 0 a).mono fun _ h=>.inl h).trans (aM.set s1 1 b) fun i h=>.inl (.inl h)).trans (aM.set s1 2 c) fun i h=>.inl (.inl h)).trans (aM.set s1 3 d) fun i h=>.inl (.inl h)).trans (aM.set s2 0 _) fun i h=>.inl (.inr h)
def zk (w0:World)(rb lb xb:Nat)(v:Value)(xs:List UInt8)(j:JV)(m:Nat)(wr:World):Prop:=
 (∃ (f:Nat) (c:cf) (k nd:Nat),m=xs.length - k+1/\kr f c (xs.drop k)=some j/\PS w0.heap.size rb lb xb v xs c k nd false wr/\c.ok ey/\dd c.frs<=k/\nd<=k/\k<=xs.length/\Below w0.heap.size w0 wr)\/
 (m=0/\∃nd bs,gT w0.heap.size wr rb lb xb v xs [] 7 xs.length nd true/\dT w0.heap.size wr xb [] (some j) bs/\Below w0.heap.size w0 wr)
def FS (w0:World)(xb:Nat)(j:JV)(e:Ending)(w':World):Prop:= ∃a b c d:Int,e =.returned (.tuple #[.agg #[.int .i64 a,.int .i64 b,.int .i64 c,.int .i64 d],.nilIface])/\Below w0.heap.size w0 w'/\∃bs,dT w0.heap.size w' xb [] (some j) bs
theorem xl (hE:sA w0 aU aE)(hM:l9 w0)(g6:Below w0.heap.size w0 w)(hb:Bs w v xs)(h0:0<xs.length)(hl:xs.length<=1000000000)(g5:dT w0.heap.size w xb [] none [])(hp:jH xs=some j) :
  Calls Tryz.prog 122 #[v,dt,.func (.func 123) #[.pointer (some ⟨xb,0,none⟩)] #[]] w (FS w0 xb j):=by
 have k0:∀ (fn:Fn) (first cap:Array Value) (w:World),(Instr.makeFunc fn first cap).run Tryz.prog w =.ok (.func fn first cap) w:=fun _ _ _ _=>rfl
 obtain⟨hm,A,cap,rfl,i3,d6⟩:=id hb;have HE:=H8 hE;have HM:=H8 hM;have b2:=H8 g6;have Hb:=H8 hb;have H0:=H8 h0;have Hl:=H8 hl;have i9:=H8 g5;have Hp:=H8 hp;have f7:=H8 (fun w=>uG w);have g3:=H8 (fun w=>pZ (m:=1) (x:=(xs.length:Int)) (by omega) (by omega) w);unfold dt at *;have hlen:(xs.length:Int)<=1000000000:=by omega
 clear hE hM g6 hb h0 hl g5 hp d6;have h5:Below w.heap.size w (((w.alloc (.cells #[.int .i64 1073741824,.int .i64 1073741824,.int .i64 1073741824,.int .i64 1073741824,.int .i64 1073741824,.int .i64 4611686018427387903] 162)).alloc (.cells #[.int .i64 0,.int .i64 0,.int .i64 0,.int .i64 0] 158)).alloc (.cells #[.nilIface] 30)):=ak (ak (ac _ _) (ac _ _)) (ac _ _);have g0:(((w.alloc (.cells #[.int .i64 1073741824,.int .i64 1073741824,.int .i64 1073741824,.int .i64 1073741824,.int .i64 1073741824,.int .i64 4611686018427387903] 162)).alloc (.cells #[.int .i64 0,.int .i64 0,.int .i64 0,.int .i64 0] 158)).alloc (.cells #[.nilIface] 30)).heap[w.heap.size]?=some (.cells #[.int .i64 1073741824,.int .i64 1073741824,.int .i64 1073741824,.int .i64 1073741824,.int .i64 1073741824,.int .i64 4611686018427387903] 162 (0,0)):=(Below.heap_alloc _ _ _ (by simp only[World.size_alloc];omega)).trans ((Below.heap_alloc _ _ _ (by simp)).trans (Zf w _));have g1:(((w.alloc (.cells #[.int .i64 1073741824,.int .i64 1073741824,.int .i64 1073741824,.int .i64 1073741824,.int .i64 1073741824,.int .i64 4611686018427387903] 162)).alloc (.cells #[.int .i64 0,.int .i64 0,.int .i64 0,.int .i64 0] 158)).alloc (.cells #[.nilIface] 30)).heap[w.heap.size+1]?=some (.cells #[.int .i64 0,.int .i64 0,.int .i64 0,.int .i64 0] 158 (0,0)):=by
  have:=Zf (w.alloc (.cells #[.int .i64 1073741824,.int .i64 1073741824,.int .i64 1073741824,.int .i64 1073741824,.int .i64 1073741824,.int .i64 4611686018427387903] 162)) (.cells #[.int .i64 0,.int .i64 0,.int .i64 0,.int .i64 0] 158);rw[World.size_alloc] at this;exact(Below.heap_alloc _ _ _ (by simp)).trans this
 have g2:(((w.alloc (.cells #[.int .i64 1073741824,.int .i64 1073741824,.int .i64 1073741824,.int .i64 1073741824,.int .i64 1073741824,.int .i64 4611686018427387903] 162)).alloc (.cells #[.int .i64 0,.int .i64 0,.int .i64 0,.int .i64 0] 158)).alloc (.cells #[.nilIface] 30)).heap[w.heap.size+1+1]?=some (.cells #[.nilIface] 30 (0,0)):=by
  have:=Zf ((w.alloc (.cells #[.int .i64 1073741824,.int .i64 1073741824,.int .i64 1073741824,.int .i64 1073741824,.int .i64 1073741824,.int .i64 4611686018427387903] 162)).alloc (.cells #[.int .i64 0,.int .i64 0,.int .i64 0,.int .i64 0] 158)) (.cells #[.nilIface] 30)
  rwa[World.size_alloc,World.size_alloc] at this
 have h9:=H8 h5;have G0:=H8 g0;have G1:=H8 g1;have G2:=H8 g2;clear h5 g0 g1 g2;go_enter_defers Tryz.func122,Tryz.ntmps122;go_wp2_with fail;generalize ((w.alloc (.cells #[.int .i64 1073741824,.int .i64 1073741824,.int .i64 1073741824,.int .i64 1073741824,.int .i64 1073741824,.int .i64 4611686018427387903] 162)).alloc (.cells #[.int .i64 0,.int .i64 0,.int .i64 0,.int .i64 0] 158)).alloc (.cells #[.nilIface] 30)=w1 at *;refine(f7.out _).mono ?_;rintro e w2 ⟨rfl,f0⟩;have l0:=ai G0.out f0;have c0:=aa l0 (j:=0) (u:=.int .i64 1073741824) rfl;have c1:=aa l0 (j:=1) (u:=.int .i64 1073741824) rfl;have c2:=aa l0 (j:=2) (u:=.int .i64 1073741824) rfl;have c3:=aa l0 (j:=3) (u:=.int .i64 1073741824) rfl;have c4:=aa l0 (j:=4) (u:=.int .i64 1073741824) rfl;have c5:=aa l0 (j:=5) (u:=.int .i64 4611686018427387903) rfl;have e2:=H8 f0;clear l0 f0;go_wp2_with fail;refine(g3.out _).mono ?_;rintro e w3 ⟨rfl,b5⟩;have i2:=H8 (ak (ak h9.out e2.out) b5);have L0:=H8 (ai (ai G0.out e2.out) b5);have L1:=H8 (ai (ai G1.out e2.out) b5);have L2:=H8 (ai (ai G2.out e2.out) b5);clear c0 c1 c2 c3 c4 c5 b5;go_wp2_with fail;obtain⟨wr,e5⟩:∃wr,w3.drew=wr:=⟨_,rfl⟩;have b4:Below w3.heap.size w3 wr:=by rw[<-e5];exact(Ze _ _).drew
 have b1:=H8 (ak i2.out b4);have h7:=ai L0.out b4;have e1:∀ (w':World),w'.heap[w.heap.size]?=some (.cells #[.int .i64 1073741824,.int .i64 1073741824,.int .i64 1073741824,.int .i64 1073741824,.int .i64 1073741824,.int .i64 4611686018427387903] 162 (0,0))->w'.cell? ⟨w.heap.size,0,none⟩=some (.int .i64 1073741824)/\w'.cell? ⟨w.heap.size,1,none⟩=some (.int .i64 1073741824)/\w'.cell? ⟨w.heap.size,2,none⟩=some (.int .i64 1073741824)/\w'.cell? ⟨w.heap.size,3,none⟩=some (.int .i64 1073741824)/\w'.cell? ⟨w.heap.size,4,none⟩=some (.int .i64 1073741824)/\w'.cell? ⟨w.heap.size,5,none⟩=some (.int .i64 4611686018427387903):=fun _ h=>
  ⟨aa h (j:=0) rfl,aa h (j:=1) rfl,aa h (j:=2) rfl,aa h (j:=3) rfl,aa h (j:=4) rfl,aa h (j:=5) rfl⟩
 have a3:=H8 e1;have e3:=H8 h7;have d9:=H8 (sO (w:=wr) (Hb.out.below b1.out) H0.out (by have:=Hl.out;omega));have R1:=H8 (ai L1.out b4);have R2:=H8 (ai L2.out b4);clear b4 h7 e1;refine bp (fun w2=>w2.cell? ⟨w.heap.size,0,none⟩=some (.int .i64 1073741824)/\w2.cell? ⟨w.heap.size,1,none⟩=some (.int .i64 1073741824)/\w2.cell? ⟨w.heap.size,2,none⟩=some (.int .i64 1073741824)/\w2.cell? ⟨w.heap.size,3,none⟩=some (.int .i64 1073741824)/\w2.cell? ⟨w.heap.size,4,none⟩=some (.int .i64 1073741824)/\w2.cell? ⟨w.heap.size,5,none⟩=some (.int .i64 4611686018427387903)) ((by rw[e5];exact a3.out _ e3.out)) fun a1=>?_
 refine tH 0 a1 ?_;refine tH 2 a1 ?_;refine tH 3 a1 ?_;refine tH 4 a1 ?_;refine tH 5 a1 ?_;refine tH 6 a1 ?_
 try simp only[Act.put,jP,jQ,jR]
 refine rH 1 fun K hK=>?_
 go_simp;(try rw[e5]);refine Za d9 ?_;rintro e w5 ⟨lb,u,rfl,f9,f8,f5,c6⟩;have b3:=H8 f8;have i0:=H8 f9;have i5:=H8 f5;have f1:=H8 c6;clear f8 f9 f5 c6;go_wp2_with fail;refine hK.out _ _ (a3.out _ (ai e3.out b3.out)) (fun a1=>?_);clear hK K
 try simp only[Act.put,jP,jQ,jR]
 refine tH 7 a1 ?_
 try simp only[Act.put,jP,jQ,jR]
 refine rH 8 fun K hK=>?_
 go_simp;refine hK.out _ _ (a3.out _ (ai (ai e3.out b3.out) (ac _ _))) (fun a1=>?_);clear hK K
 try simp only[Act.put,jP,jQ,jR]
 refine tH 9 a1 ?_
 try simp only[Act.put,jP,jQ,jR]
 refine wpAnyH_done (by kernel_rfl) (NoPanic.normal ?_) _;clear a1 e5;have e4:Below w0.heap.size w0 w5:=(b2.out.trans (b1.out.mono b2.out.size)).trans (b3.out.mono (Zc b2.out.size b1.out.size));have a0:=ac w5 (.cells (cA lb xb xs.length 0 0 0 (.slice none 0 0) (.slice none 0 0) 0 false) 247);have a9:=Zf w5 (.cells (cA lb xb xs.length 0 0 0 (.slice none 0 0) (.slice none 0 0) 0 false) 247);have f4:fm w0.heap.size (w5.alloc (.cells (cA lb xb xs.length 0 0 0 (.slice none 0 0) (.slice none 0 0) 0 false) 247)) w5.heap.size lb xb u xs [] 0 0 0 false xs.length 0 0 (.slice none 0 0) (.slice none 0 0) []:=
  ⟨a9,e4.size,i0.out.below a0,Zc (Zc b2.out.size b1.out.size) i5.out,ag (bB f1.out (Zc b2.out.size b1.out.size)) a0 (Zb _),⟨rfl,.inl ⟨rfl,rfl⟩⟩,⟨rfl,.inl ⟨rfl,rfl⟩⟩,bY.nil _,List.nodup_nil,Zj _⟩
 have b8:=(i9.out.below (ak b1.out b3.out)).below a0;have Hrel:=H8 (show zk w0 w5.heap.size lb xb u xs j (xs.length+1) (w5.alloc (.cells (cA lb xb xs.length 0 0 0 (.slice none 0 0) (.slice none 0 0) 0 false) 247)) from
  .inl ⟨xs.length+1,⟨[],0,none⟩,0,0,rfl,Hp.out,⟨f4.s, [],b8⟩,cf.ok.start ey,Zb _,Zb _,Zj _,e4.trans (a0.mono e4.size)⟩)
 have Q1:=H8 (ai (ai R1.out b3.out) a0);have Q2:=H8 (ai (ai R2.out b3.out) a0);unfold cA at Hrel Q1 Q2;clear f4 b8 a9 a0 e4 d9 e3 a3 R1 R2 L0 L1 L2 G0 G1 G2 f7 g3;go_wp2_with fail
 go_loopg [] (xs.length+1) (fun m wr=>zk w0 w5.heap.size lb xb u xs j m wr/\wr.heap[w.heap.size+1]?=some (.cells #[.int .i64 0,.int .i64 0,.int .i64 0,.int .i64 0] 158 (0,0))/\wr.heap[w.heap.size+1+1]?=some (.cells #[.nilIface] 30 (0,0)))
 case atStart=>exact⟨Hrel.out,Q1.out,Q2.out⟩
 case round=>
  obtain⟨hrel,q1,q2⟩:=hrel;have HQ1:=H8 q1;have HQ2:=H8 q2;clear Hrel Q1 Q2 q1 q2;rcases hrel with ⟨f,c,k,nd,hm,hrun,b0,d5,h8,f6,hk,a4⟩|⟨i8,nd,bs,hR,e0,a4⟩
  ·obtain⟨by9,dp9,ex9,ov9,nv9,maps9,a2⟩:=id b0.1;have c15:=aa a2.row (j:=15) (u:=.bool false) rfl;have k1:=H8 b0;have Hm:=H8 hm;have Hbl:=H8 a4
   cases f with
   |zero=>cases hrun
   |succ f=>
    unfold kr at hrun
    cases hdw:(xs.drop k).dropWhile bR with
    |nil=>
     rw[hdw] at hrun;simp only at hrun
     split at hrun
     case isFalse=>cases hrun
     rename_i hw7
     obtain⟨frs,want,done⟩:=c;simp only at hw7 hrun;subst hw7 hrun;have i4:frs = []:=d5.want.1;subst i4;obtain⟨bs9,h6⟩:=b0.2;have f3:=H8 (zo (HE.out.below a4) b0.1 h6 Hl.out a4.size hdw);clear b0 d5 h8 f6 hk a4 hm a2 h6 hdw;go_wp2_with fail;refine Za f3 ?_;rintro e w7 ⟨rfl,h1,h2,h3⟩;have R:=H8 (And.intro h1 (And.intro h2 h3));clear h1 h2 h3 c15;go_wp2_with fail;go_roundg 0
     case measure=>have:=Hm.out;omega
     case rel=>exact⟨.inr ⟨rfl,nd,bs9,R.out.2.1,R.out.2.2,Hbl.out.trans R.out.1.b⟩,R.out.1.k.2 _ _ _ _ HQ1.out (by simp only[TA,TB,TV,ka];decide),R.out.1.k.2 _ _ _ _ HQ2.out (by simp only[TA,TB,TV,ka];decide)⟩
    |cons y ys=>
     rw[hdw] at hrun;simp only at hrun
     cases hlx:cm (y::ys) with
     |none=>rw[hlx] at hrun;cases hrun
     |some tn=>
      obtain⟨t,n⟩:=tn;rw[hlx] at hrun;simp only at hrun
      cases hsb:cG c t with
      |none=>rw[hsb] at hrun;cases hrun
      |some c'=>
       rw[hsb] at hrun;simp only at hrun;have g4:=kS hlx;have hin:(y::ys).length<=xs.length - k:=by
        have h1:=da (xs.drop k);rw[hdw,List.length_drop] at h1;exact h1
       rw[List.length_cons] at g4 hin;have a5:xs.drop (xs.length - (ys.length+1))=y::ys:=by
        have h1:=ox (xs.drop k);rw[hdw,List.drop_drop] at h1;have h2:=congrArg List.length h1;rw[List.length_drop,List.length_cons] at h2;rw[<-h1]
        congr 1
        omega
       have f3:=H8 (BI (⟨HE.out,HM.out,b0,d5,by have:=Hl.out;omega,by have:=Hl.out;omega,Hl.out,a4⟩:fF w0 w5.heap.size lb xb u xs c k nd wr aU aE) hdw hlx hsb);have Hrun:=H8 (show kr f c' (xs.drop (xs.length - (ys.length+1)+n))=some j by rw[<-List.drop_drop,a5];exact hrun);have Hok:=H8 (Do d5 (C2 (by rw[List.length_cons];have:=Hl.out;omega) hlx) hsb);have Hcn:=H8 (show dd c'.frs<=xs.length - (ys.length+1)+n/\nd+1<=xs.length - (ys.length+1)+n/\xs.length - (ys.length+1)+n<=xs.length/\k<xs.length - (ys.length+1)+n by have:=BK hsb;omega);clear b0 d5 h8 f6 hk a4 hm a2 hdw hlx hsb hrun g4 hin a5;go_wp2_with fail;refine Za f3 ?_;rintro e w7 ⟨nd',g8,rfl,h1,h2⟩;have R:=H8 (And.intro g8 (And.intro h1 h2));clear g8 h1 h2 c15;go_wp2_with fail;go_roundg (xs.length - (xs.length - (ys.length+1)+n)+1)
       case measure=>have:=Hm.out;have:=Hcn.out;omega
       case rel=>exact⟨.inl ⟨f,c',_,nd',rfl,Hrun.out,R.out.2.2,Hok.out,Hcn.out.1,Zc R.out.1 Hcn.out.2.1,Hcn.out.2.2.1,Hbl.out.trans R.out.2.1.b⟩,R.out.2.1.k.2 _ _ _ _ HQ1.out (by simp only[TA,TB,TV,ka];decide),R.out.2.1.k.2 _ _ _ _ HQ2.out (by simp only[TA,TB,TV,ka];decide)⟩
  ·obtain⟨by9,dp9,ex9,ov9,nv9,maps9,a2⟩:=id hR;have c15:=aa a2.row (j:=15) (u:=.bool true) rfl;have c7:=aa a2.row (j:=7) (u:=.int .i64 by9) rfl;have c8:=aa a2.row (j:=8) (u:=.int .i64 dp9) rfl;have c9:=aa a2.row (j:=9) (u:=.int .i64 nd) rfl;have c10:=aa a2.row (j:=10) (u:=.int .i64 ex9) rfl;have j0:=H8 e0;have Hbl:=H8 a4;have r0:=aa HQ1.out (j:=0) rfl;have r1:=aa HQ1.out (j:=1) rfl;have r2:=aa HQ1.out (j:=2) rfl;have r3:=aa HQ1.out (j:=3) rfl;have r4:=aa HQ2.out (j:=0) rfl;have z0:=aj HQ1.out 0;have z1:=aj HQ1.out 1;have z2:=aj HQ1.out 2;have z3:=aj HQ1.out 3;have z4:=aj HQ2.out 0;clear i8 hR e0 a4 a2;go_wp2_with fail;obtain⟨W,hW⟩:∃W,((((wr.setCell ⟨w.heap.size+1,0,none⟩ (.int .i64 by9)).setCell ⟨w.heap.size+1,1,none⟩ (.int .i64 dp9)).setCell ⟨w.heap.size+1,2,none⟩ (.int .i64 nd)).setCell ⟨w.heap.size+1,3,none⟩ (.int .i64 ex9)).setCell ⟨w.heap.size+1+1,0,none⟩ .nilIface=W:=⟨_,rfl⟩;rw[hW];obtain⟨g1,g2,f2⟩:=zy (by omega) HQ1.out HQ2.out _ _ _ _ hW;have d0:=aa g1 (j:=0) (u:=.int .i64 by9) rfl;have d1:=aa g1 (j:=1) (u:=.int .i64 dp9) rfl;have d2:=aa g1 (j:=2) (u:=.int .i64 nd) rfl;have d3:=aa g1 (j:=3) (u:=.int .i64 ex9) rfl;have d4:=aa g2 (j:=0) (u:=.nilIface) rfl;have h4:Kp (fun e=>e=158\/e=30) wr W:=Kp.of_chg f2 fun g hg _=>by
    rcases hg with rfl|rfl
    ·exact⟨_,_,_,HQ1.out,.inl rfl⟩
    ·exact⟨_,_,_,HQ2.out,.inr rfl⟩
   have g7:=j0.out.kp h4 fun e he=>by rcases he with (rfl|rfl|rfl|rfl)|rfl|rfl <;> decide
   have b9:Below w0.heap.size w0 W:=Hbl.out.trans (f2.below Hbl.out.size fun i hi=>by have:=b2.out.size;rcases hi with rfl|rfl <;> omega);have e6:FS w0 xb j (.returned (.tuple #[.agg #[.int .i64 by9,.int .i64 dp9,.int .i64 nd,.int .i64 ex9],.nilIface])) W:=⟨_,_,_,_,rfl,b9,bs,g7⟩;clear hW f2 h4 g7 b9 r0 r1 r2 r3 r4 z0 z1 z2 z3 z4 c7 c8 c9 c10 c15;refine leaves_cons (f:=147) (args:= #[.pointer (some ⟨w.heap.size+1,0,none⟩),.pointer (some ⟨w.heap.size+1+1,0,none⟩)]) (by simp) (by simp[go_sem]) ?_;refine(wI _ _ _).mono ?_;rintro e u' w'' ⟨rfl,rfl,rfl⟩;simp[Leaves,settle,results,Tryz.results122,go_sem,d0,d1,d2,d3,d4];exact e6
def Gd (w:World)(j:JV)(e:Ending)(w':World):Prop:= ∃ (u:Value) (a b c d:Int),e =.returned (.tuple #[u,.agg #[.int .i64 a,.int .i64 b,.int .i64 c,.int .i64 d],.nilIface])/\Below w.heap.size w w'/\VW (w.heap.size<= ·) w' u j
theorem wX (hE:sA w aU aE)(hM:l9 w)(hb:Bs w v xs)(h0:0<xs.length)(hl:xs.length<=1000000000)(hp:jH xs=some j) :
  Calls Tryz.prog 84 #[v,dt] w (Gd w j):=by
 have f3:∀ (fn:Fn) (first cap:Array Value) (w:World),(Instr.makeFunc fn first cap).run Tryz.prog w =.ok (.func fn first cap) w:=fun _ _ _ _=>rfl
 have b0:Below w.heap.size w ((w.alloc (.cells ud 162)).alloc (.cells #[.int .i64 0,.int .i64 0,.int .i64 0,.int .i64 0] 158)):=ak (ac _ _) (ac _ _);have g0:((w.alloc (.cells ud 162)).alloc (.cells #[.int .i64 0,.int .i64 0,.int .i64 0,.int .i64 0] 158)).heap[w.heap.size]?=some (.cells ud 162 (0,0)):=(Below.heap_alloc _ _ _ (by simp)).trans (Zf w _);have g1:((w.alloc (.cells ud 162)).alloc (.cells #[.int .i64 0,.int .i64 0,.int .i64 0,.int .i64 0] 158)).heap[w.heap.size+1]?=some (.cells #[.int .i64 0,.int .i64 0,.int .i64 0,.int .i64 0] 158 (0,0)):=by
  have:=Zf (w.alloc (.cells ud 162)) (.cells #[.int .i64 0,.int .i64 0,.int .i64 0,.int .i64 0] 158)
  rwa[World.size_alloc] at this
 have hz:((w.alloc (.cells ud 162)).alloc (.cells #[.int .i64 0,.int .i64 0,.int .i64 0,.int .i64 0] 158)).heap.size=w.heap.size+1+1:=by simp
 unfold ud at b0 g0 g1 hz;have H2:=H8 b0;have G0:=H8 g0;have G1:=H8 g1;have Hz:=H8 hz;have HE:=H8 (hE.below b0);have HM:=H8 (hM.below b0);have Hb:=H8 (hb.below b0);have H0:=H8 h0;have Hl:=H8 hl;have Hp:=H8 hp;have d9:=hE;unfold dt;clear b0 g0 g1 hz hE hM hb h0 hl hp d9;go_enter Tryz.func84,Tryz.ntmps84;go_wp2_with fail;generalize ((w.alloc (.cells #[.int .i64 1073741824,.int .i64 1073741824,.int .i64 1073741824,.int .i64 1073741824,.int .i64 1073741824,.int .i64 4611686018427387903] 162)).alloc (.cells #[.int .i64 0,.int .i64 0,.int .i64 0,.int .i64 0] 158))=w1 at *;rw[<-Hz.out];have a5:=ac w1 (.cells #[.slice none 0 0,.nilIface] 212);have a3:=Zf w1 (.cells #[.slice none 0 0,.nilIface] 212);have b2:dT w1.heap.size (w1.alloc (.cells #[.slice none 0 0,.nilIface] 212)) w1.heap.size [] none []:=⟨.slice none 0 0,.nilIface, [],a3,Zb _,⟨rfl,.inl ⟨rfl,rfl⟩⟩,bY.nil _,rfl,List.nodup_nil,rfl⟩;have c1:=H8 (xl HE.out HM.out a5 (Hb.out.below a5) H0.out Hl.out b2 Hp.out);unfold dt at c1;clear a5 a3 b2;refine Za c1 ?_;rintro e w3 ⟨a,b,c,d,rfl,b8,bs,pv,dv,us,b9⟩;have c0:VW (Pb w1.heap.size bs) w3 dv j:=b9.done;obtain⟨tv,xv,e4⟩:=c0.iface;subst e4;have a0:=ac w3 (.cells #[.int .i64 a,.int .i64 b,.int .i64 c,.int .i64 d] 158);obtain⟨w4,c4⟩:∃w4,w3.alloc (.cells #[.int .i64 a,.int .i64 b,.int .i64 c,.int .i64 d] 158)=w4:=⟨_,rfl⟩;have c5:=Zf w3 (.cells #[.int .i64 a,.int .i64 b,.int .i64 c,.int .i64 d] 158);rw[c4] at a0 c5;have f2:=H8 (c0.later a0);have d6:=H8 (ai b9.row a0);have e6:=H8 c5;have c8:w3.heap[w.heap.size+1]?=some (.cells #[.int .i64 0,.int .i64 0,.int .i64 0,.int .i64 0] 158 (0,0)):=(b8.block _ (ah G1.out)).trans G1.out;have e2:=H8 (ai c8 a0);have c9:=H8 (show Below w1.heap.size w1 w4 from b8.trans (a0.mono b8.size));have f0:=H8 c4;have hlt:w1.heap.size<w3.heap.size:=ah b9.row;have e0:=H8 hlt;clear b8 b9 c0 a0 c5 c8 c4 hlt c1;go_wp2_with fail
 try rw[f0.out]
 obtain⟨wr,c3⟩:∃wr,w4.drew=wr:=⟨_,rfl⟩;have a9:Below w4.heap.size w4 wr:=by rw[<-c3];exact(Ze _ _).drew
 have e3:=H8 (f2.out.later a9);have hX:=ai d6.out a9;have hN:=ai e6.out a9;have hG:=ai e2.out a9;have e5:=H8 hX;have b5:=H8 hN;have d5:=H8 hG;have c7:=H8 (c9.out.trans (a9.mono c9.out.size));have z0:=aj hG 0;have z1:=aj hG 1;have z2:=aj hG 2;have z3:=aj hG 3;have y0:=aa hG (j:=0) (u:=.int .i64 0) rfl;have y1:=aa hG (j:=1) (u:=.int .i64 0) rfl;have y2:=aa hG (j:=2) (u:=.int .i64 0) rfl;have y3:=aa hG (j:=3) (u:=.int .i64 0) rfl;have b3:w.heap.size+1≠w1.heap.size:=by have:=Hz.out;omega
 have b1:w.heap.size+1≠w3.heap.size:=by have:=Hz.out;have:=e0.out;omega
 have c6:=H8 b3;have a1:=H8 b1;clear a9 hX hN hG b3 b1;have hS:wr.cell? ⟨w1.heap.size,1,none⟩=some (.iface tv xv)/\wr.cell? ⟨w3.heap.size,0,none⟩=some (.int .i64 a)/\wr.cell? ⟨w3.heap.size,1,none⟩=some (.int .i64 b)/\wr.cell? ⟨w3.heap.size,2,none⟩=some (.int .i64 c)/\wr.cell? ⟨w3.heap.size,3,none⟩=some (.int .i64 d):=
  ⟨aa e5.out (j:=1) rfl,aa b5.out (j:=0) rfl,aa b5.out (j:=1) rfl,aa b5.out (j:=2) rfl,aa b5.out (j:=3) rfl⟩
 have HS:=H8 hS;clear hS;have b4:∀ (W:World) (i:Nat) (x:Value),(W.cell? ⟨w1.heap.size,1,none⟩=some (.iface tv xv)/\W.cell? ⟨w3.heap.size,0,none⟩=some (.int .i64 a)/\W.cell? ⟨w3.heap.size,1,none⟩=some (.int .i64 b)/\W.cell? ⟨w3.heap.size,2,none⟩=some (.int .i64 c)/\W.cell? ⟨w3.heap.size,3,none⟩=some (.int .i64 d))->
   ((W.setCell ⟨w.heap.size+1,i,none⟩ x).cell? ⟨w1.heap.size,1,none⟩=some (.iface tv xv)/\(W.setCell ⟨w.heap.size+1,i,none⟩ x).cell? ⟨w3.heap.size,0,none⟩=some (.int .i64 a)/\(W.setCell ⟨w.heap.size+1,i,none⟩ x).cell? ⟨w3.heap.size,1,none⟩=some (.int .i64 b)/\(W.setCell ⟨w.heap.size+1,i,none⟩ x).cell? ⟨w3.heap.size,2,none⟩=some (.int .i64 c)/\(W.setCell ⟨w.heap.size+1,i,none⟩ x).cell? ⟨w3.heap.size,3,none⟩=some (.int .i64 d)):=fun W i x ⟨h1,h2,h3,h4,h5⟩=>
  ⟨(World.cell?_setCell_far _ _ _ _ c6.out).trans h1,(World.cell?_setCell_far _ _ _ _ a1.out).trans h2,(World.cell?_setCell_far _ _ _ _ a1.out).trans h3,(World.cell?_setCell_far _ _ _ _ a1.out).trans h4,(World.cell?_setCell_far _ _ _ _ a1.out).trans h5⟩
 have a2:=H8 b4;clear b4;refine bp (fun w2=>w2.cell? ⟨w1.heap.size,1,none⟩=some (.iface tv xv)/\w2.cell? ⟨w3.heap.size,0,none⟩=some (.int .i64 a)/\w2.cell? ⟨w3.heap.size,1,none⟩=some (.int .i64 b)/\w2.cell? ⟨w3.heap.size,2,none⟩=some (.int .i64 c)/\w2.cell? ⟨w3.heap.size,3,none⟩=some (.int .i64 d)) ((by rw[c3];exact HS.out)) fun a4=>?_
 refine tH 0 a4 ?_;refine tH 1 a4 ?_;refine tH 2 a4 ?_;refine tH 3 a4 ?_
 try simp only[Act.put,jP,jQ,jR]
 refine rH 4 fun K hK=>?_
 (try rw[c3] at a4 ⊢);go_simp;refine hK.out _ _ (a2.out _ _ _ (a2.out _ _ _ (a2.out _ _ _ (a2.out _ _ _ HS.out)))) (fun a4=>?_);clear hK K
 try simp only[Act.put,jP,jQ,jR]
 refine tH 5 a4 ?_
 try simp only[Act.put,jP,jQ,jR]
 refine wpAnyH_done (by kernel_rfl) (NoPanic.normal ?_) _;clear y0 y1 y2 y3 z0 z1 z2 z3
 try clear a4
 go_wp2_with fail;obtain⟨W,hW⟩:∃W,(((wr.setCell ⟨w.heap.size+1,0,none⟩ (.int .i64 a)).setCell ⟨w.heap.size+1,1,none⟩ (.int .i64 b)).setCell ⟨w.heap.size+1,2,none⟩ (.int .i64 c)).setCell ⟨w.heap.size+1,3,none⟩ (.int .i64 d)=W:=⟨_,rfl⟩;rw[hW];have g:=au (au (au (au d5.out 0 (.int .i64 a)) 1 (.int .i64 b)) 2 (.int .i64 c)) 3 (.int .i64 d);rw[hW] at g;have d4:aM (fun k=>k=w.heap.size+1) wr W:=by
  rw[<-hW];exact((((aM.set _ 0 _).trans (aM.set _ 1 _) fun i h=>.inl h).trans (aM.set _ 2 _) fun i h=>.inl h).trans (aM.set _ 3 _) fun i h=>.inl h)
 have d0:=aa g (j:=0) (u:=.int .i64 a) rfl;have d1:=aa g (j:=1) (u:=.int .i64 b) rfl;have d2:=aa g (j:=2) (u:=.int .i64 c) rfl;have d3:=aa g (j:=3) (u:=.int .i64 d) rfl;have e1:Kp (fun e=>e=158) wr W:=Kp.of_chg d4 fun g hg _=>by subst hg;exact⟨_,_,_,d5.out,rfl⟩
 have f1:=(e3.out.keeps e1.keeps (fun e he=>by rcases he with rfl|rfl|rfl|rfl <;> decide)).imp (Q:=(w.heap.size<= ·)) (fun g hg _=>Zc H2.out.size hg.1);have c2:Below w.heap.size w W:=(H2.out.trans (c7.out.mono H2.out.size)).trans (d4.below (by have:=H2.out.size;have:=c7.out.size;omega) fun i hi=>by rw[hi];omega);refine Zh (v:=.tuple #[.iface tv xv,.agg #[.int .i64 a,.int .i64 b,.int .i64 c,.int .i64 d],.nilIface]) ?_ rfl ⟨_,_,_,_,_,rfl,c2,f1⟩;simp[results,Tryz.results84,go_sem,d0,d1,d2,d3]
theorem zi (w:World):Calls Tryz.prog 85 #[] w fun e w'=>e =.returned dt/\Below w.heap.size w w':=by
 unfold dt;go_enter Tryz.func85,Tryz.ntmps85;go_wp2_with fail;have hn:=Zf w (.cells #[.int .i64 1073741824,.int .i64 1073741824,.int .i64 1073741824,.int .i64 1073741824,.int .i64 1073741824,.int .i64 4611686018427387903] 162);have n0:=aa hn (j:=0) rfl;have n1:=aa hn (j:=1) rfl;have n2:=aa hn (j:=2) rfl;have n3:=aa hn (j:=3) rfl;have n4:=aa hn (j:=4) rfl;have n5:=aa hn (j:=5) rfl;have Hb:=ac w (.cells #[.int .i64 1073741824,.int .i64 1073741824,.int .i64 1073741824,.int .i64 1073741824,.int .i64 1073741824,.int .i64 4611686018427387903] 162);refine Zh (v:=.agg #[.int .i64 1073741824,.int .i64 1073741824,.int .i64 1073741824,.int .i64 1073741824,.int .i64 1073741824,.int .i64 4611686018427387903]) ?_ rfl ⟨rfl,Hb⟩;simp[results,Tryz.results85,go_sem,n0,n1,n2,n3,n4,n5]
def Fl (w:World)(j:JV)(e:Ending)(w':World):Prop:= ∃u,e =.returned (.tuple #[u,.nilIface])/\Below w.heap.size w w'/\VW (w.heap.size<= ·) w' u j
theorem xF (hE:sA w aU aE)(hM:l9 w)(hb:Bs w v xs)(h0:0<xs.length)(hl:xs.length<=1000000000)(hp:jH xs=some j) :
  Calls Tryz.prog 52 #[v] w (Fl w j):=by
 have Hf:=H8 (zi w);have H:=H8 (fun (w1:World) (h:Below w.heap.size w w1)=>wX (hE.below h) (hM.below h) (hb.below h) h0 hl hp);clear hE hM hb h0 hl hp;go_enter Tryz.func52,Tryz.ntmps52;go_wp2_with fail;refine Za Hf ?_;rintro e w1 ⟨rfl,a1⟩;have a2:=H8 a1;have Hp:=H8 (H.out w1 a1);clear a1;go_wp2_with fail;refine Za Hp ?_;rintro e w2 ⟨u,a,b,c,d,rfl,a3,hv⟩;obtain⟨tv,xv,rfl⟩:=hv.iface;have a0:=ac w2 (.cells #[.int .i64 a,.int .i64 b,.int .i64 c,.int .i64 d] 158);have HV:=H8 ((hv.later a0).imp (Q:=(w.heap.size<= ·)) fun g hg _=>Zc a2.out.size hg);have HB:=H8 (ak (ak a2.out a3) a0);clear a3 hv a0 Hp;go_wp2_with fail;go_ret2;exact⟨_,rfl,HB.out,HV.out⟩
open Go.Shelf
theorem lI (h:Bs w v xs)(h':Bs w v' ys):Calls Tryz.prog 28 #[v,v'] w fun e w'=>e =.returned (.bool (decide (xs=ys)))/\w=w':=by
 have c1:=aH h;have c2:=aH h';have He:Hid (((⟨xs.toArray⟩:ByteArray).toList== (⟨ys.toArray⟩:ByteArray).toList)=decide (xs=ys)):=H8 (by
  rw[kA,kA,Bool.eq_iff_iff];simp)
 clear h h';generalize (⟨xs.toArray⟩:ByteArray)=a at *;generalize (⟨ys.toArray⟩:ByteArray)=b at *;go_enter Tryz.func28,Tryz.ntmps28;go_wp2_with fail;go_ret;rw[<-He.out];exact⟨rfl,rfl⟩
theorem mx:Calls Tryz.prog 34 #[] w fun e w'=>e =.returned (.pointer (some ⟨w.heap.size,0,none⟩))/\w'.heap[w.heap.size]?=some (.cells #[.slice none 0 0,.nilIface] 130 (0,0))/\Below w.heap.size w w':=by
 have h0:=H8 (Zf w (.cells #[.slice none 0 0,.nilIface] 130));have hb:=H8 (ac w (.cells #[.slice none 0 0,.nilIface] 130));go_enter Tryz.func34,Tryz.ntmps34;go_wp2_with fail;go_ret;exact⟨rfl,h0.out,hb.out⟩
theorem lh {d:Value}(h:w.heap[g]?=some (.cells #[.slice A 0 c,d] 130 (0,0))):Calls Tryz.prog 68 #[.pointer (some ⟨g,0,none⟩)] w fun e w'=>e =.returned .nilIface/\w=w':=by
 have c0:=aa h (j:=0) (u:=.slice A 0 c) rfl;clear h;go_enter Tryz.func68,Tryz.ntmps68;go_wp2_with fail;go_ret;exact⟨rfl,rfl⟩
theorem AS {d:Value}(h:w.heap[g]?=some (.cells #[.slice (some ⟨gr,0,none⟩) (n+1) c,d] 130 (0,0)))(hn:n<1000000000)(hu:w.cell? ⟨gr,n,none⟩=some u):Calls Tryz.prog 68 #[.pointer (some ⟨g,0,none⟩)] w fun e w'=>e =.returned u/\∃m,w'=w.drewN m:=by
 have c0:=aa h (j:=0) (u:=.slice (some ⟨gr,0,none⟩) (n+1) c) rfl;have s1:IntKind.i64.wrap (n:Int)= (n:Int):=IntWalk.i64_in _ (by omega);have s2:(n:Int)< (n:Int)+1:=by omega
 have s3:((n:Int)+1==0)=false:=by simp only[beq_eq_false_iff_ne];omega
 clear h;go_enter Tryz.func68,Tryz.ntmps68;go_wp2_with fail;go_quiet (fail);go_wp2_with fail;go_ret;exact⟨rfl,_,rfl⟩
theorem nS:Calls Tryz.prog 299 #[x] w fun e w'=>e =.returned (.bool true)/\w=w':=by
 go_enter Tryz.func299,Tryz.ntmps299;go_wp2_with fail;go_ret;exact⟨rfl,rfl⟩
theorem lF {m nm:Value}{b:Bool}(h:w.heap[g]?=some (.cells #[m,nm,.bool b] 137 (0,0))):Calls Tryz.prog 302 #[.pointer (some ⟨g,0,none⟩)] w fun e w'=>e =.returned (.bool b)/\w=w':=by
 have c0:=aa h (j:=2) (u:=.bool b) rfl;clear h;go_enter Tryz.func302,Tryz.ntmps302;go_wp2_with fail;go_ret;exact⟨rfl,rfl⟩
theorem se (h:w.heap[g]?=some (.cells #[.slice A 0 c,.nilIface] 130 (0,0))):Calls Tryz.prog 67 #[.pointer (some ⟨g,0,none⟩)] w fun e w'=>e =.returned (.bool true)/\Below w.heap.size w w':=by
 have c1:=aa h (j:=1) (u:=.nilIface) rfl;have H:=H8 (lh h);clear h;go_enter Tryz.func67,Tryz.ntmps67;go_wp2_with fail;refine Za H ?_;rintro e w1 ⟨rfl,rfl⟩;go_wp2_with fail;go_ret;exact⟨rfl,Ze _ _⟩
theorem rj {t:TypeId}(h:w.heap[g]?=some (.cells #[.slice A 0 c,.iface t x] 130 (0,0))):Calls Tryz.prog 67 #[.pointer (some ⟨g,0,none⟩)] w fun e w'=>e =.returned (.bool false)/\Below w.heap.size w w':=by
 have c1:=aa h (j:=1) (u:=.iface t x) rfl;have H:=H8 (lh h);clear h;go_enter Tryz.func67,Tryz.ntmps67;go_wp2_with fail;refine Za H ?_;rintro e w1 ⟨rfl,rfl⟩;go_wp2_with fail;go_ret;exact⟨rfl,Ze _ _⟩
theorem tB (H:Calls Tryz.prog 68 #[.pointer (some ⟨g,0,none⟩)] w fun e w'=>e =.returned (.iface 131 x)/\Below w.heap.size w w'):Calls Tryz.prog 67 #[.pointer (some ⟨g,0,none⟩)] w fun e w'=>e =.returned (.bool true)/\Below w.heap.size w w':=by
 go_enter Tryz.func67,Tryz.ntmps67;go_wp2_with fail;refine H.mono ?_;rintro e w1 ⟨rfl,hb⟩;go_wp2_with fail;refine nS.mono ?_;rintro e w2 ⟨rfl,rfl⟩;go_wp2_with fail;go_ret;exact⟨rfl,hb⟩
theorem nU {m nm:Value}{b:Bool}(h:w.heap[gt]?=some (.cells #[m,nm,.bool b] 137 (0,0)))(H:Calls Tryz.prog 68 #[.pointer (some ⟨g,0,none⟩)] w fun e w'=>e =.returned (.iface 135 (.pointer (some ⟨gt,0,none⟩)))/\Below w.heap.size w w'):Calls Tryz.prog 67 #[.pointer (some ⟨g,0,none⟩)] w fun e w'=>e =.returned (.bool b)/\Below w.heap.size w w':=by
 have HT:=H8 (fun w1 (hw:Below w.heap.size w w1)=>lF (ai h hw));clear h;go_enter Tryz.func67,Tryz.ntmps67;go_wp2_with fail;refine H.mono ?_;rintro e w1 ⟨rfl,hb⟩;have a0:=H8 (HT.out w1 hb);go_wp2_with fail;refine Za a0 ?_;rintro e w2 ⟨rfl,rfl⟩;go_wp2_with fail;go_ret;exact⟨rfl,hb⟩
theorem tm {t:TypeId}(h:w.heap[g]?=some (.cells #[.slice A us.length c] 134 (0,0)))(ho:w.ownsRow base 85 1 (.slice A us.length c) us.length us)(hb:base<=w.heap.size)(hl:us.length<=1000000000)(hn:∀b,(Value.slice A us.length c).ownBlock=some b->b≠g) :
  Calls Tryz.prog 297 #[.pointer (some ⟨g,0,none⟩),.iface t x] w fun e w'=>e =.returned (.tuple #[])/\∃A' q,w'.heap[g]?=some (.cells #[.slice A' (us.length+1) q] 134 (0,0))/\w'.ownsRow base 85 1 (.slice A' (us.length+1) q) (us.length+1) (us ++ [.iface t x])/\aM (fun k=>k=g\/(Value.slice A us.length c).ownBlock=some k) w w'/\((Value.slice A' (us.length+1) q).ownBlock= (Value.slice A us.length c).ownBlock\/∃b,(Value.slice A' (us.length+1) q).ownBlock=some b/\w.heap.size<=b):=by
 have c0:=aa h (j:=0) (u:=.slice A us.length c) rfl;have a0:=H8 (ac w (.cells #[.iface t x] 85));have a3:=H8 (ar w [.iface t x] 85);have Ho:=H8 (ag ho a0.out (Zb _));have H:=H8 (ai h a0.out);have a2:=H8 (show base<=(w.alloc (.cells #[.iface t x] 85)).heap.size from Zc hb a0.out.size);have Hn:=H8 hn;obtain⟨n,a1⟩:∃n,us.length=n:=⟨_,rfl⟩;have a4:=H8 a1;rw[a1] at Ho H Hn c0 hl ⊢;clear h ho hn a1;go_enter Tryz.func297,Tryz.ntmps297;go_wp2_with (at_builtin;refine mb AP Ho.out a3.out a2.out ?_;intro v' w5 p1 p2 p3;obtain⟨A5,q5,rfl,-,-,-⟩:=af p1;have g5:=ay H.out p2 (fun e=>Hn.out g e rfl);have f5:=aj g5 0;have c5:=aa g5 (j:=0) (u:=.slice A n c) rfl;have G5:=H8 g5;have HK:=H8 p1;have HG:=H8 p2;have HD:=H8 p3;clear p1 p2 p3 g5);go_end0;have hne:∀b,(Value.slice A5 (n+1) q5).ownBlock=some b->¬b=g:=fun b hb e=>by
  have hg:=ah H.out;rcases HD.out with h|h
  ·exact Hn.out b (h▸hb) e
  ·rw[h] at hb;have:=Zi hb;omega
 refine⟨rfl,⟨A5,q5,au G5.out 0 _,be HK.out (fun b hb=>?_),?_,?_⟩⟩
 ·exact(aM.set g 0 _).block b (by obtain⟨_,cur,hg⟩:=al HK.out hb;exact ah hg) (hne b hb)
 ·exact((aM.of_below a0.out).trans (aM.grown HG.out) (fun i h=>.inl (.inr h))).trans (aM.set g 0 _) (fun i h=>.inl (.inl h))
 ·rcases HD.out with h|h
  ·exact .inl h
  ·exact .inr ⟨_,h,a0.out.size⟩
theorem ob {d:Value}{t:TypeId}(h:w.heap[g]?=some (.cells #[.slice A 0 c,d] 130 (0,0)))(hd:d.oneCell'=true):Calls Tryz.prog 71 #[.pointer (some ⟨g,0,none⟩),.iface t x] w fun e w'=>e =.returned (.tuple #[])/\w'.heap[g]?=some (.cells #[.slice A 0 c,.iface t x] 130 (0,0))/\aM (fun k=>k=g) w w':=by
 have c1:=aa h (j:=1) (u:=d) rfl;have f1:=aj h 1;have H:=H8 (lh h);have Hs:=H8 (au h 1 (.iface t x));clear h;go_enter Tryz.func71,Tryz.ntmps71;go_wp2_with fail;refine Za H ?_;rintro e w1 ⟨rfl,rfl⟩;go_wp2_with fail;go_end0;exact⟨rfl,Hs.out,aM.set g 1 _⟩
def Bz (w:World)(base gr:Nat)(A:Option Addr)(c:Nat)(us:List Value)(v:Value)(w':World):Prop:= ∃A' q,w'.heap[gr]?=some (.cells #[.slice A' (us.length+1) q] 134 (0,0))/\w'.ownsRow base 85 1 (.slice A' (us.length+1) q) (us.length+1) (us ++ [v])/\aM (fun k=>k=gr\/(Value.slice A us.length c).ownBlock=some k) w w'/\((Value.slice A' (us.length+1) q).ownBlock= (Value.slice A us.length c).ownBlock\/∃b,(Value.slice A' (us.length+1) q).ownBlock=some b/\w.heap.size<=b)
theorem rg {t:TypeId}(HI:Calls Tryz.prog 68 #[.pointer (some ⟨g,0,none⟩)] w fun e w'=>e =.returned (.iface 131 (.pointer (some ⟨gr,0,none⟩)))/\∃m,w'=w.drewN m)
  (h:w.heap[gr]?=some (.cells #[.slice A us.length c] 134 (0,0))) (ho:w.ownsRow base 85 1 (.slice A us.length c) us.length us) (hb:base<=w.heap.size) (hl:us.length<=1000000000) (hn:∀b,(Value.slice A us.length c).ownBlock=some b->b≠gr) :
  Calls Tryz.prog 71 #[.pointer (some ⟨g,0,none⟩),.iface t x] w fun e w'=>e =.returned (.tuple #[])/\∃m,Bz (w.drewN m) base gr A c us (.iface t x) w':=by
 have HA:=H8 (fun m=>tm (w:=w.drewN m) (t:=t) (x:=x) h ho hb hl hn);clear h ho hb hl hn;go_enter Tryz.func71,Tryz.ntmps71;go_wp2_with fail;refine HI.mono ?_;rintro e w1 ⟨rfl,m,rfl⟩;have a0:=H8 (HA.out m);go_wp2_with fail;refine Za a0 ?_;rintro e w2 ⟨rfl,hr⟩;go_wp2_with fail;(try simp only[Exit.inBlock,Exit.then]);refine Zh (results_none rfl ..) rfl ?_;exact⟨rfl,m,hr⟩
theorem uu {K:Nat->World->Prop}(h:w.heap[gr]?=some (.cells #[.slice A us.length c] 134 (0,0)))
  (H:Calls Tryz.prog 180 #[.slice A us.length c] w fun e w'=> ∃gl,e =.returned (.tuple #[.pointer (some ⟨gl,0,none⟩),.nilIface])/\K gl w') :
  Calls Tryz.prog 298 #[.pointer (some ⟨gr,0,none⟩)] w fun e w'=> ∃gl,e =.returned (.tuple #[.iface 112 (.pointer (some ⟨gl,0,none⟩)),.bool true])/\∃w1 m,K gl w1/\w'=w1.drewN m:=by
 have c0:=aa h (j:=0) (u:=.slice A us.length c) rfl;clear h;go_enter Tryz.func298,Tryz.ntmps298;go_wp2_with fail;refine H.mono ?_;rintro e w1 ⟨gl,rfl,hk⟩;have Hk:=H8 hk;clear hk;go_wp2_with fail;go_quiet (fail);go_wp2_with fail;go_ret2;exact⟨gl,rfl,w1,_,Hk.out,rfl⟩
