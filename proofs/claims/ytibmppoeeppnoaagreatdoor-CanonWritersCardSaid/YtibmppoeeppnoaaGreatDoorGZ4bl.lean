import Derived.Test.YtibmppoeeppnoaaGreatDoorGZ4bk
set_option linter.unusedVariables false
set_option linter.unusedSimpArgs false
set_option maxHeartbeats 64000000
set_option maxRecDepth 100000
namespace Go.Proofs.YtibmppoeeppnoaaGreatDoor
open Go.RowKit
variable {aE aU:Addr}{s:ByteArray}{d:Dc}{j:JV}{ks:List JV}{ps:List Nat}{xs:List UInt8}{us:List Value}{B N a cap ck cn gt nn xb:Nat}{Ak An:Option Addr}{u v:Value}{W w w0 w5:World}
def wB:Array Value:= #[.int .i64 1073741824,.int .i64 1073741824,.int .i64 1073741824,.int .i64 1073741824,.int .i64 1073741824,.int .i64 4611686018427387903]
theorem Ag (p q:Value)(w:World):CallsD Tryz.prog 94 #[p,q] .returning w fun e u' w'=>e =.returned (.tuple #[])/\u' =.returning/\w'=w:=by
 refine callsD_of_wpS Tryz.func94 rfl fun c₀ cs hu=>?_
 apply wpS_seq
 apply wpS_region
 simp[wpOpsS,go_sem,recoverD,hu,Tryz.ntmps94,Exit.thenS];apply wpS_seq;apply wpS_region;simp[wpOpsS,go_sem,Exit.thenS];refine wpS_cond (t:=false) (by simp[Act.eval,Array.replicate]) ?_;simp only[Bool.false_eq_true,if_false];refine wpS_of_wp (wp_skip ?_)
 cases c₀
 simp_all [bodyPostS,results,Tryz.results94]
theorem B4 {wr:World}{s1 s2:Nat}(hne:s1≠s2)(h1:wr.heap[s1]?=some (.cells #[.int .i64 0,.int .i64 0,.int .i64 0,.int .i64 0] 103 (0,0)))(h2:wr.heap[s2]?=some (.cells #[.nilIface] 36 (0,0)))(a b c d:Value)
  (hW:((((wr.setCell ⟨s1,0,none⟩ a).setCell ⟨s1,1,none⟩ b).setCell ⟨s1,2,none⟩ c).setCell ⟨s1,3,none⟩ d).setCell ⟨s2,0,none⟩ .nilIface=W) :
  W.heap[s1]?=some (.cells #[a,b,c,d] 103 (0,0))/\W.heap[s2]?=some (.cells #[.nilIface] 36 (0,0))/\a8 (fun k=>k=s1\/k=s2) wr W:=by
 subst hW;have g1:=au (au (au (au h1 0 a) 1 b) 2 c) 3 d;have g2:=ar _ s2 s1 3 d _ _ hne.symm (ar _ s2 s1 2 c _ _ hne.symm (ar _ s2 s1 1 b _ _ hne.symm (ar wr s2 s1 0 a _ _ hne.symm h2)));refine⟨ar _ s1 s2 0 .nilIface _ _ hne g1,au g2 0 .nilIface,?_⟩;exact(((((a8.set s1 0 a).mono fun _ h=>.inl h).trans (a8.set s1 1 b) fun i h=>.inl (.inl h)).trans (a8.set s1 2 c) fun i h=>.inl (.inl h)).trans (a8.set s1 3 d) fun i h=>.inl (.inl h)).trans (a8.set s2 0 _) fun i h=>.inl (.inr h)
def AM (w0:World)(rb lb xb:Nat)(v:Value)(xs:List UInt8)(j:JV)(m:Nat)(wr:World):Prop:=
 (∃ (f:Nat) (c:de) (k nd:Nat),m=xs.length - k+1/\Cl f c (xs.drop k)=some j/\PS w0.heap.size rb lb xb v xs c k nd false wr/\c.ok jr/\dW c.frs<=k/\nd<=k/\k<=xs.length/\Below w0.heap.size w0 wr)\/
 (m=0/\∃nd bs,jL w0.heap.size wr rb lb xb v xs [] 7 xs.length nd true/\fd w0.heap.size wr xb [] (some j) bs/\Below w0.heap.size w0 wr)
def Gg (w0:World)(xb:Nat)(j:JV)(e:Ending)(w':World):Prop:= ∃a b c d:Int,e =.returned (.tuple #[.agg #[.int .i64 a,.int .i64 b,.int .i64 c,.int .i64 d],.nilIface])/\Below w0.heap.size w0 w'/\∃bs,fd w0.heap.size w' xb [] (some j) bs
theorem zN (hE:qV w0 aU aE)(hM:kA w0)(g5:Below w0.heap.size w0 w)(hb:Bs w v xs)(h0:0<xs.length)(hl:xs.length<=1000000000)(f5:fd w0.heap.size w xb [] none [])(hp:eU xs=some j) :
  Calls Tryz.prog 72 #[v,eQ,.func (.func 73) #[.pointer (some ⟨xb,0,none⟩)] #[]] w (Gg w0 xb j):=by
 have i0:∀ (fn:Fn) (first cap:Array Value) (w:World),(Instr.makeFunc fn first cap).run Tryz.prog w =.ok (.func fn first cap) w:=fun _ _ _ _=>rfl
 obtain⟨hm,A,cap,rfl,h6,b9⟩:=id hb;have HE:=Qa hE;have HM:=Qa hM;have b0:=Qa g5;have Hb:=Qa hb;have H0:=Qa h0;have Hl:=Qa hl;have h8:=Qa f5;have Hp:=Qa hp;have e6:=Qa (fun w=>wG w);have f0:=Qa (fun w=>sT (m:=1) (x:=(xs.length:Int)) (by omega) (by omega) w);unfold eQ at *;have hlen:(xs.length:Int)<=1000000000:=by omega
 clear hE hM g5 hb h0 hl f5 hp b9;have g3:Below w.heap.size w (((w.alloc (.cells #[.int .i64 1073741824,.int .i64 1073741824,.int .i64 1073741824,.int .i64 1073741824,.int .i64 1073741824,.int .i64 4611686018427387903] 107)).alloc (.cells #[.int .i64 0,.int .i64 0,.int .i64 0,.int .i64 0] 103)).alloc (.cells #[.nilIface] 36)):=bt (bt (ac _ _) (ac _ _)) (ac _ _);have g0:(((w.alloc (.cells #[.int .i64 1073741824,.int .i64 1073741824,.int .i64 1073741824,.int .i64 1073741824,.int .i64 1073741824,.int .i64 4611686018427387903] 107)).alloc (.cells #[.int .i64 0,.int .i64 0,.int .i64 0,.int .i64 0] 103)).alloc (.cells #[.nilIface] 36)).heap[w.heap.size]?=some (.cells #[.int .i64 1073741824,.int .i64 1073741824,.int .i64 1073741824,.int .i64 1073741824,.int .i64 1073741824,.int .i64 4611686018427387903] 107 (0,0)):=(Below.heap_alloc _ _ _ (by simp only[World.size_alloc];omega)).trans ((Below.heap_alloc _ _ _ (by simp)).trans (Ze w _));have g1:(((w.alloc (.cells #[.int .i64 1073741824,.int .i64 1073741824,.int .i64 1073741824,.int .i64 1073741824,.int .i64 1073741824,.int .i64 4611686018427387903] 107)).alloc (.cells #[.int .i64 0,.int .i64 0,.int .i64 0,.int .i64 0] 103)).alloc (.cells #[.nilIface] 36)).heap[w.heap.size+1]?=some (.cells #[.int .i64 0,.int .i64 0,.int .i64 0,.int .i64 0] 103 (0,0)):=by
  have:=Ze (w.alloc (.cells #[.int .i64 1073741824,.int .i64 1073741824,.int .i64 1073741824,.int .i64 1073741824,.int .i64 1073741824,.int .i64 4611686018427387903] 107)) (.cells #[.int .i64 0,.int .i64 0,.int .i64 0,.int .i64 0] 103);rw[World.size_alloc] at this;exact(Below.heap_alloc _ _ _ (by simp)).trans this
 have g2:(((w.alloc (.cells #[.int .i64 1073741824,.int .i64 1073741824,.int .i64 1073741824,.int .i64 1073741824,.int .i64 1073741824,.int .i64 4611686018427387903] 107)).alloc (.cells #[.int .i64 0,.int .i64 0,.int .i64 0,.int .i64 0] 103)).alloc (.cells #[.nilIface] 36)).heap[w.heap.size+1+1]?=some (.cells #[.nilIface] 36 (0,0)):=by
  have:=Ze ((w.alloc (.cells #[.int .i64 1073741824,.int .i64 1073741824,.int .i64 1073741824,.int .i64 1073741824,.int .i64 1073741824,.int .i64 4611686018427387903] 107)).alloc (.cells #[.int .i64 0,.int .i64 0,.int .i64 0,.int .i64 0] 103)) (.cells #[.nilIface] 36)
  rwa[World.size_alloc,World.size_alloc] at this
 have h7:=Qa g3;have G0:=Qa g0;have G1:=Qa g1;have G2:=Qa g2;clear g3 g0 g1 g2;go_enter_defers Tryz.func72,Tryz.ntmps72;go_wp2_with fail;generalize ((w.alloc (.cells #[.int .i64 1073741824,.int .i64 1073741824,.int .i64 1073741824,.int .i64 1073741824,.int .i64 1073741824,.int .i64 4611686018427387903] 107)).alloc (.cells #[.int .i64 0,.int .i64 0,.int .i64 0,.int .i64 0] 103)).alloc (.cells #[.nilIface] 36)=w1 at *;(with_reducible refine(e6.out _).mono ?_);rintro e w2 ⟨rfl,e1⟩;have l0:=ai G0.out e1;have c0:=aa l0 (j:=0) (u:=.int .i64 1073741824) rfl;have c1:=aa l0 (j:=1) (u:=.int .i64 1073741824) rfl;have c2:=aa l0 (j:=2) (u:=.int .i64 1073741824) rfl;have c3:=aa l0 (j:=3) (u:=.int .i64 1073741824) rfl;have c4:=aa l0 (j:=4) (u:=.int .i64 1073741824) rfl;have c5:=aa l0 (j:=5) (u:=.int .i64 4611686018427387903) rfl;have e0:=Qa e1;clear l0 e1;go_wp2_with fail;(with_reducible refine(f0.out _).mono ?_);rintro e w3 ⟨rfl,c6⟩;have h5:=Qa (bt (bt h7.out e0.out) c6);have L0:=Qa (ai (ai G0.out e0.out) c6);have L1:=Qa (ai (ai G1.out e0.out) c6);have L2:=Qa (ai (ai G2.out e0.out) c6);clear c0 c1 c2 c3 c4 c5 c6;go_wp2_with fail;obtain⟨wr,d7⟩:∃wr,w3.drew=wr:=⟨_,rfl⟩;have b3:Below w3.heap.size w3 wr:=by rw[<-d7];exact(Zd _ _).drew
 have b1:=Qa (bt h5.out b3);have f6:=ai L0.out b3;have b5:∀ (w':World),w'.heap[w.heap.size]?=some (.cells #[.int .i64 1073741824,.int .i64 1073741824,.int .i64 1073741824,.int .i64 1073741824,.int .i64 1073741824,.int .i64 4611686018427387903] 107 (0,0))->w'.cell? ⟨w.heap.size,0,none⟩=some (.int .i64 1073741824)/\w'.cell? ⟨w.heap.size,1,none⟩=some (.int .i64 1073741824)/\w'.cell? ⟨w.heap.size,2,none⟩=some (.int .i64 1073741824)/\w'.cell? ⟨w.heap.size,3,none⟩=some (.int .i64 1073741824)/\w'.cell? ⟨w.heap.size,4,none⟩=some (.int .i64 1073741824)/\w'.cell? ⟨w.heap.size,5,none⟩=some (.int .i64 4611686018427387903):=fun _ h=>
  ⟨aa h (j:=0) rfl,aa h (j:=1) rfl,aa h (j:=2) rfl,aa h (j:=3) rfl,aa h (j:=4) rfl,aa h (j:=5) rfl⟩
 have a3:=Qa b5;have d9:=Qa f6;have d5:=Qa (xw (w:=wr) (Hb.out.below b1.out) H0.out (by have:=Hl.out;omega));have R1:=Qa (ai L1.out b3);have R2:=Qa (ai L2.out b3);clear b3 f6 b5;refine aO (fun w2=>w2.cell? ⟨w.heap.size,0,none⟩=some (.int .i64 1073741824)/\w2.cell? ⟨w.heap.size,1,none⟩=some (.int .i64 1073741824)/\w2.cell? ⟨w.heap.size,2,none⟩=some (.int .i64 1073741824)/\w2.cell? ⟨w.heap.size,3,none⟩=some (.int .i64 1073741824)/\w2.cell? ⟨w.heap.size,4,none⟩=some (.int .i64 1073741824)/\w2.cell? ⟨w.heap.size,5,none⟩=some (.int .i64 4611686018427387903)) ((by rw[d7];exact a3.out _ d9.out)) fun a1=>?_
 refine tH 0 a1 ?_;refine tH 2 a1 ?_;refine tH 3 a1 ?_;refine tH 4 a1 ?_;refine tH 5 a1 ?_;refine tH 6 a1 ?_
 try simp only[Act.put,jP,jQ,jR]
 refine rH 1 fun K hK=>?_
 go_simp;(try rw[d7]);(with_reducible refine d5.out.mono ?_);rintro e w5 ⟨lb,u,rfl,f2,e7,f3,b6⟩;have a9:=Qa e7;have h9:=Qa f2;have g9:=Qa f3;have e2:=Qa b6;clear e7 f2 f3 b6;go_wp2_with fail;refine hK.out _ _ (a3.out _ (ai d9.out a9.out)) (fun a1=>?_);clear hK K
 try simp only[Act.put,jP,jQ,jR]
 refine tH 7 a1 ?_
 try simp only[Act.put,jP,jQ,jR]
 refine rH 8 fun K hK=>?_
 go_simp;refine hK.out _ _ (a3.out _ (ai (ai d9.out a9.out) (ac _ _))) (fun a1=>?_);clear hK K
 try simp only[Act.put,jP,jQ,jR]
 refine tH 9 a1 ?_
 try simp only[Act.put,jP,jQ,jR]
 refine wpAnyH_done (by kernel_rfl) (NoPanic.normal ?_) _;clear a1 d7;have d6:Below w0.heap.size w0 w5:=(b0.out.trans (b1.out.mono b0.out.size)).trans (a9.out.mono (Zb b0.out.size b1.out.size));have a0:=ac w5 (.cells (dD lb xb xs.length 0 0 0 (.slice none 0 0) (.slice none 0 0) 0 false) 201);have a6:=Ze w5 (.cells (dD lb xb xs.length 0 0 0 (.slice none 0 0) (.slice none 0 0) 0 false) 201);have f4:ir w0.heap.size (w5.alloc (.cells (dD lb xb xs.length 0 0 0 (.slice none 0 0) (.slice none 0 0) 0 false) 201)) w5.heap.size lb xb u xs [] 0 0 0 false xs.length 0 0 (.slice none 0 0) (.slice none 0 0) []:=
  ⟨a6,d6.size,h9.out.below a0,Zb (Zb b0.out.size b1.out.size) g9.out,ao (bZ e2.out (Zb b0.out.size b1.out.size)) a0 (Za _),⟨rfl,.inl ⟨rfl,rfl⟩⟩,⟨rfl,.inl ⟨rfl,rfl⟩⟩,br.nil _,List.nodup_nil,Zj _⟩
 have b7:=(h8.out.below (bt b1.out a9.out)).below a0;have Hrel:=Qa (show AM w0 w5.heap.size lb xb u xs j (xs.length+1) (w5.alloc (.cells (dD lb xb xs.length 0 0 0 (.slice none 0 0) (.slice none 0 0) 0 false) 201)) from
  .inl ⟨xs.length+1,⟨[],0,none⟩,0,0,rfl,Hp.out,⟨f4.s, [],b7⟩,de.ok.start jr,Za _,Za _,Zj _,d6.trans (a0.mono d6.size)⟩)
 have Q1:=Qa (ai (ai R1.out a9.out) a0);have Q2:=Qa (ai (ai R2.out a9.out) a0);unfold dD at Hrel Q1 Q2;clear f4 b7 a6 a0 d6 d5 d9 a3 R1 R2 L0 L1 L2 G0 G1 G2 e6 f0;go_wp2_with fail
 go_loopg [] (xs.length+1) (fun m wr=>AM w0 w5.heap.size lb xb u xs j m wr/\wr.heap[w.heap.size+1]?=some (.cells #[.int .i64 0,.int .i64 0,.int .i64 0,.int .i64 0] 103 (0,0))/\wr.heap[w.heap.size+1+1]?=some (.cells #[.nilIface] 36 (0,0)))
 case atStart=>exact⟨Hrel.out,Q1.out,Q2.out⟩
 case round=>
  obtain⟨hrel,q1,q2⟩:=hrel;have HQ1:=Qa q1;have HQ2:=Qa q2;clear Hrel Q1 Q2 q1 q2;rcases hrel with ⟨f,c,k,nd,hm,hrun,a7,b4,hcn,g6,hk,a4⟩|⟨g8,nd,bs,hR,b8,a4⟩
  ·obtain⟨by9,dp9,ex9,ov9,nv9,maps9,a2⟩:=id a7.1;have c15:=aa a2.row (j:=15) (u:=.bool false) rfl;have i2:=Qa a7;have Hm:=Qa hm;have Hbl:=Qa a4
   cases f with
   |zero=>cases hrun
   |succ f=>
    unfold Cl at hrun
    cases hdw:(xs.drop k).dropWhile cO with
    |nil=>
     rw[hdw] at hrun;simp only at hrun
     split at hrun
     case isFalse=>cases hrun
     rename_i hw7
     obtain⟨frs,want,done⟩:=c;simp only at hw7 hrun;subst hw7 hrun;have h4:frs = []:=b4.want.1;subst h4;obtain⟨bs9,g4⟩:=a7.2;have e3:=Qa (AN (HE.out.below a4) a7.1 g4 Hl.out a4.size hdw);clear a7 b4 hcn g6 hk a4 hm a2 g4 hdw;go_wp2_with fail;(with_reducible refine e3.out.mono ?_);rintro e w7 ⟨rfl,h1,h2,h3⟩;have R:=Qa (And.intro h1 (And.intro h2 h3));clear h1 h2 h3 c15;go_wp2_with fail;go_roundg 0
     case measure=>have:=Hm.out;omega
     case rel=>exact⟨.inr ⟨rfl,nd,bs9,R.out.2.1,R.out.2.2,Hbl.out.trans R.out.1.b⟩,R.out.1.k.2 _ _ _ _ HQ1.out (by simp only[TA,TB,TV,lG];decide),R.out.1.k.2 _ _ _ _ HQ2.out (by simp only[TA,TB,TV,lG];decide)⟩
    |cons y ys=>
     rw[hdw] at hrun;simp only at hrun
     cases hlx:dm (y::ys) with
     |none=>rw[hlx] at hrun;cases hrun
     |some tn=>
      obtain⟨t,n⟩:=tn;rw[hlx] at hrun;simp only at hrun
      cases hsb:dI c t with
      |none=>rw[hsb] at hrun;cases hrun
      |some c'=>
       rw[hsb] at hrun;simp only at hrun;have f1:=nG hlx;have hin:(y::ys).length<=xs.length - k:=by
        have h1:=ik (xs.drop k);rw[hdw,List.length_drop] at h1;exact h1
       rw[List.length_cons] at f1 hin;have a5:xs.drop (xs.length - (ys.length+1))=y::ys:=by
        have h1:=rp (xs.drop k);rw[hdw,List.drop_drop] at h1;have h2:=congrArg List.length h1;rw[List.length_drop,List.length_cons] at h2;rw[<-h1]
        congr 1
        omega
       have e3:=Qa (Br (⟨HE.out,HM.out,a7,b4,by have:=Hl.out;omega,by have:=Hl.out;omega,Hl.out,a4⟩:iE w0 w5.heap.size lb xb u xs c k nd wr aU aE) hdw hlx hsb);have Hrun:=Qa (show Cl f c' (xs.drop (xs.length - (ys.length+1)+n))=some j by rw[<-List.drop_drop,a5];exact hrun);have Hok:=Qa (D9 b4 (EE (by rw[List.length_cons];have:=Hl.out;omega) hlx) hsb);have Hcn:=Qa (show dW c'.frs<=xs.length - (ys.length+1)+n/\nd+1<=xs.length - (ys.length+1)+n/\xs.length - (ys.length+1)+n<=xs.length/\k<xs.length - (ys.length+1)+n by have:=De hsb;omega);clear a7 b4 hcn g6 hk a4 hm a2 hdw hlx hsb hrun f1 hin a5;go_wp2_with fail;(with_reducible refine e3.out.mono ?_);rintro e w7 ⟨nd',f9,rfl,h1,h2⟩;have R:=Qa (And.intro f9 (And.intro h1 h2));clear f9 h1 h2 c15;go_wp2_with fail;go_roundg (xs.length - (xs.length - (ys.length+1)+n)+1)
       case measure=>have:=Hm.out;have:=Hcn.out;omega
       case rel=>exact⟨.inl ⟨f,c',_,nd',rfl,Hrun.out,R.out.2.2,Hok.out,Hcn.out.1,Zb R.out.1 Hcn.out.2.1,Hcn.out.2.2.1,Hbl.out.trans R.out.2.1.b⟩,R.out.2.1.k.2 _ _ _ _ HQ1.out (by simp only[TA,TB,TV,lG];decide),R.out.2.1.k.2 _ _ _ _ HQ2.out (by simp only[TA,TB,TV,lG];decide)⟩
  ·obtain⟨by9,dp9,ex9,ov9,nv9,maps9,a2⟩:=id hR;have c15:=aa a2.row (j:=15) (u:=.bool true) rfl;have c7:=aa a2.row (j:=7) (u:=.int .i64 by9) rfl;have c8:=aa a2.row (j:=8) (u:=.int .i64 dp9) rfl;have c9:=aa a2.row (j:=9) (u:=.int .i64 nd) rfl;have c10:=aa a2.row (j:=10) (u:=.int .i64 ex9) rfl;have g7:=Qa b8;have Hbl:=Qa a4;have r0:=aa HQ1.out (j:=0) rfl;have r1:=aa HQ1.out (j:=1) rfl;have r2:=aa HQ1.out (j:=2) rfl;have r3:=aa HQ1.out (j:=3) rfl;have r4:=aa HQ2.out (j:=0) rfl;have z0:=aj HQ1.out 0;have z1:=aj HQ1.out 1;have z2:=aj HQ1.out 2;have z3:=aj HQ1.out 3;have z4:=aj HQ2.out 0;clear g8 hR b8 a4 a2;go_wp2_with fail;obtain⟨W,hW⟩:∃W,((((wr.setCell ⟨w.heap.size+1,0,none⟩ (.int .i64 by9)).setCell ⟨w.heap.size+1,1,none⟩ (.int .i64 dp9)).setCell ⟨w.heap.size+1,2,none⟩ (.int .i64 nd)).setCell ⟨w.heap.size+1,3,none⟩ (.int .i64 ex9)).setCell ⟨w.heap.size+1+1,0,none⟩ .nilIface=W:=⟨_,rfl⟩;rw[hW];obtain⟨g1,g2,e5⟩:=B4 (by omega) HQ1.out HQ2.out _ _ _ _ hW;have d0:=aa g1 (j:=0) (u:=.int .i64 by9) rfl;have d1:=aa g1 (j:=1) (u:=.int .i64 dp9) rfl;have d2:=aa g1 (j:=2) (u:=.int .i64 nd) rfl;have d3:=aa g1 (j:=3) (u:=.int .i64 ex9) rfl;have d4:=aa g2 (j:=0) (u:=.nilIface) rfl;have f8:Kp (fun e=>e=103\/e=36) wr W:=Kp.of_chg e5 fun g hg _=>by
    rcases hg with rfl|rfl
    ·exact⟨_,_,_,HQ1.out,.inl rfl⟩
    ·exact⟨_,_,_,HQ2.out,.inr rfl⟩
   have e8:=g7.out.kp f8 fun e he=>by rcases he with (rfl|rfl|rfl|rfl)|rfl|rfl <;> decide
   have b2:Below w0.heap.size w0 W:=Hbl.out.trans (e5.below Hbl.out.size fun i hi=>by have:=b0.out.size;rcases hi with rfl|rfl <;> omega);have e4:Gg w0 xb j (.returned (.tuple #[.agg #[.int .i64 by9,.int .i64 dp9,.int .i64 nd,.int .i64 ex9],.nilIface])) W:=⟨_,_,_,_,rfl,b2,bs,e8⟩;clear hW e5 f8 e8 b2 r0 r1 r2 r3 r4 z0 z1 z2 z3 z4 c7 c8 c9 c10 c15;refine leaves_cons (f:=94) (args:= #[.pointer (some ⟨w.heap.size+1,0,none⟩),.pointer (some ⟨w.heap.size+1+1,0,none⟩)]) (by simp) (by simp[go_sem]) ?_;refine(Ag _ _ _).mono ?_;rintro e u' w'' ⟨rfl,rfl,rfl⟩;simp[Leaves,settle,results,Tryz.results72,go_sem,d0,d1,d2,d3,d4];exact e4
def Ih (w:World)(j:JV)(e:Ending)(w':World):Prop:= ∃ (u:Value) (a b c d:Int),e =.returned (.tuple #[u,.agg #[.int .i64 a,.int .i64 b,.int .i64 c,.int .i64 d],.nilIface])/\Below w.heap.size w w'/\VW (w.heap.size<= ·) w' u j
theorem zh (hE:qV w aU aE)(hM:kA w)(hb:Bs w v xs)(h0:0<xs.length)(hl:xs.length<=1000000000)(hp:eU xs=some j) :
  Calls Tryz.prog 50 #[v,eQ] w (Ih w j):=by
 have e5:∀ (fn:Fn) (first cap:Array Value) (w:World),(Instr.makeFunc fn first cap).run Tryz.prog w =.ok (.func fn first cap) w:=fun _ _ _ _=>rfl
 have a7:Below w.heap.size w ((w.alloc (.cells wB 107)).alloc (.cells #[.int .i64 0,.int .i64 0,.int .i64 0,.int .i64 0] 103)):=bt (ac _ _) (ac _ _);have g0:((w.alloc (.cells wB 107)).alloc (.cells #[.int .i64 0,.int .i64 0,.int .i64 0,.int .i64 0] 103)).heap[w.heap.size]?=some (.cells wB 107 (0,0)):=(Below.heap_alloc _ _ _ (by simp)).trans (Ze w _);have g1:((w.alloc (.cells wB 107)).alloc (.cells #[.int .i64 0,.int .i64 0,.int .i64 0,.int .i64 0] 103)).heap[w.heap.size+1]?=some (.cells #[.int .i64 0,.int .i64 0,.int .i64 0,.int .i64 0] 103 (0,0)):=by
  have:=Ze (w.alloc (.cells wB 107)) (.cells #[.int .i64 0,.int .i64 0,.int .i64 0,.int .i64 0] 103)
  rwa[World.size_alloc] at this
 have hz:((w.alloc (.cells wB 107)).alloc (.cells #[.int .i64 0,.int .i64 0,.int .i64 0,.int .i64 0] 103)).heap.size=w.heap.size+1+1:=by simp
 unfold wB at a7 g0 g1 hz;have H2:=Qa a7;have G0:=Qa g0;have G1:=Qa g1;have Hz:=Qa hz;have HE:=Qa (hE.below a7);have HM:=Qa (hM.below a7);have Hb:=Qa (hb.below a7);have H0:=Qa h0;have Hl:=Qa hl;have Hp:=Qa hp;have c9:=hE;unfold eQ;clear a7 g0 g1 hz hE hM hb h0 hl hp c9;go_enter Tryz.func50,Tryz.ntmps50;go_wp2_with fail;generalize ((w.alloc (.cells #[.int .i64 1073741824,.int .i64 1073741824,.int .i64 1073741824,.int .i64 1073741824,.int .i64 1073741824,.int .i64 4611686018427387903] 107)).alloc (.cells #[.int .i64 0,.int .i64 0,.int .i64 0,.int .i64 0] 103))=w1 at *;rw[<-Hz.out];have a5:=ac w1 (.cells #[.slice none 0 0,.nilIface] 164);have a4:=Ze w1 (.cells #[.slice none 0 0,.nilIface] 164);have b0:fd w1.heap.size (w1.alloc (.cells #[.slice none 0 0,.nilIface] 164)) w1.heap.size [] none []:=⟨.slice none 0 0,.nilIface, [],a4,Za _,⟨rfl,.inl ⟨rfl,rfl⟩⟩,br.nil _,rfl,List.nodup_nil,rfl⟩;have c0:=Qa (zN HE.out HM.out a5 (Hb.out.below a5) H0.out Hl.out b0 Hp.out);unfold eQ at c0;clear a5 a4 b0;(with_reducible refine c0.out.mono ?_);rintro e w3 ⟨a,b,c,d,rfl,b4,bs,pv,dv,us,b5⟩;have b9:VW (Pb w1.heap.size bs) w3 dv j:=b5.done;obtain⟨tv,xv,e4⟩:=b9.iface;subst e4;have a0:=ac w3 (.cells #[.int .i64 a,.int .i64 b,.int .i64 c,.int .i64 d] 103);obtain⟨w4,b8⟩:∃w4,w3.alloc (.cells #[.int .i64 a,.int .i64 b,.int .i64 c,.int .i64 d] 103)=w4:=⟨_,rfl⟩;have c1:=Ze w3 (.cells #[.int .i64 a,.int .i64 b,.int .i64 c,.int .i64 d] 103);rw[b8] at a0 c1;have e3:=Qa (b9.later a0);have e2:=Qa (ai b5.row a0);have d9:=Qa c1;have c6:w3.heap[w.heap.size+1]?=some (.cells #[.int .i64 0,.int .i64 0,.int .i64 0,.int .i64 0] 103 (0,0)):=(b4.block _ (ae G1.out)).trans G1.out;have d6:=Qa (ai c6 a0);have c3:=Qa (show Below w1.heap.size w1 w4 from b4.trans (a0.mono b4.size));have e1:=Qa b8;have hlt:w1.heap.size<w3.heap.size:=ae b5.row;have c8:=Qa hlt;clear b4 b5 b9 a0 c1 c6 b8 hlt c0;go_wp2_with fail
 try rw[e1.out]
 obtain⟨wr,c2⟩:∃wr,w4.drew=wr:=⟨_,rfl⟩;have a6:Below w4.heap.size w4 wr:=by rw[<-c2];exact(Zd _ _).drew
 have e0:=Qa (e3.out.later a6);have hX:=ai e2.out a6;have hN:=ai d9.out a6;have hG:=ai d6.out a6;have d7:=Qa hX;have b3:=Qa hN;have c7:=Qa hG;have c5:=Qa (c3.out.trans (a6.mono c3.out.size));have z0:=aj hG 0;have z1:=aj hG 1;have z2:=aj hG 2;have z3:=aj hG 3;have y0:=aa hG (j:=0) (u:=.int .i64 0) rfl;have y1:=aa hG (j:=1) (u:=.int .i64 0) rfl;have y2:=aa hG (j:=2) (u:=.int .i64 0) rfl;have y3:=aa hG (j:=3) (u:=.int .i64 0) rfl;have b2:w.heap.size+1≠w1.heap.size:=by have:=Hz.out;omega
 have b1:w.heap.size+1≠w3.heap.size:=by have:=Hz.out;have:=c8.out;omega
 have b7:=Qa b2;have a1:=Qa b1;clear a6 hX hN hG b2 b1;have hS:wr.cell? ⟨w1.heap.size,1,none⟩=some (.iface tv xv)/\wr.cell? ⟨w3.heap.size,0,none⟩=some (.int .i64 a)/\wr.cell? ⟨w3.heap.size,1,none⟩=some (.int .i64 b)/\wr.cell? ⟨w3.heap.size,2,none⟩=some (.int .i64 c)/\wr.cell? ⟨w3.heap.size,3,none⟩=some (.int .i64 d):=
  ⟨aa d7.out (j:=1) rfl,aa b3.out (j:=0) rfl,aa b3.out (j:=1) rfl,aa b3.out (j:=2) rfl,aa b3.out (j:=3) rfl⟩
 have HS:=Qa hS;clear hS;have a9:∀ (W:World) (i:Nat) (x:Value),(W.cell? ⟨w1.heap.size,1,none⟩=some (.iface tv xv)/\W.cell? ⟨w3.heap.size,0,none⟩=some (.int .i64 a)/\W.cell? ⟨w3.heap.size,1,none⟩=some (.int .i64 b)/\W.cell? ⟨w3.heap.size,2,none⟩=some (.int .i64 c)/\W.cell? ⟨w3.heap.size,3,none⟩=some (.int .i64 d))->
   ((W.setCell ⟨w.heap.size+1,i,none⟩ x).cell? ⟨w1.heap.size,1,none⟩=some (.iface tv xv)/\(W.setCell ⟨w.heap.size+1,i,none⟩ x).cell? ⟨w3.heap.size,0,none⟩=some (.int .i64 a)/\(W.setCell ⟨w.heap.size+1,i,none⟩ x).cell? ⟨w3.heap.size,1,none⟩=some (.int .i64 b)/\(W.setCell ⟨w.heap.size+1,i,none⟩ x).cell? ⟨w3.heap.size,2,none⟩=some (.int .i64 c)/\(W.setCell ⟨w.heap.size+1,i,none⟩ x).cell? ⟨w3.heap.size,3,none⟩=some (.int .i64 d)):=fun W i x ⟨h1,h2,h3,h4,h5⟩=>
  ⟨(World.cell?_setCell_far _ _ _ _ b7.out).trans h1,(World.cell?_setCell_far _ _ _ _ a1.out).trans h2,(World.cell?_setCell_far _ _ _ _ a1.out).trans h3,(World.cell?_setCell_far _ _ _ _ a1.out).trans h4,(World.cell?_setCell_far _ _ _ _ a1.out).trans h5⟩
 have a2:=Qa a9;clear a9;refine aO (fun w2=>w2.cell? ⟨w1.heap.size,1,none⟩=some (.iface tv xv)/\w2.cell? ⟨w3.heap.size,0,none⟩=some (.int .i64 a)/\w2.cell? ⟨w3.heap.size,1,none⟩=some (.int .i64 b)/\w2.cell? ⟨w3.heap.size,2,none⟩=some (.int .i64 c)/\w2.cell? ⟨w3.heap.size,3,none⟩=some (.int .i64 d)) ((by rw[c2];exact HS.out)) fun a3=>?_
 refine tH 0 a3 ?_;refine tH 1 a3 ?_;refine tH 2 a3 ?_;refine tH 3 a3 ?_
 try simp only[Act.put,jP,jQ,jR]
 refine rH 4 fun K hK=>?_
 (try rw[c2] at a3 ⊢);go_simp;refine hK.out _ _ (a2.out _ _ _ (a2.out _ _ _ (a2.out _ _ _ (a2.out _ _ _ HS.out)))) (fun a3=>?_);clear hK K
 try simp only[Act.put,jP,jQ,jR]
 refine tH 5 a3 ?_
 try simp only[Act.put,jP,jQ,jR]
 refine wpAnyH_done (by kernel_rfl) (NoPanic.normal ?_) _;clear y0 y1 y2 y3 z0 z1 z2 z3
 try clear a3
 go_wp2_with fail;obtain⟨W,hW⟩:∃W,(((wr.setCell ⟨w.heap.size+1,0,none⟩ (.int .i64 a)).setCell ⟨w.heap.size+1,1,none⟩ (.int .i64 b)).setCell ⟨w.heap.size+1,2,none⟩ (.int .i64 c)).setCell ⟨w.heap.size+1,3,none⟩ (.int .i64 d)=W:=⟨_,rfl⟩;rw[hW];have g:=au (au (au (au c7.out 0 (.int .i64 a)) 1 (.int .i64 b)) 2 (.int .i64 c)) 3 (.int .i64 d);rw[hW] at g;have c4:a8 (fun k=>k=w.heap.size+1) wr W:=by
  rw[<-hW];exact((((a8.set _ 0 _).trans (a8.set _ 1 _) fun i h=>.inl h).trans (a8.set _ 2 _) fun i h=>.inl h).trans (a8.set _ 3 _) fun i h=>.inl h)
 have d0:=aa g (j:=0) (u:=.int .i64 a) rfl;have d1:=aa g (j:=1) (u:=.int .i64 b) rfl;have d2:=aa g (j:=2) (u:=.int .i64 c) rfl;have d3:=aa g (j:=3) (u:=.int .i64 d) rfl;have d4:Kp (fun e=>e=103) wr W:=Kp.of_chg c4 fun g hg _=>by subst hg;exact⟨_,_,_,c7.out,rfl⟩
 have d5:=(e0.out.keeps d4.keeps (fun e he=>by rcases he with rfl|rfl|rfl|rfl <;> decide)).imp (Q:=(w.heap.size<= ·)) (fun g hg _=>Zb H2.out.size hg.1);have b6:Below w.heap.size w W:=(H2.out.trans (c5.out.mono H2.out.size)).trans (c4.below (by have:=H2.out.size;have:=c5.out.size;omega) fun i hi=>by rw[hi];omega);refine Zg (v:=.tuple #[.iface tv xv,.agg #[.int .i64 a,.int .i64 b,.int .i64 c,.int .i64 d],.nilIface]) ?_ rfl ⟨_,_,_,_,_,rfl,b6,d5⟩;simp[results,Tryz.results50,go_sem,d0,d1,d2,d3]
theorem xR (w:World):Calls Tryz.prog 51 #[] w fun e w'=>e =.returned eQ/\Below w.heap.size w w':=by
 unfold eQ;go_enter Tryz.func51,Tryz.ntmps51;go_wp2_with fail;have hn:=Ze w (.cells #[.int .i64 1073741824,.int .i64 1073741824,.int .i64 1073741824,.int .i64 1073741824,.int .i64 1073741824,.int .i64 4611686018427387903] 107);have n0:=aa hn (j:=0) rfl;have n1:=aa hn (j:=1) rfl;have n2:=aa hn (j:=2) rfl;have n3:=aa hn (j:=3) rfl;have n4:=aa hn (j:=4) rfl;have n5:=aa hn (j:=5) rfl;have Hb:=ac w (.cells #[.int .i64 1073741824,.int .i64 1073741824,.int .i64 1073741824,.int .i64 1073741824,.int .i64 1073741824,.int .i64 4611686018427387903] 107);refine Zg (v:=.agg #[.int .i64 1073741824,.int .i64 1073741824,.int .i64 1073741824,.int .i64 1073741824,.int .i64 1073741824,.int .i64 4611686018427387903]) ?_ rfl ⟨rfl,Hb⟩;simp[results,Tryz.results51,go_sem,n0,n1,n2,n3,n4,n5]
def Gv (w:World)(j:JV)(e:Ending)(w':World):Prop:= ∃u,e =.returned (.tuple #[u,.nilIface])/\Below w.heap.size w w'/\VW (w.heap.size<= ·) w' u j
theorem j6 (hE:qV w aU aE)(hM:kA w)(hb:Bs w v xs)(h0:0<xs.length)(hl:xs.length<=1000000000)(hp:eU xs=some j) :
  Calls Tryz.prog 30 #[v] w (Gv w j):=by
 have Hf:=Qa (xR w);have H:=Qa (fun (w1:World) (h:Below w.heap.size w w1)=>zh (hE.below h) (hM.below h) (hb.below h) h0 hl hp);clear hE hM hb h0 hl hp;go_enter Tryz.func30,Tryz.ntmps30;go_wp2_with fail;(with_reducible refine Hf.out.mono ?_);rintro e w1 ⟨rfl,a1⟩;have a3:=Qa a1;have Hp:=Qa (H.out w1 a1);clear a1;go_wp2_with fail;(with_reducible refine Hp.out.mono ?_);rintro e w2 ⟨u,a,b,c,d,rfl,a2,hv⟩;obtain⟨tv,xv,rfl⟩:=hv.iface;have a0:=ac w2 (.cells #[.int .i64 a,.int .i64 b,.int .i64 c,.int .i64 d] 103);have HV:=Qa ((hv.later a0).imp (Q:=(w.heap.size<= ·)) fun g hg _=>Zb a3.out.size hg);have HB:=Qa (bt (bt a3.out a2) a0);clear a2 hv a0 Hp;go_wp2_with fail;go_ret2;exact⟨_,rfl,HB.out,HV.out⟩
open Go.Shelf
theorem oP {a:Bool}{x:Int}:Calls Tryz.prog 47 #[.agg #[.bool a,.string s,.int .i64 x]] w fun e w'=>e =.returned (.agg #[.bool a,.string s,.int .i64 x])/\Below w.heap.size w w':=by
 have a0:Below w.heap.size w ((w.alloc (.cells #[.bool a,.string s,.int .i64 x] 66)).alloc (.cells #[.bool a,.string s,.int .i64 x] 125)):=((Zd _ _).alloc (Za _) _).alloc (by simp) _;have a1:=Qa a0;clear a0;go_enter Tryz.func47,Tryz.ntmps47;go_wp2_with fail;have hh:((w.alloc (.cells #[.bool a,.string s,.int .i64 x] 66)).alloc (.cells #[.bool a,.string s,.int .i64 x] 125)).heap[w.heap.size+1]?=some (.cells #[.bool a,.string s,.int .i64 x] 125 (0,0)):=by
  have:=Ze (w.alloc (.cells #[.bool a,.string s,.int .i64 x] 66)) (.cells #[.bool a,.string s,.int .i64 x] 125)
  rwa[World.size_alloc] at this
 exact Zg (results_cell_row Tryz.results47 _ _ (w.heap.size+1) 125 #[.bool a,.string s,.int .i64 x] (0,0) _ (by simp) hh Tryz.underlying125 rfl (by kernel_rfl)) rfl ⟨rfl,a1.out⟩
inductive ob:Int->Bool->ByteArray->Dc->Value->Prop
 |null (t:Bool) (x:ByteArray) (d:Dc):ob 1 t x d (.iface 45 (.agg #[]))
 |bool (t:Bool) (x:ByteArray) (d:Dc):ob 2 t x d (.iface 54 (.bool t))
 |num (t:Bool) (x:ByteArray) (d:Dc):ob 3 t x d (.iface 128 (.agg #[.bool d.neg,.string d.digits,.int .i64 d.exp]))
 |text (t:Bool) (x:ByteArray) (d:Dc):ob 4 t x d (.iface 55 (.string x))
 |hole (t:Bool) (x:ByteArray) (d:Dc):ob 7 t x d (.iface 49 (.agg #[]))
def fa (w:World)(gt a:Nat)(k:Int)(t:Bool)(x:ByteArray)(d:Dc)(vn vk:Value):Prop:= ∀ (j:Nat) (u:Value), [.int .i64 k,.bool t,.string x,.bool d.neg,.string d.digits,.int .i64 d.exp,vn,vk][j]?=some u->w.cell? ⟨gt,a*8+j,none⟩=some u
theorem zr {k:Int}{t:Bool}{x:ByteArray}{nk:Nat}(hc:fa w gt a k t x d (.slice An nn cn) (.slice Ak nk ck))(ha:a<N)(hN:N<=1000000)(hl:ob k t x d u):Calls Tryz.prog 27 #[.slice (some ⟨gt,0,none⟩) N cap,.int .i64 (a:Int)] w fun e w'=>e =.returned u/\Below w.heap.size w w':=by
 have c0:=hc 0 _ rfl;rw[Nat.add_zero] at c0;have c1:=hc 1 _ rfl;have c2:=hc 2 _ rfl;have c3:=hc 3 _ rfl;have c4:=hc 4 _ rfl;have c5:=hc 5 _ rfl;have c6:=hc 6 _ rfl;have c7:=hc 7 _ rfl;have a1:(a:Int)<N:=by omega
 have a0:=Qa (ac w (.cells #[.int .i64 k,.bool t,.string x,.bool d.neg,.string d.digits,.int .i64 d.exp,.slice An nn cn,.slice Ak nk ck] 69));clear hc
 cases hl
 case num=>
  go_enter Tryz.func27,Tryz.ntmps27;go_wp2_with fail;(with_reducible refine oP.mono ?_);rintro e w1 ⟨rfl,hb⟩;have Hb:=Qa (a0.out.trans (hb.mono a0.out.size));clear hb;go_wp2_with fail;go_ret;exact⟨rfl,Hb.out⟩
 all_goals
  go_enter Tryz.func27,Tryz.ntmps27;go_wp2_with fail;go_ret;exact⟨rfl,a0.out⟩
def Eu (w:World)(j:JV)(e:Ending)(w':World):Prop:= ∃u,e =.returned u/\Below w.heap.size w w'/\VW (w.heap.size<= ·) w' u j
theorem yv {old new:Value}{k:JV}(hv:br (VW (fun g=>B<=g/\old.ownBlock≠some g) w) us ks)(hu:VW (fun g=>B<=g/\old.ownBlock≠some g) w u k)(hg:w.grownBy w5 old.ownBlock)(hd:new.ownBlock=old.ownBlock\/new.ownBlock=some w.heap.size) :
  br (VW (fun g=>B<=g/\new.ownBlock≠some g) w5) (us ++ [u]) (ks ++ [k]):=by
 have key:∀u k,VW (fun g=>B<=g/\old.ownBlock≠some g) w u k->VW (fun g=>B<=g/\new.ownBlock≠some g) w5 u k:=fun u k h=>h.stay fun g o ⟨h1,h2⟩ a0 _=>⟨⟨h1,fun e=>by
  rcases hd with hd|hd
  ·rw[hd] at e;exact h2 e
  ·rw[hd] at e;have:=ae a0;injection e with e
   omega⟩,(hg.block g (ae a0) (fun e=>h2 e.symm)).trans a0⟩
 exact(hv.mono key).snoc (key _ _ hu)
def IM (B:Nat)(w2:World)(ks:List JV)(s6 s7:Value)(wr:World):Prop:= ∃ (i:Nat) (A:Option Addr) (c:Nat) (us:List Value),s7 =.int .i64 i/\i<=ks.length/\s6 =.slice A i c/\Below w2.heap.size w2 wr/\wr.ownsRow B 41 1 (.slice A i c) i us/\br (VW (fun g=>B<=g/\(Value.slice A i c).ownBlock≠some g) wr) us (ks.take i)
theorem yP {t:Bool}{x:ByteArray}(hc:fa w gt a 5 t x d (.slice An nn cn) (.slice Ak ks.length ck))(hk:bQ w 0 (.slice Ak ks.length ck) ps)(b7:ps.length=ks.length)(ha:a<N)(hN:N<=1000000)(hl:ks.length<=1000000)
  (H:∀ (i:Nat) (k:JV) (p:Nat),ks[i]?=some k->ps[i]?=some p->∀w1,Below w.heap.size w w1->Calls Tryz.prog 27 #[.slice (some ⟨gt,0,none⟩) N cap,.int .i64 (p:Int)] w1 (Eu w1 k)) :
  Calls Tryz.prog 27 #[.slice (some ⟨gt,0,none⟩) N cap,.int .i64 (a:Int)] w (Eu w (cR ks)):=by
 have c0:=hc 0 _ rfl;rw[Nat.add_zero] at c0;have c1:=hc 1 _ rfl;have c2:=hc 2 _ rfl;have c3:=hc 3 _ rfl;have c4:=hc 4 _ rfl;have c5:=hc 5 _ rfl;have c6:=hc 6 _ rfl;have c7:=hc 7 _ rfl;have d9:(a:Int)<N:=by omega
 have a2:=Qa (ac w (.cells #[.int .i64 5,.bool t,.string x,.bool d.neg,.string d.digits,.int .i64 d.exp,.slice An nn cn,.slice Ak ks.length ck] 69));have a1:=Qa (Ze w (.cells #[.int .i64 5,.bool t,.string x,.bool d.neg,.string d.digits,.int .i64 d.exp,.slice An nn cn,.slice Ak ks.length ck] 69));have Hk:=Qa (bQ.below hk a2.out (Za _));have HH:=Qa H;have c9:=Qa b7;clear hc hk H b7;go_enter Tryz.func27,Tryz.ntmps27;go_wp2_with fail;obtain⟨w2,b4⟩:∃w2,w.alloc (.cells #[.int .i64 5,.bool t,.string x,.bool d.neg,.string d.digits,.int .i64 d.exp,.slice An nn cn,.slice Ak ks.length ck] 69)=w2:=⟨_,rfl⟩;rw[b4] at a2 a1 Hk ⊢;clear b4 c0 c1 c2 c3 c4 c5 c6 c7;have b2:=Qa (show w.heap.size<w2.heap.size from ae a1.out)
 go_loopw [6,7] (fun s6 s7 wr=>IM w2.heap.size w2 ks s6 s7 wr) (fun _ v _=>ks.length - (intOf v).toNat)
 case atStart=>exact⟨0,none,0, [],rfl,Zj _,rfl,Zd _ _,⟨rfl,.inl ⟨rfl,rfl⟩⟩,br.nil _⟩
 case round=>
  obtain⟨i,A,c,us,rfl,hi,rfl,hb,ho,hv⟩:=hrel;have c7:=aa (ai a1.out hb) (j:=7) (u:=.slice Ak ks.length ck) rfl;have Hb:=Qa hb;have Ho:=Qa ho;have Hv:=Qa hv;have b9:=hb.size;clear hb ho hv
  by_cases hlt:i<ks.length
  ·obtain⟨k,a9⟩:∃k,ks[i]?=some k:=⟨_,Zc hlt⟩;obtain⟨p,a7⟩:∃p,ps[i]?=some p:=⟨_,Zc (by rw[c9.out];exact hlt)⟩;have a3:=Hk.out.below Hb.out (Za _);unfold bQ at a3;rw[c9.out] at a3;obtain⟨_,_,e,_,_,hA⟩:=ag a3;obtain⟨gk,rfl⟩:=hA (by omega);obtain⟨e1,-,-⟩:=Value.slice.inj e;subst e1;have ck0:=aD a3 rfl i (by omega);rw[List.getElem?_map,a7] at ck0;simp only[Option.map_some,df] at ck0;have HC:=Qa (HH.out i k p a9 a7 wr (a2.out.trans (Hb.out.mono a2.out.size)));have d2:=Qa a9;have b3:(i:Int)<ks.length:=by omega
   clear a9 a7 a3 e hA;go_wp2_with fail;(with_reducible refine HC.out.mono ?_);rintro e w3 ⟨u,rfl,a6,hu⟩;obtain⟨tv,xv,rfl⟩:=hu.iface;have d1:=a6.size;have d3:=Qa (Hb.out.trans (a6.mono b9));have a0:=a6.alloc d1 (.cells #[.iface tv xv] 41);have a5:=Qa (ao Ho.out a0 (Za _));have d4:=Qa (ap w3 [.iface tv xv] 41);have hob:∀b,(Value.slice A i c).ownBlock=some b->b<wr.heap.size:=fun b hb=>ae (ak Ho.out hb).2.choose_spec
   have d7:=Qa (Hv.out.mono fun _ _ h=>h.later a0);have Hu:=Qa ((hu.later (ac w3 (.cells #[.iface tv xv] 41))).imp (Q:=fun g=>w2.heap.size<=g/\(Value.slice A i c).ownBlock≠some g) fun g hg _=>⟨by omega,fun e=>by have:=hob g e;omega⟩);have a4:=Qa (show w2.heap.size<=(w3.alloc (.cells #[.iface tv xv] 41)).heap.size by simp;omega);have b1:=Qa (d3.out.alloc (by omega) (.cells #[.iface tv xv] 41));clear a6 a0 hu hob;go_wp2_with (at_builtin;refine lH yi a5.out d4.out a4.out ?_;intro v' w5 p1 p2 p3;obtain⟨A5,q5,rfl,-,-,-⟩:=ag p1;have HK:=Qa p1;have HG:=Qa p2;have HD:=Qa p3;clear p1 p2 p3);refine⟨⟨i+1,A5,q5,us ++ [.iface tv xv],by go_num,by omega,rfl,b1.out.grown HG.out a4.out (fun g e=>(ak a5.out e).1),HK.out,?_⟩,by simp[intOf];omega⟩;rw[bU d2.out];exact yv d7.out Hu.out HG.out HD.out
  ·obtain rfl:i=ks.length:=by omega
   have b3:¬ (ks.length:Int)<ks.length:=by omega
   have b5:=Qa (show us.length=ks.length by have:=Hv.out.1;rw[List.take_length] at this;exact this);have b6:br (VW (fun g=>w2.heap.size<=g/\(Value.slice A ks.length c).ownBlock≠some g) wr) us ks:=by have:=Hv.out;rw[List.take_length] at this;exact this
   have d0:=Qa b6;have HN:=Qa (i1 (by have:=Sl.of_own Ho.out (us:=us);exact this) (fun v hv=>by
    obtain⟨j,hj,rfl⟩:=List.getElem_of_mem hv;exact(Hv.out.2 j us[j] ((ks.take ks.length)[j]'(by rw[List.take_length];have:=b5.out;omega)) (Zc hj) (Zc _)).iface) (by have:=b5.out;omega))
   clear hlt b6;go_wp2_with fail;(with_reducible refine HN.out.mono ?_);rintro e w3 ⟨gl,A1,c1,rfl,b0,e0,b8,c8⟩;have d6:=Qa (a2.out.trans ((Hb.out.trans (b0.mono b9)).mono a2.out.size));have d5:=Qa (p9 (Q:=(w.heap.size<= ·)) b8 (c8.stay fun g o hp hg _ _=>⟨by have:=b2.out;omega,hg⟩) (by have:=b2.out;omega) (d0.out.mono fun _ _ h=>(h.later b0).imp fun g hg _=>by have:=b2.out;omega));clear b0 b8 c8;go_wp2_with fail;go_ret;exact⟨_,rfl,d6.out,d5.out⟩
