import Derived.Test.YtafobflehfecpaaGreatDoorGZ15bc
set_option linter.unusedVariables false
set_option linter.unusedSimpArgs false
set_option maxHeartbeats 64000000
set_option maxRecDepth 100000
namespace Go.Proofs.YtafobflehfecpaaGreatDoor
open Go.RowKit
variable {aE aU:Addr}{j:JV}{xs ys:List UInt8}{us:List Value}{base c g gr gt n xb:Nat}{A:Option Addr}{u v v' x:Value}{W w w0:World}
def tY:Array Value:= #[.int .i64 1073741824,.int .i64 1073741824,.int .i64 1073741824,.int .i64 1073741824,.int .i64 1073741824,.int .i64 4611686018427387903]
theorem xA (p q:Value)(w:World):CallsD Tryz.prog 128 #[p,q] .returning w fun e u' w'=>e =.returned (.tuple #[])/\u' =.returning/\w'=w:=by
 refine callsD_of_wpS Tryz.func128 rfl fun c₀ cs hu=>?_
 apply wpS_seq
 apply wpS_region
 simp[wpOpsS,go_sem,recoverD,hu,Tryz.ntmps128,Exit.thenS];apply wpS_seq;apply wpS_region;simp[wpOpsS,go_sem,Exit.thenS];refine wpS_cond (t:=false) (by simp[Act.eval,Array.replicate]) ?_;simp only[Bool.false_eq_true,if_false];refine wpS_of_wp (wp_skip ?_)
 cases c₀
 simp_all [bodyPostS,results,Tryz.results128]
theorem AN {wr:World}{s1 s2:Nat}(hne:s1≠s2)(h1:wr.heap[s1]?=some (.cells #[.int .i64 0,.int .i64 0,.int .i64 0,.int .i64 0] 115 (0,0)))(h2:wr.heap[s2]?=some (.cells #[.nilIface] 30 (0,0)))(a b c d:Value)
  (hW:((((wr.setCell ⟨s1,0,none⟩ a).setCell ⟨s1,1,none⟩ b).setCell ⟨s1,2,none⟩ c).setCell ⟨s1,3,none⟩ d).setCell ⟨s2,0,none⟩ .nilIface=W) :
  W.heap[s1]?=some (.cells #[a,b,c,d] 115 (0,0))/\W.heap[s2]?=some (.cells #[.nilIface] 30 (0,0))/\aM (fun k=>k=s1\/k=s2) wr W:=by
 subst hW;have g1:=ar (ar (ar (ar h1 0 a) 1 b) 2 c) 3 d;have g2:=aq _ s2 s1 3 d _ _ hne.symm (aq _ s2 s1 2 c _ _ hne.symm (aq _ s2 s1 1 b _ _ hne.symm (aq wr s2 s1 0 a _ _ hne.symm h2)));refine⟨aq _ s1 s2 0 .nilIface _ _ hne g1,ar g2 0 .nilIface,?_⟩;exact(((((aM.set s1 0 a).mono fun _ h=>.inl h).trans (aM.set s1 1 b) fun i h=>.inl (.inl h)).trans (aM.set s1 2 c) fun i h=>.inl (.inl h)).trans (aM.set s1 3 d) fun i h=>.inl (.inl h)).trans (aM.set s2 0 _) fun i h=>.inl (.inr h)
def B8 (w0:World)(rb lb xb:Nat)(v:Value)(xs:List UInt8)(j:JV)(m:Nat)(wr:World):Prop:=
 (∃ (f:Nat) (c:ci) (k nd:Nat),m=xs.length - k+1/\kA f c (xs.drop k)=some j/\PS w0.heap.size rb lb xb v xs c k nd false wr/\c.ok eC/\cZ c.frs<=k/\nd<=k/\k<=xs.length/\Below w0.heap.size w0 wr)\/
 (m=0/\∃nd bs,gH w0.heap.size wr rb lb xb v xs [] 7 xs.length nd true/\dV w0.heap.size wr xb [] (some j) bs/\Below w0.heap.size w0 wr)
def FY (w0:World)(xb:Nat)(j:JV)(e:Ending)(w':World):Prop:= ∃a b c d:Int,e =.returned (.tuple #[.agg #[.int .i64 a,.int .i64 b,.int .i64 c,.int .i64 d],.nilIface])/\Below w0.heap.size w0 w'/\∃bs,dV w0.heap.size w' xb [] (some j) bs
theorem xW (hE:pr w0 aU aE)(hM:jx w0)(f6:Below w0.heap.size w0 w)(hb:Bs w v xs)(h0:0<xs.length)(hl:xs.length<=1000000000)(g8:dV w0.heap.size w xb [] none [])(hp:fE xs=some j) :
  Calls Tryz.prog 98 #[v,dc,.func (.func 99) #[.pointer (some ⟨xb,0,none⟩)] #[]] w (FY w0 xb j):=by
 have k1:∀ (fn:Fn) (first cap:Array Value) (w:World),(Instr.makeFunc fn first cap).run Tryz.prog w =.ok (.func fn first cap) w:=fun _ _ _ _=>rfl
 obtain⟨hm,A,cap,rfl,i0,d6⟩:=id hb;have HE:=Qa hE;have HM:=Qa hM;have b2:=Qa f6;have Hb:=Qa hb;have H0:=Qa h0;have Hl:=Qa hl;have i4:=Qa g8;have Hp:=Qa hp;have h5:=Qa (fun w=>ui w);have h7:=Qa (fun w=>rV (m:=1) (x:=(xs.length:Int)) (by omega) (by omega) w);unfold dc at *;have hlen:(xs.length:Int)<=1000000000:=by omega
 clear hE hM f6 hb h0 hl g8 hp d6;have g5:Below w.heap.size w (((w.alloc (.cells #[.int .i64 1073741824,.int .i64 1073741824,.int .i64 1073741824,.int .i64 1073741824,.int .i64 1073741824,.int .i64 4611686018427387903] 119)).alloc (.cells #[.int .i64 0,.int .i64 0,.int .i64 0,.int .i64 0] 115)).alloc (.cells #[.nilIface] 30)):=ak (ak (ac _ _) (ac _ _)) (ac _ _);have g0:(((w.alloc (.cells #[.int .i64 1073741824,.int .i64 1073741824,.int .i64 1073741824,.int .i64 1073741824,.int .i64 1073741824,.int .i64 4611686018427387903] 119)).alloc (.cells #[.int .i64 0,.int .i64 0,.int .i64 0,.int .i64 0] 115)).alloc (.cells #[.nilIface] 30)).heap[w.heap.size]?=some (.cells #[.int .i64 1073741824,.int .i64 1073741824,.int .i64 1073741824,.int .i64 1073741824,.int .i64 1073741824,.int .i64 4611686018427387903] 119 (0,0)):=(Below.heap_alloc _ _ _ (by simp only[World.size_alloc];omega)).trans ((Below.heap_alloc _ _ _ (by simp)).trans (Zf w _));have g1:(((w.alloc (.cells #[.int .i64 1073741824,.int .i64 1073741824,.int .i64 1073741824,.int .i64 1073741824,.int .i64 1073741824,.int .i64 4611686018427387903] 119)).alloc (.cells #[.int .i64 0,.int .i64 0,.int .i64 0,.int .i64 0] 115)).alloc (.cells #[.nilIface] 30)).heap[w.heap.size+1]?=some (.cells #[.int .i64 0,.int .i64 0,.int .i64 0,.int .i64 0] 115 (0,0)):=by
  have:=Zf (w.alloc (.cells #[.int .i64 1073741824,.int .i64 1073741824,.int .i64 1073741824,.int .i64 1073741824,.int .i64 1073741824,.int .i64 4611686018427387903] 119)) (.cells #[.int .i64 0,.int .i64 0,.int .i64 0,.int .i64 0] 115);rw[World.size_alloc] at this;exact(Below.heap_alloc _ _ _ (by simp)).trans this
 have g2:(((w.alloc (.cells #[.int .i64 1073741824,.int .i64 1073741824,.int .i64 1073741824,.int .i64 1073741824,.int .i64 1073741824,.int .i64 4611686018427387903] 119)).alloc (.cells #[.int .i64 0,.int .i64 0,.int .i64 0,.int .i64 0] 115)).alloc (.cells #[.nilIface] 30)).heap[w.heap.size+1+1]?=some (.cells #[.nilIface] 30 (0,0)):=by
  have:=Zf ((w.alloc (.cells #[.int .i64 1073741824,.int .i64 1073741824,.int .i64 1073741824,.int .i64 1073741824,.int .i64 1073741824,.int .i64 4611686018427387903] 119)).alloc (.cells #[.int .i64 0,.int .i64 0,.int .i64 0,.int .i64 0] 115)) (.cells #[.nilIface] 30)
  rwa[World.size_alloc,World.size_alloc] at this
 have i9:=Qa g5;have G0:=Qa g0;have G1:=Qa g1;have G2:=Qa g2;clear g5 g0 g1 g2;go_enter_defers Tryz.func98,Tryz.ntmps98;go_wp2_with fail;generalize ((w.alloc (.cells #[.int .i64 1073741824,.int .i64 1073741824,.int .i64 1073741824,.int .i64 1073741824,.int .i64 1073741824,.int .i64 4611686018427387903] 119)).alloc (.cells #[.int .i64 0,.int .i64 0,.int .i64 0,.int .i64 0] 115)).alloc (.cells #[.nilIface] 30)=w1 at *;refine(h5.out _).mono ?_;rintro e w2 ⟨rfl,f1⟩;have l0:=ah G0.out f1;have c0:=aa l0 (j:=0) (u:=.int .i64 1073741824) rfl;have c1:=aa l0 (j:=1) (u:=.int .i64 1073741824) rfl;have c2:=aa l0 (j:=2) (u:=.int .i64 1073741824) rfl;have c3:=aa l0 (j:=3) (u:=.int .i64 1073741824) rfl;have c4:=aa l0 (j:=4) (u:=.int .i64 1073741824) rfl;have c5:=aa l0 (j:=5) (u:=.int .i64 4611686018427387903) rfl;have e5:=Qa f1;clear l0 f1;go_wp2_with fail;refine(h7.out _).mono ?_;rintro e w3 ⟨rfl,c6⟩;have i3:=Qa (ak (ak i9.out e5.out) c6);have L0:=Qa (ah (ah G0.out e5.out) c6);have L1:=Qa (ah (ah G1.out e5.out) c6);have L2:=Qa (ah (ah G2.out e5.out) c6);clear c0 c1 c2 c3 c4 c5 c6;go_wp2_with fail;obtain⟨wr,e2⟩:∃wr,w3.drew=wr:=⟨_,rfl⟩;have e1:Below w3.heap.size w3 wr:=by rw[<-e2];exact(Ze _ _).drew
 have b3:=Qa (ak i3.out e1);have f5:=ah L0.out e1;have d9:∀ (w':World),w'.heap[w.heap.size]?=some (.cells #[.int .i64 1073741824,.int .i64 1073741824,.int .i64 1073741824,.int .i64 1073741824,.int .i64 1073741824,.int .i64 4611686018427387903] 119 (0,0))->w'.cell? ⟨w.heap.size,0,none⟩=some (.int .i64 1073741824)/\w'.cell? ⟨w.heap.size,1,none⟩=some (.int .i64 1073741824)/\w'.cell? ⟨w.heap.size,2,none⟩=some (.int .i64 1073741824)/\w'.cell? ⟨w.heap.size,3,none⟩=some (.int .i64 1073741824)/\w'.cell? ⟨w.heap.size,4,none⟩=some (.int .i64 1073741824)/\w'.cell? ⟨w.heap.size,5,none⟩=some (.int .i64 4611686018427387903):=fun _ h=>
  ⟨aa h (j:=0) rfl,aa h (j:=1) rfl,aa h (j:=2) rfl,aa h (j:=3) rfl,aa h (j:=4) rfl,aa h (j:=5) rfl⟩
 have a4:=Qa d9;have e4:=Qa f5;have b4:=Qa (uM (w:=wr) (Hb.out.below b3.out) H0.out (by have:=Hl.out;omega));have R1:=Qa (ah L1.out e1);have R2:=Qa (ah L2.out e1);clear e1 f5 d9;refine bm (fun w2=>w2.cell? ⟨w.heap.size,0,none⟩=some (.int .i64 1073741824)/\w2.cell? ⟨w.heap.size,1,none⟩=some (.int .i64 1073741824)/\w2.cell? ⟨w.heap.size,2,none⟩=some (.int .i64 1073741824)/\w2.cell? ⟨w.heap.size,3,none⟩=some (.int .i64 1073741824)/\w2.cell? ⟨w.heap.size,4,none⟩=some (.int .i64 1073741824)/\w2.cell? ⟨w.heap.size,5,none⟩=some (.int .i64 4611686018427387903)) ((by rw[e2];exact a4.out _ e4.out)) fun a1=>?_
 refine tH 0 a1 ?_;refine tH 2 a1 ?_;refine tH 3 a1 ?_;refine tH 4 a1 ?_;refine tH 5 a1 ?_;refine tH 6 a1 ?_
 try simp only[Act.put,jP,jQ,jR]
 refine rH 1 fun K hK=>?_
 go_simp;(try rw[e2]);refine Za b4 ?_;rintro e w5 ⟨lb,u,rfl,h4,h6,g6,b9⟩;have b1:=Qa h6;have i5:=Qa h4;have i2:=Qa g6;have f2:=Qa b9;clear h6 h4 g6 b9;go_wp2_with fail;refine hK.out _ _ (a4.out _ (ah e4.out b1.out)) (fun a1=>?_);clear hK K
 try simp only[Act.put,jP,jQ,jR]
 refine tH 7 a1 ?_
 try simp only[Act.put,jP,jQ,jR]
 refine rH 8 fun K hK=>?_
 go_simp;refine hK.out _ _ (a4.out _ (ah (ah e4.out b1.out) (ac _ _))) (fun a1=>?_);clear hK K
 try simp only[Act.put,jP,jQ,jR]
 refine tH 9 a1 ?_
 try simp only[Act.put,jP,jQ,jR]
 refine wpAnyH_done (by kernel_rfl) (NoPanic.normal ?_) _;clear a1 e2;have e3:Below w0.heap.size w0 w5:=(b2.out.trans (b3.out.mono b2.out.size)).trans (b1.out.mono (Zc b2.out.size b3.out.size));have a0:=ac w5 (.cells (cv lb xb xs.length 0 0 0 (.slice none 0 0) (.slice none 0 0) 0 false) 225);have a9:=Zf w5 (.cells (cv lb xb xs.length 0 0 0 (.slice none 0 0) (.slice none 0 0) 0 false) 225);have f9:fp w0.heap.size (w5.alloc (.cells (cv lb xb xs.length 0 0 0 (.slice none 0 0) (.slice none 0 0) 0 false) 225)) w5.heap.size lb xb u xs [] 0 0 0 false xs.length 0 0 (.slice none 0 0) (.slice none 0 0) []:=
  ⟨a9,e3.size,i5.out.below a0,Zc (Zc b2.out.size b3.out.size) i2.out,ai (bp f2.out (Zc b2.out.size b3.out.size)) a0 (Zb _),⟨rfl,.inl ⟨rfl,rfl⟩⟩,⟨rfl,.inl ⟨rfl,rfl⟩⟩,cd.nil _,List.nodup_nil,Zj _⟩
 have b8:=(i4.out.below (ak b3.out b1.out)).below a0;have Hrel:=Qa (show B8 w0 w5.heap.size lb xb u xs j (xs.length+1) (w5.alloc (.cells (cv lb xb xs.length 0 0 0 (.slice none 0 0) (.slice none 0 0) 0 false) 225)) from
  .inl ⟨xs.length+1,⟨[],0,none⟩,0,0,rfl,Hp.out,⟨f9.s, [],b8⟩,ci.ok.start eC,Zb _,Zb _,Zj _,e3.trans (a0.mono e3.size)⟩)
 have Q1:=Qa (ah (ah R1.out b1.out) a0);have Q2:=Qa (ah (ah R2.out b1.out) a0);unfold cv at Hrel Q1 Q2;clear f9 b8 a9 a0 e3 b4 e4 a4 R1 R2 L0 L1 L2 G0 G1 G2 h5 h7;go_wp2_with fail
 go_loopg [] (xs.length+1) (fun m wr=>B8 w0 w5.heap.size lb xb u xs j m wr/\wr.heap[w.heap.size+1]?=some (.cells #[.int .i64 0,.int .i64 0,.int .i64 0,.int .i64 0] 115 (0,0))/\wr.heap[w.heap.size+1+1]?=some (.cells #[.nilIface] 30 (0,0)))
 case atStart=>exact⟨Hrel.out,Q1.out,Q2.out⟩
 case round=>
  obtain⟨hrel,q1,q2⟩:=hrel;have HQ1:=Qa q1;have HQ2:=Qa q2;clear Hrel Q1 Q2 q1 q2;rcases hrel with ⟨f,c,k,nd,hm,hrun,b0,b5,g4,f4,hk,a3⟩|⟨j0,nd,bs,hR,e0,a3⟩
  ·obtain⟨by9,dp9,ex9,ov9,nv9,maps9,a2⟩:=id b0.1;have c15:=aa a2.row (j:=15) (u:=.bool false) rfl;have k0:=Qa b0;have Hm:=Qa hm;have Hbl:=Qa a3
   cases f with
   |zero=>cases hrun
   |succ f=>
    unfold kA at hrun
    cases hdw:(xs.drop k).dropWhile bQ with
    |nil=>
     rw[hdw] at hrun;simp only at hrun
     split at hrun
     case isFalse=>cases hrun
     rename_i hw7
     obtain⟨frs,want,done⟩:=c;simp only at hw7 hrun;subst hw7 hrun;have h9:frs = []:=b5.want.1;subst h9;obtain⟨bs9,f7⟩:=b0.2;have e6:=Qa (BH (HE.out.below a3) b0.1 f7 Hl.out a3.size hdw);clear b0 b5 g4 f4 hk a3 hm a2 f7 hdw;go_wp2_with fail;refine Za e6 ?_;rintro e w7 ⟨rfl,h1,h2,h3⟩;have R:=Qa (And.intro h1 (And.intro h2 h3));clear h1 h2 h3 c15;go_wp2_with fail;go_roundg 0
     case measure=>have:=Hm.out;omega
     case rel=>exact⟨.inr ⟨rfl,nd,bs9,R.out.2.1,R.out.2.2,Hbl.out.trans R.out.1.b⟩,R.out.1.k.2 _ _ _ _ HQ1.out (by simp only[TA,TB,TV,j1];decide),R.out.1.k.2 _ _ _ _ HQ2.out (by simp only[TA,TB,TV,j1];decide)⟩
    |cons y ys=>
     rw[hdw] at hrun;simp only at hrun
     cases hlx:cj (y::ys) with
     |none=>rw[hlx] at hrun;cases hrun
     |some tn=>
      obtain⟨t,n⟩:=tn;rw[hlx] at hrun;simp only at hrun
      cases hsb:cC c t with
      |none=>rw[hsb] at hrun;cases hrun
      |some c'=>
       rw[hsb] at hrun;simp only at hrun;have g3:=lW hlx;have hin:(y::ys).length<=xs.length - k:=by
        have h1:=db (xs.drop k);rw[hdw,List.length_drop] at h1;exact h1
       rw[List.length_cons] at g3 hin;have a5:xs.drop (xs.length - (ys.length+1))=y::ys:=by
        have h1:=oe (xs.drop k);rw[hdw,List.drop_drop] at h1;have h2:=congrArg List.length h1;rw[List.length_drop,List.length_cons] at h2;rw[<-h1]
        congr 1
        omega
       have e6:=Qa (Ac (⟨HE.out,HM.out,b0,b5,by have:=Hl.out;omega,by have:=Hl.out;omega,Hl.out,a3⟩:fX w0 w5.heap.size lb xb u xs c k nd wr aU aE) hdw hlx hsb);have Hrun:=Qa (show kA f c' (xs.drop (xs.length - (ys.length+1)+n))=some j by rw[<-List.drop_drop,a5];exact hrun);have Hok:=Qa (CQ b5 (Dq (by rw[List.length_cons];have:=Hl.out;omega) hlx) hsb);have Hcn:=Qa (show cZ c'.frs<=xs.length - (ys.length+1)+n/\nd+1<=xs.length - (ys.length+1)+n/\xs.length - (ys.length+1)+n<=xs.length/\k<xs.length - (ys.length+1)+n by have:=zW hsb;omega);clear b0 b5 g4 f4 hk a3 hm a2 hdw hlx hsb hrun g3 hin a5;go_wp2_with fail;refine Za e6 ?_;rintro e w7 ⟨nd',f8,rfl,h1,h2⟩;have R:=Qa (And.intro f8 (And.intro h1 h2));clear f8 h1 h2 c15;go_wp2_with fail;go_roundg (xs.length - (xs.length - (ys.length+1)+n)+1)
       case measure=>have:=Hm.out;have:=Hcn.out;omega
       case rel=>exact⟨.inl ⟨f,c',_,nd',rfl,Hrun.out,R.out.2.2,Hok.out,Hcn.out.1,Zc R.out.1 Hcn.out.2.1,Hcn.out.2.2.1,Hbl.out.trans R.out.2.1.b⟩,R.out.2.1.k.2 _ _ _ _ HQ1.out (by simp only[TA,TB,TV,j1];decide),R.out.2.1.k.2 _ _ _ _ HQ2.out (by simp only[TA,TB,TV,j1];decide)⟩
  ·obtain⟨by9,dp9,ex9,ov9,nv9,maps9,a2⟩:=id hR;have c15:=aa a2.row (j:=15) (u:=.bool true) rfl;have c7:=aa a2.row (j:=7) (u:=.int .i64 by9) rfl;have c8:=aa a2.row (j:=8) (u:=.int .i64 dp9) rfl;have c9:=aa a2.row (j:=9) (u:=.int .i64 nd) rfl;have c10:=aa a2.row (j:=10) (u:=.int .i64 ex9) rfl;have i8:=Qa e0;have Hbl:=Qa a3;have r0:=aa HQ1.out (j:=0) rfl;have r1:=aa HQ1.out (j:=1) rfl;have r2:=aa HQ1.out (j:=2) rfl;have r3:=aa HQ1.out (j:=3) rfl;have r4:=aa HQ2.out (j:=0) rfl;have z0:=aj HQ1.out 0;have z1:=aj HQ1.out 1;have z2:=aj HQ1.out 2;have z3:=aj HQ1.out 3;have z4:=aj HQ2.out 0;clear j0 hR e0 a3 a2;go_wp2_with fail;obtain⟨W,hW⟩:∃W,((((wr.setCell ⟨w.heap.size+1,0,none⟩ (.int .i64 by9)).setCell ⟨w.heap.size+1,1,none⟩ (.int .i64 dp9)).setCell ⟨w.heap.size+1,2,none⟩ (.int .i64 nd)).setCell ⟨w.heap.size+1,3,none⟩ (.int .i64 ex9)).setCell ⟨w.heap.size+1+1,0,none⟩ .nilIface=W:=⟨_,rfl⟩;rw[hW];obtain⟨g1,g2,f0⟩:=AN (by omega) HQ1.out HQ2.out _ _ _ _ hW;have d0:=aa g1 (j:=0) (u:=.int .i64 by9) rfl;have d1:=aa g1 (j:=1) (u:=.int .i64 dp9) rfl;have d2:=aa g1 (j:=2) (u:=.int .i64 nd) rfl;have d3:=aa g1 (j:=3) (u:=.int .i64 ex9) rfl;have d4:=aa g2 (j:=0) (u:=.nilIface) rfl;have g7:Kp (fun e=>e=115\/e=30) wr W:=Kp.of_chg f0 fun g hg _=>by
    rcases hg with rfl|rfl
    ·exact⟨_,_,_,HQ1.out,.inl rfl⟩
    ·exact⟨_,_,_,HQ2.out,.inr rfl⟩
   have h8:=i8.out.kp g7 fun e he=>by rcases he with (rfl|rfl|rfl|rfl)|rfl|rfl <;> decide
   have d5:Below w0.heap.size w0 W:=Hbl.out.trans (f0.below Hbl.out.size fun i hi=>by have:=b2.out.size;rcases hi with rfl|rfl <;> omega);have f3:FY w0 xb j (.returned (.tuple #[.agg #[.int .i64 by9,.int .i64 dp9,.int .i64 nd,.int .i64 ex9],.nilIface])) W:=⟨_,_,_,_,rfl,d5,bs,h8⟩;clear hW f0 g7 h8 d5 r0 r1 r2 r3 r4 z0 z1 z2 z3 z4 c7 c8 c9 c10 c15;refine leaves_cons (f:=128) (args:= #[.pointer (some ⟨w.heap.size+1,0,none⟩),.pointer (some ⟨w.heap.size+1+1,0,none⟩)]) (by simp) (by simp[go_sem]) ?_;refine(xA _ _ _).mono ?_;rintro e u' w'' ⟨rfl,rfl,rfl⟩;simp[Leaves,settle,results,Tryz.results98,go_sem,d0,d1,d2,d3,d4];exact f3
def Gv (w:World)(j:JV)(e:Ending)(w':World):Prop:= ∃ (u:Value) (a b c d:Int),e =.returned (.tuple #[u,.agg #[.int .i64 a,.int .i64 b,.int .i64 c,.int .i64 d],.nilIface])/\Below w.heap.size w w'/\VW (w.heap.size<= ·) w' u j
theorem mV (hE:pr w aU aE)(hM:jx w)(hb:Bs w v xs)(h0:0<xs.length)(hl:xs.length<=1000000000)(hp:fE xs=some j) :
  Calls Tryz.prog 61 #[v,dc] w (Gv w j):=by
 have f3:∀ (fn:Fn) (first cap:Array Value) (w:World),(Instr.makeFunc fn first cap).run Tryz.prog w =.ok (.func fn first cap) w:=fun _ _ _ _=>rfl
 have a9:Below w.heap.size w ((w.alloc (.cells tY 119)).alloc (.cells #[.int .i64 0,.int .i64 0,.int .i64 0,.int .i64 0] 115)):=ak (ac _ _) (ac _ _);have g0:((w.alloc (.cells tY 119)).alloc (.cells #[.int .i64 0,.int .i64 0,.int .i64 0,.int .i64 0] 115)).heap[w.heap.size]?=some (.cells tY 119 (0,0)):=(Below.heap_alloc _ _ _ (by simp)).trans (Zf w _);have g1:((w.alloc (.cells tY 119)).alloc (.cells #[.int .i64 0,.int .i64 0,.int .i64 0,.int .i64 0] 115)).heap[w.heap.size+1]?=some (.cells #[.int .i64 0,.int .i64 0,.int .i64 0,.int .i64 0] 115 (0,0)):=by
  have:=Zf (w.alloc (.cells tY 119)) (.cells #[.int .i64 0,.int .i64 0,.int .i64 0,.int .i64 0] 115)
  rwa[World.size_alloc] at this
 have hz:((w.alloc (.cells tY 119)).alloc (.cells #[.int .i64 0,.int .i64 0,.int .i64 0,.int .i64 0] 115)).heap.size=w.heap.size+1+1:=by simp
 unfold tY at a9 g0 g1 hz;have H2:=Qa a9;have G0:=Qa g0;have G1:=Qa g1;have Hz:=Qa hz;have HE:=Qa (hE.below a9);have HM:=Qa (hM.below a9);have Hb:=Qa (hb.below a9);have H0:=Qa h0;have Hl:=Qa hl;have Hp:=Qa hp;have f1:=hE;unfold dc;clear a9 g0 g1 hz hE hM hb h0 hl hp f1;go_enter Tryz.func61,Tryz.ntmps61;go_wp2_with fail;generalize ((w.alloc (.cells #[.int .i64 1073741824,.int .i64 1073741824,.int .i64 1073741824,.int .i64 1073741824,.int .i64 1073741824,.int .i64 4611686018427387903] 119)).alloc (.cells #[.int .i64 0,.int .i64 0,.int .i64 0,.int .i64 0] 115))=w1 at *;rw[<-Hz.out];have a5:=ac w1 (.cells #[.slice none 0 0,.nilIface] 180);have a3:=Zf w1 (.cells #[.slice none 0 0,.nilIface] 180);have b2:dV w1.heap.size (w1.alloc (.cells #[.slice none 0 0,.nilIface] 180)) w1.heap.size [] none []:=⟨.slice none 0 0,.nilIface, [],a3,Zb _,⟨rfl,.inl ⟨rfl,rfl⟩⟩,cd.nil _,rfl,List.nodup_nil,rfl⟩;have c3:=Qa (xW HE.out HM.out a5 (Hb.out.below a5) H0.out Hl.out b2 Hp.out);unfold dc at c3;clear a5 a3 b2;refine Za c3 ?_;rintro e w3 ⟨a,b,c,d,rfl,b9,bs,pv,dv,us,b5⟩;have c2:VW (Pb w1.heap.size bs) w3 dv j:=b5.done;obtain⟨tv,xv,e6⟩:=c2.iface;subst e6;have a0:=ac w3 (.cells #[.int .i64 a,.int .i64 b,.int .i64 c,.int .i64 d] 115);obtain⟨w4,c6⟩:∃w4,w3.alloc (.cells #[.int .i64 a,.int .i64 b,.int .i64 c,.int .i64 d] 115)=w4:=⟨_,rfl⟩;have c5:=Zf w3 (.cells #[.int .i64 a,.int .i64 b,.int .i64 c,.int .i64 d] 115);rw[c6] at a0 c5;have d6:=Qa (c2.later a0);have e3:=Qa (ah b5.row a0);have e5:=Qa c5;have d4:w3.heap[w.heap.size+1]?=some (.cells #[.int .i64 0,.int .i64 0,.int .i64 0,.int .i64 0] 115 (0,0)):=(b9.block _ (ag G1.out)).trans G1.out;have e0:=Qa (ah d4 a0);have d5:=Qa (show Below w1.heap.size w1 w4 from b9.trans (a0.mono b9.size));have f0:=Qa c6;have hlt:w1.heap.size<w3.heap.size:=ag b5.row;have e4:=Qa hlt;clear b9 b5 c2 a0 c5 d4 c6 hlt c3;go_wp2_with fail
 try rw[f0.out]
 obtain⟨wr,c0⟩:∃wr,w4.drew=wr:=⟨_,rfl⟩;have b0:Below w4.heap.size w4 wr:=by rw[<-c0];exact(Ze _ _).drew
 have f2:=Qa (d6.out.later b0);have hX:=ah e3.out b0;have hN:=ah e5.out b0;have hG:=ah e0.out b0;have e2:=Qa hX;have b8:=Qa hN;have c9:=Qa hG;have c8:=Qa (d5.out.trans (b0.mono d5.out.size));have z0:=aj hG 0;have z1:=aj hG 1;have z2:=aj hG 2;have z3:=aj hG 3;have y0:=aa hG (j:=0) (u:=.int .i64 0) rfl;have y1:=aa hG (j:=1) (u:=.int .i64 0) rfl;have y2:=aa hG (j:=2) (u:=.int .i64 0) rfl;have y3:=aa hG (j:=3) (u:=.int .i64 0) rfl;have b1:w.heap.size+1≠w1.heap.size:=by have:=Hz.out;omega
 have b4:w.heap.size+1≠w3.heap.size:=by have:=Hz.out;have:=e4.out;omega
 have c1:=Qa b1;have a1:=Qa b4;clear b0 hX hN hG b1 b4;have hS:wr.cell? ⟨w1.heap.size,1,none⟩=some (.iface tv xv)/\wr.cell? ⟨w3.heap.size,0,none⟩=some (.int .i64 a)/\wr.cell? ⟨w3.heap.size,1,none⟩=some (.int .i64 b)/\wr.cell? ⟨w3.heap.size,2,none⟩=some (.int .i64 c)/\wr.cell? ⟨w3.heap.size,3,none⟩=some (.int .i64 d):=
  ⟨aa e2.out (j:=1) rfl,aa b8.out (j:=0) rfl,aa b8.out (j:=1) rfl,aa b8.out (j:=2) rfl,aa b8.out (j:=3) rfl⟩
 have HS:=Qa hS;clear hS;have b3:∀ (W:World) (i:Nat) (x:Value),(W.cell? ⟨w1.heap.size,1,none⟩=some (.iface tv xv)/\W.cell? ⟨w3.heap.size,0,none⟩=some (.int .i64 a)/\W.cell? ⟨w3.heap.size,1,none⟩=some (.int .i64 b)/\W.cell? ⟨w3.heap.size,2,none⟩=some (.int .i64 c)/\W.cell? ⟨w3.heap.size,3,none⟩=some (.int .i64 d))->
   ((W.setCell ⟨w.heap.size+1,i,none⟩ x).cell? ⟨w1.heap.size,1,none⟩=some (.iface tv xv)/\(W.setCell ⟨w.heap.size+1,i,none⟩ x).cell? ⟨w3.heap.size,0,none⟩=some (.int .i64 a)/\(W.setCell ⟨w.heap.size+1,i,none⟩ x).cell? ⟨w3.heap.size,1,none⟩=some (.int .i64 b)/\(W.setCell ⟨w.heap.size+1,i,none⟩ x).cell? ⟨w3.heap.size,2,none⟩=some (.int .i64 c)/\(W.setCell ⟨w.heap.size+1,i,none⟩ x).cell? ⟨w3.heap.size,3,none⟩=some (.int .i64 d)):=fun W i x ⟨h1,h2,h3,h4,h5⟩=>
  ⟨(World.cell?_setCell_far _ _ _ _ c1.out).trans h1,(World.cell?_setCell_far _ _ _ _ a1.out).trans h2,(World.cell?_setCell_far _ _ _ _ a1.out).trans h3,(World.cell?_setCell_far _ _ _ _ a1.out).trans h4,(World.cell?_setCell_far _ _ _ _ a1.out).trans h5⟩
 have a2:=Qa b3;clear b3;refine bm (fun w2=>w2.cell? ⟨w1.heap.size,1,none⟩=some (.iface tv xv)/\w2.cell? ⟨w3.heap.size,0,none⟩=some (.int .i64 a)/\w2.cell? ⟨w3.heap.size,1,none⟩=some (.int .i64 b)/\w2.cell? ⟨w3.heap.size,2,none⟩=some (.int .i64 c)/\w2.cell? ⟨w3.heap.size,3,none⟩=some (.int .i64 d)) ((by rw[c0];exact HS.out)) fun a4=>?_
 refine tH 0 a4 ?_;refine tH 1 a4 ?_;refine tH 2 a4 ?_;refine tH 3 a4 ?_
 try simp only[Act.put,jP,jQ,jR]
 refine rH 4 fun K hK=>?_
 (try rw[c0] at a4 ⊢);go_simp;refine hK.out _ _ (a2.out _ _ _ (a2.out _ _ _ (a2.out _ _ _ (a2.out _ _ _ HS.out)))) (fun a4=>?_);clear hK K
 try simp only[Act.put,jP,jQ,jR]
 refine tH 5 a4 ?_
 try simp only[Act.put,jP,jQ,jR]
 refine wpAnyH_done (by kernel_rfl) (NoPanic.normal ?_) _;clear y0 y1 y2 y3 z0 z1 z2 z3
 try clear a4
 go_wp2_with fail;obtain⟨W,hW⟩:∃W,(((wr.setCell ⟨w.heap.size+1,0,none⟩ (.int .i64 a)).setCell ⟨w.heap.size+1,1,none⟩ (.int .i64 b)).setCell ⟨w.heap.size+1,2,none⟩ (.int .i64 c)).setCell ⟨w.heap.size+1,3,none⟩ (.int .i64 d)=W:=⟨_,rfl⟩;rw[hW];have g:=ar (ar (ar (ar c9.out 0 (.int .i64 a)) 1 (.int .i64 b)) 2 (.int .i64 c)) 3 (.int .i64 d);rw[hW] at g;have c7:aM (fun k=>k=w.heap.size+1) wr W:=by
  rw[<-hW];exact((((aM.set _ 0 _).trans (aM.set _ 1 _) fun i h=>.inl h).trans (aM.set _ 2 _) fun i h=>.inl h).trans (aM.set _ 3 _) fun i h=>.inl h)
 have d0:=aa g (j:=0) (u:=.int .i64 a) rfl;have d1:=aa g (j:=1) (u:=.int .i64 b) rfl;have d2:=aa g (j:=2) (u:=.int .i64 c) rfl;have d3:=aa g (j:=3) (u:=.int .i64 d) rfl;have d9:Kp (fun e=>e=115) wr W:=Kp.of_chg c7 fun g hg _=>by subst hg;exact⟨_,_,_,c9.out,rfl⟩
 have e1:=(f2.out.keeps d9.keeps (fun e he=>by rcases he with rfl|rfl|rfl|rfl <;> decide)).imp (Q:=(w.heap.size<= ·)) (fun g hg _=>Zc H2.out.size hg.1);have c4:Below w.heap.size w W:=(H2.out.trans (c8.out.mono H2.out.size)).trans (c7.below (by have:=H2.out.size;have:=c8.out.size;omega) fun i hi=>by rw[hi];omega);refine Zh (v:=.tuple #[.iface tv xv,.agg #[.int .i64 a,.int .i64 b,.int .i64 c,.int .i64 d],.nilIface]) ?_ rfl ⟨_,_,_,_,_,rfl,c4,e1⟩;simp[results,Tryz.results61,go_sem,d0,d1,d2,d3]
theorem AL (w:World):Calls Tryz.prog 86 #[] w fun e w'=>e =.returned dc/\Below w.heap.size w w':=by
 unfold dc;go_enter Tryz.func86,Tryz.ntmps86;go_wp2_with fail;have hn:=Zf w (.cells #[.int .i64 1073741824,.int .i64 1073741824,.int .i64 1073741824,.int .i64 1073741824,.int .i64 1073741824,.int .i64 4611686018427387903] 119);have n0:=aa hn (j:=0) rfl;have n1:=aa hn (j:=1) rfl;have n2:=aa hn (j:=2) rfl;have n3:=aa hn (j:=3) rfl;have n4:=aa hn (j:=4) rfl;have n5:=aa hn (j:=5) rfl;have Hb:=ac w (.cells #[.int .i64 1073741824,.int .i64 1073741824,.int .i64 1073741824,.int .i64 1073741824,.int .i64 1073741824,.int .i64 4611686018427387903] 119);refine Zh (v:=.agg #[.int .i64 1073741824,.int .i64 1073741824,.int .i64 1073741824,.int .i64 1073741824,.int .i64 1073741824,.int .i64 4611686018427387903]) ?_ rfl ⟨rfl,Hb⟩;simp[results,Tryz.results86,go_sem,n0,n1,n2,n3,n4,n5]
theorem tg (w:World):Calls Tryz.prog 62 #[] w fun e w'=>e =.returned dc/\Below w.heap.size w w':=by
 unfold dc;go_enter Tryz.func62,Tryz.ntmps62;go_wp2_with fail;have hn:=Zf w (.cells #[.int .i64 1073741824,.int .i64 1073741824,.int .i64 1073741824,.int .i64 1073741824,.int .i64 1073741824,.int .i64 4611686018427387903] 119);have n0:=aa hn (j:=0) rfl;have n1:=aa hn (j:=1) rfl;have n2:=aa hn (j:=2) rfl;have n3:=aa hn (j:=3) rfl;have n4:=aa hn (j:=4) rfl;have n5:=aa hn (j:=5) rfl;have Hb:=ac w (.cells #[.int .i64 1073741824,.int .i64 1073741824,.int .i64 1073741824,.int .i64 1073741824,.int .i64 1073741824,.int .i64 4611686018427387903] 119);refine Zh (v:=.agg #[.int .i64 1073741824,.int .i64 1073741824,.int .i64 1073741824,.int .i64 1073741824,.int .i64 1073741824,.int .i64 4611686018427387903]) ?_ rfl ⟨rfl,Hb⟩;simp[results,Tryz.results62,go_sem,n0,n1,n2,n3,n4,n5]
def DY (w:World)(j:JV)(e:Ending)(w':World):Prop:= ∃u,e =.returned (.tuple #[u,.nilIface])/\Below w.heap.size w w'/\VW (w.heap.size<= ·) w' u j
theorem xU (hE:pr w aU aE)(hM:jx w)(hb:Bs w v xs)(h0:0<xs.length)(hl:xs.length<=1000000000)(hp:fE xs=some j) :
  Calls Tryz.prog 52 #[v] w (DY w j):=by
 have Hf:=Qa (AL w);have H:=Qa (fun (w1:World) (h:Below w.heap.size w w1)=>mV (hE.below h) (hM.below h) (hb.below h) h0 hl hp);clear hE hM hb h0 hl hp;go_enter Tryz.func52,Tryz.ntmps52;go_wp2_with fail;refine Za Hf ?_;rintro e w1 ⟨rfl,a0⟩;have a3:=Qa a0;have Hp:=Qa (H.out w1 a0);clear a0;go_wp2_with fail;refine Za Hp ?_;rintro e w2 ⟨u,a,b,c,d,rfl,a2,hv⟩;obtain⟨tv,xv,rfl⟩:=hv.iface;have a1:=ac w2 (.cells #[.int .i64 a,.int .i64 b,.int .i64 c,.int .i64 d] 115);have HV:=Qa ((hv.later a1).imp (Q:=(w.heap.size<= ·)) fun g hg _=>Zc a3.out.size hg);have HB:=Qa (ak (ak a3.out a2) a1);clear a2 hv a1 Hp;go_wp2_with fail;go_ret2;exact⟨_,rfl,HB.out,HV.out⟩
theorem ub (hE:pr w aU aE)(hM:jx w)(hb:Bs w v xs)(h0:0<xs.length)(hl:xs.length<=1000000000)(hp:fE xs=some j) :
  Calls Tryz.prog 28 #[v] w (DY w j):=by
 have Hf:=Qa (tg w);have H:=Qa (fun (w1:World) (h:Below w.heap.size w w1)=>mV (hE.below h) (hM.below h) (hb.below h) h0 hl hp);clear hE hM hb h0 hl hp;go_enter Tryz.func28,Tryz.ntmps28;go_wp2_with fail;refine Za Hf ?_;rintro e w1 ⟨rfl,a0⟩;have a3:=Qa a0;have Hp:=Qa (H.out w1 a0);clear a0;go_wp2_with fail;refine Za Hp ?_;rintro e w2 ⟨u,a,b,c,d,rfl,a2,hv⟩;obtain⟨tv,xv,rfl⟩:=hv.iface;have a1:=ac w2 (.cells #[.int .i64 a,.int .i64 b,.int .i64 c,.int .i64 d] 115);have HV:=Qa ((hv.later a1).imp (Q:=(w.heap.size<= ·)) fun g hg _=>Zc a3.out.size hg);have HB:=Qa (ak (ak a3.out a2) a1);clear a2 hv a1 Hp;go_wp2_with fail;go_ret2;exact⟨_,rfl,HB.out,HV.out⟩
open Go.Shelf
theorem AY (hE:pr w aU aE)(hM:jx w)(hT:dE w)(hb:Bs w v xs)(h0:0<xs.length)(hl:xs.length<=1000000000)(hp:fE xs=some j)(tx:Tx j)(sz:Sz j)(hx:(JV.txt j).length<=140737488355328) :
  Calls Tryz.prog 9 #[v] w (yD (JV.txt j) w):=by
 have H:=Qa (ub hE hM hb h0 hl hp);have HB:=Qa (fun u w1 (hw:Below w.heap.size w w1) (hv:VW (w.heap.size<= ·) w1 u j)=>jk hv (hT.below hw) (hE.glob.below hw) tx sz hx);clear hE hM hT hb h0 hl hp tx sz hx;generalize JV.txt j=tl at *;go_enter Tryz.func9,Tryz.ntmps9;go_wp2_with fail;refine Za H ?_;rintro e w1 ⟨u,rfl,a0,hv⟩;have a1:=Qa a0;have a4:=Qa (HB.out u w1 a0 hv);obtain⟨t1,x1,rfl⟩:=hv.iface;clear a0 hv HB;go_wp2_with fail;refine Za a4 ?_;rintro e w2 ⟨u2,rfl,ho,a2⟩;have a3:=Qa (a1.out.trans (a2.mono a1.out.size));have Ho:=Qa (bp ho a1.out.size);obtain⟨A,q,rfl,-⟩:=af ho;clear ho a2;go_wp2_with fail;go_ret2;exact⟨_,rfl,Ho.out,a3.out⟩
theorem kT (h:Bs w v xs)(h':Bs w v' ys):Calls Tryz.prog 27 #[v,v'] w fun e w'=>e =.returned (.bool (decide (xs=ys)))/\w=w':=by
 have c1:=aG h;have c2:=aG h';have He:Hid (((⟨xs.toArray⟩:ByteArray).toList== (⟨ys.toArray⟩:ByteArray).toList)=decide (xs=ys)):=Qa (by
  rw[kK,kK,Bool.eq_iff_iff];simp)
 clear h h';generalize (⟨xs.toArray⟩:ByteArray)=a at *;generalize (⟨ys.toArray⟩:ByteArray)=b at *;go_enter Tryz.func27,Tryz.ntmps27;go_wp2_with fail;go_ret;rw[<-He.out];exact⟨rfl,rfl⟩
theorem mi:Calls Tryz.prog 39 #[] w fun e w'=>e =.returned (.pointer (some ⟨w.heap.size,0,none⟩))/\w'.heap[w.heap.size]?=some (.cells #[.slice none 0 0,.nilIface] 144 (0,0))/\Below w.heap.size w w':=by
 have h0:=Qa (Zf w (.cells #[.slice none 0 0,.nilIface] 144));have hb:=Qa (ac w (.cells #[.slice none 0 0,.nilIface] 144));go_enter Tryz.func39,Tryz.ntmps39;go_wp2_with fail;go_ret;exact⟨rfl,h0.out,hb.out⟩
theorem lJ {d:Value}(h:w.heap[g]?=some (.cells #[.slice A 0 c,d] 144 (0,0))):Calls Tryz.prog 79 #[.pointer (some ⟨g,0,none⟩)] w fun e w'=>e =.returned .nilIface/\w=w':=by
 have c0:=aa h (j:=0) (u:=.slice A 0 c) rfl;clear h;go_enter Tryz.func79,Tryz.ntmps79;go_wp2_with fail;go_ret;exact⟨rfl,rfl⟩
theorem AE {d:Value}(h:w.heap[g]?=some (.cells #[.slice (some ⟨gr,0,none⟩) (n+1) c,d] 144 (0,0)))(hn:n<1000000000)(hu:w.cell? ⟨gr,n,none⟩=some u):Calls Tryz.prog 79 #[.pointer (some ⟨g,0,none⟩)] w fun e w'=>e =.returned u/\∃m,w'=w.drewN m:=by
 have c0:=aa h (j:=0) (u:=.slice (some ⟨gr,0,none⟩) (n+1) c) rfl;have s1:IntKind.i64.wrap (n:Int)= (n:Int):=IntWalk.i64_in _ (by omega);have s2:(n:Int)< (n:Int)+1:=by omega
 have s3:((n:Int)+1==0)=false:=by simp only[beq_eq_false_iff_ne];omega
 clear h;go_enter Tryz.func79,Tryz.ntmps79;go_wp2_with fail;go_quiet (fail);go_wp2_with fail;go_ret;exact⟨rfl,_,rfl⟩
theorem oH:Calls Tryz.prog 304 #[x] w fun e w'=>e =.returned (.bool true)/\w=w':=by
 go_enter Tryz.func304,Tryz.ntmps304;go_wp2_with fail;go_ret;exact⟨rfl,rfl⟩
theorem lF {m nm:Value}{b:Bool}(h:w.heap[g]?=some (.cells #[m,nm,.bool b] 151 (0,0))):Calls Tryz.prog 307 #[.pointer (some ⟨g,0,none⟩)] w fun e w'=>e =.returned (.bool b)/\w=w':=by
 have c0:=aa h (j:=2) (u:=.bool b) rfl;clear h;go_enter Tryz.func307,Tryz.ntmps307;go_wp2_with fail;go_ret;exact⟨rfl,rfl⟩
theorem pR (h:w.heap[g]?=some (.cells #[.slice A 0 c,.nilIface] 144 (0,0))):Calls Tryz.prog 78 #[.pointer (some ⟨g,0,none⟩)] w fun e w'=>e =.returned (.bool true)/\Below w.heap.size w w':=by
 have c1:=aa h (j:=1) (u:=.nilIface) rfl;have H:=Qa (lJ h);clear h;go_enter Tryz.func78,Tryz.ntmps78;go_wp2_with fail;refine Za H ?_;rintro e w1 ⟨rfl,rfl⟩;go_wp2_with fail;go_ret;exact⟨rfl,Ze _ _⟩
theorem pV {t:TypeId}(h:w.heap[g]?=some (.cells #[.slice A 0 c,.iface t x] 144 (0,0))):Calls Tryz.prog 78 #[.pointer (some ⟨g,0,none⟩)] w fun e w'=>e =.returned (.bool false)/\Below w.heap.size w w':=by
 have c1:=aa h (j:=1) (u:=.iface t x) rfl;have H:=Qa (lJ h);clear h;go_enter Tryz.func78,Tryz.ntmps78;go_wp2_with fail;refine Za H ?_;rintro e w1 ⟨rfl,rfl⟩;go_wp2_with fail;go_ret;exact⟨rfl,Ze _ _⟩
theorem uh (H:Calls Tryz.prog 79 #[.pointer (some ⟨g,0,none⟩)] w fun e w'=>e =.returned (.iface 145 x)/\Below w.heap.size w w'):Calls Tryz.prog 78 #[.pointer (some ⟨g,0,none⟩)] w fun e w'=>e =.returned (.bool true)/\Below w.heap.size w w':=by
 go_enter Tryz.func78,Tryz.ntmps78;go_wp2_with fail;refine H.mono ?_;rintro e w1 ⟨rfl,hb⟩;go_wp2_with fail;refine oH.mono ?_;rintro e w2 ⟨rfl,rfl⟩;go_wp2_with fail;go_ret;exact⟨rfl,hb⟩
theorem oT {m nm:Value}{b:Bool}(h:w.heap[gt]?=some (.cells #[m,nm,.bool b] 151 (0,0)))(H:Calls Tryz.prog 79 #[.pointer (some ⟨g,0,none⟩)] w fun e w'=>e =.returned (.iface 149 (.pointer (some ⟨gt,0,none⟩)))/\Below w.heap.size w w'):Calls Tryz.prog 78 #[.pointer (some ⟨g,0,none⟩)] w fun e w'=>e =.returned (.bool b)/\Below w.heap.size w w':=by
 have HT:=Qa (fun w1 (hw:Below w.heap.size w w1)=>lF (ah h hw));clear h;go_enter Tryz.func78,Tryz.ntmps78;go_wp2_with fail;refine H.mono ?_;rintro e w1 ⟨rfl,hb⟩;have a0:=Qa (HT.out w1 hb);go_wp2_with fail;refine Za a0 ?_;rintro e w2 ⟨rfl,rfl⟩;go_wp2_with fail;go_ret;exact⟨rfl,hb⟩
theorem vu {t:TypeId}(h:w.heap[g]?=some (.cells #[.slice A us.length c] 148 (0,0)))(ho:w.ownsRow base 64 1 (.slice A us.length c) us.length us)(hb:base<=w.heap.size)(hl:us.length<=1000000000)(hn:∀b,(Value.slice A us.length c).ownBlock=some b->b≠g) :
  Calls Tryz.prog 302 #[.pointer (some ⟨g,0,none⟩),.iface t x] w fun e w'=>e =.returned (.tuple #[])/\∃A' q,w'.heap[g]?=some (.cells #[.slice A' (us.length+1) q] 148 (0,0))/\w'.ownsRow base 64 1 (.slice A' (us.length+1) q) (us.length+1) (us ++ [.iface t x])/\aM (fun k=>k=g\/(Value.slice A us.length c).ownBlock=some k) w w'/\((Value.slice A' (us.length+1) q).ownBlock= (Value.slice A us.length c).ownBlock\/∃b,(Value.slice A' (us.length+1) q).ownBlock=some b/\w.heap.size<=b):=by
 have c0:=aa h (j:=0) (u:=.slice A us.length c) rfl;have a0:=Qa (ac w (.cells #[.iface t x] 64));have a3:=Qa (av w [.iface t x] 64);have Ho:=Qa (ai ho a0.out (Zb _));have H:=Qa (ah h a0.out);have a2:=Qa (show base<=(w.alloc (.cells #[.iface t x] 64)).heap.size from Zc hb a0.out.size);have Hn:=Qa hn;obtain⟨n,a1⟩:∃n,us.length=n:=⟨_,rfl⟩;have a4:=Qa a1;rw[a1] at Ho H Hn c0 hl ⊢;clear h ho hn a1;go_enter Tryz.func302,Tryz.ntmps302;go_wp2_with (at_builtin;refine kC zo Ho.out a3.out a2.out ?_;intro v' w5 p1 p2 p3;obtain⟨A5,q5,rfl,-,-,-⟩:=af p1;have g5:=ay H.out p2 (fun e=>Hn.out g e rfl);have f5:=aj g5 0;have c5:=aa g5 (j:=0) (u:=.slice A n c) rfl;have G5:=Qa g5;have HK:=Qa p1;have HG:=Qa p2;have HD:=Qa p3;clear p1 p2 p3 g5);go_end0;have hne:∀b,(Value.slice A5 (n+1) q5).ownBlock=some b->¬b=g:=fun b hb e=>by
  have hg:=ag H.out;rcases HD.out with h|h
  ·exact Hn.out b (h▸hb) e
  ·rw[h] at hb;have:=Zi hb;omega
 refine⟨rfl,⟨A5,q5,ar G5.out 0 _,a8 HK.out (fun b hb=>?_),?_,?_⟩⟩
 ·exact(aM.set g 0 _).block b (by obtain⟨_,cur,hg⟩:=al HK.out hb;exact ag hg) (hne b hb)
 ·exact((aM.of_below a0.out).trans (aM.grown HG.out) (fun i h=>.inl (.inr h))).trans (aM.set g 0 _) (fun i h=>.inl (.inl h))
 ·rcases HD.out with h|h
  ·exact .inl h
  ·exact .inr ⟨_,h,a0.out.size⟩
