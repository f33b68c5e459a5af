import Derived.Test.YtohibglohlfjfaaGreatDoorGZ6br
set_option linter.unusedVariables false
set_option linter.unusedSimpArgs false
set_option maxHeartbeats 64000000
set_option maxRecDepth 100000
namespace Go.Proofs.YtohibglohlfjfaaGreatDoor
open Go.RowKit
variable {aE aU:Addr}{d:Dc}{j:JV}{ks:List JV}{ps:List Nat}{xs:List UInt8}{us:List Value}{B N cap ck cn gt nn xb:Nat}{Ak An:Option Addr}{u v vk vn:Value}{W w w' w0 w5 wr:World}
def yb:Array Value:= #[.int .i64 1073741824,.int .i64 1073741824,.int .i64 1073741824,.int .i64 1073741824,.int .i64 1073741824,.int .i64 4611686018427387903]
theorem zN (p q:Value)(w:World):CallsD Tryz.prog 99 #[p,q] .returning w fun e u' w'=>e =.returned (.tuple #[])/\u' =.returning/\w'=w:=by
 refine callsD_of_wpS Tryz.func99 rfl fun c₀ cs hu=>?_
 apply wpS_seq
 apply wpS_region
 simp[wpOpsS,go_sem,recoverD,hu,Tryz.ntmps99,Exit.thenS];apply wpS_seq;apply wpS_region;simp[wpOpsS,go_sem,Exit.thenS];refine wpS_cond (t:=false) (by simp[Act.eval,Array.replicate]) ?_;simp only[Bool.false_eq_true,if_false];refine wpS_of_wp (wp_skip ?_)
 cases c₀
 simp_all [bodyPostS,results,Tryz.results99]
theorem CW {s1 s2:Nat}(hne:s1≠s2)(h1:wr.heap[s1]?=some (.cells #[.int .i64 0,.int .i64 0,.int .i64 0,.int .i64 0] 103 (0,0)))(h2:wr.heap[s2]?=some (.cells #[.nilIface] 40 (0,0)))(a b c d:Value)
  (hW:((((wr.setCell ⟨s1,0,none⟩ a).setCell ⟨s1,1,none⟩ b).setCell ⟨s1,2,none⟩ c).setCell ⟨s1,3,none⟩ d).setCell ⟨s2,0,none⟩ .nilIface=W) :
  W.heap[s1]?=some (.cells #[a,b,c,d] 103 (0,0))/\W.heap[s2]?=some (.cells #[.nilIface] 40 (0,0))/\aZ (fun k=>k=s1\/k=s2) wr W:=by
 subst hW;have g1:=au (au (au (au h1 0 a) 1 b) 2 c) 3 d;have g2:=ar _ s2 s1 3 d _ _ hne.symm (ar _ s2 s1 2 c _ _ hne.symm (ar _ s2 s1 1 b _ _ hne.symm (ar wr s2 s1 0 a _ _ hne.symm h2)));refine⟨ar _ s1 s2 0 .nilIface _ _ hne g1,au g2 0 .nilIface,?_⟩;exact(((((aZ.set s1 0 a).mono fun _ h=>.inl h).trans (aZ.set s1 1 b) fun i h=>.inl (.inl h)).trans (aZ.set s1 2 c) fun i h=>.inl (.inl h)).trans (aZ.set s1 3 d) fun i h=>.inl (.inl h)).trans (aZ.set s2 0 _) fun i h=>.inl (.inr h)
def Do (w0:World)(rb lb xb:Nat)(v:Value)(xs:List UInt8)(j:JV)(m:Nat)(wr:World):Prop:=
 (∃ (f:Nat) (c:dl) (k nd:Nat),m=xs.length - k+1/\DB f c (xs.drop k)=some j/\PS w0.heap.size rb lb xb v xs c k nd false wr/\c.ok jB/\eb c.frs<=k/\nd<=k/\k<=xs.length/\Below w0.heap.size w0 wr)\/
 (m=0/\∃nd bs,jO w0.heap.size wr rb lb xb v xs [] 7 xs.length nd true/\fi w0.heap.size wr xb [] (some j) bs/\Below w0.heap.size w0 wr)
def Jb (w0:World)(xb:Nat)(j:JV)(e:Ending)(w':World):Prop:= ∃a b c d:Int,e =.returned (.tuple #[.agg #[.int .i64 a,.int .i64 b,.int .i64 c,.int .i64 d],.nilIface])/\Below w0.heap.size w0 w'/\∃bs,fi w0.heap.size w' xb [] (some j) bs
theorem AN (hE:qG w0 aU aE)(hM:kB w0)(e8:Below w0.heap.size w0 w)(hb:Bs w v xs)(h0:0<xs.length)(hl:xs.length<=1000000000)(f9:fi w0.heap.size w xb [] none [])(hp:eV xs=some j) :
  Calls Tryz.prog 74 #[v,eO,.func (.func 75) #[.pointer (some ⟨xb,0,none⟩)] #[]] w (Jb w0 xb j):=by
 have i3:∀ (fn:Fn) (first cap:Array Value) (w:World),(Instr.makeFunc fn first cap).run Tryz.prog w =.ok (.func fn first cap) w:=fun _ _ _ _=>rfl
 obtain⟨hm,A,cap,rfl,h7,b7⟩:=id hb;have HE:=Qa hE;have HM:=Qa hM;have b0:=Qa e8;have Hb:=Qa hb;have H0:=Qa h0;have Hl:=Qa hl;have g9:=Qa f9;have Hp:=Qa hp;have f8:=Qa (fun w=>wG w);have f2:=Qa (fun w=>uP (m:=1) (x:=(xs.length:Int)) (by omega) (by omega) w);unfold eO at *;have hlen:(xs.length:Int)<=1000000000:=by omega
 clear hE hM e8 hb h0 hl f9 hp b7;have f0:Below w.heap.size w (((w.alloc (.cells #[.int .i64 1073741824,.int .i64 1073741824,.int .i64 1073741824,.int .i64 1073741824,.int .i64 1073741824,.int .i64 4611686018427387903] 107)).alloc (.cells #[.int .i64 0,.int .i64 0,.int .i64 0,.int .i64 0] 103)).alloc (.cells #[.nilIface] 40)):=bu (bu (ac _ _) (ac _ _)) (ac _ _);have g0:(((w.alloc (.cells #[.int .i64 1073741824,.int .i64 1073741824,.int .i64 1073741824,.int .i64 1073741824,.int .i64 1073741824,.int .i64 4611686018427387903] 107)).alloc (.cells #[.int .i64 0,.int .i64 0,.int .i64 0,.int .i64 0] 103)).alloc (.cells #[.nilIface] 40)).heap[w.heap.size]?=some (.cells #[.int .i64 1073741824,.int .i64 1073741824,.int .i64 1073741824,.int .i64 1073741824,.int .i64 1073741824,.int .i64 4611686018427387903] 107 (0,0)):=(Below.heap_alloc _ _ _ (by simp only[World.size_alloc];omega)).trans ((Below.heap_alloc _ _ _ (by simp)).trans (Zf w _));have g1:(((w.alloc (.cells #[.int .i64 1073741824,.int .i64 1073741824,.int .i64 1073741824,.int .i64 1073741824,.int .i64 1073741824,.int .i64 4611686018427387903] 107)).alloc (.cells #[.int .i64 0,.int .i64 0,.int .i64 0,.int .i64 0] 103)).alloc (.cells #[.nilIface] 40)).heap[w.heap.size+1]?=some (.cells #[.int .i64 0,.int .i64 0,.int .i64 0,.int .i64 0] 103 (0,0)):=by
  have:=Zf (w.alloc (.cells #[.int .i64 1073741824,.int .i64 1073741824,.int .i64 1073741824,.int .i64 1073741824,.int .i64 1073741824,.int .i64 4611686018427387903] 107)) (.cells #[.int .i64 0,.int .i64 0,.int .i64 0,.int .i64 0] 103);rw[World.size_alloc] at this;exact(Below.heap_alloc _ _ _ (by simp)).trans this
 have g2:(((w.alloc (.cells #[.int .i64 1073741824,.int .i64 1073741824,.int .i64 1073741824,.int .i64 1073741824,.int .i64 1073741824,.int .i64 4611686018427387903] 107)).alloc (.cells #[.int .i64 0,.int .i64 0,.int .i64 0,.int .i64 0] 103)).alloc (.cells #[.nilIface] 40)).heap[w.heap.size+1+1]?=some (.cells #[.nilIface] 40 (0,0)):=by
  have:=Zf ((w.alloc (.cells #[.int .i64 1073741824,.int .i64 1073741824,.int .i64 1073741824,.int .i64 1073741824,.int .i64 1073741824,.int .i64 4611686018427387903] 107)).alloc (.cells #[.int .i64 0,.int .i64 0,.int .i64 0,.int .i64 0] 103)) (.cells #[.nilIface] 40)
  rwa[World.size_alloc,World.size_alloc] at this
 have h4:=Qa f0;have G0:=Qa g0;have G1:=Qa g1;have G2:=Qa g2;clear f0 g0 g1 g2;go_enter_defers Tryz.func74,Tryz.ntmps74;go_wp2_with fail;generalize ((w.alloc (.cells #[.int .i64 1073741824,.int .i64 1073741824,.int .i64 1073741824,.int .i64 1073741824,.int .i64 1073741824,.int .i64 4611686018427387903] 107)).alloc (.cells #[.int .i64 0,.int .i64 0,.int .i64 0,.int .i64 0] 103)).alloc (.cells #[.nilIface] 40)=w1 at *;refine(f8.out _).mono ?_;rintro e w2 ⟨rfl,e5⟩;have l0:=ai G0.out e5;have c0:=aa l0 (j:=0) (u:=.int .i64 1073741824) rfl;have c1:=aa l0 (j:=1) (u:=.int .i64 1073741824) rfl;have c2:=aa l0 (j:=2) (u:=.int .i64 1073741824) rfl;have c3:=aa l0 (j:=3) (u:=.int .i64 1073741824) rfl;have c4:=aa l0 (j:=4) (u:=.int .i64 1073741824) rfl;have c5:=aa l0 (j:=5) (u:=.int .i64 4611686018427387903) rfl;have d6:=Qa e5;clear l0 e5;go_wp2_with fail;refine(f2.out _).mono ?_;rintro e w3 ⟨rfl,b2⟩;have h9:=Qa (bu (bu h4.out d6.out) b2);have L0:=Qa (ai (ai G0.out d6.out) b2);have L1:=Qa (ai (ai G1.out d6.out) b2);have L2:=Qa (ai (ai G2.out d6.out) b2);clear c0 c1 c2 c3 c4 c5 b2;go_wp2_with fail;obtain⟨wr,d9⟩:∃wr,w3.drew=wr:=⟨_,rfl⟩;have b9:Below w3.heap.size w3 wr:=by rw[<-d9];exact(Ze _ _).drew
 have a9:=Qa (bu h9.out b9);have g6:=ai L0.out b9;have d5:∀ (w':World),w'.heap[w.heap.size]?=some (.cells #[.int .i64 1073741824,.int .i64 1073741824,.int .i64 1073741824,.int .i64 1073741824,.int .i64 1073741824,.int .i64 4611686018427387903] 107 (0,0))->w'.cell? ⟨w.heap.size,0,none⟩=some (.int .i64 1073741824)/\w'.cell? ⟨w.heap.size,1,none⟩=some (.int .i64 1073741824)/\w'.cell? ⟨w.heap.size,2,none⟩=some (.int .i64 1073741824)/\w'.cell? ⟨w.heap.size,3,none⟩=some (.int .i64 1073741824)/\w'.cell? ⟨w.heap.size,4,none⟩=some (.int .i64 1073741824)/\w'.cell? ⟨w.heap.size,5,none⟩=some (.int .i64 4611686018427387903):=fun _ h=>
  ⟨aa h (j:=0) rfl,aa h (j:=1) rfl,aa h (j:=2) rfl,aa h (j:=3) rfl,aa h (j:=4) rfl,aa h (j:=5) rfl⟩
 have a3:=Qa d5;have e1:=Qa g6;have b4:=Qa (wN (w:=wr) (Hb.out.below a9.out) H0.out (by have:=Hl.out;omega));have R1:=Qa (ai L1.out b9);have R2:=Qa (ai L2.out b9);clear b9 g6 d5;refine aA (fun w2=>w2.cell? ⟨w.heap.size,0,none⟩=some (.int .i64 1073741824)/\w2.cell? ⟨w.heap.size,1,none⟩=some (.int .i64 1073741824)/\w2.cell? ⟨w.heap.size,2,none⟩=some (.int .i64 1073741824)/\w2.cell? ⟨w.heap.size,3,none⟩=some (.int .i64 1073741824)/\w2.cell? ⟨w.heap.size,4,none⟩=some (.int .i64 1073741824)/\w2.cell? ⟨w.heap.size,5,none⟩=some (.int .i64 4611686018427387903)) ((by rw[d9];exact a3.out _ e1.out)) fun a1=>?_
 refine tH 0 a1 ?_;refine tH 2 a1 ?_;refine tH 3 a1 ?_;refine tH 4 a1 ?_;refine tH 5 a1 ?_;refine tH 6 a1 ?_
 try simp only[Act.put,jP,jQ,jR]
 refine rH 1 fun K hK=>?_
 go_simp;(try rw[d9]);refine Za b4 ?_;rintro e w5 ⟨lb,u,rfl,f6,f3,f4,b6⟩;have b1:=Qa f3;have h8:=Qa f6;have h6:=Qa f4;have e4:=Qa b6;clear f3 f6 f4 b6;go_wp2_with fail;refine hK.out _ _ (a3.out _ (ai e1.out b1.out)) (fun a1=>?_);clear hK K
 try simp only[Act.put,jP,jQ,jR]
 refine tH 7 a1 ?_
 try simp only[Act.put,jP,jQ,jR]
 refine rH 8 fun K hK=>?_
 go_simp;refine hK.out _ _ (a3.out _ (ai (ai e1.out b1.out) (ac _ _))) (fun a1=>?_);clear hK K
 try simp only[Act.put,jP,jQ,jR]
 refine tH 9 a1 ?_
 try simp only[Act.put,jP,jQ,jR]
 refine wpAnyH_done (by kernel_rfl) (NoPanic.normal ?_) _;clear a1 d9;have e0:Below w0.heap.size w0 w5:=(b0.out.trans (a9.out.mono b0.out.size)).trans (b1.out.mono (Zc b0.out.size a9.out.size));have a0:=ac w5 (.cells (dB lb xb xs.length 0 0 0 (.slice none 0 0) (.slice none 0 0) 0 false) 205);have a5:=Zf w5 (.cells (dB lb xb xs.length 0 0 0 (.slice none 0 0) (.slice none 0 0) 0 false) 205);have g4:iu w0.heap.size (w5.alloc (.cells (dB lb xb xs.length 0 0 0 (.slice none 0 0) (.slice none 0 0) 0 false) 205)) w5.heap.size lb xb u xs [] 0 0 0 false xs.length 0 0 (.slice none 0 0) (.slice none 0 0) []:=
  ⟨a5,e0.size,h8.out.below a0,Zc (Zc b0.out.size a9.out.size) h6.out,ao (bV e4.out (Zc b0.out.size a9.out.size)) a0 (Zb _),⟨rfl,.inl ⟨rfl,rfl⟩⟩,⟨rfl,.inl ⟨rfl,rfl⟩⟩,bo.nil _,List.nodup_nil,Zk _⟩
 have c6:=(g9.out.below (bu a9.out b1.out)).below a0;have Hrel:=Qa (show Do w0 w5.heap.size lb xb u xs j (xs.length+1) (w5.alloc (.cells (dB lb xb xs.length 0 0 0 (.slice none 0 0) (.slice none 0 0) 0 false) 205)) from
  .inl ⟨xs.length+1,⟨[],0,none⟩,0,0,rfl,Hp.out,⟨g4.s, [],c6⟩,dl.ok.start jB,Zb _,Zb _,Zk _,e0.trans (a0.mono e0.size)⟩)
 have Q1:=Qa (ai (ai R1.out b1.out) a0);have Q2:=Qa (ai (ai R2.out b1.out) a0);unfold dB at Hrel Q1 Q2;clear g4 c6 a5 a0 e0 b4 e1 a3 R1 R2 L0 L1 L2 G0 G1 G2 f8 f2;go_wp2_with fail
 go_loopg [] (xs.length+1) (fun m wr=>Do w0 w5.heap.size lb xb u xs j m wr/\wr.heap[w.heap.size+1]?=some (.cells #[.int .i64 0,.int .i64 0,.int .i64 0,.int .i64 0] 103 (0,0))/\wr.heap[w.heap.size+1+1]?=some (.cells #[.nilIface] 40 (0,0)))
 case atStart=>exact⟨Hrel.out,Q1.out,Q2.out⟩
 case round=>
  obtain⟨hrel,q1,q2⟩:=hrel;have HQ1:=Qa q1;have HQ2:=Qa q2;clear Hrel Q1 Q2 q1 q2;rcases hrel with ⟨f,c,k,nd,hm,hrun,a7,b5,hcn,f5,hk,a4⟩|⟨i0,nd,bs,hR,b8,a4⟩
  ·obtain⟨by9,dp9,ex9,ov9,nv9,maps9,a2⟩:=id a7.1;have c15:=aa a2.row (j:=15) (u:=.bool false) rfl;have i4:=Qa a7;have Hm:=Qa hm;have Hbl:=Qa a4
   cases f with
   |zero=>cases hrun
   |succ f=>
    unfold DB at hrun
    cases hdw:(xs.drop k).dropWhile cW with
    |nil=>
     rw[hdw] at hrun;simp only at hrun
     split at hrun
     case isFalse=>cases hrun
     rename_i hw7
     obtain⟨frs,want,done⟩:=c;simp only at hw7 hrun;subst hw7 hrun;have h5:frs = []:=b5.want.1;subst h5;obtain⟨bs9,g5⟩:=a7.2;have e6:=Qa (DE (HE.out.below a4) a7.1 g5 Hl.out a4.size hdw);clear a7 b5 hcn f5 hk a4 hm a2 g5 hdw;go_wp2_with fail;refine Za e6 ?_;rintro e w7 ⟨rfl,h1,h2,h3⟩;have R:=Qa (And.intro h1 (And.intro h2 h3));clear h1 h2 h3 c15;go_wp2_with fail;go_roundg 0
     case measure=>have:=Hm.out;omega
     case rel=>exact⟨.inr ⟨rfl,nd,bs9,R.out.2.1,R.out.2.2,Hbl.out.trans R.out.1.b⟩,R.out.1.k.2 _ _ _ _ HQ1.out (by simp only[TA,TB,TV,lL];decide),R.out.1.k.2 _ _ _ _ HQ2.out (by simp only[TA,TB,TV,lL];decide)⟩
    |cons y ys=>
     rw[hdw] at hrun;simp only at hrun
     cases hlx:dt (y::ys) with
     |none=>rw[hlx] at hrun;cases hrun
     |some tn=>
      obtain⟨t,n⟩:=tn;rw[hlx] at hrun;simp only at hrun
      cases hsb:dK c t with
      |none=>rw[hsb] at hrun;cases hrun
      |some c'=>
       rw[hsb] at hrun;simp only at hrun;have g3:=nH hlx;have hin:(y::ys).length<=xs.length - k:=by
        have h1:=il (xs.drop k);rw[hdw,List.length_drop] at h1;exact h1
       rw[List.length_cons] at g3 hin;have a6:xs.drop (xs.length - (ys.length+1))=y::ys:=by
        have h1:=rW (xs.drop k);rw[hdw,List.drop_drop] at h1;have h2:=congrArg List.length h1;rw[List.length_drop,List.length_cons] at h2;rw[<-h1]
        congr 1
        omega
       have e6:=Qa (BG (⟨HE.out,HM.out,a7,b5,by have:=Hl.out;omega,by have:=Hl.out;omega,Hl.out,a4⟩:iU w0 w5.heap.size lb xb u xs c k nd wr aU aE) hdw hlx hsb);have Hrun:=Qa (show DB f c' (xs.drop (xs.length - (ys.length+1)+n))=some j by rw[<-List.drop_drop,a6];exact hrun);have Hok:=Qa (EH b5 (FK (by rw[List.length_cons];have:=Hl.out;omega) hlx) hsb);have Hcn:=Qa (show eb c'.frs<=xs.length - (ys.length+1)+n/\nd+1<=xs.length - (ys.length+1)+n/\xs.length - (ys.length+1)+n<=xs.length/\k<xs.length - (ys.length+1)+n by have:=BQ hsb;omega);clear a7 b5 hcn f5 hk a4 hm a2 hdw hlx hsb hrun g3 hin a6;go_wp2_with fail;refine Za e6 ?_;rintro e w7 ⟨nd',g8,rfl,h1,h2⟩;have R:=Qa (And.intro g8 (And.intro h1 h2));clear g8 h1 h2 c15;go_wp2_with fail;go_roundg (xs.length - (xs.length - (ys.length+1)+n)+1)
       case measure=>have:=Hm.out;have:=Hcn.out;omega
       case rel=>exact⟨.inl ⟨f,c',_,nd',rfl,Hrun.out,R.out.2.2,Hok.out,Hcn.out.1,Zc R.out.1 Hcn.out.2.1,Hcn.out.2.2.1,Hbl.out.trans R.out.2.1.b⟩,R.out.2.1.k.2 _ _ _ _ HQ1.out (by simp only[TA,TB,TV,lL];decide),R.out.2.1.k.2 _ _ _ _ HQ2.out (by simp only[TA,TB,TV,lL];decide)⟩
  ·obtain⟨by9,dp9,ex9,ov9,nv9,maps9,a2⟩:=id hR;have c15:=aa a2.row (j:=15) (u:=.bool true) rfl;have c7:=aa a2.row (j:=7) (u:=.int .i64 by9) rfl;have c8:=aa a2.row (j:=8) (u:=.int .i64 dp9) rfl;have c9:=aa a2.row (j:=9) (u:=.int .i64 nd) rfl;have c10:=aa a2.row (j:=10) (u:=.int .i64 ex9) rfl;have i2:=Qa b8;have Hbl:=Qa a4;have r0:=aa HQ1.out (j:=0) rfl;have r1:=aa HQ1.out (j:=1) rfl;have r2:=aa HQ1.out (j:=2) rfl;have r3:=aa HQ1.out (j:=3) rfl;have r4:=aa HQ2.out (j:=0) rfl;have z0:=ak HQ1.out 0;have z1:=ak HQ1.out 1;have z2:=ak HQ1.out 2;have z3:=ak HQ1.out 3;have z4:=ak HQ2.out 0;clear i0 hR b8 a4 a2;go_wp2_with fail;obtain⟨W,hW⟩:∃W,((((wr.setCell ⟨w.heap.size+1,0,none⟩ (.int .i64 by9)).setCell ⟨w.heap.size+1,1,none⟩ (.int .i64 dp9)).setCell ⟨w.heap.size+1,2,none⟩ (.int .i64 nd)).setCell ⟨w.heap.size+1,3,none⟩ (.int .i64 ex9)).setCell ⟨w.heap.size+1+1,0,none⟩ .nilIface=W:=⟨_,rfl⟩;rw[hW];obtain⟨g1,g2,e3⟩:=CW (by omega) HQ1.out HQ2.out _ _ _ _ hW;have d0:=aa g1 (j:=0) (u:=.int .i64 by9) rfl;have d1:=aa g1 (j:=1) (u:=.int .i64 dp9) rfl;have d2:=aa g1 (j:=2) (u:=.int .i64 nd) rfl;have d3:=aa g1 (j:=3) (u:=.int .i64 ex9) rfl;have d4:=aa g2 (j:=0) (u:=.nilIface) rfl;have g7:Kp (fun e=>e=103\/e=40) wr W:=Kp.of_chg e3 fun g hg _=>by
    rcases hg with rfl|rfl
    ·exact⟨_,_,_,HQ1.out,.inl rfl⟩
    ·exact⟨_,_,_,HQ2.out,.inr rfl⟩
   have f1:=i2.out.kp g7 fun e he=>by rcases he with (rfl|rfl|rfl|rfl)|rfl|rfl <;> decide
   have b3:Below w0.heap.size w0 W:=Hbl.out.trans (e3.below Hbl.out.size fun i hi=>by have:=b0.out.size;rcases hi with rfl|rfl <;> omega);have e2:Jb w0 xb j (.returned (.tuple #[.agg #[.int .i64 by9,.int .i64 dp9,.int .i64 nd,.int .i64 ex9],.nilIface])) W:=⟨_,_,_,_,rfl,b3,bs,f1⟩;clear hW e3 g7 f1 b3 r0 r1 r2 r3 r4 z0 z1 z2 z3 z4 c7 c8 c9 c10 c15;refine leaves_cons (f:=99) (args:= #[.pointer (some ⟨w.heap.size+1,0,none⟩),.pointer (some ⟨w.heap.size+1+1,0,none⟩)]) (by simp) (by simp[go_sem]) ?_;refine(zN _ _ _).mono ?_;rintro e u' w'' ⟨rfl,rfl,rfl⟩;simp[Leaves,settle,results,Tryz.results74,go_sem,d0,d1,d2,d3,d4];exact e2
def JX (w:World)(j:JV)(e:Ending)(w':World):Prop:= ∃ (u:Value) (a b c d:Int),e =.returned (.tuple #[u,.agg #[.int .i64 a,.int .i64 b,.int .i64 c,.int .i64 d],.nilIface])/\Below w.heap.size w w'/\VW (w.heap.size<= ·) w' u j
theorem zB (hE:qG w aU aE)(hM:kB w)(hb:Bs w v xs)(h0:0<xs.length)(hl:xs.length<=1000000000)(hp:eV xs=some j) :
  Calls Tryz.prog 51 #[v,eO] w (JX w j):=by
 have e6:∀ (fn:Fn) (first cap:Array Value) (w:World),(Instr.makeFunc fn first cap).run Tryz.prog w =.ok (.func fn first cap) w:=fun _ _ _ _=>rfl
 have a6:Below w.heap.size w ((w.alloc (.cells yb 107)).alloc (.cells #[.int .i64 0,.int .i64 0,.int .i64 0,.int .i64 0] 103)):=bu (ac _ _) (ac _ _);have g0:((w.alloc (.cells yb 107)).alloc (.cells #[.int .i64 0,.int .i64 0,.int .i64 0,.int .i64 0] 103)).heap[w.heap.size]?=some (.cells yb 107 (0,0)):=(Below.heap_alloc _ _ _ (by simp)).trans (Zf w _);have g1:((w.alloc (.cells yb 107)).alloc (.cells #[.int .i64 0,.int .i64 0,.int .i64 0,.int .i64 0] 103)).heap[w.heap.size+1]?=some (.cells #[.int .i64 0,.int .i64 0,.int .i64 0,.int .i64 0] 103 (0,0)):=by
  have:=Zf (w.alloc (.cells yb 107)) (.cells #[.int .i64 0,.int .i64 0,.int .i64 0,.int .i64 0] 103)
  rwa[World.size_alloc] at this
 have hz:((w.alloc (.cells yb 107)).alloc (.cells #[.int .i64 0,.int .i64 0,.int .i64 0,.int .i64 0] 103)).heap.size=w.heap.size+1+1:=by simp
 unfold yb at a6 g0 g1 hz;have H2:=Qa a6;have G0:=Qa g0;have G1:=Qa g1;have Hz:=Qa hz;have HE:=Qa (hE.below a6);have HM:=Qa (hM.below a6);have Hb:=Qa (hb.below a6);have H0:=Qa h0;have Hl:=Qa hl;have Hp:=Qa hp;have e0:=hE;unfold eO;clear a6 g0 g1 hz hE hM hb h0 hl hp e0;go_enter Tryz.func51,Tryz.ntmps51;go_wp2_with fail;generalize ((w.alloc (.cells #[.int .i64 1073741824,.int .i64 1073741824,.int .i64 1073741824,.int .i64 1073741824,.int .i64 1073741824,.int .i64 4611686018427387903] 107)).alloc (.cells #[.int .i64 0,.int .i64 0,.int .i64 0,.int .i64 0] 103))=w1 at *;rw[<-Hz.out];have a5:=ac w1 (.cells #[.slice none 0 0,.nilIface] 167);have a3:=Zf w1 (.cells #[.slice none 0 0,.nilIface] 167);have b2:fi w1.heap.size (w1.alloc (.cells #[.slice none 0 0,.nilIface] 167)) w1.heap.size [] none []:=⟨.slice none 0 0,.nilIface, [],a3,Zb _,⟨rfl,.inl ⟨rfl,rfl⟩⟩,bo.nil _,rfl,List.nodup_nil,rfl⟩;have b6:=Qa (AN HE.out HM.out a5 (Hb.out.below a5) H0.out Hl.out b2 Hp.out);unfold eO at b6;clear a5 a3 b2;refine Za b6 ?_;rintro e w3 ⟨a,b,c,d,rfl,b4,bs,pv,dv,us,b5⟩;have b9:VW (Pb w1.heap.size bs) w3 dv j:=b5.done;obtain⟨tv,xv,c9⟩:=b9.iface;subst c9;have a0:=ac w3 (.cells #[.int .i64 a,.int .i64 b,.int .i64 c,.int .i64 d] 103);obtain⟨w4,c0⟩:∃w4,w3.alloc (.cells #[.int .i64 a,.int .i64 b,.int .i64 c,.int .i64 d] 103)=w4:=⟨_,rfl⟩;have c1:=Zf w3 (.cells #[.int .i64 a,.int .i64 b,.int .i64 c,.int .i64 d] 103);rw[c0] at a0 c1;have d4:=Qa (b9.later a0);have e2:=Qa (ai b5.row a0);have e1:=Qa c1;have c5:w3.heap[w.heap.size+1]?=some (.cells #[.int .i64 0,.int .i64 0,.int .i64 0,.int .i64 0] 103 (0,0)):=(b4.block _ (ae G1.out)).trans G1.out;have d6:=Qa (ai c5 a0);have c3:=Qa (show Below w1.heap.size w1 w4 from b4.trans (a0.mono b4.size));have d9:=Qa c0;have hlt:w1.heap.size<w3.heap.size:=ae b5.row;have c8:=Qa hlt;clear b4 b5 b9 a0 c1 c5 c0 hlt b6;go_wp2_with fail
 try rw[d9.out]
 obtain⟨wr,b8⟩:∃wr,w4.drew=wr:=⟨_,rfl⟩;have a7:Below w4.heap.size w4 wr:=by rw[<-b8];exact(Ze _ _).drew
 have d5:=Qa (d4.out.later a7);have hX:=ai e2.out a7;have hN:=ai e1.out a7;have hG:=ai d6.out a7;have e4:=Qa hX;have b3:=Qa hN;have c4:=Qa hG;have c7:=Qa (c3.out.trans (a7.mono c3.out.size));have z0:=ak hG 0;have z1:=ak hG 1;have z2:=ak hG 2;have z3:=ak hG 3;have y0:=aa hG (j:=0) (u:=.int .i64 0) rfl;have y1:=aa hG (j:=1) (u:=.int .i64 0) rfl;have y2:=aa hG (j:=2) (u:=.int .i64 0) rfl;have y3:=aa hG (j:=3) (u:=.int .i64 0) rfl;have a9:w.heap.size+1≠w1.heap.size:=by have:=Hz.out;omega
 have b0:w.heap.size+1≠w3.heap.size:=by have:=Hz.out;have:=c8.out;omega
 have c2:=Qa a9;have a2:=Qa b0;clear a7 hX hN hG a9 b0;have hS:wr.cell? ⟨w1.heap.size,1,none⟩=some (.iface tv xv)/\wr.cell? ⟨w3.heap.size,0,none⟩=some (.int .i64 a)/\wr.cell? ⟨w3.heap.size,1,none⟩=some (.int .i64 b)/\wr.cell? ⟨w3.heap.size,2,none⟩=some (.int .i64 c)/\wr.cell? ⟨w3.heap.size,3,none⟩=some (.int .i64 d):=
  ⟨aa e4.out (j:=1) rfl,aa b3.out (j:=0) rfl,aa b3.out (j:=1) rfl,aa b3.out (j:=2) rfl,aa b3.out (j:=3) rfl⟩
 have HS:=Qa hS;clear hS;have b1:∀ (W:World) (i:Nat) (x:Value),(W.cell? ⟨w1.heap.size,1,none⟩=some (.iface tv xv)/\W.cell? ⟨w3.heap.size,0,none⟩=some (.int .i64 a)/\W.cell? ⟨w3.heap.size,1,none⟩=some (.int .i64 b)/\W.cell? ⟨w3.heap.size,2,none⟩=some (.int .i64 c)/\W.cell? ⟨w3.heap.size,3,none⟩=some (.int .i64 d))->
   ((W.setCell ⟨w.heap.size+1,i,none⟩ x).cell? ⟨w1.heap.size,1,none⟩=some (.iface tv xv)/\(W.setCell ⟨w.heap.size+1,i,none⟩ x).cell? ⟨w3.heap.size,0,none⟩=some (.int .i64 a)/\(W.setCell ⟨w.heap.size+1,i,none⟩ x).cell? ⟨w3.heap.size,1,none⟩=some (.int .i64 b)/\(W.setCell ⟨w.heap.size+1,i,none⟩ x).cell? ⟨w3.heap.size,2,none⟩=some (.int .i64 c)/\(W.setCell ⟨w.heap.size+1,i,none⟩ x).cell? ⟨w3.heap.size,3,none⟩=some (.int .i64 d)):=fun W i x ⟨h1,h2,h3,h4,h5⟩=>
  ⟨(World.cell?_setCell_far _ _ _ _ c2.out).trans h1,(World.cell?_setCell_far _ _ _ _ a2.out).trans h2,(World.cell?_setCell_far _ _ _ _ a2.out).trans h3,(World.cell?_setCell_far _ _ _ _ a2.out).trans h4,(World.cell?_setCell_far _ _ _ _ a2.out).trans h5⟩
 have a1:=Qa b1;clear b1;refine aA (fun w2=>w2.cell? ⟨w1.heap.size,1,none⟩=some (.iface tv xv)/\w2.cell? ⟨w3.heap.size,0,none⟩=some (.int .i64 a)/\w2.cell? ⟨w3.heap.size,1,none⟩=some (.int .i64 b)/\w2.cell? ⟨w3.heap.size,2,none⟩=some (.int .i64 c)/\w2.cell? ⟨w3.heap.size,3,none⟩=some (.int .i64 d)) ((by rw[b8];exact HS.out)) fun a4=>?_
 refine tH 0 a4 ?_;refine tH 1 a4 ?_;refine tH 2 a4 ?_;refine tH 3 a4 ?_
 try simp only[Act.put,jP,jQ,jR]
 refine rH 4 fun K hK=>?_
 (try rw[b8] at a4 ⊢);go_simp;refine hK.out _ _ (a1.out _ _ _ (a1.out _ _ _ (a1.out _ _ _ (a1.out _ _ _ HS.out)))) (fun a4=>?_);clear hK K
 try simp only[Act.put,jP,jQ,jR]
 refine tH 5 a4 ?_
 try simp only[Act.put,jP,jQ,jR]
 refine wpAnyH_done (by kernel_rfl) (NoPanic.normal ?_) _;clear y0 y1 y2 y3 z0 z1 z2 z3
 try clear a4
 go_wp2_with fail;obtain⟨W,hW⟩:∃W,(((wr.setCell ⟨w.heap.size+1,0,none⟩ (.int .i64 a)).setCell ⟨w.heap.size+1,1,none⟩ (.int .i64 b)).setCell ⟨w.heap.size+1,2,none⟩ (.int .i64 c)).setCell ⟨w.heap.size+1,3,none⟩ (.int .i64 d)=W:=⟨_,rfl⟩;rw[hW];have g:=au (au (au (au c4.out 0 (.int .i64 a)) 1 (.int .i64 b)) 2 (.int .i64 c)) 3 (.int .i64 d);rw[hW] at g;have c6:aZ (fun k=>k=w.heap.size+1) wr W:=by
  rw[<-hW];exact((((aZ.set _ 0 _).trans (aZ.set _ 1 _) fun i h=>.inl h).trans (aZ.set _ 2 _) fun i h=>.inl h).trans (aZ.set _ 3 _) fun i h=>.inl h)
 have d0:=aa g (j:=0) (u:=.int .i64 a) rfl;have d1:=aa g (j:=1) (u:=.int .i64 b) rfl;have d2:=aa g (j:=2) (u:=.int .i64 c) rfl;have d3:=aa g (j:=3) (u:=.int .i64 d) rfl;have e5:Kp (fun e=>e=103) wr W:=Kp.of_chg c6 fun g hg _=>by subst hg;exact⟨_,_,_,c4.out,rfl⟩
 have e3:=(d5.out.keeps e5.keeps (fun e he=>by rcases he with rfl|rfl|rfl|rfl <;> decide)).imp (Q:=(w.heap.size<= ·)) (fun g hg _=>Zc H2.out.size hg.1);have b7:Below w.heap.size w W:=(H2.out.trans (c7.out.mono H2.out.size)).trans (c6.below (by have:=H2.out.size;have:=c7.out.size;omega) fun i hi=>by rw[hi];omega);refine Zh (v:=.tuple #[.iface tv xv,.agg #[.int .i64 a,.int .i64 b,.int .i64 c,.int .i64 d],.nilIface]) ?_ rfl ⟨_,_,_,_,_,rfl,b7,e3⟩;simp[results,Tryz.results51,go_sem,d0,d1,d2,d3]
theorem vM (w:World):Calls Tryz.prog 52 #[] w fun e w'=>e =.returned eO/\Below w.heap.size w w':=by
 unfold eO;go_enter Tryz.func52,Tryz.ntmps52;go_wp2_with fail;have hn:=Zf w (.cells #[.int .i64 1073741824,.int .i64 1073741824,.int .i64 1073741824,.int .i64 1073741824,.int .i64 1073741824,.int .i64 4611686018427387903] 107);have n0:=aa hn (j:=0) rfl;have n1:=aa hn (j:=1) rfl;have n2:=aa hn (j:=2) rfl;have n3:=aa hn (j:=3) rfl;have n4:=aa hn (j:=4) rfl;have n5:=aa hn (j:=5) rfl;have Hb:=ac w (.cells #[.int .i64 1073741824,.int .i64 1073741824,.int .i64 1073741824,.int .i64 1073741824,.int .i64 1073741824,.int .i64 4611686018427387903] 107);refine Zh (v:=.agg #[.int .i64 1073741824,.int .i64 1073741824,.int .i64 1073741824,.int .i64 1073741824,.int .i64 1073741824,.int .i64 4611686018427387903]) ?_ rfl ⟨rfl,Hb⟩;simp[results,Tryz.results52,go_sem,n0,n1,n2,n3,n4,n5]
def Jp (w:World)(j:JV)(e:Ending)(w':World):Prop:= ∃u,e =.returned (.tuple #[u,.nilIface])/\Below w.heap.size w w'/\VW (w.heap.size<= ·) w' u j
theorem ki (hE:qG w aU aE)(hM:kB w)(hb:Bs w v xs)(h0:0<xs.length)(hl:xs.length<=1000000000)(hp:eV xs=some j) :
  Calls Tryz.prog 29 #[v] w (Jp w j):=by
 have Hf:=Qa (vM w);have H:=Qa (fun (w1:World) (h:Below w.heap.size w w1)=>zB (hE.below h) (hM.below h) (hb.below h) h0 hl hp);clear hE hM hb h0 hl hp;go_enter Tryz.func29,Tryz.ntmps29;go_wp2_with fail;refine Za Hf ?_;rintro e w1 ⟨rfl,a1⟩;have a3:=Qa a1;have Hp:=Qa (H.out w1 a1);clear a1;go_wp2_with fail;refine Za Hp ?_;rintro e w2 ⟨u,a,b,c,d,rfl,a2,hv⟩;obtain⟨tv,xv,rfl⟩:=hv.iface;have a0:=ac w2 (.cells #[.int .i64 a,.int .i64 b,.int .i64 c,.int .i64 d] 103);have HV:=Qa ((hv.later a0).imp (Q:=(w.heap.size<= ·)) fun g hg _=>Zc a3.out.size hg);have HB:=Qa (bu (bu a3.out a2) a0);clear a2 hv a0 Hp;go_wp2_with fail;go_ret2;exact⟨_,rfl,HB.out,HV.out⟩
open Go.Shelf
theorem pc {a:Bool}{s:ByteArray}{x:Int}:Calls Tryz.prog 41 #[.agg #[.bool a,.string s,.int .i64 x]] w fun e w'=>e =.returned (.agg #[.bool a,.string s,.int .i64 x])/\Below w.heap.size w w':=by
 have a0:Below w.heap.size w ((w.alloc (.cells #[.bool a,.string s,.int .i64 x] 67)).alloc (.cells #[.bool a,.string s,.int .i64 x] 110)):=((Ze _ _).alloc (Zb _) _).alloc (by simp) _;have a1:=Qa a0;clear a0;go_enter Tryz.func41,Tryz.ntmps41;go_wp2_with fail;have hh:((w.alloc (.cells #[.bool a,.string s,.int .i64 x] 67)).alloc (.cells #[.bool a,.string s,.int .i64 x] 110)).heap[w.heap.size+1]?=some (.cells #[.bool a,.string s,.int .i64 x] 110 (0,0)):=by
  have:=Zf (w.alloc (.cells #[.bool a,.string s,.int .i64 x] 67)) (.cells #[.bool a,.string s,.int .i64 x] 110)
  rwa[World.size_alloc] at this
 exact Zh (results_cell_row Tryz.results41 _ _ (w.heap.size+1) 110 #[.bool a,.string s,.int .i64 x] (0,0) _ (by simp) hh Tryz.underlying110 rfl (by kernel_rfl)) rfl ⟨rfl,a1.out⟩
inductive nT:Int->Bool->ByteArray->Dc->Value->Prop
 |null (t:Bool) (x:ByteArray) (d:Dc):nT 1 t x d (.iface 49 (.agg #[]))
 |bool (t:Bool) (x:ByteArray) (d:Dc):nT 2 t x d (.iface 50 (.bool t))
 |num (t:Bool) (x:ByteArray) (d:Dc):nT 3 t x d (.iface 113 (.agg #[.bool d.neg,.string d.digits,.int .i64 d.exp]))
 |text (t:Bool) (x:ByteArray) (d:Dc):nT 4 t x d (.iface 51 (.string x))
 |hole (t:Bool) (x:ByteArray) (d:Dc):nT 7 t x d (.iface 45 (.agg #[]))
def eZ (w:World)(gt a:Nat)(k:Int)(t:Bool)(x:ByteArray)(d:Dc)(vn vk:Value):Prop:= ∀ (j:Nat) (u:Value), [.int .i64 k,.bool t,.string x,.bool d.neg,.string d.digits,.int .i64 d.exp,vn,vk][j]?=some u->w.cell? ⟨gt,a*8+j,none⟩=some u
theorem eZ.all {a:Nat}{k:Int}{t:Bool}{x:ByteArray}(h:eZ w gt a k t x d vn vk):w.cell? ⟨gt,a*8,none⟩=some (.int .i64 k)/\w.cell? ⟨gt,a*8+1,none⟩=some (.bool t)/\w.cell? ⟨gt,a*8+2,none⟩=some (.string x)/\w.cell? ⟨gt,a*8+3,none⟩=some (.bool d.neg)/\w.cell? ⟨gt,a*8+4,none⟩=some (.string d.digits)/\w.cell? ⟨gt,a*8+5,none⟩=some (.int .i64 d.exp)/\w.cell? ⟨gt,a*8+6,none⟩=some vn/\w.cell? ⟨gt,a*8+7,none⟩=some vk:=
 ⟨h 0 _ rfl,h 1 _ rfl,h 2 _ rfl,h 3 _ rfl,h 4 _ rfl,h 5 _ rfl,h 6 _ rfl,h 7 _ rfl⟩
theorem eZ.later {a:Nat}{k:Int}{t:Bool}{x:ByteArray}(h:eZ w gt a k t x d vn vk)(hb:Below w.heap.size w w'):eZ w' gt a k t x d vn vk:=fun j u hu=>Zg hb (h j u hu)
abbrev Io (k:Int) (t:Bool) (x:ByteArray) (d:Dc) (vn vk:Value):Obj:=.cells #[.int .i64 k,.bool t,.string x,.bool d.neg,.string d.digits,.int .i64 d.exp,vn,vk] 70
theorem zY {a:Nat}{k:Int}{t:Bool}{x:ByteArray}{nk:Nat}(hc:eZ w gt a k t x d (.slice An nn cn) (.slice Ak nk ck))(ha:a<N)(hN:N<=1000000)(hl:nT k t x d u):Calls Tryz.prog 23 #[.slice (some ⟨gt,0,none⟩) N cap,.int .i64 (a:Int)] w fun e w'=>e =.returned u/\Below w.heap.size w w':=by
 obtain⟨c0,c1,c2,c3,c4,c5,c6,c7⟩:=hc.all;have a1:(a:Int)<N:=by omega
 have a0:=Qa (ac w (Io k t x d (.slice An nn cn) (.slice Ak nk ck)));clear hc
 cases hl
 case num=>
  go_enter Tryz.func23,Tryz.ntmps23;go_wp2_with fail;refine pc.mono ?_;rintro e w1 ⟨rfl,hb⟩;have Hb:=Qa (a0.out.trans (hb.mono a0.out.size));clear hb;go_wp2_with fail;go_ret;exact⟨rfl,Hb.out⟩
 all_goals
  go_enter Tryz.func23,Tryz.ntmps23;go_wp2_with fail;go_ret;exact⟨rfl,a0.out⟩
def FI (w:World)(j:JV)(e:Ending)(w':World):Prop:= ∃u,e =.returned u/\Below w.heap.size w w'/\VW (w.heap.size<= ·) w' u j
theorem yP {old new:Value}{k:JV}(hv:bo (VW (fun g=>B<=g/\old.ownBlock≠some g) w) us ks)(hu:VW (fun g=>B<=g/\old.ownBlock≠some g) w u k)(hg:w.grownBy w5 old.ownBlock)(hd:new.ownBlock=old.ownBlock\/new.ownBlock=some w.heap.size) :
  bo (VW (fun g=>B<=g/\new.ownBlock≠some g) w5) (us ++ [u]) (ks ++ [k]):=by
 have key:∀u k,VW (fun g=>B<=g/\old.ownBlock≠some g) w u k->VW (fun g=>B<=g/\new.ownBlock≠some g) w5 u k:=fun u k h=>h.stay fun g o ⟨h1,h2⟩ a0 _=>⟨⟨h1,fun e=>by
  rcases hd with hd|hd
  ·rw[hd] at e;exact h2 e
  ·rw[hd] at e;have:=ae a0;injection e with e
   omega⟩,(hg.block g (ae a0) (fun e=>h2 e.symm)).trans a0⟩
 exact(hv.mono key).snoc (key _ _ hu)
def Kf (B:Nat)(w2:World)(ks:List JV)(s6 s7:Value)(wr:World):Prop:= ∃ (i:Nat) (A:Option Addr) (c:Nat) (us:List Value),s7 =.int .i64 i/\i<=ks.length/\s6 =.slice A i c/\Below w2.heap.size w2 wr/\wr.ownsRow B 32 1 (.slice A i c) i us/\bo (VW (fun g=>B<=g/\(Value.slice A i c).ownBlock≠some g) wr) us (ks.take i)
theorem Br {a:Nat}{t:Bool}{x:ByteArray}(hc:eZ w gt a 5 t x d (.slice An nn cn) (.slice Ak ks.length ck))(hk:bI w 0 (.slice Ak ks.length ck) ps)(c8:ps.length=ks.length)(ha:a<N)(hN:N<=1000000)(hl:ks.length<=1000000)
  (H:∀ (i:Nat) (k:JV) (p:Nat),ks[i]?=some k->ps[i]?=some p->∀w1,Below w.heap.size w w1->Calls Tryz.prog 23 #[.slice (some ⟨gt,0,none⟩) N cap,.int .i64 (p:Int)] w1 (FI w1 k)) :
  Calls Tryz.prog 23 #[.slice (some ⟨gt,0,none⟩) N cap,.int .i64 (a:Int)] w (FI w (dJ ks)):=by
 obtain⟨c0,c1,c2,c3,c4,c5,c6,c7⟩:=hc.all;have d9:(a:Int)<N:=by omega
 have a2:=Qa (ac w (Io 5 t x d (.slice An nn cn) (.slice Ak ks.length ck)));have a1:=Qa (Zf w (Io 5 t x d (.slice An nn cn) (.slice Ak ks.length ck)));have Hk:=Qa (bI.below hk a2.out (Zb _));have HH:=Qa H;have b3:=Qa c8;clear hc hk H c8;go_enter Tryz.func23,Tryz.ntmps23;go_wp2_with fail;obtain⟨w2,b7⟩:∃w2,w.alloc (Io 5 t x d (.slice An nn cn) (.slice Ak ks.length ck))=w2:=⟨_,rfl⟩;rw[b7] at a2 a1 Hk ⊢;clear b7 c0 c1 c2 c3 c4 c5 c6 c7;have a7:=Qa (show w.heap.size<w2.heap.size from ae a1.out)
 go_loopw [6,7] (fun s6 s7 wr=>Kf w2.heap.size w2 ks s6 s7 wr) (fun _ v _=>ks.length - (intOf v).toNat)
 case atStart=>exact⟨0,none,0, [],rfl,Zk _,rfl,Ze _ _,⟨rfl,.inl ⟨rfl,rfl⟩⟩,bo.nil _⟩
 case round=>
  obtain⟨i,A,c,us,rfl,hi,rfl,hb,ho,hv⟩:=hrel;have c7:=aa (ai a1.out hb) (j:=7) (u:=.slice Ak ks.length ck) rfl;have Hb:=Qa hb;have Ho:=Qa ho;have Hv:=Qa hv;have b4:=hb.size;clear hb ho hv
  by_cases hlt:i<ks.length
  ·obtain⟨k,hki⟩:∃k,ks[i]?=some k:=⟨_,Zd hlt⟩;obtain⟨p,b1⟩:∃p,ps[i]?=some p:=⟨_,Zd (by rw[b3.out];exact hlt)⟩;have a5:=Hk.out.below Hb.out (Zb _);unfold bI at a5;rw[b3.out] at a5;obtain⟨_,_,e,_,_,hA⟩:=ag a5;obtain⟨gk,rfl⟩:=hA (by omega);obtain⟨e1,-,-⟩:=Value.slice.inj e;subst e1;have ck0:=aL a5 rfl i (by omega);rw[List.getElem?_map,b1] at ck0;simp only[Option.map_some,cO] at ck0;have HC:=Qa (HH.out i k p hki b1 wr (a2.out.trans (Hb.out.mono a2.out.size)));have c9:=Qa hki;have b0:(i:Int)<ks.length:=by omega
   clear hki b1 a5 e hA;go_wp2_with fail;refine Za HC ?_;rintro e w3 ⟨u,rfl,a6,hu⟩;obtain⟨tv,xv,rfl⟩:=hu.iface;have d5:=a6.size;have d3:=Qa (Hb.out.trans (a6.mono b4));have a0:=a6.alloc d5 (.cells #[.iface tv xv] 32);have a3:=Qa (ao Ho.out a0 (Zb _));have d6:=Qa (ap w3 [.iface tv xv] 32);have hob:∀b,(Value.slice A i c).ownBlock=some b->b<wr.heap.size:=fun b hb=>ae (aj Ho.out hb).2.choose_spec
   have d4:=Qa (Hv.out.mono fun _ _ h=>h.later a0);have Hu:=Qa ((hu.later (ac w3 (.cells #[.iface tv xv] 32))).imp (Q:=fun g=>w2.heap.size<=g/\(Value.slice A i c).ownBlock≠some g) fun g hg _=>⟨by omega,fun e=>by have:=hob g e;omega⟩);have a4:=Qa (show w2.heap.size<=(w3.alloc (.cells #[.iface tv xv] 32)).heap.size by simp;omega);have b2:=Qa (d3.out.alloc (by omega) (.cells #[.iface tv xv] 32));clear a6 a0 hu hob;go_wp2_with (at_builtin;refine km yI a3.out d6.out a4.out ?_;intro v' w5 p1 p2 p3;obtain⟨A5,q5,rfl,-,-,-⟩:=ag p1;have HK:=Qa p1;have HG:=Qa p2;have HD:=Qa p3;clear p1 p2 p3);refine⟨⟨i+1,A5,q5,us ++ [.iface tv xv],by go_num,by omega,rfl,b2.out.grown HG.out a4.out (fun g e=>(aj a3.out e).1),HK.out,?_⟩,by simp[intOf];omega⟩;rw[bQ c9.out];exact yP d4.out Hu.out HG.out HD.out
  ·obtain rfl:i=ks.length:=by omega
   have b0:¬ (ks.length:Int)<ks.length:=by omega
   have b8:=Qa (show us.length=ks.length by have:=Hv.out.1;rw[List.take_length] at this;exact this);have b6:bo (VW (fun g=>w2.heap.size<=g/\(Value.slice A ks.length c).ownBlock≠some g) wr) us ks:=by have:=Hv.out;rw[List.take_length] at this;exact this
   have d2:=Qa b6;have HN:=Qa (mi (by have:=Sl.of_own Ho.out (us:=us);exact this) (fun v hv=>by
    obtain⟨j,hj,rfl⟩:=List.getElem_of_mem hv;exact(Hv.out.2 j us[j] ((ks.take ks.length)[j]'(by rw[List.take_length];have:=b8.out;omega)) (Zd hj) (Zd _)).iface) (by have:=b8.out;omega))
   clear hlt b6;go_wp2_with fail;refine Za HN ?_;rintro e w3 ⟨gl,A1,c1,rfl,a9,e0,b5,b9⟩;have d0:=Qa (a2.out.trans ((Hb.out.trans (a9.mono b4)).mono a2.out.size));have d1:=Qa (yN (Q:=(w.heap.size<= ·)) b5 (b9.stay fun g o hp hg _ _=>⟨by have:=a7.out;omega,hg⟩) (by have:=a7.out;omega) (d2.out.mono fun _ _ h=>(h.later a9).imp fun g hg _=>by have:=a7.out;omega));clear a9 b5 b9;go_wp2_with fail;go_ret;exact⟨_,rfl,d0.out,d1.out⟩
