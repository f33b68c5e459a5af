import Derived.Test.YtimbegpgemkpkaaGreatDoorGZ7aj
set_option linter.unusedVariables false
set_option linter.unusedSimpArgs false
set_option maxHeartbeats 64000000
set_option maxRecDepth 100000
namespace Go.Proofs.YtimbegpgemkpkaaGreatDoor
open Go.Proofs.Tryz
open Go.RowKit
variable {aE aU:Addr}{cs:Array Value}{bt r:Bool}{ax bx:Nc}{ad d:Dc}{ak:Int}{j j' j0:JV}{ns ns':List Nc}{ks ks':List JV}{ps qs:List Nat}{xs xs' ys:Na}{us us':Nb}{B M N a0 acap ack acn ag ank ann b0 base bcap bck bcn bg bnk bnn c cap ck cn g gr gt n nn q5 xb:Nat}{F P Q:Nat->Prop}{A A5 Ak An aAk aAn bAk bAn:OA}{T:TypeId->Prop}{u v v' vk vn x:Value}{W w w' w0 w1 w2 w5 wr:Wd}
def yV:Array Value:= #[.int .i64 1073741824,.int .i64 1073741824,.int .i64 1073741824,.int .i64 1073741824,.int .i64 1073741824,.int .i64 4611686018427387903]
theorem Bv (p q:Value)(w:Wd):CallsD prog 131 #[p,q] .returning w fun e u' w'=>e =.returned (.tuple #[])/\u' =.returning/\w'=w:=by
 refine callsD_of_wpS func131 rfl fun c₀ cs hu=>?_
 apply wpS_seq
 apply wpS_region
 simp[wpOpsS,go_sem,recoverD,hu,ntmps131,Exit.thenS];apply wpS_seq;apply wpS_region;simp[wpOpsS,go_sem,Exit.thenS];refine wpS_cond (t:=false) (by simp[Act.eval,Array.replicate]) ?_;simp only[Bool.false_eq_true,if_false];refine wpS_of_wp (wp_skip ?_)
 cases c₀
 simp_all [bodyPostS,results,results131]
theorem Fb {s1 s2:Nat}(hne:s1≠s2)(h1:wr.heap[s1]?=some (.cells #[(0:Int),(0:Int),(0:Int),(0:Int)] 113 (0,0)))(h2:wr.heap[s2]?=some (.cells #[.nilIface] 44 (0,0)))(a b c d:Value)
  (hW:((((wr.setCell (nl s1) a).setCell (no s1 1) b).setCell (no s1 2) c).setCell (no s1 3) d).setCell (nl s2) .nilIface=W) :
  W.heap[s1]?=some (.cells #[a,b,c,d] 113 (0,0))/\W.heap[s2]?=some (.cells #[.nilIface] 44 (0,0))/\aV (fun k=>k=s1\/k=s2) wr W:=by
 subst hW;have g1:=az (az (az (az h1 0 a) 1 b) 2 c) 3 d;have g2:=ay _ s2 s1 3 d _ _ hne.symm (ay _ s2 s1 2 c _ _ hne.symm (ay _ s2 s1 1 b _ _ hne.symm (ay wr s2 s1 0 a _ _ hne.symm h2)));refine⟨ay _ s1 s2 0 .nilIface _ _ hne g1,az g2 0 .nilIface,?_⟩;exact(((((aV.set s1 0 a).mono fun _ h=>.inl h).trans (aV.set s1 1 b) fun i h=>.inl (.inl h)).trans (aV.set s1 2 c) fun i h=>.inl (.inl h)).trans (aV.set s1 3 d) fun i h=>.inl (.inl h)).trans (aV.set s2 0 _) fun i h=>.inl (.inr h)
def Ek (w0:Wd)(rb lb xb:Nat)(v:Value)(xs:Na)(j:JV)(m:Nat)(wr:Wd):Prop:=
 (∃ (f:Nat) (c:dT) (k nd:Nat),m=xs.length - k+1/\FK f c (xs.drop k)=some j/\PS w0.heap.size rb lb xb v xs c k nd false wr/\c.ok kN/\eD c.frs<=k/\nd<=k/\k<=xs.length/\ge w0 wr)\/
 (m=0/\∃nd bs,kI w0.heap.size wr rb lb xb v xs [] 7 xs.length nd true/\fY w0.heap.size wr xb [] (some j) bs/\ge w0 wr)
def Lm (w0:Wd)(xb:Nat)(j:JV)(e:Ending)(w':Wd):Prop:= ∃a b c d:Int,e =.returned (.tuple #[.agg #[(a:Int),(b:Int),(c:Int),(d:Int)],.nilIface])/\ge w0 w'/\∃bs,fY w0.heap.size w' xb [] (some j) bs
theorem CB (hE:sT w0 aU aE)(hM:lT w0)(e7:ge w0 w)(hb:Bs w v xs)(h0:0<xs.length)(hl:xs.length<=1000000000)(f2:fY w0.heap.size w xb [] none [])(hp:fN xs=some j) :
  Calls prog 102 #[v,fu,.func (.func 103) #[.pointer (some (nl xb))] #[]] w (Lm w0 xb j):=by
 have h9:∀ (fn:Fn) (first cap:Array Value) (w:Wd),(Instr.makeFunc fn first cap).run prog w =.ok (.func fn first cap) w:=fun _ _ _ _=>rfl
 obtain⟨hm,A,cap,rfl,g9,c6⟩:=id hb;have HE:=Qa hE;have HM:=Qa hM;have a9:=Qa e7;have Hb:=Qa hb;have H0:=Qa h0;have Hl:=Qa hl;have h7:=Qa f2;have Hp:=Qa hp;have f8:=Qa (fun w=>zL w);have f1:=Qa (fun w=>vM (m:=1) (x:=(xs.length:Int)) (by omega) (by omega) w);unfold fu at *;have hlen:(xs.length:Int)<=1000000000:=by omega
 clear hE hM e7 hb h0 hl f2 hp c6;have f7:ge w (((w.alloc (.cells #[(1073741824:Int),(1073741824:Int),(1073741824:Int),(1073741824:Int),(1073741824:Int),(4611686018427387903:Int)] 117)).alloc (.cells #[(0:Int),(0:Int),(0:Int),(0:Int)] 113)).alloc (.cells #[.nilIface] 44)):=bI (bI (aa _ _) (aa _ _)) (aa _ _);have g0:(((w.alloc (.cells #[(1073741824:Int),(1073741824:Int),(1073741824:Int),(1073741824:Int),(1073741824:Int),(4611686018427387903:Int)] 117)).alloc (.cells #[(0:Int),(0:Int),(0:Int),(0:Int)] 113)).alloc (.cells #[.nilIface] 44)).heap[w.heap.size]?=some (.cells #[(1073741824:Int),(1073741824:Int),(1073741824:Int),(1073741824:Int),(1073741824:Int),(4611686018427387903:Int)] 117 (0,0)):=(Below.heap_alloc _ _ _ (by simp only[World.size_alloc];omega)).trans ((Below.heap_alloc _ _ _ (by simp)).trans (Zf w _));have g1:(((w.alloc (.cells #[(1073741824:Int),(1073741824:Int),(1073741824:Int),(1073741824:Int),(1073741824:Int),(4611686018427387903:Int)] 117)).alloc (.cells #[(0:Int),(0:Int),(0:Int),(0:Int)] 113)).alloc (.cells #[.nilIface] 44)).heap[w.heap.size+1]?=some (.cells #[(0:Int),(0:Int),(0:Int),(0:Int)] 113 (0,0)):=by
  have:=Zf (w.alloc (.cells #[(1073741824:Int),(1073741824:Int),(1073741824:Int),(1073741824:Int),(1073741824:Int),(4611686018427387903:Int)] 117)) (.cells #[(0:Int),(0:Int),(0:Int),(0:Int)] 113);rw[World.size_alloc] at this;exact(Below.heap_alloc _ _ _ (by simp)).trans this
 have g2:(((w.alloc (.cells #[(1073741824:Int),(1073741824:Int),(1073741824:Int),(1073741824:Int),(1073741824:Int),(4611686018427387903:Int)] 117)).alloc (.cells #[(0:Int),(0:Int),(0:Int),(0:Int)] 113)).alloc (.cells #[.nilIface] 44)).heap[w.heap.size+1+1]?=some (.cells #[.nilIface] 44 (0,0)):=by
  have:=Zf ((w.alloc (.cells #[(1073741824:Int),(1073741824:Int),(1073741824:Int),(1073741824:Int),(1073741824:Int),(4611686018427387903:Int)] 117)).alloc (.cells #[(0:Int),(0:Int),(0:Int),(0:Int)] 113)) (.cells #[.nilIface] 44)
  rwa[World.size_alloc,World.size_alloc] at this
 have g6:=Qa f7;have G0:=Qa g0;have G1:=Qa g1;have G2:=Qa g2;clear f7 g0 g1 g2;go_enter_defers func102,ntmps102;go_wp2_with fail;generalize ((w.alloc (.cells #[(1073741824:Int),(1073741824:Int),(1073741824:Int),(1073741824:Int),(1073741824:Int),(4611686018427387903:Int)] 117)).alloc (.cells #[(0:Int),(0:Int),(0:Int),(0:Int)] 113)).alloc (.cells #[.nilIface] 44)=w1 at *;refine(f8 _).mono ?_;rintro e w2 ⟨rfl,e5⟩;have l0:=al G0.out e5;have c0:=ac l0 (j:=0) (u:=(1073741824:Int)) rfl;have c1:=ac l0 (j:=1) (u:=(1073741824:Int)) rfl;have c2:=ac l0 (j:=2) (u:=(1073741824:Int)) rfl;have c3:=ac l0 (j:=3) (u:=(1073741824:Int)) rfl;have c4:=ac l0 (j:=4) (u:=(1073741824:Int)) rfl;have c5:=ac l0 (j:=5) (u:=(4611686018427387903:Int)) rfl;have e0:=Qa e5;clear l0 e5;go_wp2_with fail;refine(f1 _).mono ?_;rintro e w3 ⟨rfl,b6⟩;have h8:=Qa (bI (bI g6 e0) b6);have L0:=Qa (al (al G0 e0) b6);have L1:=Qa (al (al G1 e0) b6);have L2:=Qa (al (al G2 e0) b6);clear c0 c1 c2 c3 c4 c5 b6;go_wp2_with fail;obtain⟨wr,d7⟩:=y7 w3.drew;have b5:ge w3 wr:=by rw[<-d7];exact(Ze _ _).drew
 have b0:=Qa (bI h8.out b5);have f0:=al L0.out b5;have b7:∀ (w':Wd),w'.heap[w.heap.size]?=some (.cells #[(1073741824:Int),(1073741824:Int),(1073741824:Int),(1073741824:Int),(1073741824:Int),(4611686018427387903:Int)] 117 (0,0))->w'.cell? (nl w.heap.size)=some (.int .i64 1073741824)/\w'.cell? (no w.heap.size 1)=some (.int .i64 1073741824)/\w'.cell? (no w.heap.size 2)=some (.int .i64 1073741824)/\w'.cell? (no w.heap.size 3)=some (.int .i64 1073741824)/\w'.cell? (no w.heap.size 4)=some (.int .i64 1073741824)/\w'.cell? (no w.heap.size 5)=some (.int .i64 4611686018427387903):=fun _ h=>
  ⟨ac h (j:=0) rfl,ac h (j:=1) rfl,ac h (j:=2) rfl,ac h (j:=3) rfl,ac h (j:=4) rfl,ac h (j:=5) rfl⟩
 have a3:=Qa b7;have d9:=Qa f0;have b4:=Qa (xZ (w:=wr) (Hb.below b0) H0.out (by have:=Hl.out;omega));have R1:=Qa (al L1.out b5);have R2:=Qa (al L2.out b5);clear b5 f0 b7;refine aI (fun w2=>w2.cell? (nl w.heap.size)=some (.int .i64 1073741824)/\w2.cell? (no w.heap.size 1)=some (.int .i64 1073741824)/\w2.cell? (no w.heap.size 2)=some (.int .i64 1073741824)/\w2.cell? (no w.heap.size 3)=some (.int .i64 1073741824)/\w2.cell? (no w.heap.size 4)=some (.int .i64 1073741824)/\w2.cell? (no w.heap.size 5)=some (.int .i64 4611686018427387903)) ((by rw[d7];exact a3 _ d9.out)) fun a7=>?_
 refine bw 0 2 3 a7 ?_;refine bw 4 5 6 a7 ?_;refine rH 1 fun K hK=>?_
 go_simp;(try rw[d7]);refine Za b4 ?_;rintro e w5 ⟨lb,u,rfl,f5,e8,f9,b8⟩;have b1:=Qa e8;have g8:=Qa f5;have g7:=Qa f9;have e1:=Qa b8;clear e8 f5 f9 b8;go_wp2_with fail;refine hK _ _ (a3 _ (al d9 b1)) (fun a7=>?_);clear hK K
 try simp only[Act.put,jP,jQ,jR]
 refine tH 7 a7 ?_;refine rH 8 fun K hK=>?_
 go_simp;refine hK _ _ (a3 _ (al (al d9 b1) (aa _ _))) (fun a7=>?_);clear hK K
 try simp only[Act.put,jP,jQ,jR]
 refine tH 9 a7 ?_;refine y5 ?_;clear a7 d7;have d6:ge w0 w5:=(a9.trans (b0.mono a9.size)).trans (b1.mono (Zc a9.size b0.size));have a0:=aa w5 (.cells (dW lb xb xs.length 0 0 0 () () 0 false) 228);have a5:=Zf w5 (.cells (dW lb xb xs.length 0 0 0 () () 0 false) 228);have g3:ju w0.heap.size (w5.alloc (.cells (dW lb xb xs.length 0 0 0 () () 0 false) 228)) w5.heap.size lb xb u xs [] 0 0 0 false xs.length 0 0 () () []:=
  ⟨a5,d6.size,g8.below a0,Zc (Zc a9.size b0.size) g7,aq (bT e1 (Zc a9.size b0.size)) a0 (Zb _),⟨rfl,.inl ⟨rfl,rfl⟩⟩,⟨rfl,.inl ⟨rfl,rfl⟩⟩,bC.nil _,List.nodup_nil,Zk _⟩
 have b9:=(h7.below (bI b0 b1)).below a0;have Hrel:=Qa (show Ek w0 w5.heap.size lb xb u xs j (xs.length+1) (w5.alloc (.cells (dW lb xb xs.length 0 0 0 () () 0 false) 228)) from
  .inl ⟨xs.length+1,⟨[],0,none⟩,0,0,rfl,Hp,⟨g3.s, [],b9⟩,dT.ok.start kN,Zb _,Zb _,Zk _,d6.trans (a0.mono d6.size)⟩)
 have Q1:=Qa (al (al R1 b1) a0);have Q2:=Qa (al (al R2 b1) a0);unfold dW at Hrel Q1 Q2;clear g3 b9 a5 a0 d6 b4 d9 a3 R1 R2 L0 L1 L2 G0 G1 G2 f8 f1;go_wp2_with fail
 go_loopg [] (xs.length+1) (fun m wr=>Ek w0 w5.heap.size lb xb u xs j m wr/\wr.heap[w.heap.size+1]?=some (.cells #[(0:Int),(0:Int),(0:Int),(0:Int)] 113 (0,0))/\wr.heap[w.heap.size+1+1]?=some (.cells #[.nilIface] 44 (0,0)))
 case atStart=>exact⟨Hrel,Q1,Q2⟩
 case round=>
  obtain⟨hrel,q1,q2⟩:=hrel;have HQ1:=Qa q1;have HQ2:=Qa q2;clear Hrel Q1 Q2 q1 q2;rcases hrel with ⟨f,c,k,nd,hm,hrun,a6,b2,hcn,f4,hk,a2⟩|⟨h6,nd,bs,hR,d5,a2⟩
  .obtain⟨by9,dp9,ex9,ov9,nv9,maps9,a1⟩:=id a6.1;have c15:=ac a1.row (j:=15) (u:=.bool false) rfl;have i0:=Qa a6;have Hm:=Qa hm;have Hbl:=Qa a2
   cases f with
   |zero=>cases hrun
   |succ f=>
    unfold FK at hrun
    cases hdw:(xs.drop k).dropWhile dm with
    |nil=>
     rw[hdw] at hrun;simp only at hrun
     split at hrun
     case isFalse=>cases hrun
     rename_i hw7
     obtain⟨frs,want,done⟩:=c;simp only at hw7 hrun;subst hw7 hrun;have h4:frs = []:=b2.want.1;subst h4;obtain⟨bs9,f6⟩:=a6.2;have e4:=Qa (ER (HE.below a2) a6.1 f6 Hl.out a2.size hdw);clear a6 b2 hcn f4 hk a2 hm a1 f6 hdw;go_wp2_with fail;refine Za e4 ?_;rintro e w7 ⟨rfl,h1,h2,h3⟩;have R:=NB h1 h2 h3;clear h1 h2 h3 c15;go_wp2_with fail;go_roundg 0
     case measure=>have:=Hm.out;omega
     case rel=>exact⟨.inr ⟨rfl,nd,bs9,R.2.1,R.2.2,Hbl.trans R.1.b⟩,R.1.k.2 _ _ _ _ HQ1 (by simp only[TA,TB,TV,nN];decide),R.1.k.2 _ _ _ _ HQ2.out (by simp only[TA,TB,TV,nN];decide)⟩
    |cons y ys=>
     rw[hdw] at hrun;simp only at hrun
     cases hlx:dM (y::ys) with
     |none=>rw[hlx] at hrun;cases hrun
     |some tn=>
      obtain⟨t,n⟩:=tn;rw[hlx] at hrun;simp only at hrun
      cases hsb:eh c t with
      |none=>rw[hsb] at hrun;cases hrun
      |some c'=>
       rw[hsb] at hrun;simp only at hrun;have g5:=pV hlx;have hin:(y::ys).length<=xs.length - k:=by
        have h1:=i1 (xs.drop k);rw[hdw,List.length_drop] at h1;exact h1
       rw[List.length_cons] at g5 hin;have a4:xs.drop (xs.length - (ys.length+1))=y::ys:=by
        have h1:=tP (xs.drop k);rw[hdw,List.drop_drop] at h1;have h2:=congrArg List.length h1;rw[List.length_drop,List.length_cons] at h2;rw[<-h1]
        congr 1
        omega
       have e4:=Qa (FY (⟨HE,HM,a6,b2,by have:=Hl.out;omega,by have:=Hl.out;omega,Hl.out,a2⟩:jA w0 w5.heap.size lb xb u xs c k nd wr aU aE) hdw hlx hsb);have Hrun:=Qa (show FK f c' (xs.drop (xs.length - (ys.length+1)+n))=some j by rw[<-List.drop_drop,a4];exact hrun);have Hok:=Qa (GY b2 (GL (by rw[List.length_cons];have:=Hl.out;omega) hlx) hsb);have Hcn:=Qa (show eD c'.frs<=xs.length - (ys.length+1)+n/\nd+1<=xs.length - (ys.length+1)+n/\xs.length - (ys.length+1)+n<=xs.length/\k<xs.length - (ys.length+1)+n by have:=Fi hsb;omega);clear a6 b2 hcn f4 hk a2 hm a1 hdw hlx hsb hrun g5 hin a4;go_wp2_with fail;refine Za e4 ?_;rintro e w7 ⟨nd',f3,rfl,h1,h2⟩;have R:=NB f3 h1 h2;clear f3 h1 h2 c15;go_wp2_with fail;go_roundg (xs.length - (xs.length - (ys.length+1)+n)+1)
       case measure=>have:=Hm.out;have:=Hcn.out;omega
       case rel=>exact⟨.inl ⟨f,c',_,nd',rfl,Hrun,R.2.2,Hok,Hcn.1,Zc R.1 Hcn.2.1,Hcn.2.2.1,Hbl.trans R.2.1.b⟩,R.2.1.k.2 _ _ _ _ HQ1 (by simp only[TA,TB,TV,nN];decide),R.2.1.k.2 _ _ _ _ HQ2.out (by simp only[TA,TB,TV,nN];decide)⟩
  .obtain⟨by9,dp9,ex9,ov9,nv9,maps9,a1⟩:=id hR;have c15:=ac a1.row (j:=15) (u:=.bool true) rfl;have c7:=ac a1.row (j:=7) (u:=(by9:Int)) rfl;have c8:=ac a1.row (j:=8) (u:=(dp9:Int)) rfl;have c9:=ac a1.row (j:=9) (u:=(nd:Int)) rfl;have c10:=ac a1.row (j:=10) (u:=(ex9:Int)) rfl;have h5:=Qa d5;have Hbl:=Qa a2;have r0:=ac HQ1.out (j:=0) rfl;have r1:=ac HQ1.out (j:=1) rfl;have r2:=ac HQ1.out (j:=2) rfl;have r3:=ac HQ1.out (j:=3) rfl;have r4:=ac HQ2.out (j:=0) rfl;have z0:=ao HQ1.out 0;have z1:=ao HQ1.out 1;have z2:=ao HQ1.out 2;have z3:=ao HQ1.out 3;have z4:=ao HQ2.out 0;clear h6 hR d5 a2 a1;go_wp2_with fail;obtain⟨W,hW⟩:=y7 (((((wr.setCell ⟨w.heap.size+1,0,none⟩ (by9:Int)).setCell ⟨w.heap.size+1,1,none⟩ (dp9:Int)).setCell ⟨w.heap.size+1,2,none⟩ (nd:Int)).setCell ⟨w.heap.size+1,3,none⟩ (ex9:Int)).setCell ⟨w.heap.size+1+1,0,none⟩ .nilIface);rw[hW];obtain⟨g1,g2,e2⟩:=Fb (by omega) HQ1.out HQ2.out _ _ _ _ hW;have d0:=ac g1 (j:=0) (u:=(by9:Int)) rfl;have d1:=ac g1 (j:=1) (u:=(dp9:Int)) rfl;have d2:=ac g1 (j:=2) (u:=(nd:Int)) rfl;have d3:=ac g1 (j:=3) (u:=(ex9:Int)) rfl;have d4:=ac g2 (j:=0) (u:=.nilIface) rfl;have e6:Kp (fun e=>e=113\/e=44) wr W:=Kp.of_chg e2 fun g hg _=>by
    rcases hg with rfl|rfl
    .exact⟨_,_,_,HQ1,.inl rfl⟩
    .exact⟨_,_,_,HQ2,.inr rfl⟩
   have g4:=h5.kp e6 fun e he=>by rcases he with (rfl|rfl|rfl|rfl)|rfl|rfl <;> decide
   have b3:ge w0 W:=Hbl.trans (e2.below Hbl.size fun i hi=>by have:=a9.size;rcases hi with rfl|rfl <;> omega);have e3:Lm w0 xb j (.returned (.tuple #[.agg #[(by9:Int),(dp9:Int),(nd:Int),(ex9:Int)],.nilIface])) W:=⟨_,_,_,_,rfl,b3,bs,g4⟩;clear hW e2 e6 g4 b3 r0 r1 r2 r3 r4 z0 z1 z2 z3 z4 c7 c8 c9 c10 c15;refine leaves_cons (f:=131) (args:= #[.pointer (some ⟨w.heap.size+1,0,none⟩),.pointer (some ⟨w.heap.size+1+1,0,none⟩)]) (by simp) (by simp[go_sem]) ?_;refine(Bv _ _ _).mono ?_;rintro e u' w'' ⟨rfl,rfl,rfl⟩;simp[Leaves,settle,results,results102,go_sem,d0,d1,d2,d3,d4];exact e3
def LY (w:Wd)(j:JV)(e:Ending)(w':Wd):Prop:= ∃ (u:Value) (a b c d:Int),e =.returned (.tuple #[u,.agg #[(a:Int),(b:Int),(c:Int),(d:Int)],.nilIface])/\ge w w'/\VW (w.heap.size<= ·) w' u j
theorem CQ (hE:sT w aU aE)(hM:lT w)(hb:Bs w v xs)(h0:0<xs.length)(hl:xs.length<=1000000000)(hp:fN xs=some j) :
  Calls prog 72 #[v,fu] w (LY w j):=by
 have e5:∀ (fn:Fn) (first cap:Array Value) (w:Wd),(Instr.makeFunc fn first cap).run prog w =.ok (.func fn first cap) w:=fun _ _ _ _=>rfl
 have a6:ge w ((w.alloc (.cells yV 117)).alloc (.cells #[(0:Int),(0:Int),(0:Int),(0:Int)] 113)):=bI (aa _ _) (aa _ _);have g0:((w.alloc (.cells yV 117)).alloc (.cells #[(0:Int),(0:Int),(0:Int),(0:Int)] 113)).heap[w.heap.size]?=some (.cells yV 117 (0,0)):=(Below.heap_alloc _ _ _ (by simp)).trans (Zf w _);have g1:((w.alloc (.cells yV 117)).alloc (.cells #[(0:Int),(0:Int),(0:Int),(0:Int)] 113)).heap[w.heap.size+1]?=some (.cells #[(0:Int),(0:Int),(0:Int),(0:Int)] 113 (0,0)):=by
  have:=Zf (w.alloc (.cells yV 117)) (.cells #[(0:Int),(0:Int),(0:Int),(0:Int)] 113)
  rwa[World.size_alloc] at this
 have hz:((w.alloc (.cells yV 117)).alloc (.cells #[(0:Int),(0:Int),(0:Int),(0:Int)] 113)).heap.size=w.heap.size+1+1:=by simp
 unfold yV at a6 g0 g1 hz;have H2:=Qa a6;have G0:=Qa g0;have G1:=Qa g1;have Hz:=Qa hz;have HE:=Qa (hE.below a6);have HM:=Qa (hM.below a6);have Hb:=Qa (hb.below a6);have H0:=Qa h0;have Hl:=Qa hl;have Hp:=Qa hp;have d5:=hE;unfold fu;clear a6 g0 g1 hz hE hM hb h0 hl hp d5;go_in;go_wp2_with fail;generalize ((w.alloc (.cells #[(1073741824:Int),(1073741824:Int),(1073741824:Int),(1073741824:Int),(1073741824:Int),(4611686018427387903:Int)] 117)).alloc (.cells #[(0:Int),(0:Int),(0:Int),(0:Int)] 113))=w1 at *;rw[<-Hz.out];have a4:=aa w1 (.cells #[(),.nilIface] 187);have a3:=Zf w1 (.cells #[(),.nilIface] 187);have b2:fY w1.heap.size (w1.alloc (.cells #[(),.nilIface] 187)) w1.heap.size [] none []:=⟨.slice none 0 0,.nilIface, [],a3,Zb _,⟨rfl,.inl ⟨rfl,rfl⟩⟩,bC.nil _,rfl,List.nodup_nil,rfl⟩;have c0:=Qa (CB HE.out HM.out a4 (Hb.below a4) H0.out Hl.out b2 Hp.out);unfold fu at c0;clear a4 a3 b2;refine Za c0 ?_;rintro e w3 ⟨a,b,c,d,rfl,b4,bs,pv,dv,us,b5⟩;have b7:VW (Pb w1.heap.size bs) w3 dv j:=b5.done;obtain⟨tv,xv,c9⟩:=b7.iface;subst c9;have a0:=aa w3 (.cells #[(a:Int),(b:Int),(c:Int),(d:Int)] 113);obtain⟨w4,c2⟩:=y7 (w3.alloc (.cells #[(a:Int),(b:Int),(c:Int),(d:Int)] 113));have b9:=Zf w3 (.cells #[(a:Int),(b:Int),(c:Int),(d:Int)] 113);rw[c2] at a0 b9;have e0:=Qa (b7.later a0);have e1:=Qa (al b5.row a0);have e4:=Qa b9;have c3:w3.heap[w.heap.size+1]?=some (.cells #[(0:Int),(0:Int),(0:Int),(0:Int)] 113 (0,0)):=(b4.block _ (ah G1)).trans G1.out;have d6:=Qa (al c3 a0);have c7:=Qa (show ge w1 w4 from b4.trans (a0.mono b4.size));have e2:=Qa c2;have hlt:w1.heap.size<w3.heap.size:=ah b5.row;have d4:=Qa hlt;clear b4 b5 b7 a0 b9 c3 c2 hlt c0;go_wp2_with fail
 try rw[e2.out]
 obtain⟨wr,b6⟩:=y7 w4.drew;have a5:ge w4 wr:=by rw[<-b6];exact(Ze _ _).drew
 have d7:=Qa (e0.later a5);have hX:=al e1.out a5;have hN:=al e4.out a5;have hG:=al d6.out a5;have e3:=Qa hX;have b3:=Qa hN;have c5:=Qa hG;have c4:=Qa (c7.trans (a5.mono c7.size));have z0:=ao hG 0;have z1:=ao hG 1;have z2:=ao hG 2;have z3:=ao hG 3;have y0:=ac hG (j:=0) (u:=(0:Int)) rfl;have y1:=ac hG (j:=1) (u:=(0:Int)) rfl;have y2:=ac hG (j:=2) (u:=(0:Int)) rfl;have y3:=ac hG (j:=3) (u:=(0:Int)) rfl;have b0:w.heap.size+1≠w1.heap.size:=by have:=Hz.out;omega
 have a9:w.heap.size+1≠w3.heap.size:=by have:=Hz.out;have:=d4.out;omega
 have c1:=Qa b0;have a1:=Qa a9;clear a5 hX hN hG b0 a9;have hS:wr.cell? (no w1.heap.size 1)=some (.iface tv xv)/\wr.cell? (nl w3.heap.size)=some (.int .i64 a)/\wr.cell? (no w3.heap.size 1)=some (.int .i64 b)/\wr.cell? (no w3.heap.size 2)=some (.int .i64 c)/\wr.cell? (no w3.heap.size 3)=some (.int .i64 d):=
  ⟨ac e3 (j:=1) rfl,ac b3.out (j:=0) rfl,ac b3.out (j:=1) rfl,ac b3.out (j:=2) rfl,ac b3.out (j:=3) rfl⟩
 have HS:=Qa hS;clear hS;have b1:∀ (W:Wd) (i:Nat) (x:Value),(W.cell? (no w1.heap.size 1)=some (.iface tv xv)/\W.cell? (nl w3.heap.size)=some (.int .i64 a)/\W.cell? (no w3.heap.size 1)=some (.int .i64 b)/\W.cell? (no w3.heap.size 2)=some (.int .i64 c)/\W.cell? (no w3.heap.size 3)=some (.int .i64 d))->
   ((W.setCell ⟨w.heap.size+1,i,none⟩ x).cell? (no w1.heap.size 1)=some (.iface tv xv)/\(W.setCell ⟨w.heap.size+1,i,none⟩ x).cell? (nl w3.heap.size)=some (.int .i64 a)/\(W.setCell ⟨w.heap.size+1,i,none⟩ x).cell? (no w3.heap.size 1)=some (.int .i64 b)/\(W.setCell ⟨w.heap.size+1,i,none⟩ x).cell? (no w3.heap.size 2)=some (.int .i64 c)/\(W.setCell ⟨w.heap.size+1,i,none⟩ x).cell? (no w3.heap.size 3)=some (.int .i64 d)):=fun W i x ⟨h1,h2,h3,h4,h5⟩=>
  ⟨(World.cell?_setCell_far _ _ _ _ c1.out).trans h1,(World.cell?_setCell_far _ _ _ _ a1.out).trans h2,(World.cell?_setCell_far _ _ _ _ a1.out).trans h3,(World.cell?_setCell_far _ _ _ _ a1.out).trans h4,(World.cell?_setCell_far _ _ _ _ a1.out).trans h5⟩
 have a2:=Qa b1;clear b1;refine aI (fun w2=>w2.cell? (no w1.heap.size 1)=some (.iface tv xv)/\w2.cell? (nl w3.heap.size)=some (.int .i64 a)/\w2.cell? (no w3.heap.size 1)=some (.int .i64 b)/\w2.cell? (no w3.heap.size 2)=some (.int .i64 c)/\w2.cell? (no w3.heap.size 3)=some (.int .i64 d)) ((by rw[b6];exact HS.out)) fun a7=>?_
 refine bw 0 1 2 a7 ?_;refine tH 3 a7 ?_;refine rH 4 fun K hK=>?_
 (try rw[b6] at a7 ⊢);go_simp;refine hK _ _ (a2 _ _ _ (a2 _ _ _ (a2 _ _ _ (a2 _ _ _ HS)))) (fun a7=>?_);clear hK K
 try simp only[Act.put,jP,jQ,jR]
 refine tH 5 a7 ?_;refine y5 ?_;clear y0 y1 y2 y3 z0 z1 z2 z3
 try clear a7
 go_wp2_with fail;obtain⟨W,hW⟩:=y7 ((((wr.setCell ⟨w.heap.size+1,0,none⟩ (a:Int)).setCell ⟨w.heap.size+1,1,none⟩ (b:Int)).setCell ⟨w.heap.size+1,2,none⟩ (c:Int)).setCell ⟨w.heap.size+1,3,none⟩ (d:Int));rw[hW];have g:=az (az (az (az c5 0 (a:Int)) 1 (b:Int)) 2 (c:Int)) 3 (d:Int);rw[hW] at g;have c6:aV (fun k=>k=w.heap.size+1) wr W:=by
  rw[<-hW];exact((((aV.set _ 0 _).trans (aV.set _ 1 _) fun i h=>.inl h).trans (aV.set _ 2 _) fun i h=>.inl h).trans (aV.set _ 3 _) fun i h=>.inl h)
 have d0:=ac g (j:=0) (u:=(a:Int)) rfl;have d1:=ac g (j:=1) (u:=(b:Int)) rfl;have d2:=ac g (j:=2) (u:=(c:Int)) rfl;have d3:=ac g (j:=3) (u:=(d:Int)) rfl;have d9:Kp (fun e=>e=113) wr W:=Kp.of_chg c6 fun g hg _=>by subst hg;exact⟨_,_,_,c5,rfl⟩
 have c8:=(d7.keeps d9.keeps (fun e he=>by rcases he with rfl|rfl|rfl|rfl <;> decide)).imp (Q:=(w.heap.size<= ·)) (fun g hg _=>Zc H2.size hg.1);have b8:ge w W:=(H2.trans (c4.mono H2.size)).trans (c6.below (by have:=H2.size;have:=c4.size;omega) fun i hi=>by rw[hi];omega);refine Zh (v:=.tuple #[.iface tv xv,.agg #[(a:Int),(b:Int),(c:Int),(d:Int)],.nilIface]) ?_ rfl ⟨_,_,_,_,_,rfl,b8,c8⟩;simp[results,results72,go_sem,d0,d1,d2,d3]
theorem zR (w:Wd):Calls prog 73 #[] w (y4 fu w):=by
 unfold fu;go_in;go_wp2_with fail;have hn:=Zf w (.cells #[(1073741824:Int),(1073741824:Int),(1073741824:Int),(1073741824:Int),(1073741824:Int),(4611686018427387903:Int)] 117);have n0:=ac hn (j:=0) rfl;have n1:=ac hn (j:=1) rfl;have n2:=ac hn (j:=2) rfl;have n3:=ac hn (j:=3) rfl;have n4:=ac hn (j:=4) rfl;have n5:=ac hn (j:=5) rfl;have Hb:=aa w (.cells #[(1073741824:Int),(1073741824:Int),(1073741824:Int),(1073741824:Int),(1073741824:Int),(4611686018427387903:Int)] 117);refine Zh (v:=.agg #[(1073741824:Int),(1073741824:Int),(1073741824:Int),(1073741824:Int),(1073741824:Int),(4611686018427387903:Int)]) ?_ rfl ⟨rfl,Hb⟩;simp[results,results73,go_sem,n0,n1,n2,n3,n4,n5]
def KK (w:Wd)(j:JV)(e:Ending)(w':Wd):Prop:= ∃u,e =.returned (.tuple #[u,.nilIface])/\ge w w'/\VW (w.heap.size<= ·) w' u j
theorem kT (hE:sT w aU aE)(hM:lT w)(hb:Bs w v xs)(h0:0<xs.length)(hl:xs.length<=1000000000)(hp:fN xs=some j) :
  Calls prog 35 #[v] w (KK w j):=by
 have Hf:=Qa (zR w);have H:=Qa (fun (w1:Wd) (h:ge w w1)=>CQ (hE.below h) (hM.below h) (hb.below h) h0 hl hp);clear hE hM hb h0 hl hp;go_in;go_wp2_with fail;refine Za Hf ?_;rintro e w1 ⟨rfl,a0⟩;have a2:=Qa a0;have Hp:=Qa (H w1 a0);clear a0;go_wp2_with fail;refine Za Hp ?_;rintro e w2 ⟨u,a,b,c,d,rfl,a3,hv⟩;obtain⟨tv,xv,rfl⟩:=hv.iface;have a1:=aa w2 (.cells #[(a:Int),(b:Int),(c:Int),(d:Int)] 113);have HV:=Qa ((hv.later a1).imp (Q:=(w.heap.size<= ·)) fun g hg _=>Zc a2.size hg);have HB:=Qa (bI (bI a2 a3) a1);clear a3 hv a1 Hp;go_wp2_with fail;go_ret2;exact⟨_,rfl,HB,HV⟩
open Go.Shelf
theorem qK {a:Bool}{s:Nc}{x:Int}:Calls prog 48 #[.agg #[.bool a,s,(x:Int)]] w (y4 (.agg #[.bool a,s,(x:Int)]) w):=by
 have a0:ge w ((w.alloc (.cells #[.bool a,s,(x:Int)] 71)).alloc (.cells #[.bool a,s,(x:Int)] 120)):=((Ze _ _).alloc (Zb _) _).alloc (by simp) _;have a1:=Qa a0;clear a0;go_in;go_wp2_with fail;have hh:((w.alloc (.cells #[.bool a,s,(x:Int)] 71)).alloc (.cells #[.bool a,s,(x:Int)] 120)).heap[w.heap.size+1]?=some (.cells #[.bool a,s,(x:Int)] 120 (0,0)):=by
  have:=Zf (w.alloc (.cells #[.bool a,s,(x:Int)] 71)) (.cells #[.bool a,s,(x:Int)] 120)
  rwa[World.size_alloc] at this
 exact Zh (results_cell_row results48 _ _ (w.heap.size+1) 120 #[.bool a,s,(x:Int)] (0,0) _ (by simp) hh underlying120 rfl (by kernel_rfl)) rfl ⟨rfl,a1⟩
inductive py:Int->Bool->Nc->Dc->Value->Prop
 |null (t:Bool) (x:Nc) (d:Dc):py 1 t x d (.iface 54 (.agg #[]))
 |bool (t:Bool) (x:Nc) (d:Dc):py 2 t x d (.iface 55 (.bool t))
 |num (t:Bool) (x:Nc) (d:Dc):py 3 t x d (.iface 123 (.agg #[.bool d.neg,.string d.digits,.int .i64 d.exp]))
 |text (t:Bool) (x:Nc) (d:Dc):py 4 t x d (.iface 37 (.string x))
 |hole (t:Bool) (x:Nc) (d:Dc):py 7 t x d (.iface 49 (.agg #[]))
def bU (w:Wd)(gt a:Nat)(k:Int)(t:Bool)(x:Nc)(d:Dc)(vn vk:Value):Prop:= ∀ (j:Nat) (u:Value), [.int .i64 k,.bool t,.string x,.bool d.neg,.string d.digits,.int .i64 d.exp,vn,vk][j]?=some u->w.cell? ⟨gt,a*8+j,none⟩=some u
theorem bU.all {a:Nat}{k:Int}{t:Bool}{x:Nc}(h:bU w gt a k t x d vn vk):w.cell? ⟨gt,a*8,none⟩=some (.int .i64 k)/\w.cell? ⟨gt,a*8+1,none⟩=some (.bool t)/\w.cell? ⟨gt,a*8+2,none⟩=some (.string x)/\w.cell? ⟨gt,a*8+3,none⟩=some (.bool d.neg)/\w.cell? ⟨gt,a*8+4,none⟩=some (.string d.digits)/\w.cell? ⟨gt,a*8+5,none⟩=some (.int .i64 d.exp)/\w.cell? ⟨gt,a*8+6,none⟩=some vn/\w.cell? ⟨gt,a*8+7,none⟩=some vk:=
 ⟨h 0 _ rfl,h 1 _ rfl,h 2 _ rfl,h 3 _ rfl,h 4 _ rfl,h 5 _ rfl,h 6 _ rfl,h 7 _ rfl⟩
theorem bU.later {a:Nat}{k:Int}{t:Bool}{x:Nc}(h:bU w gt a k t x d vn vk)(hb:ge w w'):bU w' gt a k t x d vn vk:=fun j u hu=>Zg hb (h j u hu)
abbrev pX (k:Int) (t:Bool) (x:Nc) (d:Dc) (vn vk:Value):Obj:=.cells #[(k:Int),.bool t,x,.bool d.neg,d.digits,(d.exp:Int),vn,vk] 74
theorem CH {a:Nat}{k:Int}{t:Bool}{x:Nc}{nk:Nat}(hc:bU w gt a k t x d (.slice An nn cn) (.slice Ak nk ck))(ha:a<N)(hN:N<=1000000)(hl:py k t x d u):Calls prog 25 #[.slice (some (nl gt)) N cap,(a:Int)] w (y4 u w):=by
 obtain⟨c0,c1,c2,c3,c4,c5,c6,c7⟩:=hc.all;have a1:(a:Int)<N:=by omega
 have a0:=Qa (aa w (pX k t x d (.slice An nn cn) (.slice Ak nk ck)));clear hc
 cases hl
 case num=>
  go_in;go_wp2_with fail;refine qK.mono ?_;rintro e w1 ⟨rfl,hb⟩;have Hb:=Qa (a0.trans (hb.mono a0.size));clear hb;go_wp2;go_ret;exact⟨rfl,Hb⟩
 all_goals
  go_in;go_wp2;go_ret;exact⟨rfl,a0⟩
def It (w:Wd)(j:JV)(e:Ending)(w':Wd):Prop:= ∃u,e =.returned u/\ge w w'/\VW (w.heap.size<= ·) w' u j
theorem AV {old new:Value}{k:JV}(hv:bC (VW (fun g=>B<=g/\old.ownBlock≠some g) w) us ks)(hu:VW (fun g=>B<=g/\old.ownBlock≠some g) w u k)(hg:w.grownBy w5 old.ownBlock)(hd:new.ownBlock=old.ownBlock\/new.ownBlock=some w.heap.size) :
  bC (VW (fun g=>B<=g/\new.ownBlock≠some g) w5) (us ++ [u]) (ks ++ [k]):=by
 have key:∀u k,VW (fun g=>B<=g/\old.ownBlock≠some g) w u k->VW (fun g=>B<=g/\new.ownBlock≠some g) w5 u k:=fun u k h=>h.stay fun g o ⟨h1,h2⟩ a0 _=>⟨⟨h1,fun e=>by
  rcases hd with hd|hd
  .rw[hd] at e;exact h2 e
  .rw[hd] at e;have:=ah a0;injection e with e
   omega⟩,(hg.block g (ah a0) (fun e=>h2 e.symm)).trans a0⟩
 exact(hv.mono key).snoc (key _ _ hu)
def M7 (B:Nat)(w2:Wd)(ks:List JV)(s6 s7:Value)(wr:Wd):Prop:= ∃ (i:Nat) (A:OA) (c:Nat) (us:Nb),s7 =(i:Int)/\i<=ks.length/\s6 =.slice A i c/\ge w2 wr/\wr.ownsRow B 35 1 (.slice A i c) i us/\bC (VW (fun g=>B<=g/\(Value.slice A i c).ownBlock≠some g) wr) us (ks.take i)
theorem CF {a:Nat}{t:Bool}{x:Nc}(hc:bU w gt a 5 t x d (.slice An nn cn) (.slice Ak ks.length ck))(hk:bO w 0 (.slice Ak ks.length ck) ps)(b8:ps.length=ks.length)(ha:a<N)(hN:N<=1000000)(hl:ks.length<=1000000)
  (H:∀ (i:Nat) (k:JV) (p:Nat),ks[i]?=some k->ps[i]?=some p->∀w1,ge w w1->Calls prog 25 #[.slice (some (nl gt)) N cap,(p:Int)] w1 (It w1 k)) :
  Calls prog 25 #[.slice (some (nl gt)) N cap,(a:Int)] w (It w (ei ks)):=by
 obtain⟨c0,c1,c2,c3,c4,c5,c6,c7⟩:=hc.all;have d7:(a:Int)<N:=by omega
 have a2:=Qa (aa w (pX 5 t x d (.slice An nn cn) (.slice Ak ks.length ck)));have a1:=Qa (Zf w (pX 5 t x d (.slice An nn cn) (.slice Ak ks.length ck)));have Hk:=Qa (bO.below hk a2.out (Zb _));have HH:=Qa H;have b9:=Qa b8;clear hc hk H b8;go_in;go_wp2_with fail;obtain⟨w2,b3⟩:=y7 (w.alloc (pX 5 t x d (.slice An nn cn) (.slice Ak ks.length ck)));rw[b3] at a2 a1 Hk ⊢;clear b3 c0 c1 c2 c3 c4 c5 c6 c7;have a7:=Qa (show w.heap.size<w2.heap.size from ah a1.out)
 go_loopw [6,7] (fun s6 s7 wr=>M7 w2.heap.size w2 ks s6 s7 wr) (fun _ v _=>ks.length - (intOf v).toNat)
 case atStart=>exact⟨0,none,0, [],rfl,Zk _,rfl,Ze _ _,⟨rfl,.inl ⟨rfl,rfl⟩⟩,bC.nil _⟩
 case round=>
  obtain⟨i,A,c,us,rfl,hi,rfl,hb,ho,hv⟩:=hrel;have c7:=ac (al a1 hb) (j:=7) (u:=.slice Ak ks.length ck) rfl;have Hb:=Qa hb;have Ho:=Qa ho;have Hv:=Qa hv;have c8:=hb.size;clear hb ho hv
  by_cases hlt:i<ks.length
  .obtain⟨k,hki⟩:∃k,ks[i]?=some k:=⟨_,Zd hlt⟩;obtain⟨p,a9⟩:=y8 ps i (by rw[b9.out];exact hlt);have a3:=Hk.below Hb.out (Zb _);unfold bO at a3;rw[b9.out] at a3;obtain⟨_,_,e,_,_,hA⟩:=ai a3;obtain⟨gk,rfl⟩:=hA (by omega);obtain⟨e1,-,-⟩:=Value.slice.inj e;subst e1;have ck0:=aB a3 rfl i (by omega);rw[List.getElem?_map,a9] at ck0;simp only[Option.map_some,cv] at ck0;have HC:=Qa (HH i k p hki a9 wr (a2.trans (Hb.mono a2.size)));have c9:=Qa hki;have b1:(i:Int)<ks.length:=by omega
   clear hki a9 a3 e hA;go_wp2_with fail;refine Za HC ?_;rintro e w3 ⟨u,rfl,a6,hu⟩;obtain⟨tv,xv,rfl⟩:=hu.iface;have d3:=a6.size;have d6:=Qa (Hb.trans (a6.mono c8));have a0:=a6.alloc d3 (.cells #[.iface tv xv] 35);have a4:=Qa (aq Ho.out a0 (Zb _));have d0:=Qa (au w3 [.iface tv xv] 35);have hob:∀b,(Value.slice A i c).ownBlock=some b->b<wr.heap.size:=fun b hb=>ah (am Ho hb).2.choose_spec
   have d4:=Qa (Hv.mono fun _ _ h=>h.later a0);have Hu:=Qa ((hu.later (aa w3 (.cells #[.iface tv xv] 35))).imp (Q:=fun g=>w2.heap.size<=g/\(Value.slice A i c).ownBlock≠some g) fun g hg _=>⟨by omega,fun e=>by have:=hob g e;omega⟩);have a5:=Qa (show w2.heap.size<=(w3.alloc (.cells #[.iface tv xv] 35)).heap.size by simp;omega);have b0:=Qa (d6.alloc (by omega) (.cells #[.iface tv xv] 35));clear a6 a0 hu hob;go_wp2_with (at_builtin;refine ir sv a4.out d0.out a5.out ?_;intro v' w5 p1 p2 p3;obtain⟨A5,q5,rfl,-,-,-⟩:=ai p1;have HK:=Qa p1;have HG:=Qa p2;have HD:=Qa p3;clear p1 p2 p3);refine⟨⟨i+1,A5,q5,us ++ [.iface tv xv],by go_num,by omega,rfl,b0.grown HG.out a5.out (fun g e=>(am a4 e).1),HK.out,?_⟩,by simp[intOf];omega⟩;rw[cA c9.out];exact AV d4.out Hu.out HG.out HD.out
  .obtain rfl:i=ks.length:=by omega
   have b1:¬ (ks.length:Int)<ks.length:=by omega
   have b4:=Qa (show us.length=ks.length by have:=Hv.1;rw[List.take_length] at this;exact this);have b6:bC (VW (fun g=>w2.heap.size<=g/\(Value.slice A ks.length c).ownBlock≠some g) wr) us ks:=by have:=Hv.out;rw[List.take_length] at this;exact this
   have d1:=Qa b6;have HN:=Qa (nJ (by have:=Sl.of_own Ho.out (us:=us);exact this) (fun v hv=>by
    obtain⟨j,hj,rfl⟩:=List.getElem_of_mem hv;exact(Hv.2 j us[j] ((ks.take ks.length)[j]'(by rw[List.take_length];have:=b4.out;omega)) (Zd hj) (Zd _)).iface) (by have:=b4.out;omega))
   clear hlt b6;go_wp2_with fail;refine Za HN ?_;rintro e w3 ⟨gl,A1,c1,rfl,b2,d9,b5,b7⟩;have d2:=Qa (a2.trans ((Hb.trans (b2.mono c8)).mono a2.size));have d5:=Qa (Bo (Q:=(w.heap.size<= ·)) b5 (b7.stay fun g o hp hg _ _=>⟨by have:=a7.out;omega,hg⟩) (by have:=a7.out;omega) (d1.mono fun _ _ h=>(h.later b2).imp fun g hg _=>by have:=a7.out;omega));clear b2 b5 b7;go_wp2;go_ret;exact⟨_,rfl,d2,d5⟩
def MX (B:Nat)(w2:Wd)(ns:List Nc)(ks:List JV)(s10 s11:Value)(wr:Wd):Prop:= ∃ (i:Nat) (A:OA) (c:Nat) (L:List (Nc×Value)),s11 =(i:Int)/\i<=ks.length/\s10 =.slice A i c/\L.length=i/\ge w2 wr/\wr.ownsRow B 107 2 (.slice A i c) i (gU L)/\L.map Prod.fst=ns.take i/\bC (VW (fun g=>B<=g/\(Value.slice A i c).ownBlock≠some g) wr) (L.map Prod.snd) (ks.take i)
theorem Dy {a:Nat}{t:Bool}{x:Nc}(hc:bU w gt a 6 t x d (.slice An ks.length cn) (.slice Ak ks.length ck))(e4:cX w 0 (.slice An ks.length cn) ns)(hk:bO w 0 (.slice Ak ks.length ck) ps)(hnl:ns.length=ks.length)(e1:ps.length=ks.length)(ha:a<N)(hN:N<=1000000)(hl:ks.length<=1000000)(f1:∀s∈ns,kN s)(e7:ix ns)
  (H:∀ (i:Nat) (k:JV) (p:Nat),ks[i]?=some k->ps[i]?=some p->∀w1,ge w w1->Calls prog 25 #[.slice (some (nl gt)) N cap,(p:Int)] w1 (It w1 k)) :
  Calls prog 25 #[.slice (some (nl gt)) N cap,(a:Int)] w (It w (.mk 6 false ⟨#[]⟩ ⟨false,⟨#[]⟩,0⟩ ns ks)):=by
 obtain⟨c0,c1,c2,c3,c4,c5,c6,c7⟩:=hc.all;have g4:(a:Int)<N:=by omega
 have a3:=Qa (aa w (pX 6 t x d (.slice An ks.length cn) (.slice Ak ks.length ck)));have a4:=Qa (Zf w (pX 6 t x d (.slice An ks.length cn) (.slice Ak ks.length ck)));have Hk:=Qa (bO.below hk a3.out (Zb _));have d6:=Qa (cX.below e4 a3.out (Zb _));have HH:=Qa H;have e3:=Qa e1;have b4:=Qa hnl;have g2:=Qa f1;have e8:=Qa e7;clear hc hk e4 H e1 hnl f1 e7;go_in;go_wp2_with fail;obtain⟨w2,e5⟩:=y7 (w.alloc (pX 6 t x d (.slice An ks.length cn) (.slice Ak ks.length ck)));rw[e5] at a3 a4 Hk d6 ⊢;clear e5 c0 c1 c2 c3 c4 c5 c6 c7;have c8:=Qa (show w.heap.size<w2.heap.size from ah a4.out)
 go_loopw [10,11] (fun s10 s11 wr=>MX w2.heap.size w2 ns ks s10 s11 wr) (fun _ v _=>ks.length - (intOf v).toNat)
 case atStart=>exact⟨0,none,0, [],rfl,Zk _,rfl,rfl,Ze _ _,⟨rfl,.inl ⟨rfl,rfl⟩⟩,rfl,bC.nil _⟩
 case round=>
  obtain⟨i,A,c,L,rfl,hi,rfl,d7,hb,ho,e6,hv⟩:=hrel;have b3:=al a4.out hb;have c7:=ac b3 (j:=7) (u:=.slice Ak ks.length ck) rfl;have Hb:=Qa hb;have Ho:=Qa ho;have Hv:=Qa hv;have d9:=Qa e6;have b6:=Qa d7;have b1:=hb.size;clear hb ho hv e6 d7
  by_cases hlt:i<ks.length
  .obtain⟨k,hki⟩:∃k,ks[i]?=some k:=⟨_,Zd hlt⟩;obtain⟨p,b5⟩:=y8 ps i (by rw[e3.out];exact hlt);obtain⟨s,d0⟩:=y8 ns i (by rw[b4.out];exact hlt);have a6:=Hk.below Hb.out (Zb _);have a5:=d6.below Hb.out (Zb _);unfold bO at a6;unfold cX at a5;rw[e3.out] at a6;rw[b4.out] at a5;obtain⟨gk,hgk⟩:∃gk,Ak=some (nl gk):=by
    obtain⟨_,_,e,_,_,hA⟩:=ai a6;obtain⟨rfl,-,-⟩:=Value.slice.inj e;exact hA (by omega)
   obtain⟨gn,f6⟩:∃gn,An=some (nl gn):=by
    obtain⟨_,_,e,_,_,hA⟩:=ai a5;obtain⟨rfl,-,-⟩:=Value.slice.inj e;exact hA (by omega)
   subst hgk f6;have ck0:=aB a6 rfl i (by omega);rw[List.getElem?_map,b5] at ck0;simp only[Option.map_some,cv] at ck0;have cn0:=aB a5 rfl i (by omega);rw[List.getElem?_map,d0] at cn0;simp only[Option.map_some,dy] at cn0;have c6:=ac b3 (j:=6) (u:=.slice (some (nl gn)) ks.length cn) rfl;have b2:ge wr wr.drew:=(Ze _ _).drew;have HC:=Qa (HH i k p hki b5 wr.drew (a3.trans ((Hb.trans (b2.mono b1)).mono a3.size)));have f7:=Qa hki;have g0:=Qa d0;have d2:(i:Int)<ks.length:=by omega
   have a7:=Qa (aW Ho.out b3 (by decide));have d3:=Qa (aW Ho.out (am a6 rfl).2.choose_spec (by decide));have d5:=Qa (aW Ho.out (am a5 rfl).2.choose_spec (by decide));have K6:=x7 c6 c7 cn0 ck0;clear hki b5 d0 a6 a5 b3 c6 ck0 cn0;go_wp2_with fail;refine aI (fun w'=>w'.cell? (no w.heap.size 6)=some (.slice (some (nl gn)) ks.length cn)/\w'.cell? (no w.heap.size 7)=some (.slice (some (nl gk)) ks.length ck)/\w'.cell? (no gn i)=some (.string s)/\w'.cell? (no gk i)=some (.int .i64 (p:Int))) (K6.out) fun a0=>?_
   refine bw 0 1 2 a0 ?_;refine bw 3 4 5 a0 ?_;refine bw 6 7 8 a0 ?_;refine bw 9 10 11 a0 ?_;refine rH 12 fun K hK=>?_
   go_simp;refine Za HC ?_;rintro e w3 ⟨u,rfl,a1,hu⟩;obtain⟨tv,xv,rfl⟩:=hu.iface;have d1:=a1.size;have f5:=Qa (Hb.trans ((b2.trans (a1.mono b2.size)).mono b1));have a2:=(b2.trans (a1.mono b2.size)).alloc d1 (.cells #[s,.iface tv xv] 107);have a9:=Qa (aq Ho.out a2 (Zb _));have f8:=Qa (au w3 [s,.iface tv xv] 107);have hob:∀b,(Value.slice A i c).ownBlock=some b->b<wr.heap.size:=fun b hb=>ah (am Ho hb).2.choose_spec;have g1:=Qa (Hv.mono fun _ _ h=>h.later a2);have Hu:=Qa ((hu.later (aa w3 (.cells #[s,.iface tv xv] 107))).imp (Q:=fun g=>w2.heap.size<=g/\(Value.slice A i c).ownBlock≠some g) fun g hg _=>⟨Zc b1 hg,fun e=>by have:=hob g e;have:wr.heap.size<=g:=hg;omega⟩);have b0:=Qa (show w2.heap.size<=(w3.alloc (.cells #[s,.iface tv xv] 107)).heap.size by simp;have:wr.heap.size<=w3.heap.size:=d1;omega);have b7:=Qa (f5.alloc (Zc b1 d1) (.cells #[s,.iface tv xv] 107));have g3:=Qa a1;clear a2 hu hob
   refine hK _ _ (⟨Zg a1 a0.1,Zg a1 a0.2.1,Zg a1 a0.2.2.1,Zg a1 a0.2.2.2⟩) (fun a0=>?_);clear hK K
   try simp only[Act.put,jP,jQ,jR]
   refine tH 13 a0 ?_;refine rH 14 fun K hK=>?_
   go_simp;refine hK _ _ ((by have hx:=aa w3 (.cells #[s,.iface tv xv] 107);exact⟨Zg hx a0.1,Zg hx a0.2.1,Zg hx a0.2.2.1,Zg hx a0.2.2.2⟩)) (fun a0=>?_);clear hK K
   try simp only[Act.put,jP,jQ,jR]
   refine rH 15 fun K hK=>?_
   refine Ao AN a9.out f8.out b0.out ?_;intro v' w5 p1 p2 p3;obtain⟨A5,q5,rfl,-,-,-⟩:=ai p1;have HK:=Qa p1;have HG:=Qa p2;have HD:=Qa p3;clear p1 p2 p3;refine hK _ _ (⟨HG.cell a0.1 (fun e=>a7 e.symm),HG.cell a0.2.1 (fun e=>a7 e.symm),HG.cell a0.2.2.1 (fun e=>d5 e.symm),HG.cell a0.2.2.2 (fun e=>d3 e.symm)⟩) (fun a0=>?_);clear hK K
   try simp only[Act.put,jP,jQ,jR]
   refine tH 16 a0 ?_;refine y5 ?_;clear a0;go_wp2_with fail;have f9:gU (L ++ [(s,.iface tv xv)])=gU L ++ [.string s,.iface tv xv]:=by simp[gU]
   refine⟨⟨i+1,A5,q5,L ++ [(s,.iface tv xv)],by go_num,by omega,rfl,by rw[List.length_append,b6.out];rfl,b7.grown HG.out b0.out (fun g e=>(am a9 e).1),by rw[f9];exact HK.out,by rw[cA g0.out,List.map_append,d9.out];rfl,?_⟩,by simp[intOf];omega⟩;rw[cA f7.out,List.map_append];exact AV g1.out Hu.out HG.out HD.out
  .obtain rfl:i=ks.length:=by omega
   have d2:¬ (ks.length:Int)<ks.length:=by omega
   have hn:L.map Prod.fst=ns:=by rw[d9.out,<-b4.out,List.take_length]
   have b8:bC (VW (fun g=>w2.heap.size<=g/\(Value.slice A ks.length c).ownBlock≠some g) wr) (L.map Prod.snd) ks:=by have:=Hv.out;rw[List.take_length] at this;exact this
   have HN:=Qa (ip (Bl.of_own Ho) (fun p hp=>by
    obtain⟨j,hj,rfl⟩:=List.getElem_of_mem hp;exact⟨g2 _ (by rw[<-hn];exact List.mem_map.2 ⟨_,List.getElem_mem hj,rfl⟩),(b8.2 j L[j].2 (ks[j]'(by have:=b6.out;omega)) (by rw[List.getElem?_map,Zd hj];rfl) (Zd _)).iface⟩) (by rw[hn];exact e8.imp fun h=>pl h) (by omega))
   have Hn:=Qa hn;have f3:=Qa b8;clear hlt hn b8;go_wp2_with fail;refine Za HN ?_;rintro e w3 ⟨gl,A1,c1,S,rfl,d4,g5,f0,e0,hp,hs⟩;have f4:=Qa (a3.trans ((Hb.trans (d4.mono b1)).mono a3.size));have c9:S.length=ks.length:=by rw[hp.length_eq];exact b6.out
   have f2:ns.length=ks.length:=b4.out;have b9:=Qa (zV (Q:=(w.heap.size<= ·)) (L:=L) (ms:=ns.zip ks) (by rw[c9];exact f0) (by rw[c9];exact e0.stay fun g o hp hg _ _=>⟨by have:=c8.out;omega,hg⟩) (by have:=c8.out;omega) hp hs (by rw[List.map_fst_zip (by omega)];exact Hn.out) (by rw[List.map_snd_zip (by omega)];exact f3.mono fun _ _ h=>(h.later d4).imp fun g hg _=>by have:=c8.out;omega));rw[ls (by rw[List.map_fst_zip (by omega)];exact e8.out)] at b9;have e2:od (ns.zip ks) =.mk 6 false ⟨#[]⟩ ⟨false,⟨#[]⟩,0⟩ ns ks:=by unfold od;rw[List.map_fst_zip (by omega),List.map_snd_zip (by omega)]
   rw[e2] at b9;clear d4 f0 e0 hp hs c9 f2 e2;go_wp2;go_ret;exact⟨_,rfl,f4,b9⟩
theorem Fm {T:Nc->Prop}(hf:cS w 0 v (j0.flat 0))(hsz:j0.size<=1000000):∀ (j:JV) (a:Nat) (w1:Wd),ge w w1->dI j0 0 a j->Ok True T j->Calls prog 25 #[v,(a:Int)] w1 (It w1 j):=by
 obtain⟨A,cap,rfl,a2,hm,hA⟩:=hf.form;have hn:=j0.size_pos;obtain⟨gt,rfl⟩:=hA (by rw[JV.flat_len];omega);rw[JV.flat_len] at a2 hm hf ⊢;refine JV.ind (P:=fun j=> ∀ (a:Nat) (w1:Wd),ge w w1->dI j0 0 a j->Ok True T j->Calls prog 25 #[.slice (some (nl gt)) j0.size cap,(a:Int)] w1 (It w1 j)) (fun k t x n ns ks ih a w1 hb hs b0=>?_);have a1:=hs.node;rw[Nat.sub_zero] at a1;obtain⟨vn,vk,h1,h2,h3⟩:=(hf.below hb (Zb _)).node a1;have hc:=(show bU w1 gt a k t x n vn vk from fun j u hu=>h3 j u hu);have a9:=hs.bd;have b1:1<=(JV.mk k t x n ns ks).size:=JV.size_pos _;have ha:a<j0.size:=by omega
 obtain⟨Ak,ck,rfl,-,-,-⟩:=ai h2;obtain⟨An,cn,rfl,-,-,-⟩:=ai h1;have leaf:∀u,py k t x n u->VW (w1.heap.size<= ·) w1 u (.mk k t x n ns ks)->Calls prog 25 #[.slice (some (nl gt)) j0.size cap,(a:Int)] w1 (It w1 (.mk k t x n ns ks)):=fun u hl hv=>(CH hc ha hsz hl).mono fun e w' ⟨he,a5⟩=>⟨u,he,a5,hv.later a5⟩
 have hkl:ks.length<=1000000:=by
  have:=bW ks;simp only[JV.size] at a9;omega
 have a4:bO w1 0 (.slice Ak ks.length ck) (aZ (a+1) ks):=by
  simp only[bm] at h2;exact h2
 simp only[bm] at hc;have a0:∀ (i:Nat) (u:JV) (p:Nat),ks[i]?=some u->(aZ (a+1) ks)[i]?=some p->dI j0 0 p u/\u∈ks:=fun i u p hu hp=>by
  have hi:=(List.getElem?_eq_some_iff.1 hu).1;have e:ks=ks.take i++u::ks.drop (i+1):=by
   have h:=(List.take_append_drop i ks).symm;rw[List.drop_eq_getElem_cons hi] at h;rw[(List.getElem?_eq_some_iff.1 hu).2] at h;exact h
  have a7:p=a+1+JV.sizes (ks.take i):=by
   rw[e,dF,List.getElem?_append_right (by rw[bm,List.length_take];omega),bm,List.length_take,Nat.min_eq_left (by omega),Nat.sub_self] at hp;simpa [aZ] using hp.symm
  refine⟨?_,Zl hu⟩;rw[a7];rw[e] at hs;exact hs.kid
 cases b0 with
 |null=>exact leaf _ (.null ..) .null
 |bool b=>exact leaf _ (.bool ..) (.bool _)
 |num d hd hn=>exact leaf _ (.num ..) (.num _)
 |text s hs=>exact leaf _ (.text ..) (.text _)
 |hole h=>exact leaf _ (.hole ..) .hole
 |list ks hks=>exact CF hc a4 (bm _ _) ha hsz hkl fun i u p hu hp w2 a3=>ih u (a0 i u p hu hp).2 p w2 (hb.trans (a3.mono hb.size)) (a0 i u p hu hp).1 (hks u (a0 i u p hu hp).2)
 |obj ns ks hnl h8 hr hks=>
  have a6:cX w1 0 (.slice An ks.length cn) ns:=by
   have:=h1;rw[hnl] at this;exact this
  rw[hnl] at hc;exact Dy hc a6 a4 hnl (bm _ _) ha hsz hkl (fun s hs=>⟨(h8 s hs).1,by have:=(h8 s hs).2;omega⟩) hr fun i u p hu hp w2 a3=>ih u (a0 i u p hu hp).2 p w2 (hb.trans (a3.mono hb.size)) (a0 i u p hu hp).1 (hks u (a0 i u p hu hp).2)
theorem E8 {T:Nc->Prop}(hf:cS w 0 v (j.flat 0))(hsz:j.size<=1000000)(a1:Ok True T j):Calls prog 6 #[v] w (It w j):=by
 have H:=Qa (show Calls prog 25 #[v,(0:Int)] w (fun e w'=>It w j e w') from Fm hf hsz j 0 w (Ze _ _) (.here _ _) a1);obtain⟨A,cap,rfl,a0,hm,hA⟩:=hf.form;have hn:=j.size_pos;rw[JV.flat_len] at H hm ⊢;have hne:((j.size:Int)==0)=false:=by simp only[beq_eq_false_iff_ne];omega
 clear hf hA;go_in;go_wp2_with fail;refine Za H ?_;rintro e w1 ⟨u,rfl,hb,hv⟩;have Hb:=Qa hb;have Hv:=Qa hv;obtain⟨t,x,rfl⟩:=hv.iface;clear hb hv;go_wp2;go_ret;exact⟨_,rfl,Hb,Hv⟩
theorem BD {bk:Int}{at_:Bool}{bd:Dc}(hc:bU w ag a0 ak at_ ax ad (.slice aAn ann acn) (.slice aAk ank ack))(a1:bU w bg b0 bk bt bx bd (.slice bAn bnn bcn) (.slice bAk bnk bck))(ha:a0<N)(hb:b0<M)(hN:N<=1000000)(hM:M<=1000000)(hk:ak≠bk) :
  Calls prog 58 #[.slice (some (nl ag)) N acap,(a0:Int),.slice (some (nl bg)) M bcap,(b0:Int)] w (dR (sg ak bk) w):=by
 have a4:(a0:Int)<N:=by omega
 have a5:(b0:Int)<M:=by omega
 obtain⟨H9,a3,Hw,a2⟩:=ik w (pX ak at_ ax ad (.slice aAn ann acn) (.slice aAk ank ack)) (pX bk bt bx bd (.slice bAn bnn bcn) (.slice bAk bnk bck));obtain⟨c0,c1,c2,c3,c4,c5,c6,c7⟩:=hc.all;obtain⟨e0,e1,e2,e3,e4,e5,e6,e7⟩:=(a1.later a2).all;clear hc a1 a2;have hne:(ak !=bk)=true:=by simp[hk]
 go_in;go_wp2_with fail;refine dc.mono ?_;rintro e w3 ⟨rfl,rfl⟩;go_wp2;go_ret;exact⟨rfl,Hw⟩
theorem BS {at_:Bool}{bd:Dc}(hc:bU w ag a0 2 at_ ax ad (.slice aAn ann acn) (.slice aAk ank ack))(a1:bU w bg b0 2 bt bx bd (.slice bAn bnn bcn) (.slice bAk bnk bck))(ha:a0<N)(hb:b0<M)(hN:N<=1000000)(hM:M<=1000000) :
  Calls prog 58 #[.slice (some (nl ag)) N acap,(a0:Int),.slice (some (nl bg)) M bcap,(b0:Int)] w fun e w'=>dR (if at_=bt then 0 else if at_ then 1 else -1) w e w':=by
 have a4:(a0:Int)<N:=by omega
 have a5:(b0:Int)<M:=by omega
 obtain⟨H9,a3,Hw,a2⟩:=ik w (pX 2 at_ ax ad (.slice aAn ann acn) (.slice aAk ank ack)) (pX 2 bt bx bd (.slice bAn bnn bcn) (.slice bAk bnk bck));obtain⟨c0,c1,c2,c3,c4,c5,c6,c7⟩:=hc.all;obtain⟨e0,e1,e2,e3,e4,e5,e6,e7⟩:=(a1.later a2).all;clear hc a1 a2
 cases at_ <;> cases bt
 all_goals
  go_in;go_wp2;go_ret;exact⟨rfl,Hw⟩
theorem DV {at_:Bool}{bd:Dc}(hc:bU w ag a0 3 at_ ax ad (.slice aAn ann acn) (.slice aAk ank ack))(a1:bU w bg b0 3 bt bx bd (.slice bAn bnn bcn) (.slice bAk bnk bck))(ha:a0<N)(hb:b0<M)(hN:N<=1000000)(hM:M<=1000000)(ja:uG ad)(jb:uG bd)(na:kt ad)(nb:kt bd) :
  Calls prog 58 #[.slice (some (nl ag)) N acap,(a0:Int),.slice (some (nl bg)) M bcap,(b0:Int)] w fun e w'=>dR (aA (eT ad) (eT bd)) w e w':=by
 have a6:(a0:Int)<N:=by omega
 have a7:(b0:Int)<M:=by omega
 obtain⟨H9,a5,Hw,a2⟩:=ik w (pX 3 at_ ax ad (.slice aAn ann acn) (.slice aAk ank ack)) (pX 3 bt bx bd (.slice bAn bnn bcn) (.slice bAk bnk bck));obtain⟨c0,c1,c2,c3,c4,c5,c6,c7⟩:=hc.all;obtain⟨e0,e1,e2,e3,e4,e5,e6,e7⟩:=(a1.later a2).all;clear hc a1 a2;have HC:=Qa (fun w1=>Cj (w:=w1) ja jb na nb);clear ja jb na nb;go_in;go_wp2_with fail;refine(HC _).mono ?_;rintro e w3 ⟨rfl,a3⟩;have a4:=Qa (Hw.trans (a3.mono Hw.size));clear a3;go_wp2;go_ret;exact⟨rfl,a4⟩
theorem CX {at_:Bool}{bd:Dc}(hc:bU w ag a0 4 at_ ax ad (.slice aAn ann acn) (.slice aAk ank ack))(a1:bU w bg b0 4 bt bx bd (.slice bAn bnn bcn) (.slice bAk bnk bck))(ha:a0<N)(hb:b0<M)(hN:N<=1000000)(hM:M<=1000000)(ja:ax.size<=4000000)(jb:bx.size<=4000000) :
  Calls prog 58 #[.slice (some (nl ag)) N acap,(a0:Int),.slice (some (nl bg)) M bcap,(b0:Int)] w fun e w'=>dR (aA (nm ax) (nm bx)) w e w':=by
 have a6:(a0:Int)<N:=by omega
 have a7:(b0:Int)<M:=by omega
 obtain⟨H9,a5,Hw,a2⟩:=ik w (pX 4 at_ ax ad (.slice aAn ann acn) (.slice aAk ank ack)) (pX 4 bt bx bd (.slice bAn bnn bcn) (.slice bAk bnk bck));obtain⟨c0,c1,c2,c3,c4,c5,c6,c7⟩:=hc.all;obtain⟨e0,e1,e2,e3,e4,e5,e6,e7⟩:=(a1.later a2).all;clear hc a1 a2;have HC:=Qa (fun w1=>pj w1 ax bx ja jb);clear ja jb;go_in;go_wp2_with fail;refine(HC _).mono ?_;rintro e w3 ⟨rfl,a3⟩;have a4:=Qa (Hw.trans (a3.mono Hw.size));clear a3;go_wp2;go_ret;exact⟨rfl,a4⟩
theorem Cc {at_:Bool}{bd:Dc}(hc:bU w ag a0 ak at_ ax ad (.slice aAn ann acn) (.slice aAk ank ack))(b7:bU w bg b0 ak bt bx bd (.slice bAn bnn bcn) (.slice bAk bnk bck))(ha:a0<N)(hb:b0<M)(hN:N<=1000000)(hM:M<=1000000)(d0:bO w 0 (.slice aAk ank ack) ps)(b8:bO w 0 (.slice bAk bnk bck) qs)(y1:ank=ks.length)(y2:bnk=ks'.length)(l1:ps.length=ks.length)(l2:qs.length=ks'.length)(z1:ks.length<=1000000)(z2:ks'.length<=1000000)(q2:ak≠2)(q3:ak≠3)(q4:ak≠4)(q6:ak≠6)(H:∀ (i:Nat) (u z:JV) (p q:Nat),ks[i]?=some u->ks'[i]?=some z->ps[i]?=some p->qs[i]?=some q->∀w1,ge w w1->Calls prog 58 #[.slice (some (nl ag)) N acap,(p:Int),.slice (some (nl bg)) M bcap,(q:Int)] w1 (dR (du u z) w1)) :
  Calls prog 58 #[.slice (some (nl ag)) N acap,(a0:Int),.slice (some (nl bg)) M bcap,(b0:Int)] w fun e w'=>dR (aA (JV.keys false [] ks) (JV.keys false [] ks')) w e w':=by
 subst y1 y2;have HH:=Qa H;have d3:=Qa d0;have d2:=Qa b8;have L1:=Qa l1;have L2:=Qa l2;have q2i:(ak==2)=false:=by simpa using q2
 have q3i:(ak==3)=false:=by simpa using q3
 have q4i:(ak==4)=false:=by simpa using q4
 have q6i:(ak==6)=false:=by simpa using q6
 clear q2 q3 q4 q6;clear H d0 b8 l1 l2;have d5:(a0:Int)<N:=by omega
 have d6:(b0:Int)<M:=by omega
 obtain⟨H9,a6,Hw,b1⟩:=ik w (pX ak at_ ax ad (.slice aAn ann acn) (.slice aAk ks.length ack)) (pX ak bt bx bd (.slice bAn bnn bcn) (.slice bAk ks'.length bck));obtain⟨c0,c1,c2,c3,c4,c5,c6,c7⟩:=hc.all;obtain⟨e0,e1,e2,e3,e4,e5,e6,e7⟩:=(b7.later b1).all;clear hc b7 b1;have hne:(ak !=ak)=false:=by simp
 have d1:=Qa Hw;clear d1;go_in;go_wp2_with fail;obtain⟨w2,a9⟩:=y7 ((w.alloc (pX ak at_ ax ad (.slice aAn ann acn) (.slice aAk ks.length ack))).alloc (pX ak bt bx bd (.slice bAn bnn bcn) (.slice bAk ks'.length bck)));rw[a9] at H9 a6 Hw ⊢;clear a9 c0 c1 c2 c3 c4 c5 c6 c7 e0 e1 e2 e3 e4 e5 e6 e7;obtain⟨g9,b5⟩:∃g9,g9=w.heap.size:=⟨_,rfl⟩;rw[<-b5] at H9 a6 ⊢;obtain⟨g10,a4⟩:∃g10,g10=g9+1:=⟨_,rfl⟩;rw[<-a4] at a6 ⊢;clear b5 a4
 go_loopw [11,12,13] (fun s11 _ _ wr=>oo w2 false [] [] ks ks' s11 wr) (fun i _ _ _=>ks.length - (intOf i).toNat)
 case atStart=>exact⟨0,rfl,Zk _,Zk _,rfl,Ze _ _⟩
 case round=>
  obtain⟨i,rfl,d7,d9,he,a2⟩:=hrel;have b9:=al H9.out a2;have b10:=al a6.out a2;have c0:=ac b9 (j:=0) (u:=(ak:Int)) rfl;have c7:=ac b9 (j:=7) (u:=.slice aAk ks.length ack) rfl;have e0:=ac b10 (j:=0) (u:=(ak:Int)) rfl;have e7:=ac b10 (j:=7) (u:=.slice bAk ks'.length bck) rfl;have a1:=Qa (Hw.trans (a2.mono Hw.size));have c8:=Qa a2;have He:=Qa he;have B9:=Qa b9;have B10:=Qa b10;clear he a2 b9 b10
  by_cases h1:i<ks.length
  .by_cases h2:i<ks'.length
   .have b4:(i:Int)<ks.length:=by omega
    have d4:(i:Int)<ks'.length:=by omega
    obtain⟨u,hu⟩:∃u,ks[i]?=some u:=⟨_,Zd h1⟩;obtain⟨z,hz⟩:∃u,ks'[i]?=some u:=⟨_,Zd h2⟩;obtain⟨p,hp⟩:=y8 ps i (by rw[L1.out];exact h1);obtain⟨q,hq⟩:=y8 qs i (by rw[L2.out];exact h2);have hr:=d3.below a1.out (Zb _);unfold bO at hr;rw[L1.out] at hr;obtain⟨_,_,e,_,_,hA⟩:=ai hr;obtain⟨gk1,rfl⟩:=hA (by omega);obtain⟨ee,-,-⟩:=Value.slice.inj e;subst ee;have ck:=aB hr rfl i (by omega);rw[List.getElem?_map,hp] at ck;simp only[Option.map_some,cv] at ck;clear hr e hA;have hr:=d2.below a1.out (Zb _);unfold bO at hr;rw[L2.out] at hr;obtain⟨_,_,e,_,_,hA⟩:=ai hr;obtain⟨gk2,rfl⟩:=hA (by omega);obtain⟨ee,-,-⟩:=Value.slice.inj e;subst ee;have ek:=aB hr rfl i (by omega);rw[List.getElem?_map,hq] at ek;simp only[Option.map_some,cv] at ek;clear hr e hA;have HK:=Qa (fun w1 (hb:ge wr w1)=>HH i u z p q hu hz hp hq w1 (a1.trans (hb.mono a1.size)));have a5:=Qa (show aA (JV.keys false [] ks) (JV.keys false [] ks')=if du u z=0 then aA (JV.keys false [] (ks.drop (i+1))) (JV.keys false [] (ks'.drop (i+1))) else du u z by
     rw[He.out,List.drop_eq_getElem_cons h1,List.drop_eq_getElem_cons h2,rQ,(List.getElem?_eq_some_iff.1 hu).2,(List.getElem?_eq_some_iff.1 hz).2];simp)
    clear hu hz hp hq HH;obtain⟨c,b2⟩:=y7 (du u z);rw[b2] at HK a5;clear b2;go_wp2_with fail;refine aI (fun w'=>w'.cell? (no g9 7)=some (.slice (some (nl gk1)) ks.length ack)/\w'.cell? (no gk1 i)=some (.int .i64 p)/\w'.cell? (no g10 7)=some (.slice (some (nl gk2)) ks'.length bck)/\w'.cell? (no gk2 i)=some (.int .i64 q)) (⟨c7,ck,e7,ek⟩) fun a3=>?_
    refine bw 0 1 2 a3 ?_;refine bw 3 4 5 a3 ?_;refine bw 6 7 8 a3 ?_;refine bw 9 10 11 a3 ?_;refine rH 12 fun K hK=>?_
    go_simp;refine(HK _ (Ze _ _).drew).mono ?_;rintro e wz ⟨rfl,hz⟩;have Hz:=Qa hz;refine hK _ _ (⟨Zg hz a3.1,Zg hz a3.2.1,Zg hz a3.2.2.1,Zg hz a3.2.2.2⟩) (fun a3=>?_);clear hK K
    try simp only[Act.put,jP,jQ,jR]
    refine tH 13 a3 ?_;refine y5 ?_;have b3:ge wr wz:=(Ze _ _).drew.trans Hz.out;have b6:ge wr wz:=b3;have c9:=Qa b6;clear Hz b3 b6 a3
    by_cases hc0:c=0
    .have a7:(c !=0)=false:=by simp[hc0]
     have Hv:=Qa (a5.trans (if_pos hc0));clear a5 hc0;go_wp2_with fail;exact⟨⟨i+1,by go_num,by omega,by omega,by simpa using Hv.out,c8.trans (c9.mono c8.size)⟩,by simp[intOf];omega⟩
    .have a7:(c !=0)=true:=by simp[hc0]
     have Hv:=Qa (a5.trans (if_neg hc0));clear a5 hc0;go_wp2;go_ret;rw[Hv.out];exact⟨rfl,a1.trans (c9.mono a1.size)⟩
   .have b4:(i:Int)<ks.length:=by omega
    have d4:¬ (i:Int)<ks'.length:=by omega
    have Hv:=Qa (show aA (JV.keys false [] ks) (JV.keys false [] ks')=sg (ks.length:Int) (ks'.length:Int) by
     rw[He.out,iR _ _ _ _ _ (.inr (List.drop_eq_nil_of_le (by omega)))];rw[List.length_drop,List.length_drop];unfold sg
     (repeat' split) <;> omega)
    go_wp2_with fail;refine dc.mono ?_;rintro e w3 ⟨rfl,rfl⟩;go_wp2;go_ret;rw[Hv.out];exact⟨rfl,a1⟩
  .have b4:¬ (i:Int)<ks.length:=by omega
   have Hv:=Qa (show aA (JV.keys false [] ks) (JV.keys false [] ks')=sg (ks.length:Int) (ks'.length:Int) by
    rw[He.out,iR _ _ _ _ _ (.inl (List.drop_eq_nil_of_le (by omega)))];rw[List.length_drop,List.length_drop];unfold sg
    (repeat' split) <;> omega)
   go_wp2_with fail;refine dc.mono ?_;rintro e w3 ⟨rfl,rfl⟩;go_wp2;go_ret;rw[Hv.out];exact⟨rfl,a1⟩
theorem Ev {at_:Bool}{bd:Dc}(hc:bU w ag a0 6 at_ ax ad (.slice aAn ann acn) (.slice aAk ank ack))(b7:bU w bg b0 6 bt bx bd (.slice bAn bnn bcn) (.slice bAk bnk bck))(ha:a0<N)(hb:b0<M)(hN:N<=1000000)(hM:M<=1000000)(c8:bO w 0 (.slice aAk ank ack) ps)(d3:bO w 0 (.slice bAk bnk bck) qs)(y1:ank=ks.length)(y2:bnk=ks'.length)(l1:ps.length=ks.length)(l2:qs.length=ks'.length)(z1:ks.length<=1000000)(z2:ks'.length<=1000000)(d0:cX w 0 (.slice aAn ann acn) ns)(d5:cX w 0 (.slice bAn bnn bcn) ns')(f1:ann=ks.length)(f2:bnn=ks'.length)(m1:ns.length=ks.length)(m2:ns'.length=ks'.length)(t1:∀s∈ns,s.size<=4000000)(t2:∀s∈ns',s.size<=4000000)(H:∀ (i:Nat) (u z:JV) (p q:Nat),ks[i]?=some u->ks'[i]?=some z->ps[i]?=some p->qs[i]?=some q->∀w1,ge w w1->Calls prog 58 #[.slice (some (nl ag)) N acap,(p:Int),.slice (some (nl bg)) M bcap,(q:Int)] w1 (dR (du u z) w1)) :
  Calls prog 58 #[.slice (some (nl ag)) N acap,(a0:Int),.slice (some (nl bg)) M bcap,(b0:Int)] w fun e w'=>dR (aA (JV.keys true ns ks) (JV.keys true ns' ks')) w e w':=by
 subst y1 y2 f1 f2;have HH:=Qa H;have d9:=Qa c8;have f0:=Qa d3;have L1:=Qa l1;have L2:=Qa l2;have d7:=Qa d0;have d6:=Qa d5;have M1:=Qa m1;have M2:=Qa m2;have T1:=Qa t1;have T2:=Qa t2;clear d0 d5 m1 m2 t1 t2;clear H c8 d3 l1 l2;have f6:(a0:Int)<N:=by omega
 have f4:(b0:Int)<M:=by omega
 obtain⟨H9,a7,Hw,b2⟩:=ik w (pX 6 at_ ax ad (.slice aAn ks.length acn) (.slice aAk ks.length ack)) (pX 6 bt bx bd (.slice bAn ks'.length bcn) (.slice bAk ks'.length bck));obtain⟨c0,c1,c2,c3,c4,c5,c6,c7⟩:=hc.all;obtain⟨e0,e1,e2,e3,e4,e5,e6,e7⟩:=(b7.later b2).all;clear hc b7 b2;have e8:=Qa Hw;clear e8;go_in;go_wp2_with fail;obtain⟨w2,c9⟩:=y7 ((w.alloc (pX 6 at_ ax ad (.slice aAn ks.length acn) (.slice aAk ks.length ack))).alloc (pX 6 bt bx bd (.slice bAn ks'.length bcn) (.slice bAk ks'.length bck)));rw[c9] at H9 a7 Hw ⊢;clear c9 c0 c1 c2 c3 c4 c5 c6 c7 e0 e1 e2 e3 e4 e5 e6 e7;obtain⟨g9,d2⟩:∃g9,g9=w.heap.size:=⟨_,rfl⟩;rw[<-d2] at H9 a7 ⊢;obtain⟨g10,a5⟩:∃g10,g10=g9+1:=⟨_,rfl⟩;rw[<-a5] at a7 ⊢;clear d2 a5
 go_loopw [11,12,13] (fun s11 _ _ wr=>oo w2 true ns ns' ks ks' s11 wr) (fun i _ _ _=>ks.length - (intOf i).toNat)
 case atStart=>exact⟨0,rfl,Zk _,Zk _,rfl,Ze _ _⟩
 case round=>
  obtain⟨i,rfl,f5,f7,he,a3⟩:=hrel;have b9:=al H9.out a3;have b10:=al a7.out a3;have c0:=ac b9 (j:=0) (u:=(6:Int)) rfl;have c6:=ac b9 (j:=6) (u:=.slice aAn ks.length acn) rfl;have c7:=ac b9 (j:=7) (u:=.slice aAk ks.length ack) rfl;have e0:=ac b10 (j:=0) (u:=(6:Int)) rfl;have e6:=ac b10 (j:=6) (u:=.slice bAn ks'.length bcn) rfl;have e7:=ac b10 (j:=7) (u:=.slice bAk ks'.length bck) rfl;have a1:=Qa (Hw.trans (a3.mono Hw.size));have d4:=Qa a3;have He:=Qa he;have B9:=Qa b9;have B10:=Qa b10;clear he a3 b9 b10
  by_cases h1:i<ks.length
  .by_cases h2:i<ks'.length
   .have b5:(i:Int)<ks.length:=by omega
    have f3:(i:Int)<ks'.length:=by omega
    obtain⟨u,hu⟩:∃u,ks[i]?=some u:=⟨_,Zd h1⟩;obtain⟨z,hz⟩:∃u,ks'[i]?=some u:=⟨_,Zd h2⟩;obtain⟨p,hp⟩:=y8 ps i (by rw[L1.out];exact h1);obtain⟨q,hq⟩:=y8 qs i (by rw[L2.out];exact h2);have hr:=d9.below a1.out (Zb _);unfold bO at hr;rw[L1.out] at hr;obtain⟨_,_,e,_,_,hA⟩:=ai hr;obtain⟨gk1,rfl⟩:=hA (by omega);obtain⟨ee,-,-⟩:=Value.slice.inj e;subst ee;have ck:=aB hr rfl i (by omega);rw[List.getElem?_map,hp] at ck;simp only[Option.map_some,cv] at ck;clear hr e hA;have hr:=f0.below a1.out (Zb _);unfold bO at hr;rw[L2.out] at hr;obtain⟨_,_,e,_,_,hA⟩:=ai hr;obtain⟨gk2,rfl⟩:=hA (by omega);obtain⟨ee,-,-⟩:=Value.slice.inj e;subst ee;have ek:=aB hr rfl i (by omega);rw[List.getElem?_map,hq] at ek;simp only[Option.map_some,cv] at ek;clear hr e hA;obtain⟨s,hs⟩:=y8 ns i (by rw[M1.out];exact h1);obtain⟨t,ht⟩:=y8 ns' i (by rw[M2.out];exact h2);have hr:=d7.below a1.out (Zb _);unfold cX at hr;rw[M1.out] at hr;obtain⟨_,_,e,_,_,hA⟩:=ai hr;obtain⟨gn1,rfl⟩:=hA (by omega);obtain⟨ee,-,-⟩:=Value.slice.inj e;subst ee;have cs:=aB hr rfl i (by omega);rw[List.getElem?_map,hs] at cs;simp only[Option.map_some,dy] at cs;clear hr e hA;have hr:=d6.below a1.out (Zb _);unfold cX at hr;rw[M2.out] at hr;obtain⟨_,_,e,_,_,hA⟩:=ai hr;obtain⟨gn2,rfl⟩:=hA (by omega);obtain⟨ee,-,-⟩:=Value.slice.inj e;subst ee;have es:=aB hr rfl i (by omega);rw[List.getElem?_map,ht] at es;simp only[Option.map_some,dy] at es;clear hr e hA;have HT:=Qa (fun w1=>pj w1 s t (T1 s (Zl hs)) (T2 t (Zl ht)));have HK:=Qa (fun w1 (hb:ge wr w1)=>HH i u z p q hu hz hp hq w1 (a1.trans (hb.mono a1.size)));have a4:=Qa (show aA (JV.keys true ns ks) (JV.keys true ns' ks')=if aA (nm s) (nm t)=0 then(if du u z=0 then aA (JV.keys true (ns.drop (i+1)) (ks.drop (i+1))) (JV.keys true (ns'.drop (i+1)) (ks'.drop (i+1))) else du u z) else aA (nm s) (nm t) by
     rw[He.out,List.drop_eq_getElem_cons h1,List.drop_eq_getElem_cons h2,List.drop_eq_getElem_cons (l:=ns) (by rw[M1.out];exact h1),List.drop_eq_getElem_cons (l:=ns') (by rw[M2.out];exact h2),vL,(List.getElem?_eq_some_iff.1 hu).2,(List.getElem?_eq_some_iff.1 hz).2,(List.getElem?_eq_some_iff.1 hs).2,(List.getElem?_eq_some_iff.1 ht).2])
    clear hu hz hp hq hs ht HH;obtain⟨d,hd⟩:=y7 (aA (nm s) (nm t));rw[hd] at HT a4;clear hd;go_wp2_with fail;refine aI (fun w'=>w'.cell? (no g9 6)=some (.slice (some (nl gn1)) ks.length acn)/\w'.cell? (no gn1 i)=some (.string s)/\w'.cell? (no g10 6)=some (.slice (some (nl gn2)) ks'.length bcn)/\w'.cell? (no gn2 i)=some (.string t)) (⟨c6,cs,e6,es⟩) fun a2=>?_
    refine bw 0 1 2 a2 ?_;refine bw 3 4 5 a2 ?_;refine bw 6 7 8 a2 ?_;refine tH 9 a2 ?_;refine rH 10 fun K hK=>?_
    go_simp;refine(HT _).mono ?_;rintro e wy ⟨rfl,hy⟩;have Hy:=Qa hy;refine hK _ _ (⟨Zg hy a2.1,Zg hy a2.2.1,Zg hy a2.2.2.1,Zg hy a2.2.2.2⟩) (fun a2=>?_);clear hK K
    try simp only[Act.put,jP,jQ,jR]
    refine tH 11 a2 ?_;refine y5 ?_;have hby:ge wr wy:=(Ze _ _).drew.trans Hy.out;have c7:=Zg hby c7;have e7:=Zg hby e7;have ck:=Zg hby ck;have ek:=Zg hby ek;have a6:=Qa hby;clear c0 c6 e0 e6 cs es Hy HT hby a2
    by_cases hd0:d=0
    rotate_left
    .have b1:(d !=0)=true:=by simp[hd0]
     have Hv:=Qa (a4.trans (if_neg hd0));clear a4 hd0;go_wp2;go_ret;rw[Hv.out];exact⟨rfl,a1.trans (a6.mono a1.size)⟩
    have b1:(d !=0)=false:=by simp[hd0]
    replace a4:=Qa (a4.trans (if_pos hd0));clear hd0;have d1:=Qa (fun w1 (hb:ge wy w1)=>HK w1 (a6.trans (hb.mono a6.size)));obtain⟨c,b3⟩:=y7 (du u z);rw[b3] at d1 a4;clear b3;go_wp2_with fail;refine aI (fun w'=>w'.cell? (no g9 7)=some (.slice (some (nl gk1)) ks.length ack)/\w'.cell? (no gk1 i)=some (.int .i64 p)/\w'.cell? (no g10 7)=some (.slice (some (nl gk2)) ks'.length bck)/\w'.cell? (no gk2 i)=some (.int .i64 q)) (⟨c7,ck,e7,ek⟩) fun a2=>?_
    refine bw 0 1 2 a2 ?_;refine bw 3 4 5 a2 ?_;refine bw 6 7 8 a2 ?_;refine bw 9 10 11 a2 ?_;refine rH 12 fun K hK=>?_
    go_simp;refine(d1 _ (Ze _ _).drew).mono ?_;rintro e wz ⟨rfl,hz⟩;have Hz:=Qa hz;refine hK _ _ (⟨Zg hz a2.1,Zg hz a2.2.1,Zg hz a2.2.2.1,Zg hz a2.2.2.2⟩) (fun a2=>?_);clear hK K
    try simp only[Act.put,jP,jQ,jR]
    refine tH 13 a2 ?_;refine y5 ?_;have b4:ge wy wz:=(Ze _ _).drew.trans Hz.out;have b6:ge wr wz:=(a6.trans (b4.mono a6.size));have b8:=Qa b6;clear Hz b4 b6 a2
    by_cases hc0:c=0
    .have a9:(c !=0)=false:=by simp[hc0]
     have Hv:=Qa (a4.trans (if_pos hc0));clear a4 hc0;go_wp2_with fail;exact⟨⟨i+1,by go_num,by omega,by omega,Hv.out,d4.trans (b8.mono d4.size)⟩,by simp[intOf];omega⟩
    .have a9:(c !=0)=true:=by simp[hc0]
     have Hv:=Qa (a4.trans (if_neg hc0));clear a4 hc0;go_wp2;go_ret;rw[Hv.out];exact⟨rfl,a1.trans (b8.mono a1.size)⟩
   .have b5:(i:Int)<ks.length:=by omega
    have f3:¬ (i:Int)<ks'.length:=by omega
    have Hv:=Qa (show aA (JV.keys true ns ks) (JV.keys true ns' ks')=sg (ks.length:Int) (ks'.length:Int) by
     rw[He.out,iR _ _ _ _ _ (.inr (List.drop_eq_nil_of_le (by omega)))];rw[List.length_drop,List.length_drop];unfold sg
     (repeat' split) <;> omega)
    go_wp2_with fail;refine dc.mono ?_;rintro e w3 ⟨rfl,rfl⟩;go_wp2;go_ret;rw[Hv.out];exact⟨rfl,a1⟩
  .have b5:¬ (i:Int)<ks.length:=by omega
   have Hv:=Qa (show aA (JV.keys true ns ks) (JV.keys true ns' ks')=sg (ks.length:Int) (ks'.length:Int) by
    rw[He.out,iR _ _ _ _ _ (.inl (List.drop_eq_nil_of_le (by omega)))];rw[List.length_drop,List.length_drop];unfold sg
    (repeat' split) <;> omega)
   go_wp2_with fail;refine dc.mono ?_;rintro e w3 ⟨rfl,rfl⟩;go_wp2;go_ret;rw[Hv.out];exact⟨rfl,a1⟩
theorem wC {a:Nat}{k:Int}{t:Bool}{x:Nc}{n:Dc}(hs:dI j0 0 a (.mk k t x n ns ks)):∀ (i:Nat) (u:JV) (p:Nat),ks[i]?=some u->(aZ (a+1) ks)[i]?=some p->dI j0 0 p u/\u∈ks:=fun i u p hu hp=>by
 have hi:=(List.getElem?_eq_some_iff.1 hu).1;have e:ks=ks.take i++u::ks.drop (i+1):=by
  have h:=(List.take_append_drop i ks).symm;rw[List.drop_eq_getElem_cons hi] at h;rw[(List.getElem?_eq_some_iff.1 hu).2] at h;exact h
 have a0:p=a+1+JV.sizes (ks.take i):=by
  rw[e,dF,List.getElem?_append_right (by rw[bm,List.length_take];omega),bm,List.length_take,Nat.min_eq_left (by omega),Nat.sub_self] at hp;simpa [aZ] using hp.symm
 refine⟨?_,Zl hu⟩;rw[a0];rw[e] at hs;exact hs.kid
theorem DS (hd:d.digits.size<=6000+1)(hn:kt d):uG d:=by
 rcases qn hn with rfl|⟨-,h1,h2⟩
 .exact⟨by decide,by decide,by decide⟩
 .exact⟨by omega,by omega,by omega⟩
theorem sP {j1 j2:JV}(hf:cS w 0 v (j1.flat 0))(b3:cS w 0 v' (j2.flat 0))(z1:j1.size<=1000000)(z2:j2.size<=1000000):∀ (u:JV) (a:Nat) (z:JV) (b:Nat) (w1:Wd),ge w w1->dI j1 0 a u->dI j2 0 b z->Ok True (uD 4000000) u->Ok True (uD 4000000) z->Calls prog 58 #[v,(a:Int),v',(b:Int)] w1 (dR (du u z) w1):=by
 obtain⟨A,cap,rfl,b0,hm,hA⟩:=hf.form;have hn:=j1.size_pos;obtain⟨gt,rfl⟩:=hA (by rw[JV.flat_len];omega);rw[JV.flat_len] at b0 hm hf ⊢;obtain⟨A',cap',rfl,a7,c2,c1⟩:=b3.form;have a9:=j2.size_pos;obtain⟨gt',rfl⟩:=c1 (by rw[JV.flat_len];omega);rw[JV.flat_len] at a7 c2 b3 ⊢;refine JV.ind (P:=fun u=> ∀ (a:Nat) (z:JV) (b:Nat) (w1:Wd),ge w w1->dI j1 0 a u->dI j2 0 b z->Ok True (uD 4000000) u->Ok True (uD 4000000) z->Calls prog 58 #[.slice (some (nl gt)) j1.size cap,(a:Int),.slice (some (nl gt')) j2.size cap',(b:Int)] w1 (dR (du u z) w1)) (fun k t x n ns ks ih a z b w1 hb hs b4 hu hz=>?_);obtain⟨k',t',x',n',ns',ks'⟩:=z;have a2:=hs.node;rw[Nat.sub_zero] at a2;obtain⟨vn,vk,h1,h2,h3⟩:=(hf.below hb (Zb _)).node a2;have hc:=(show bU w1 gt a k t x n vn vk from fun j u hu=>h3 j u hu);have a0:=b4.node;rw[Nat.sub_zero] at a0;obtain⟨vn',vk',b6,b1,c0⟩:=(b3.below hb (Zb _)).node a0;have a1:=(show bU w1 gt' b k' t' x' n' vn' vk' from fun j u hu=>c0 j u hu);have c5:=hs.bd;have b9:=b4.bd;have c4:(JV.mk k t x n ns ks).size=1+JV.sizes ks:=by simp[JV.size]
 have c3:(JV.mk k' t' x' n' ns' ks').size=1+JV.sizes ks':=by simp[JV.size]
 have ha:a<j1.size:=by omega
 have a3:b<j2.size:=by omega
 obtain⟨Ak,ck,rfl,-,-,-⟩:=ai h2;obtain⟨An,cn,rfl,-,-,-⟩:=ai h1;obtain⟨Ak',ck',rfl,-,-,-⟩:=ai b1;obtain⟨An',cn',rfl,-,-,-⟩:=ai b6;have hkl:ks.length<=1000000:=by have:=bW ks;omega
 have a6:ks'.length<=1000000:=by have:=bW ks';omega
 have b7:bO w1 0 (.slice Ak ks.length ck) (aZ (a+1) ks):=by
  simp only[bm] at h2;exact h2
 have a5:bO w1 0 (.slice Ak' ks'.length ck') (aZ (b+1) ks'):=by
  simp only[bm] at b1;exact b1
 simp only[bm] at hc a1;have K:=wC hs;have K':=wC b4
 by_cases hkk:k=k'
 rotate_left
 .rw[rI hkk];rw[show(if k<k' then(-1:Int) else 1)=sg k k' by unfold sg;(repeat' split) <;> omega];exact BD hc a1 ha a3 z1 z2 hkk
 subst hkk;have lst:k≠2->k≠3->k≠4->k≠6->(∀y∈ks,Ok True (uD 4000000) y)->(∀y∈ks',Ok True (uD 4000000) y)->Calls prog 58 #[.slice (some (nl gt)) j1.size cap,(a:Int),.slice (some (nl gt')) j2.size cap',(b:Int)] w1 fun e w'=>dR (aA (JV.keys false [] ks) (JV.keys false [] ks')) w1 e w':=fun q2 q3 q4 q6 o1 o2=>
  Cc hc a1 ha a3 z1 z2 b7 a5 rfl rfl (bm _ _) (bm _ _) hkl a6 q2 q3 q4 q6 fun i y y' p q hy a4 hp hq w2 b5=>ih y (K i y p hy hp).2 p y' q w2 (hb.trans (b5.mono hb.size)) (K i y p hy hp).1 (K' i y' q a4 hq).1 (o1 y (K i y p hy hp).2) (o2 y' (K' i y' q a4 hq).2)
 cases hu with
 |null=>cases hz with|null=>rw[eZ (by decide) (by decide) (by decide)];exact lst (by decide) (by decide) (by decide) (by decide) (by simp) (by simp)
 |bool b=>cases hz with|bool b'=>rw[rp];exact BS hc a1 ha a3 z1 z2
 |num d hd hn=>cases hz with|num d' hd' a9=>rw[xW];exact DV hc a1 ha a3 z1 z2 (DS hd hn) (DS hd' a9) hn a9
 |text s h8=>cases hz with|text s' h8'=>rw[rK];exact CX hc a1 ha a3 z1 z2 h8 h8'
 |hole h=>cases hz with|hole h'=>rw[eZ (by decide) (by decide) (by decide)];exact lst (by decide) (by decide) (by decide) (by decide) (by simp) (by simp)
 |list ks hks=>cases hz with|list ks' hks'=>rw[eZ (by decide) (by decide) (by decide)];exact lst (by decide) (by decide) (by decide) (by decide) hks hks'
 |obj ns ks hnl h8 hr hks=>
  cases hz with
  |obj ns' ks' hnl' h8' hr' hks'=>
   rw[eZ (by decide) (by decide) (by decide)];have b8:cX w1 0 (.slice An ks.length cn) ns:=by have:=h1;rw[hnl] at this;exact this
   have b2:cX w1 0 (.slice An' ks'.length cn') ns':=by have:=b6;rw[hnl'] at this;exact this
   rw[hnl] at hc;rw[hnl'] at a1;exact Ev hc a1 ha a3 z1 z2 b7 a5 rfl rfl (bm _ _) (bm _ _) hkl a6 b8 b2 rfl rfl hnl hnl' (fun s hs=>by have:=(h8 s hs).2;omega) (fun s hs=>by have:=(h8' s hs).2;omega) fun i y y' p q hy a4 hp hq w2 b5=>ih y (K i y p hy hp).2 p y' q w2 (hb.trans (b5.mono hb.size)) (K i y p hy hp).1 (K' i y' q a4 hq).1 (hks y (K i y p hy hp).2) (hks' y' (K' i y' q a4 hq).2)
theorem qA {o o':Option JV}(h:OT w v o)(h':OT w v' o'):Calls prog 30 #[v,v'] w (dR (bF o o') w):=by
 cases o with
 |none=>
  obtain rfl:v =.slice none 0 0:=h
  cases o' with
  |none=>
   obtain rfl:v' =.slice none 0 0:=h';go_in;go_wp2_with fail;refine dc.mono ?_;rintro e w3 ⟨rfl,rfl⟩;go_wp2;go_ret;exact⟨rfl,Ze _ _⟩
  |some j=>
   obtain⟨A',cap',rfl,-⟩:=h'.1.form;have hp:=j.size_pos;rw[JV.flat_len];have Hv:=Qa (show sg 0 (j.size:Int)=bF none (some j) by
    unfold sg;rw[if_pos (by omega)]
    show(-1:Int)=aA [0] j.key
    obtain⟨t,ht⟩:=lX j;have:=h'.2.1;have hk:0<j.kindOf:=by cases this <;> simp[JV.kindOf]
    rw[ht,bi,if_pos hk])
   clear h';go_in;go_wp2_with fail;refine dc.mono ?_;rintro e w3 ⟨rfl,rfl⟩;go_wp2;go_ret;rw[<-Hv.out];exact⟨rfl,Ze _ _⟩
 |some j=>
  cases o' with
  |none=>
   obtain rfl:v' =.slice none 0 0:=h';obtain⟨A,cap,rfl,-⟩:=h.1.form;have hp:=j.size_pos;rw[JV.flat_len];have Hv:=Qa (show sg (j.size:Int) 0=bF (some j) none by
    unfold sg;rw[if_neg (by omega),if_pos (by omega)]
    show(1:Int)=aA j.key [0]
    obtain⟨t,ht⟩:=lX j;have:=h.2.1;have hk:0<j.kindOf:=by cases this <;> simp[JV.kindOf]
    rw[ht,bi,if_neg (by omega),if_pos hk])
   have hne:((j.size:Int)==0)=false:=by simp only[beq_eq_false_iff_ne];omega
   clear h hp;go_in;go_wp2_with fail;refine dc.mono ?_;rintro e w3 ⟨rfl,rfl⟩;go_wp2;go_ret;rw[<-Hv.out];exact⟨rfl,Ze _ _⟩
  |some j'=>
   have HC:=Qa (show Calls prog 58 #[v,(0:Int),v',(0:Int)] w (fun e w'=>dR (bF (some j) (some j')) w e w') from sP h.1 h'.1 (by have:=h.2.2;omega) (by have:=h'.2.2;omega) j 0 j' 0 w (Ze _ _) (.here _ _) (.here _ _) (h.2.1.imp fun s hs=>by unfold uD at *;omega) (h'.2.1.imp fun s hs=>by unfold uD at *;omega));obtain⟨A,cap,rfl,-⟩:=h.1.form;obtain⟨A',cap',rfl,-⟩:=h'.1.form;rw[JV.flat_len,JV.flat_len] at HC ⊢;have hp:=j.size_pos;have a2:=j'.size_pos;have hne:((j.size:Int)==0)=false:=by simp only[beq_eq_false_iff_ne];omega
   have a1:((j'.size:Int)==0)=false:=by simp only[beq_eq_false_iff_ne];omega
   clear h h' hp a2;go_in;go_wp2_with fail;refine Za HC ?_;rintro e w3 ⟨rfl,a0⟩;have a3:=Qa a0;clear a0;go_wp2;go_ret;exact⟨rfl,a3⟩
theorem vr {t:TypeId}{y:Value}{i:TypeInfo}(hi:prog.info? t=some i)(hc:i.comparable=true)(h:(Op.equalIn (9997+2) t x y).run prog W =.ok r W):(binOp .eql 35 (.iface t x) (.iface t y)).run prog W =.ok (.bool r) W:=by
 have h:(Op.equalIn (9996+4) 35 (.iface t x) (.iface t y)).run prog W =.ok r W:=by
  rw[Op.equalIn];simp only[Sem.run_bind,run_underlying underlying35,Result.andThen_ok];simp[typeInfo,hi,hc,h]
 simp only[binOp];simp[Op.equal,Op.maxDepth,h]
theorem kc {t:TypeId}(h:(prog.info? t).map (·.comparable)=some true):∃i,prog.info? t=some i/\i.comparable=true:=by
 obtain⟨i,h1,h2⟩:=Option.map_eq_some_iff.1 h;exact⟨i,h1,h2⟩
theorem Ir (W:Wd):(binOp .eql 35 (.iface 54 (.agg #[])) (.iface 54 (.agg #[]))).run prog W =.ok true W:=by
 obtain⟨i,h1,h2⟩:=kc (t:=54) (by kernel_rfl);exact vr h1 h2 (by kernel_rfl)
theorem Gq (W:Wd):(binOp .eql 35 (.iface 49 (.agg #[])) (.iface 49 (.agg #[]))).run prog W =.ok true W:=by
 obtain⟨i,h1,h2⟩:=kc (t:=49) (by kernel_rfl);exact vr h1 h2 (by kernel_rfl)
theorem Gn (a b:Bool)(W:Wd):(binOp .eql 35 (.iface 55 (.bool a)) (.iface 55 (.bool b))).run prog W =.ok (.bool (a==b)) W:=by
 obtain⟨i,h1,h2⟩:=kc (t:=55) (by kernel_rfl);exact vr h1 h2 (by kernel_rfl)
theorem Gh (a b:Nc)(W:Wd):(binOp .eql 35 (.iface 37 a) (.iface 37 b)).run prog W =.ok (.bool (a.toList==b.toList)) W:=by
 obtain⟨i,h1,h2⟩:=kc (t:=37) (by kernel_rfl);exact vr h1 h2 (run_equalIn_string W 9998 37 a b underlying37)
theorem IQ (d:Nat)(a b:Bool)(s t:Nc)(x y:Int)(W:Wd):(Op.equalIn (d+3) 120 (.agg #[.bool a,s,(x:Int)]) (.agg #[.bool b,t,(y:Int)])).run prog W =.ok ((a==b)&& (s.toList==t.toList)&& (x==y)) W:=by
 rw[run_equalIn_agg W (d+2) 120 _ _ (by kernel_rfl) (by kernel_rfl)];have hf:((prog.fieldsOf 120).toList.map fun f=>(decide (f.name = "_"),f.type,f.offset)) = [(false,4,0),(false,9,1),(false,3,2)]:=by kernel_rfl
 obtain⟨f1,f2,f3,h1,h2,h3,h4,h5,h6,h7,h8,h9,a0⟩:∃f1 f2 f3,(prog.fieldsOf 120).toList = [f1,f2,f3]/\¬f1.name = "_" /\¬f2.name = "_" /\¬f3.name = "_" /\f1.type=4/\f2.type=9/\f3.type=3/\f1.offset=0/\f2.offset=1/\f3.offset=2:=by
  generalize (prog.fieldsOf 120).toList=fs at hf
  cases fs with
  |nil=>simp at hf
  |cons f1 r=>cases r with
   |nil=>simp at hf
   |cons f2 r2=>cases r2 with
    |nil=>simp at hf
    |cons f3 r3=>cases r3 with
     |cons f4 r4=>simp at hf
     |nil=>
      simp only[List.map_cons,List.map_nil,List.cons.injEq,Prod.mk.injEq,decide_eq_false_iff_not,and_true] at hf;exact⟨f1,f2,f3,rfl,hf.1.1,hf.2.1.1,hf.2.2.1,hf.1.2.1,hf.2.1.2.1,hf.2.2.2.1,hf.1.2.2,hf.2.1.2.2,hf.2.2.2.2⟩
 have p1:∀ (a b c:Value) (w:Wd),(part 4 #[a,b,c] 0).run prog w =.ok a w:=fun a b c w=>by kernel_rfl
 have p2:∀ (a b c:Value) (w:Wd),(part 9 #[a,b,c] 1).run prog w =.ok b w:=fun a b c w=>by kernel_rfl
 have p3:∀ (a b c:Value) (w:Wd),(part 3 #[a,b,c] 2).run prog w =.ok c w:=fun a b c w=>by kernel_rfl
 rw[h1];have hs:=run_equalIn_string W (d+1) 9 s t underlying9;have hq:(Op.equalIn (d+1+1) 4 (.bool a) (.bool b)).run prog W =.ok (a==b) W:=by kernel_rfl
 have hi:=run_equalIn_int W (d+1) 3 .i64 .i64 x y underlying3;generalize (s.toList==t.toList)=v at hs ⊢;generalize (a==b)=u at hq ⊢;generalize (x==y)=z at hi ⊢
 cases u <;> cases v <;> cases z <;> simp[Op.eqFields,h2,h3,h4,h5,h6,h7,h8,h9,a0,p1,p2,p3,hi,hs,hq]
theorem GO (d:Nat)(a b:Bool)(s t:Nc)(x y:Int)(W:Wd):(Op.equalIn (d+4) 123 (.agg #[.bool a,s,(x:Int)]) (.agg #[.bool b,t,(y:Int)])).run prog W =.ok ((a==b)&& (s.toList==t.toList)&& (x==y)) W:=by
 rw[run_equalIn_agg W (d+3) 123 _ _ (by kernel_rfl) (by kernel_rfl)];have hf:((prog.fieldsOf 123).toList.map fun f=>(decide (f.name = "_"),f.type,f.offset)) = [(false,120,0)]:=by kernel_rfl
 obtain⟨f1,h1,h2,h3,h4⟩:∃f1,(prog.fieldsOf 123).toList = [f1]/\¬f1.name = "_" /\f1.type=120/\f1.offset=0:=by
  generalize (prog.fieldsOf 123).toList=fs at hf
  cases fs with
  |nil=>simp at hf
  |cons f1 r=>cases r with
   |cons f2 r2=>simp at hf
   |nil=>
    simp only[List.map_cons,List.map_nil,List.cons.injEq,Prod.mk.injEq,decide_eq_false_iff_not,and_true] at hf;exact⟨f1,rfl,hf.1,hf.2.1,hf.2.2⟩
 have p1:∀ (a b c:Value) (w:Wd),(part 120 #[a,b,c] 0).run prog w =.ok (.agg #[a,b,c]) w:=fun a b c w=>by kernel_rfl
 rw[h1];have hs:=IQ d a b s t x y W;generalize ((a==b)&& (s.toList==t.toList)&& (x==y))=v at hs ⊢
 cases v <;> simp[Op.eqFields,h2,h3,h4,p1,hs]
theorem J9 (a b:Dc)(W:Wd):(binOp .eql 35 (.iface 123 (.agg #[.bool a.neg,a.digits,(a.exp:Int)])) (.iface 123 (.agg #[.bool b.neg,b.digits,(b.exp:Int)]))).run prog W =.ok (.bool ((a.neg==b.neg)&& (a.digits.toList==b.digits.toList)&& (a.exp==b.exp))) W:=by
 obtain⟨i,h1,h2⟩:=kc (t:=123) (by kernel_rfl);exact vr h1 h2 (GO 9995 _ _ _ _ _ _ W)
theorem Dl (a b:Nc):(a.toList==b.toList)=decide (a=b):=by
 rw[Jg]
 congr 1
 rw[ByteArray.toList_eq]
theorem wJ {B:OA}(ha:cY P w A us ks)(hb:cY Q w B us' ks')(hT:dh w)(h1:ge w w1)(hr:r=true↔ks=ks')
  (H:∀ (i:Nat) u u' k k',us[i]?=some u->ks[i]?=some k->us'[i]?=some u'->ks'[i]?=some k'->∀w1,ge w w1->Calls prog 80 #[u,u'] w1 (y4 (.bool (xY k k')) w1)) :
  Calls prog 80 #[.iface 52 (.pointer A),.iface 52 (.pointer B)] w1 (y4 (.bool r) w1):=by
 refine Ix fun w2 h2=>?_
 have h3:=h1.trans (h2.mono h1.size);refine tQ (ha.below h3) (hb.below h3) (hT.below h3) hr fun i u u' k k' e1 e2 e3 e4 w4 h4=>?_
 exact H i u u' k k' e1 e2 e3 e4 w4 (h3.trans (h4.mono h3.size))
theorem GX {B:OA}(ha:eQ P w A us ns ks)(hb:eQ Q w B us' ns' ks')(h1:ge w w1)(hr:r=true↔ns=ns'/\ks=ks')
  (H:∀ (i:Nat) u u' k k',us[i]?=some u->ks[i]?=some k->us'[i]?=some u'->ks'[i]?=some k'->∀w1,ge w w1->Calls prog 80 #[u,u'] w1 (y4 (.bool (xY k k')) w1)) :
  Calls prog 80 #[.iface 126 (.pointer A),.iface 126 (.pointer B)] w1 (y4 (.bool r) w1):=by
 refine Jv fun w2 h2=>?_
 have h3:=h1.trans (h2.mono h1.size);refine vV (ha.below h3) (hb.below h3) hr fun i u u' k k' e1 e2 e3 e4 w4 h4=>?_
 exact H i u u' k k' e1 e2 e3 e4 w4 (h3.trans (h4.mono h3.size))
theorem fH {a b:JV}(h:a.kindOf≠b.kindOf):xY a b=false:=mP.2 fun e=>h (by rw[e])
theorem Cx {a:JV}(ha:VW P w v a)(hT:dh w):∀ {Q:Nat->Prop} {v':Value} {b:JV},VW Q w v' b->∀w1,ge w w1->Calls prog 80 #[v,v'] w1 (y4 (.bool (xY a b)) w1):=by
 induction ha with
 |null=>
  intro Q v' b hb w1 h1
  by_cases hk:b.kindOf=1
  .cases hb with
   |null=>rw[dQ.2 rfl];exact Gx Ir
   |bool|num|text|hole|bare|list|obj=>simp[JV.kindOf] at hk
  .rw[fH (fun e=>hk e.symm)];exact ib (P:=P) (Q:=Q) .null (hb.later h1) (fun e=>hk e.symm)
 |hole=>
  intro Q v' b hb w1 h1
  by_cases hk:b.kindOf=7
  .cases hb with
   |hole=>rw[dQ.2 rfl];exact G7 Gq
   |bool|num|text|null|bare|list|obj=>simp[JV.kindOf] at hk
  .rw[fH (fun e=>hk e.symm)];exact ib (P:=P) (Q:=Q) .hole (hb.later h1) (fun e=>hk e.symm)
 |bool x=>
  intro Q v' b hb w1 h1
  by_cases hk:b.kindOf=2
  .cases hb with
   |bool y=>
    have e:xY (.mk 2 x es ⟨false,es,0⟩ [] []) (.mk 2 y es ⟨false,es,0⟩ [] [])= (x==y):=by
     rw[Bool.eq_iff_iff,dQ];simp
    rw[e];exact G8 x y (Gn x y)
   |hole|num|text|null|bare|list|obj=>simp[JV.kindOf] at hk
  .rw[fH (fun e=>hk e.symm)];exact ib (P:=P) (Q:=Q) (.bool x) (hb.later h1) (fun e=>hk e.symm)
 |num d=>
  intro Q v' b hb w1 h1
  by_cases hk:b.kindOf=3
  .cases hb with
   |num y=>
    have e:xY (.mk 3 false es d [] []) (.mk 3 false es y [] [])= ((d.neg==y.neg)&& (d.digits.toList==y.digits.toList)&& (d.exp==y.exp)):=by
     rw[Bool.eq_iff_iff,dQ,Dl];obtain⟨d1,d2,d3⟩:=d;obtain⟨y1,y2,y3⟩:=y;simp[and_assoc]
    rw[e];exact Kg d y (J9 d y)
   |hole|bool|text|null|bare|list|obj=>simp[JV.kindOf] at hk
  .rw[fH (fun e=>hk e.symm)];exact ib (P:=P) (Q:=Q) (.num d) (hb.later h1) (fun e=>hk e.symm)
 |text s=>
  intro Q v' b hb w1 h1
  by_cases hk:b.kindOf=4
  .cases hb with
   |text y=>
    have e:xY (.mk 4 false s ⟨false,es,0⟩ [] []) (.mk 4 false y ⟨false,es,0⟩ [] [])= (s.toList==y.toList):=by
     rw[Bool.eq_iff_iff,dQ,Dl];simp
    rw[e];exact GC s y (Gh s y)
   |hole|bool|num|null|bare|list|obj=>simp[JV.kindOf] at hk
  .rw[fH (fun e=>hk e.symm)];exact ib (P:=P) (Q:=Q) (.text s) (hb.later h1) (fun e=>hk e.symm)
 |bare=>
  intro Q v' b hb w1 h1
  by_cases hk:b.kindOf=5
  .have a0:=hb;obtain⟨ks',rfl⟩:∃ks',b =.mk 5 false es ⟨false,es,0⟩ [] ks':=by cases hb <;> first|exact⟨_,rfl⟩|simp[JV.kindOf] at hk
   obtain⟨B,us',rfl,hL,hK⟩:=a0.asList;refine wJ (P:=P) (us:= []) (.inl ⟨rfl,rfl,rfl⟩) hL hT h1 (dQ.trans (by simp)) fun i u u' k k' e1=>?_
   simp at e1
  .rw[fH (fun e=>hk e.symm)];exact ib (P:=P) (Q:=Q) .bare (hb.later h1) (fun e=>hk e.symm)
 |list g A c us ks hp hg hr hl hks ih=>
  intro Q v' b hb w1 h1
  by_cases hk:b.kindOf=5
  .have a0:=hb;obtain⟨ks',rfl⟩:∃ks',b =.mk 5 false es ⟨false,es,0⟩ [] ks':=by cases hb <;> first|exact⟨_,rfl⟩|simp[JV.kindOf] at hk
   obtain⟨B,us',rfl,hL,hK⟩:=a0.asList;refine wJ (P:=P) (.inr ⟨g,A,c,rfl,hg,hr,hl⟩) hL hT h1 (dQ.trans (by simp)) fun i u u' k k' e1 e2 e3 e4 w2 h2=>?_
   exact ih i u k e1 e2 (hK i u' k' e3 e4) w2 h2
  .rw[fH (fun e=>hk e.symm)];exact ib (P:=P) (Q:=Q) ((VW.list g A c us ks hp hg hr hl hks).later h1) (hb.later h1) (fun e=>hk e.symm)
 |obj g A c us ns ks hp hg hr hl hn hks ih=>
  intro Q v' b hb w1 h1
  by_cases hk:b.kindOf=6
  .have a0:=hb;obtain⟨ns',ks',rfl⟩:∃ns' ks',b =.mk 6 false es ⟨false,es,0⟩ ns' ks':=by cases hb <;> first|exact⟨_,_,rfl⟩|simp[JV.kindOf] at hk
   obtain⟨B,us',rfl,hL,hK⟩:=a0.asObj;refine GX (P:=P) ⟨g,A,c,rfl,hg,hr,hl,hn⟩ hL h1 (dQ.trans (by simp)) fun i u u' k k' e1 e2 e3 e4 w2 h2=>?_
   exact ih i u k e1 e2 (hK i u' k' e3 e4) w2 h2
  .rw[fH (fun e=>hk e.symm)];exact ib (P:=P) (Q:=Q) ((VW.obj g A c us ns ks hp hg hr hl hn hks).later h1) (hb.later h1) (fun e=>hk e.symm)
theorem Cv {a b:JV}(ha:VW P w v a)(hb:VW Q w v' b)(hT:dh w):Calls prog 39 #[v,v'] w (y4 (.bool (xY a b)) w):=by
 have H:=Qa (Cx ha hT hb w (Ze _ _));obtain⟨t1,x1,rfl⟩:=ha.iface;obtain⟨t2,x2,rfl⟩:=hb.iface;clear ha hb hT;generalize xY a b=c at *;go_in;go_wp2_with fail;refine Za H ?_;rintro e w2 ⟨rfl,a0⟩;go_wp2;go_ret;exact⟨rfl,a0⟩
theorem ww (hE:sT w aU aE)(hM:lT w)(hT:dh w)(hb:Bs w v xs)(h0:0<xs.length)(hl:xs.length<=1000000000)(hp:fN xs=some j)(tx:Tx j)(sz:Sz j)(hx:(JV.txt j).length<=140737488355328) :
  Calls prog 11 #[v] w (J0 (JV.txt j) w):=by
 have H:=Qa (kT hE hM hb h0 hl hp);have HB:=Qa (fun u w1 (hw:ge w w1) (hv:VW (w.heap.size<= ·) w1 u j)=>kl hv (hT.below hw) (hE.glob.below hw) tx sz hx);clear hE hM hT hb h0 hl hp tx sz hx;generalize JV.txt j=tl at *;go_in;go_wp2_with fail;refine Za H ?_;rintro e w1 ⟨u,rfl,a1,hv⟩;have a0:=Qa a1;have a3:=Qa (HB u w1 a1 hv);obtain⟨t1,x1,rfl⟩:=hv.iface;clear a1 hv HB;go_wp2_with fail;refine Za a3 ?_;rintro e w2 ⟨u2,rfl,ho,a2⟩;have a4:=Qa (a0.trans (a2.mono a0.size));have Ho:=Qa (bT ho a0.size);obtain⟨A,q,rfl,-⟩:=ai ho;clear ho a2;go_wp2_with fail;go_ret2;exact⟨_,rfl,Ho,a4⟩
theorem Fw (hE:sT w aU aE)(hM:lT w)(hT:dh w)(hb:Bs w v xs)(h0:0<xs.length)(hl:xs.length<=1000000000)(hp:fN xs=some j)(b0:Bs w v' xs')(a4:0<xs'.length)(a6:xs'.length<=1000000000)(a7:fN xs'=some j') :
  Calls prog 13 #[v,v'] w (y4 (.tuple #[.bool (xY j j'),.nilIface]) w):=by
 have H:=Qa (kT hE hM hb h0 hl hp);have H2:=Qa (fun w1 (hw:ge w w1)=>kT (hE.below hw) (hM.below hw) (b0.below hw) a4 a6 a7);have HT:=Qa hT;clear hE hM hT hb h0 hl hp b0 a4 a6 a7;go_in;go_wp2_with fail;refine Za H ?_;rintro e w1 ⟨u,rfl,a0,hv⟩;have a5:=Qa a0;have Hv:=Qa hv;have b1:=Qa (H2 w1 a0);obtain⟨t1,x1,rfl⟩:=hv.iface;clear a0 hv;go_wp2_with fail;refine Za b1 ?_;rintro e w2 ⟨u2,rfl,a3,a1⟩;have a2:=Qa (a5.trans (a3.mono a5.size));have HQ:=Qa (Cv (Hv.later a3) a1 (HT.below a2));obtain⟨t2,x2,rfl⟩:=a1.iface;clear a3 a1;go_wp2_with fail;refine Za HQ ?_;rintro e w3 ⟨rfl,a9⟩;have b2:=Qa (a2.trans (a9.mono a2.size));clear a9;go_wp2_with fail;go_ret2;exact⟨rfl,b2⟩
theorem pW (h:Bs w v xs)(h':Bs w v' ys):Calls prog 44 #[v,v'] w fun e w'=>e =.returned (.bool (decide (xs=ys)))/\w=w':=by
 have c1:=a8 h;have c2:=a8 h';have He:Hid (((⟨xs.toArray⟩:Nc).toList== (⟨ys.toArray⟩:Nc).toList)=decide (xs=ys)):=Qa (by
  rw[tG,tG,Bool.eq_iff_iff];simp)
 clear h h';generalize (⟨xs.toArray⟩:Nc)=a at *;generalize (⟨ys.toArray⟩:Nc)=b at *;go_in;go_wp2;go_ret;rw[<-He.out];exact⟨rfl,rfl⟩
theorem Fq (hE:sT w aU aE)(hM:lT w)(hT:dh w)(hb:Bs w v xs)(h0:0<xs.length)(hl:xs.length<=1000000000)(hp:fN xs=some j)(tx:Tx j)(sz:Sz j)(hx:(JV.txt j).length<=140737488355328) :
  Calls prog 21 #[v] w fun e w'=>e =.returned (.bool (decide (xs=JV.txt j)))/\ge w w':=by
 have H:=Qa (ww hE hM hT hb h0 hl hp tx sz hx);have HE:=Qa (fun w1 u (hw:ge w w1) (ho:aw w1 w.heap.size u (JV.txt j))=>pW (hb.below hw) (aw.bs ho));clear hE hM hT hb h0 hl hp tx sz hx;go_in;go_wp2_with fail;refine Za H ?_;rintro e w1 ⟨u,rfl,ho,a0⟩;have a1:=Qa a0;have HQ:=Qa (HE w1 u a0 ho);obtain⟨A,q,rfl,-⟩:=ai ho;clear ho a0;go_wp2_with fail;refine Za HQ ?_;rintro e w2 ⟨rfl,rfl⟩;go_wp2;go_ret;exact⟨rfl,a1⟩
def MQ (x:Value)(w:Wd)(e:Ending)(w':Wd):Prop:=e =.returned (.tuple #[(),x])/\ge w w'
theorem Cb {a:Addr}(hN:w.cell? (nl 0)=some (bR a)):Calls prog 12 #[.nilIface] w (MQ (bR a) w):=by
 have a1:ge w ((w.alloc (.cells #[()] 30)).alloc (.cells #[.nilIface] 44)):=((Ze _ _).alloc (Zb _) _).alloc (by simp) _;have h0:((w.alloc (.cells #[()] 30)).alloc (.cells #[.nilIface] 44)).heap[w.heap.size]?=some (.cells #[()] 30 (0,0)):=(Below.heap_alloc _ _ _ (by simp)).trans (Zf w _);have h1:((w.alloc (.cells #[()] 30)).alloc (.cells #[.nilIface] 44)).heap[w.heap.size+1]?=some (.cells #[.nilIface] 44 (0,0)):=by
  have:=Zf (w.alloc (.cells #[()] 30)) (.cells #[.nilIface] 44)
  rwa[World.size_alloc] at this
 have cN:=Zg a1 hN;have a5:0<w.heap.size:=World.block_lt_of_cell? w _ hN;have a3:=Qa a1;have H0:=Qa h0;have H1:=Qa h1;clear a1 h0 h1 hN;go_enter_defers func12,ntmps12;go_wp2_with fail;generalize (w.alloc (.cells #[()] 30)).alloc (.cells #[.nilIface] 44)=w1 at *;have c0:=ac H0.out (j:=0) (u:=.slice none 0 0) rfl;have f0:=ao H0.out 0;have c1:=ac H1.out (j:=0) (u:=.nilIface) rfl;have f1:=ao H1.out 0;refine aI (fun w'=>w'.cell? (nl 0)=some (bR a)/\(w'.heap[w.heap.size]?=some (.cells #[()] 30 (0,0)))/\(∃z,w'.heap[w.heap.size+1]?=some (.cells #[z] 44 (0,0)))) (⟨cN,H0,_,H1⟩) fun a0=>?_
 refine tH 0 a0 ?_;refine rH 1 fun K hK=>?_
 go_simp;refine hK _ _ ((by obtain⟨q1,q2,z,q3⟩:=a0;exact⟨(World.cell?_of_block (Below.heap_setCell _ ⟨w.heap.size,0,none⟩ _ 0 (by show _≠w.heap.size;omega))).trans q1,az q2 0 (),z,ay _ (w.heap.size+1) w.heap.size 0 () _ _ (by omega) q3⟩)) (fun a0=>?_);clear hK K
 try simp only[Act.put,jP,jQ,jR]
 refine rH 2 fun K hK=>?_
 go_simp;refine hK _ _ ((by obtain⟨q1,q2,z,q3⟩:=a0;exact⟨(World.cell?_of_block (Below.heap_setCell _ ⟨w.heap.size+1,0,none⟩ _ 0 (by show _≠w.heap.size+1;omega))).trans q1,ay _ w.heap.size (w.heap.size+1) 0 (bR a) _ _ (by omega) q2,_,az q3 0 (bR a)⟩)) (fun a0=>?_);clear hK K
 try simp only[Act.put,jP,jQ,jR]
 refine y5 ?_;obtain⟨a2,d0,d1⟩:=ul H0.out H1.out a3.out () (bR a);rw[show(Value.iface 425 (.pointer (some a)))=bR a from rfl];have a4:=a2.drew;have e0:((w1.setCell (nl w.heap.size) ()).setCell ⟨w.heap.size+1,0,none⟩ (bR a)).drew.cell? (nl w.heap.size)=some (.slice none 0 0):=d0;have e1:((w1.setCell (nl w.heap.size) ()).setCell ⟨w.heap.size+1,0,none⟩ (bR a)).drew.cell? ⟨w.heap.size+1,0,none⟩=some (bR a):=d1;clear d0 d1 a2 c0 c1 f0 f1 a0;generalize ((w1.setCell (nl w.heap.size) ()).setCell ⟨w.heap.size+1,0,none⟩ (bR a)).drew=w4 at *;go_wp2_with fail;simp[bodyPostD,Leaves,settle,results,results12,go_sem,e0,e1];exact⟨rfl,a4⟩
theorem zp:Calls prog 36 #[.iface 49 (.agg #[])] w (y4 true w):=by
 have a2:=Qa (show ge w (w.alloc (.cells #[false] 4)) from(Ze _ _).alloc (Zb _) _);have Hk:=Qa (Bx.new w 4 false);go_in;go_wp2_with fail;refine ga.mono ?_;rintro e w1 ⟨rfl,a1⟩;have a5:=Qa (a2.trans (a1.mono a2.size));have a0:=Hk.later a1;have a7:=a0.cell;have a6:=a0.frozen;have a4:=Qa (a0.set true).cell;clear a1 a0;go_wp2_with fail;refine Zh (v:=.bool true) ?_ rfl ⟨rfl,a5.setCell (p:=⟨w.heap.size,0,none⟩) (Zb _) _⟩;have a3:=a4.out;simp[results,results36,go_sem,a3]
theorem yP {a:Addr}(hN:w.cell? (nl 1)=some (bR a)):Calls prog 12 #[.iface 49 (.agg #[])] w (MQ (bR a) w):=by
 have a3:ge w ((w.alloc (.cells #[()] 30)).alloc (.cells #[.nilIface] 44)):=((Ze _ _).alloc (Zb _) _).alloc (by simp) _;have h0:((w.alloc (.cells #[()] 30)).alloc (.cells #[.nilIface] 44)).heap[w.heap.size]?=some (.cells #[()] 30 (0,0)):=(Below.heap_alloc _ _ _ (by simp)).trans (Zf w _);have h1:((w.alloc (.cells #[()] 30)).alloc (.cells #[.nilIface] 44)).heap[w.heap.size+1]?=some (.cells #[.nilIface] 44 (0,0)):=by
  have:=Zf (w.alloc (.cells #[()] 30)) (.cells #[.nilIface] 44)
  rwa[World.size_alloc] at this
 have cN:=Zg a3 hN;have a6:1<w.heap.size:=World.block_lt_of_cell? w _ hN;have a2:=Qa a3;have H0:=Qa h0;have H1:=Qa h1;clear a3 h0 h1 hN;go_enter_defers func12,ntmps12;go_wp2_with fail;generalize (w.alloc (.cells #[()] 30)).alloc (.cells #[.nilIface] 44)=w1 at *;refine zp.mono ?_;rintro e w2 ⟨rfl,a1⟩;replace cN:=Zg a1 cN;replace H0:=Qa (al H0.out a1);replace H1:=Qa (al H1.out a1);replace a2:=Qa (a2.trans (a1.mono a2.size));clear a1;go_wp2_with fail;have c0:=ac H0.out (j:=0) (u:=.slice none 0 0) rfl;have f0:=ao H0.out 0;have c1:=ac H1.out (j:=0) (u:=.nilIface) rfl;have f1:=ao H1.out 0;refine aI (fun w'=>w'.cell? (nl 1)=some (bR a)/\(w'.heap[w.heap.size]?=some (.cells #[()] 30 (0,0)))/\(∃z,w'.heap[w.heap.size+1]?=some (.cells #[z] 44 (0,0)))) (⟨cN,H0,_,H1⟩) fun a0=>?_
 refine tH 0 a0 ?_;refine rH 1 fun K hK=>?_
 go_simp;refine hK _ _ ((by obtain⟨q1,q2,z,q3⟩:=a0;exact⟨(World.cell?_of_block (Below.heap_setCell _ ⟨w.heap.size,0,none⟩ _ 1 (by show _≠w.heap.size;omega))).trans q1,az q2 0 (),z,ay _ (w.heap.size+1) w.heap.size 0 () _ _ (by omega) q3⟩)) (fun a0=>?_);clear hK K
 try simp only[Act.put,jP,jQ,jR]
 refine rH 2 fun K hK=>?_
 go_simp;refine hK _ _ ((by obtain⟨q1,q2,z,q3⟩:=a0;exact⟨(World.cell?_of_block (Below.heap_setCell _ ⟨w.heap.size+1,0,none⟩ _ 1 (by show _≠w.heap.size+1;omega))).trans q1,ay _ w.heap.size (w.heap.size+1) 0 (bR a) _ _ (by omega) q2,_,az q3 0 (bR a)⟩)) (fun a0=>?_);clear hK K
 try simp only[Act.put,jP,jQ,jR]
 refine y5 ?_;obtain⟨a4,d0,d1⟩:=ul H0.out H1.out a2.out () (bR a);rw[show(Value.iface 425 (.pointer (some a)))=bR a from rfl];have a5:=a4.drew;have e0:((w2.setCell (nl w.heap.size) ()).setCell ⟨w.heap.size+1,0,none⟩ (bR a)).drew.cell? (nl w.heap.size)=some (.slice none 0 0):=d0;have e1:((w2.setCell (nl w.heap.size) ()).setCell ⟨w.heap.size+1,0,none⟩ (bR a)).drew.cell? ⟨w.heap.size+1,0,none⟩=some (bR a):=d1;clear d0 d1 a4 c0 c1 f0 f1 a0;generalize ((w2.setCell (nl w.heap.size) ()).setCell ⟨w.heap.size+1,0,none⟩ (bR a)).drew=w4 at *;go_wp2_with fail;simp[bodyPostD,Leaves,settle,results,results12,go_sem,e0,e1];exact⟨rfl,a5⟩
theorem ra:Calls prog 15 #[] w fun e w'=>e =.returned (.pointer (some (nl w.heap.size)))/\w'.heap[w.heap.size]?=some (.cells #[(),.nilIface] 93 (0,0))/\ge w w':=by
 have h0:=Qa (Zf w (.cells #[(),.nilIface] 93));have hb:=Qa (aa w (.cells #[(),.nilIface] 93));go_in;go_wp2;go_ret;exact⟨rfl,h0,hb⟩
theorem pi {d:Value}(h:w.heap[g]?=some (.cells #[.slice A 0 c,d] 93 (0,0))):Calls prog 41 #[.pointer (some (nl g))] w fun e w'=>e =.returned .nilIface/\w=w':=by
 have c0:=ac h (j:=0) (u:=.slice A 0 c) rfl;clear h;go_in;go_wp2;go_ret;exact⟨rfl,rfl⟩
theorem FD {d:Value}(h:w.heap[g]?=some (.cells #[.slice (some (nl gr)) (n+1) c,d] 93 (0,0)))(hn:n<1000000000)(hu:w.cell? (no gr n)=some u):Calls prog 41 #[.pointer (some (nl g))] w fun e w'=>e =.returned u/\∃m,w'=w.drewN m:=by
 have c0:=ac h (j:=0) (u:=.slice (some (nl gr)) (n+1) c) rfl;have s1:IntKind.i64.wrap (n:Int)= (n:Int):=IntWalk.i64_in _ (by omega);have s2:(n:Int)< (n:Int)+1:=by omega
 have s3:((n:Int)+1==0)=false:=by simp only[beq_eq_false_iff_ne];omega
 clear h;go_in;go_wp2_with fail;go_quiet (fail);go_wp2;go_ret;exact⟨rfl,_,rfl⟩
theorem un:Calls prog 317 #[x] w fun e w'=>e =.returned true/\w=w':=by
 go_in;go_wp2;go_ret;exact⟨rfl,rfl⟩
theorem qu {m nm:Value}{b:Bool}(h:w.heap[g]?=some (.cells #[m,nm,.bool b] 100 (0,0))):Calls prog 320 #[.pointer (some (nl g))] w fun e w'=>e =.returned (.bool b)/\w=w':=by
 have c0:=ac h (j:=2) (u:=.bool b) rfl;clear h;go_in;go_wp2;go_ret;exact⟨rfl,rfl⟩
theorem xG (h:w.heap[g]?=some (.cells #[.slice A 0 c,.nilIface] 93 (0,0))):Calls prog 40 #[.pointer (some (nl g))] w (y4 true w):=by
 have c1:=ac h (j:=1) (u:=.nilIface) rfl;have H:=Qa (pi h);clear h;go_in;go_wp2_with fail;refine Za H ?_;rintro e w1 ⟨rfl,rfl⟩;go_wp2;go_ret;exact⟨rfl,Ze _ _⟩
theorem xB {t:TypeId}(h:w.heap[g]?=some (.cells #[.slice A 0 c,.iface t x] 93 (0,0))):Calls prog 40 #[.pointer (some (nl g))] w (y4 false w):=by
 have c1:=ac h (j:=1) (u:=.iface t x) rfl;have H:=Qa (pi h);clear h;go_in;go_wp2_with fail;refine Za H ?_;rintro e w1 ⟨rfl,rfl⟩;go_wp2;go_ret;exact⟨rfl,Ze _ _⟩
theorem yc (H:Calls prog 41 #[.pointer (some (nl g))] w (y4 (.iface 94 x) w)):Calls prog 40 #[.pointer (some (nl g))] w (y4 true w):=by
 go_in;go_wp2_with fail;refine H.mono ?_;rintro e w1 ⟨rfl,hb⟩;go_wp2_with fail;refine un.mono ?_;rintro e w2 ⟨rfl,rfl⟩;go_wp2;go_ret;exact⟨rfl,hb⟩
theorem tc {m nm:Value}{b:Bool}(h:w.heap[gt]?=some (.cells #[m,nm,.bool b] 100 (0,0)))(H:Calls prog 41 #[.pointer (some (nl g))] w fun e w'=>e =.returned (.iface 97 (.pointer (some (nl gt))))/\ge w w'):Calls prog 40 #[.pointer (some (nl g))] w (y4 (.bool b) w):=by
 have HT:=Qa (fun w1 (hw:ge w w1)=>qu (al h hw));clear h;go_in;go_wp2_with fail;refine H.mono ?_;rintro e w1 ⟨rfl,hb⟩;have a0:=Qa (HT w1 hb);go_wp2_with fail;refine Za a0 ?_;rintro e w2 ⟨rfl,rfl⟩;go_wp2;go_ret;exact⟨rfl,hb⟩
theorem yj {t:TypeId}(h:w.heap[g]?=some (.cells #[.slice A us.length c] 96 (0,0)))(ho:w.ownsRow base 35 1 (.slice A us.length c) us.length us)(hb:base<=w.heap.size)(hl:us.length<=1000000000)(hn:∀b,(Value.slice A us.length c).ownBlock=some b->b≠g) :
  Calls prog 315 #[.pointer (some (nl g)),.iface t x] w fun e w'=>e =.returned (.tuple #[])/\∃A' q,w'.heap[g]?=some (.cells #[.slice A' (us.length+1) q] 96 (0,0))/\w'.ownsRow base 35 1 (.slice A' (us.length+1) q) (us.length+1) (us ++ [.iface t x])/\aV (fun k=>k=g\/(Value.slice A us.length c).ownBlock=some k) w w'/\((Value.slice A' (us.length+1) q).ownBlock= (Value.slice A us.length c).ownBlock\/∃b,(Value.slice A' (us.length+1) q).ownBlock=some b/\w.heap.size<=b):=by
 have c0:=ac h (j:=0) (u:=.slice A us.length c) rfl;have a0:=Qa (aa w (.cells #[.iface t x] 35));have a3:=Qa (au w [.iface t x] 35);have Ho:=Qa (aq ho a0.out (Zb _));have H:=Qa (al h a0.out);have a2:=Qa (show base<=(w.alloc (.cells #[.iface t x] 35)).heap.size from Zc hb a0.size);have Hn:=Qa hn;obtain⟨n,a1⟩:=y7 us.length;have a4:=Qa a1;rw[a1] at Ho H Hn c0 hl ⊢;clear h ho hn a1;go_in;go_wp2_with (at_builtin;refine ir sv Ho.out a3.out a2.out ?_;intro v' w5 p1 p2 p3;obtain⟨A5,q5,rfl,-,-,-⟩:=ai p1;have g5:=aJ H.out p2 (fun e=>Hn g e rfl);have f5:=ao g5 0;have c5:=ac g5 (j:=0) (u:=.slice A n c) rfl;have G5:=Qa g5;have HK:=Qa p1;have HG:=Qa p2;have HD:=Qa p3;clear p1 p2 p3 g5);go_end0;have hne:∀b,(Value.slice A5 (n+1) q5).ownBlock=some b->¬b=g:=fun b hb e=>by
  have hg:=ah H.out;rcases HD.out with h|h
  .exact Hn b (h▸hb) e
  .rw[h] at hb;have:=Zi hb;omega
 refine⟨rfl,⟨A5,q5,az G5 0 _,bM HK (fun b hb=>?_),?_,?_⟩⟩
 .exact(aV.set g 0 _).block b (by obtain⟨_,cur,hg⟩:=am HK.out hb;exact ah hg) (hne b hb)
 .exact((aV.of_below a0).trans (aV.grown HG) (fun i h=>.inl (.inr h))).trans (aV.set g 0 _) (fun i h=>.inl (.inl h))
 .rcases HD.out with h|h
  .exact .inl h
  .exact .inr ⟨_,h,a0.size⟩
theorem sL {d:Value}{t:TypeId}(h:w.heap[g]?=some (.cells #[.slice A 0 c,d] 93 (0,0)))(hd:d.oneCell'=true):Calls prog 43 #[.pointer (some (nl g)),.iface t x] w fun e w'=>e =.returned (.tuple #[])/\w'.heap[g]?=some (.cells #[.slice A 0 c,.iface t x] 93 (0,0))/\aV (fun k=>k=g) w w':=by
 have c1:=ac h (j:=1) (u:=d) rfl;have f1:=ao h 1;have H:=Qa (pi h);have Hs:=Qa (az h 1 (.iface t x));clear h;go_in;go_wp2_with fail;refine Za H ?_;rintro e w1 ⟨rfl,rfl⟩;go_wp2;go_end0;exact⟨rfl,Hs,aV.set g 1 _⟩
def Dg (w:Wd)(base gr:Nat)(A:OA)(c:Nat)(us:Nb)(v:Value)(w':Wd):Prop:= ∃A' q,w'.heap[gr]?=some (.cells #[.slice A' (us.length+1) q] 96 (0,0))/\w'.ownsRow base 35 1 (.slice A' (us.length+1) q) (us.length+1) (us ++ [v])/\aV (fun k=>k=gr\/(Value.slice A us.length c).ownBlock=some k) w w'/\((Value.slice A' (us.length+1) q).ownBlock= (Value.slice A us.length c).ownBlock\/∃b,(Value.slice A' (us.length+1) q).ownBlock=some b/\w.heap.size<=b)
theorem uM {t:TypeId}(HI:Calls prog 41 #[.pointer (some (nl g))] w fun e w'=>e =.returned (.iface 94 (.pointer (some (nl gr))))/\∃m,w'=w.drewN m)
  (h:w.heap[gr]?=some (.cells #[.slice A us.length c] 96 (0,0))) (ho:w.ownsRow base 35 1 (.slice A us.length c) us.length us) (hb:base<=w.heap.size) (hl:us.length<=1000000000) (hn:∀b,(Value.slice A us.length c).ownBlock=some b->b≠gr) :
  Calls prog 43 #[.pointer (some (nl g)),.iface t x] w fun e w'=>e =.returned (.tuple #[])/\∃m,Dg (w.drewN m) base gr A c us (.iface t x) w':=by
 have HA:=Qa (fun m=>yj (w:=w.drewN m) (t:=t) (x:=x) h ho hb hl hn);clear h ho hb hl hn;go_in;go_wp2_with fail;refine HI.mono ?_;rintro e w1 ⟨rfl,m,rfl⟩;have a0:=Qa (HA m);go_wp2_with fail;refine Za a0 ?_;rintro e w2 ⟨rfl,hr⟩;go_wp2_with fail;(try simp only[Exit.inBlock,Exit.then]);refine Zh (results_none rfl ..) rfl ?_;exact⟨rfl,m,hr⟩
theorem JP:dH 91 103 .nilIface 1 16:=⟨underlying91,by kernel_rfl,rfl,by decide⟩
abbrev Mz (g:Nat):Value:=.iface 94 (.pointer (some (nl g)))
abbrev Ij (g:Nat):Value:=.iface 97 (.pointer (some (nl g)))
def dZ (m:Nat×Value):List Nat:=m.1::m.2.ownBlock.toList
inductive mt (P:Nat->Prop) (B:Nat) (w:Wd):Value->Fr->Nat×Value->Prop
 |row (g:Nat) (A:OA) (c:Nat) (us:Nb) (its:List JV):B<=g->w.heap[g]?=some (.cells #[.slice A us.length c] 96 (0,0))->w.ownsRow B 35 1 (.slice A us.length c) us.length us->bC (VW P w) us its->mt P B w (Mz g) ⟨false,its, [],none⟩ (g,.slice A us.length c)
 |table (g:Nat) (A:OA) (c:Nat) (L:List (Nc×Value)) (ms:List (Nc×JV)) (s:Nc) (nm:Option Nc):B<=g->w.heap[g]?=some (.cells #[.slice A L.length c,.string s,.bool nm.isSome] 100 (0,0))->yC w B (.slice A L.length c) L->L.map Prod.fst=ms.map Prod.fst->bC (VW P w) (L.map Prod.snd) (ms.map Prod.snd)->(∀t,nm=some t->s=t)->mt P B w (Ij g) ⟨true, [],ms,nm⟩ (g,.slice A L.length c)
def TX (e:TypeId):Prop:=TV e\/e=96\/e=100
theorem iL:¬TX 93:=by rintro((h|h|h|h)|h|h) <;> exact absurd h (by decide)
theorem Bf:¬TX 103:=by rintro((h|h|h|h)|h|h) <;> exact absurd h (by decide)
def TW (e:TypeId):Prop:=TX e\/e=93\/e=103
structure zS (B:Nat) (w w':Wd):Prop where
 b:Below B w w'
 keep:aK TW w w'
theorem zS.trans {a b c:Wd}(h:zS B a b)(k:zS B b c):zS B a c:=⟨h.b.trans k.b,h.keep.trans k.keep⟩
theorem zS.new (h:ge w w')(hB:B<=w.heap.size):zS B w w':=⟨h.mono hB,aK.of_below TW h⟩
theorem zS.chg (h:aV F w w')(hB:B<=w.heap.size)(hF:∀k,F k->B<=k/\∃cs e z,w.heap[k]?=some (.cells cs e z)/\TW e):zS B w w':=
 ⟨h.below hB fun i hi=>(hF i hi).1,(Kp.of_chg h fun g hg _=>(hF g hg).2).keeps⟩
def Mw (top:List Nat)(w w':Wd):Prop:=w.heap.size<=w'.heap.size/\∀ (g:Nat) (cs:Array Value) (e:TypeId) (z:Nat×Nat),w.heap[g]?=some (.cells cs e z)->TX e->g∉top->w'.heap[g]?=some (.cells cs e z)
section
variable {Q:Nat->Array Value->Prop}{B g c:Nat}{w w':Wd}{bs bs' top:List Nat}{A:OA}{dv u:Value}{f f':Fr}{fs frs:List Fr}{done:Option JV}{m m':Nat×Value}{us:List (Value×Nat×Value)}
theorem Mw.mv (h:Mw top w w'):Mv top w w':=⟨h.1,fun g cs e z hg he ht=>h.2 g cs e z hg (.inl he) ht⟩
theorem Mw.of_below (h:ge w w'):Mw top w w':=⟨h.size,fun g cs e z hg _ _=>(h.block g (ah hg)).trans hg⟩
theorem Mw.of_kp (h:Kp T w w')(hT:∀e,TX e->¬T e):Mw top w w':=⟨h.1,fun g cs e z hg he _=>h.heap hg (hT e he)⟩
theorem Mw.of_chg (h:aV F w w')(hF:∀g,F g->g<w.heap.size->g∈top\/∃cs e z,w.heap[g]?=some (.cells cs e z)/\¬TX e):Mw top w w':=by
 refine⟨h.size,fun g cs e z hg he ht=>(h.block g (ah hg) fun hf=>?_).trans hg⟩;rcases hF g hf (ah hg) with h1|⟨cs',e',z',h1,h2⟩
 .exact ht h1
 .rw[h1] at hg;injection hg with hg
  injection hg with _ hg _
  subst hg;exact h2 he
theorem mt.typed (h:mt P B w u f m){k:Nat}(hk:k∈dZ m):B<=k/\∃cs e z,w.heap[k]?=some (.cells cs e z)/\TX e:=by
 cases h with
 |row g A c us its h1 h2 h3 h4=>
  simp only[dZ,List.mem_cons,Option.mem_toList] at hk;rcases hk with rfl|hk
  .exact⟨h1,_,_,_,h2,.inr (.inl rfl)⟩
  .obtain⟨q1,cur,q2⟩:=am h3 hk;exact⟨q1,_,_,_,q2,.inl (.inr (.inr (.inl rfl)))⟩
 |table g A c L ms s nm h1 h2 h3 h4 h5 h6=>
  simp only[dZ,List.mem_cons,Option.mem_toList] at hk;rcases hk with rfl|hk
  .exact⟨h1,_,_,_,h2,.inr (.inr rfl)⟩
  .obtain⟨q1,cur,q2⟩:=am h3 hk;exact⟨q1,_,_,_,q2,.inl (.inr (.inr (.inr rfl)))⟩
theorem mt.move (h:mt (Pb B bs) B w u f m)(hm:Mw top w w')(ht:∀g∈top,g∈bs)(a0:∀g∈bs',g∈bs\/w.heap.size<=g)(hu:∀g∈dZ m,g∉top):mt (Pb B bs') B w' u f m:=by
 cases h with
 |row g A c us its h1 h2 h3 h4=>exact .row g A c us its h1 (hm.2 g _ _ _ h2 (.inr (.inl rfl)) (hu g (by simp[dZ]))) (lK h3 hm.mv (.inr (.inr (.inl rfl))) fun b hb=>hu b (by simp[dZ,hb])) (h4.mono fun _ _ h=>h.move hm.mv ht a0)
 |table g A c L ms s nm h1 h2 h3 h4 h5 h6=>exact .table g A c L ms s nm h1 (hm.2 g _ _ _ h2 (.inr (.inr rfl)) (hu g (by simp[dZ]))) (lK h3 hm.mv (.inr (.inr (.inr rfl))) fun b hb=>hu b (by simp[dZ,hb])) h4 (h5.mono fun _ _ h=>h.move hm.mv ht a0) h6
structure lx (B:Nat) (Q:Nat->Array Value->Prop) (w:Wd) (g:Nat) (frs:List Fr) (done:Option JV) (A:OA) (c:Nat) (dv:Value) (us:List (Value×Nat×Value)) (bs:List Nat):Prop where
 row:w.heap[g]?=some (.cells #[.slice A us.length c,dv] 93 (0,0))
 low:B<=g
 own:w.ownsRow B 103 1 (.slice A us.length c) us.length (us.map Prod.fst).reverse
 frames:bC (fun u f=>mt (Pb B bs) B w u.1 f u.2) us frs
 blocks:us.flatMap (fun u=>dZ u.2)=bs
 nodup:bs.Nodup
 done:pN (Pb B bs) w dv done
 lone:∀k cs,Q k cs->k∉bs/\w.heap[k]?=some (.cells cs 107 (0,0))
def qE (B:Nat)(Q:Nat->Array Value->Prop)(w:Wd)(g:Nat)(frs:List Fr)(done:Option JV)(bs:List Nat):Prop:= ∃A c dv us,lx B Q w g frs done A c dv us bs
theorem lx.typed (h:lx B Q w g frs done A c dv us bs){k:Nat}(hk:k∈bs):B<=k/\∃cs e z,w.heap[k]?=some (.cells cs e z)/\TX e:=by
 rw[<-h.blocks] at hk;obtain⟨x,hx,a0⟩:=List.mem_flatMap.1 hk;obtain⟨i,hi,rfl⟩:=List.getElem_of_mem hx;have hl:=h.frames.1;exact(h.frames.2 i us[i] (frs[i]'(by omega)) (Zd hi) (Zd _)).typed a0
theorem lx.lt (h:lx B Q w g frs done A c dv us bs):∀k∈bs,k<w.heap.size:=fun k hk=>by obtain⟨_,cs,e,z,h1,_⟩:=h.typed hk;exact ah h1
theorem qE.lt (h:qE B Q w g frs done bs):∀k∈bs,k<w.heap.size:=by obtain⟨_,_,_,_,h⟩:=h;exact h.lt
theorem lx.apart (h:lx B Q w g frs done A c dv us bs):g∉bs/\∀b,(Value.slice A us.length c).ownBlock=some b->b∉bs/\b≠g:=by
 refine⟨fun hk=>?_,fun b hb=>⟨fun hk=>?_,fun e=>?_⟩⟩
 .obtain⟨_,cs,e,z,h1,h2⟩:=h.typed hk;rw[h.row] at h1;injection h1 with h1
  injection h1 with _ h1 _
  exact iL (h1▸h2)
 .obtain⟨_,cs,e,z,h1,h2⟩:=h.typed hk;obtain⟨_,cur,h3⟩:=am h.own hb;rw[h3] at h1;injection h1 with h1
  injection h1 with _ h1 _
  exact Bf (h1▸h2)
 .obtain⟨_,cur,h3⟩:=am h.own hb;rw[e,h.row] at h3;injection h3 with h3
  injection h3 with _ h3 _
  exact absurd h3 (by decide)
theorem lx.move (h:lx B Q w g frs done A c dv us bs)(hm:Mw [] w w')(hg:w'.heap[g]?=w.heap[g]?)(ho:∀b,(Value.slice A us.length c).ownBlock=some b->w'.heap[b]?=w.heap[b]?):lx B Q w' g frs done A c dv us bs:=
 have a0:∀k∈bs,k∈bs\/w.heap.size<=k:=fun k hk=>.inl hk
 ⟨hg.trans h.row,h.low,bM h.own ho,h.frames.mono fun _ _ h=>h.move hm (by simp) a0 (by simp),h.blocks,h.nodup,h.done.move hm.mv (by simp) a0,fun k cs hq=>⟨(h.lone k cs hq).1,hm.2 k _ _ _ (h.lone k cs hq).2 (.inl (.inr (.inr (.inr rfl)))) (by simp)⟩⟩
theorem lx.below (h:lx B Q w g frs done A c dv us bs)(hb:ge w w'):lx B Q w' g frs done A c dv us bs:=
 h.move (Mw.of_below hb) (hb.block g (ah h.row)) fun b a0=>by obtain⟨_,cur,h3⟩:=am h.own a0;exact hb.block b (ah h3)
theorem qE.below (h:qE B Q w g frs done bs)(hb:ge w w'):qE B Q w' g frs done bs:=by obtain⟨A,c,dv,us,h⟩:=h;exact⟨A,c,dv,us,h.below hb⟩
theorem lx.empty (h:lx B Q w g [] done A c dv us bs):us = []/\bs = []:=by
 have:=h.frames.1;obtain rfl:=List.eq_nil_of_length_eq_zero (show us.length=0 by simpa using this);exact⟨rfl,h.blocks.symm⟩
theorem lx.innermost (h:lx B Q w g (f::fs) done A c dv us bs):∃u m us',us= (u,m)::us'/\mt (Pb B bs) B w u f m/\us'.length=fs.length:=by
 cases us with
 |nil=>have:=h.frames.1;simp at this
 |cons x us=>exact⟨x.1,x.2,us,rfl,h.frames.2 0 _ _ rfl rfl,by have:=h.frames.1;simpa using this⟩
theorem lx.swap (h:lx B Q w g (f::fs) done A c dv ((u,m)::us) bs)(hc:aV F w w')(hF:∀k,F k->k∈dZ m)
  (hn:∀k∈dZ m',k∈dZ m\/w.heap.size<=k) (a5:(dZ m').Nodup)
  (hw:∀bs',Mw (dZ m) w w'->(∀k∈bs',k∈bs\/w.heap.size<=k)->(∀k∈dZ m,k∈bs)->mt (Pb B bs') B w' u f' m') :
  ∃bs',lx B Q w' g (f'::fs) done A c dv ((u,m')::us) bs':=by
 obtain⟨ap1,ap2⟩:=h.apart;have a0:∀k∈dZ m,k∈bs:=fun k hk=>by rw[<-h.blocks];exact List.mem_append_left _ hk
 have hm:Mw (dZ m) w w':=Mw.of_chg hc fun k hk _=>.inl (hF k hk)
 have a2:∀k∈dZ m'++us.flatMap (fun u=>dZ u.2),k∈bs\/w.heap.size<=k:=fun k hk=>by
  rcases List.mem_append.1 hk with hk|hk
  .exact(hn k hk).imp (a0 k) id
  .exact .inl (by rw[<-h.blocks];exact List.mem_append_right _ hk)
 have a1:=h.nodup;rw[<-h.blocks,List.flatMap_cons,List.nodup_append] at a1;obtain⟨n1,n2,n3⟩:=a1;refine⟨dZ m'++us.flatMap (fun u=>dZ u.2),(hc.block g (ah h.row) fun hf=>ap1 (a0 g (hF g hf))).trans h.row,h.low,bM h.own fun b hb=>?_,⟨by simpa using h.frames.1,fun i a b h1 h2=>?_⟩,rfl,?_,h.done.move hm.mv a0 a2,fun k cs hq=>⟨fun hk=>?_,hm.2 k _ _ _ (h.lone k cs hq).2 (.inl (.inr (.inr (.inr rfl)))) (fun hk=>(h.lone k cs hq).1 (a0 k hk))⟩⟩
 rotate_right
 .rcases a2 k hk with hk|hk
  .exact(h.lone k cs hq).1 hk
  .have:=ah (h.lone k cs hq).2;omega
 .obtain⟨_,cur,h3⟩:=am h.own hb;exact hc.block b (ah h3) fun hf=>(ap2 b hb).1 (a0 b (hF b hf))
 .cases i with
  |zero=>
   simp only[List.getElem?_cons_zero,Option.some.injEq] at h1 h2;subst h1 h2;exact hw _ hm a2 a0
  |succ i=>
   have a3:us[i]?=some a:=by simpa using h1
   have:=h.frames.2 (i+1) a b (by simpa using h1) (by simpa using h2);exact this.move hm a0 a2 fun k hk a4=>n3 k a4 k (List.mem_flatMap.2 ⟨a,Zl a3,hk⟩) rfl
 .rw[List.nodup_append];refine⟨a5,n2,fun a ha b hb e=>?_⟩;subst e;rcases hn a ha with h1|h1
  .exact n3 a h1 a hb rfl
  .have:=h.lt a (by rw[<-h.blocks];exact List.mem_append_right _ hb);omega
theorem lx.pop (h:lx B Q w g (f::fs) done A c dv ((u,m)::us) bs):lx B Q (w.setCell (nl g) (.slice A us.length c)) g fs done A c dv us (us.flatMap fun u=>dZ u.2):=by
 obtain⟨ap1,ap2⟩:=h.apart;have hc:=aV.set (w:=w) g 0 (.slice A us.length c);have hm:Mw [] w (w.setCell (nl g) (.slice A us.length c)):=Mw.of_chg hc fun k hk _=>.inr (by subst hk;exact⟨_,_,_,h.row,iL⟩)
 have a1:∀k∈us.flatMap (fun u=>dZ u.2),k∈bs\/w.heap.size<=k:=fun k hk=>.inl (by rw[<-h.blocks];exact List.mem_append_right _ hk)
 have a0:=h.nodup;rw[<-h.blocks,List.flatMap_cons,List.nodup_append] at a0;have ho:=h.own;rw[List.map_cons,List.reverse_cons,List.length_cons] at ho;refine⟨az h.row 0 _,h.low,bM (lr ho (by simp)) fun b hb=>?_,⟨by simpa using h.frames.1,fun i a b h1 h2=>?_⟩,rfl,a0.2.1,h.done.move hm.mv (by simp) a1,fun k cs hq=>⟨fun hk=>?_,hm.2 k _ _ _ (h.lone k cs hq).2 (.inl (.inr (.inr (.inr rfl)))) (by simp)⟩⟩
 rotate_right
 .rcases a1 k hk with hk|hk
  .exact(h.lone k cs hq).1 hk
  .have:=ah (h.lone k cs hq).2;omega
 .have a2:(Value.slice A (us.length+1) c).ownBlock=some b:=by
   cases A with
   |none=>simp[Value.ownBlock] at hb
   |some a=>simpa [Value.ownBlock] using hb
  obtain⟨_,cur,h3⟩:=am ho a2;exact hc.block b (ah h3) (ap2 b a2).2
 .exact(h.frames.2 (i+1) a b (by simpa using h1) (by simpa using h2)).move hm (by simp) a1 (by simp)
theorem qE.add (h:qE B Q w g frs done bs)(hb:ge w w'){L:Nat}(hL:w.heap.size<=L)(hr:w'.heap[L]?=some (.cells cs 107 (0,0))):qE B (fun k c=>Q k c\/(k=L/\c=cs)) w' g frs done bs:=by
 have hlt:=h.lt;obtain⟨A,c,dv,us,h'⟩:=h.below hb;refine⟨A,c,dv,us,h'.row,h'.low,h'.own,h'.frames,h'.blocks,h'.nodup,h'.done,fun k cs' hk=>?_⟩;rcases hk with hk|⟨rfl,rfl⟩
 .exact h'.lone k cs' hk
 .exact⟨fun hk=>by have:=hlt _ hk;omega,hr⟩
theorem qE.lone {L:Nat}(h:qE B Q w g frs done bs)(hq:Q L cs):w.heap[L]?=some (.cells cs 107 (0,0)):=by
 obtain⟨A,c,dv,us,h⟩:=h;exact(h.lone L cs hq).2
def MG:Nat->Array Value->Prop:=fun _ _=>False
end
def va (w:Wd)(base g:Nat)(A:OA)(c n:Nat)(s:Nc)(xs:Nb)(v:Value)(w':Wd):Prop:= ∃A' q,w'.heap[g]?=some (.cells #[.slice A' (n+1) q,s,false] 100 (0,0))/\w'.ownsRow base 107 2 (.slice A' (n+1) q) (n+1) (xs ++ [.string s,v])/\aV (fun k=>k=g\/(Value.slice A n c).ownBlock=some k) w w'/\((Value.slice A' (n+1) q).ownBlock= (Value.slice A n c).ownBlock\/∃b,(Value.slice A' (n+1) q).ownBlock=some b/\w.heap.size<=b)
theorem tO {xs:Nb}{s:Nc}{b:Bool}{t:TypeId}(h:w.heap[g]?=some (.cells #[.slice A n c,s,.bool b] 100 (0,0)))(ho:w.ownsRow base 107 2 (.slice A n c) n xs)(hb:base<=w.heap.size)(hl:n<=1000000000) :
  Calls prog 318 #[.pointer (some (nl g)),.iface t x] w fun e w'=>e =.returned (.tuple #[])/\va w base g A c n s xs (.iface t x) w':=by
 obtain⟨wr,a2⟩:=y7 w.drew;have a3:ge w wr:=by rw[<-a2];exact(Ze _ _).drew
 have b2:wr.heap.size=w.heap.size:=by rw[<-a2];rfl
 have hr:=al h a3;have K0:=Qa (ac hr (j:=0) (u:=.slice A n c) rfl);have K1:=Qa (ac hr (j:=1) (u:=.string s) rfl);have a1:=Qa (aa wr (.cells #[s,.iface t x] 107));have a6:=Qa (aq (aq ho a3 (Zb _)) a1.out (Zb _));have b4:=Qa (au wr [s,.iface t x] 107);have a9:=Qa (al hr a1.out);have b6:=Qa (aW a6.out a9.out (by decide));have b5:=Qa a3;have a4:=Qa b2;have Hb:=Qa hb;clear h ho hr a3 b2 hb;go_in;go_wp2_with fail;refine cJ (fun w'=>w'.cell? (nl g)=some (.slice A n c)/\w'.cell? (no g 1)=some (.string s)) 15 ((by rw[a2];exact⟨K0,K1⟩)) fun a0=>?_
 rw[a2] at a0 ⊢;clear a2;refine iz 0 1 2 a0 ?_;refine iz 3 4 5 a0 ?_;refine iz 6 7 8 a0 ?_;refine tZ 9 a0 ?_;refine tZ 10 a0 ?_;refine rZ 11 fun K hK=>?_
 go_simp;refine hK _ _ (fun _=>⟨Zg a1 a0.1,Zg a1 a0.2⟩) (fun a0=>?_);clear hK K;have a0:=a0 (by decide)
 try simp only[Act.put,jP,jQ,jR]
 refine rZ 12 fun K hK=>?_
 refine Ao AN a6.out b4.out (by have:=a4.out;have:=a1.size;have:=Hb.out;omega) ?_;intro v' w5 p1 p2 p3;obtain⟨A5,q5,rfl,-,-,-⟩:=ai p1;have g5:=aJ a9.out p2 b6.out;have f5:=ao g5 0;have G5:=Qa g5;have HK:=Qa p1;have HG:=Qa p2;have HD:=Qa p3;have k5:=ac g5 (j:=0) (u:=.slice A n c) rfl;have k53:=ac g5 (j:=1) (u:=.string s) rfl;clear p1 p2 p3 g5;refine hK _ _ (fun _=>⟨k5,k53⟩) (fun a0=>?_);clear hK K;have a0:=a0 (by decide)
 try simp only[Act.put,jP,jQ,jR]
 refine rZ 13 fun K hK=>?_
 go_simp;refine hK _ _ (fun _=>a0) (fun a0=>?_);clear hK K;have a0:=a0 (by decide)
 try simp only[Act.put,jP,jQ,jR]
 refine tZ 14 a0 ?_;refine rZ 15 fun K hK=>?_
 go_simp;refine hK _ _ (fun h=>absurd rfl h) (fun _=>?_);clear hK K
 try simp only[Act.put,jP,jQ,jR]
 refine aR (by kernel_rfl) (NoPanic.normal ?_) _;clear a0 f5;have g6:=az G5.out 0 (.slice A5 (n+1) q5);have f6:=ao g6 2;have k6:=ac g6 (j:=2) (u:=.bool b) rfl;have a5:=aV.set (w:=w5) g 0 (.slice A5 (n+1) q5);obtain⟨w6,a7⟩:=y7 (w5.setCell (nl g) (.slice A5 (n+1) q5));rw[a7] at g6 f6 k6 a5 ⊢;have b0:=Qa a5;have G6:=Qa g6;clear g6 a7 a5;go_wp2;go_end0;have hne:=aW HK.out G5.out (by decide);have b3:aV (fun k=>k=g\/(Value.slice A n c).ownBlock=some k) w (w6.setCell (no g 2) false):=
  (((aV.of_below (b5.trans (a1.mono (by have:=a4.out;omega)))).trans (aV.grown HG) (fun i h=>.inl (.inr h))).trans b0.out (fun i h=>.inl (.inl h))).trans (aV.set g 2 _) (fun i h=>.inl (.inl h))
 refine⟨rfl,A5,q5,az G6 2 _,bM HK fun b hb=>?_,b3,?_⟩
 .have b1:b≠g:=fun e=>hne (by rw[hb,e])
  exact(Below.heap_setCell w6 ⟨g,2,none⟩ _ b b1).trans (b0.block b (ah (am HK hb).2.choose_spec) b1)
 .rcases HD.out with h|h
  .exact .inl h
  .exact .inr ⟨_,h,by have:=a1.size;have:=a4.out;omega⟩
theorem qP {xs:Nb}{s:Nc}{b:Bool}{t:TypeId}(HI:Calls prog 41 #[.pointer (some (nl g))] w fun e w'=>e =.returned (.iface 97 (.pointer (some (nl gt))))/\∃m,w'=w.drewN m)
  (h:w.heap[gt]?=some (.cells #[.slice A n c,s,.bool b] 100 (0,0))) (ho:w.ownsRow base 107 2 (.slice A n c) n xs) (hb:base<=w.heap.size) (hl:n<=1000000000) :
  Calls prog 43 #[.pointer (some (nl g)),.iface t x] w fun e w'=>e =.returned (.tuple #[])/\∃m,va (w.drewN m) base gt A c n s xs (.iface t x) w':=by
 have HA:=Qa (fun m=>tO (w:=w.drewN m) (t:=t) (x:=x) h ho hb hl);clear h ho hb hl;go_in;go_wp2_with fail;refine HI.mono ?_;rintro e w1 ⟨rfl,m,rfl⟩;have a0:=Qa (HA m);go_wp2_with fail;refine Za a0 ?_;rintro e w2 ⟨rfl,hr⟩;go_wp2_with fail;(try simp only[Exit.inBlock,Exit.then]);refine Zh (results_none rfl ..) rfl ?_;exact⟨rfl,m,hr⟩
theorem ug {s:Value}{K:Nat->Wd->Prop}(h:w.heap[gr]?=some (.cells #[v,s,false] 100 (0,0)))(hv:v.oneCell'=true)
  (H:Calls prog 50 #[v] w fun e w'=> ∃gl,e =.returned (.tuple #[.pointer (some (nl gl)),.nilIface])/\K gl w') :
  Calls prog 319 #[.pointer (some (nl gr))] w fun e w'=> ∃gl,e =.returned (.tuple #[.iface 126 (.pointer (some (nl gl))),true])/\∃w1 m,K gl w1/\w'=w1.drewN m:=by
 have c0:=ac h (j:=0) (u:=v) rfl;have c2:=ac h (j:=2) (u:=.bool false) rfl;have H0:=Qa H;clear h H;go_in;go_wp2_with fail;refine Za H0 ?_;rintro e w1 ⟨gl,rfl,hk⟩;have Hk:=Qa hk;clear hk;go_wp2_with fail;go_quiet (fail);go_wp2_with fail;go_ret2;exact⟨gl,rfl,w1,_,Hk,rfl⟩
section
variable {Q:Nat->Array Value->Prop}{B g c:Nat}{w w':Wd}{bs:List Nat}{A:OA}{dv u:Value}{f:Fr}{fs frs:List Fr}{done:Option JV}{m:Nat×Value}{us:List (Value×Nat×Value)}
theorem lx.in_top (h:lx B Q w g (f::fs) done A c dv ((u,m)::us) bs)(hl:fs.length<1000000000):Calls prog 41 #[.pointer (some (nl g))] w fun e w'=>e =.returned u/\∃m,w'=w.drewN m:=by
 have a0:us.length=fs.length:=by simpa using h.frames.1
 rcases ce h.own with ⟨_,e,_⟩|⟨gr,cap,e,h1,h2,h3⟩
 .simp at e
 .obtain⟨rfl,-,rfl⟩:=Value.slice.inj e;have hr:=h.row;rw[List.length_cons] at hr;refine FD (n:=us.length) hr (by omega) ?_;rw[World.ownsRow.cellAt h.own us.length (by simp)];rw[List.map_cons,List.reverse_cons,List.getElem?_append_right (by simp)];simp
def KH (frs:List Fr)(done:Option JV):Bool:=match frs with | []=>done.isNone|f::_=> !f.obj||f.name.isSome
theorem qB (h:qE B Q w g frs done bs)(hl:frs.length<=1000000000):Calls prog 40 #[.pointer (some (nl g))] w (y4 (.bool (KH frs done)) w):=by
 obtain⟨A,c,dv,us,h⟩:=h
 cases frs with
 |nil=>
  obtain⟨rfl,rfl⟩:=h.empty;have hr:=h.row
  cases done with
  |none=>rw[show dv =.nilIface from h.done] at hr;exact xG hr
  |some j=>obtain⟨t,x,rfl⟩:=VW.iface h.done;exact xB hr
 |cons f fs=>
  obtain⟨u,m,us,rfl,hw,-⟩:=h.innermost;have hin:=(h.in_top (by simp at hl;omega)).mono (R':=(y4 u w)) (by rintro e w' ⟨rfl,k,rfl⟩;exact⟨rfl,av (Ze _ _) k⟩)
  cases hw with
  |row g' A' c' us' its h1 h2 h3 h4=>exact yc hin
  |table g' A' c' L ms s nm h1 h2 h3 h4 h5 h6=>exact tc h2 hin
def M3 (B:Nat)(Q:Nat->Array Value->Prop)(g:Nat)(c:dT)(w:Wd)(e:Ending)(w':Wd):Prop:=e =.returned (.tuple #[])/\zS B w w'/\∃bs',qE B Q w' g c.frs c.done bs'
def Ma (f:Fr):Prop:=f.items.length<=1000000000/\f.mems.length<=1000000000
theorem ny (h:qE B Q w g frs none bs)(ht:KH frs none=true)(hv:VW (Pb B bs) w v j)(hB:B<=w.heap.size)(hl:frs.length<=1000000000)(hi:∀f∈frs,Ma f) :
  Calls prog 43 #[.pointer (some (nl g)),v] w (M3 B Q g (dq frs j) w):=by
 obtain⟨A,c,dv,us,h⟩:=h
 cases frs with
 |nil=>
  obtain⟨rfl,rfl⟩:=h.empty;obtain⟨ap1,ap2⟩:=h.apart;have hr:=h.row;rw[show dv =.nilIface from h.done] at hr;obtain⟨t,x,rfl⟩:=VW.iface hv;refine(sL hr rfl).mono ?_;rintro e w' ⟨rfl,h1,hc⟩;have hm:Mw [] w w':=Mw.of_chg hc fun k hk _=>.inr (by subst hk;exact⟨_,_,_,h.row,iL⟩)
  refine⟨rfl,.chg hc hB (fun i e=>by subst e;exact⟨h.low,_,_,_,h.row,.inr (.inl rfl)⟩), [],A,c,.iface t x, [],h1,h.low,bM h.own fun b hb=>?_,⟨rfl,fun i a b h=>by simp at h⟩,rfl,List.nodup_nil,?_,fun k cs hq=>⟨(h.lone k cs hq).1,hm.2 k _ _ _ (h.lone k cs hq).2 (.inl (.inr (.inr (.inr rfl)))) (by simp)⟩⟩
  .obtain⟨_,cur,h3⟩:=am h.own hb;exact hc.block b (ah h3) (ap2 b hb).2
  .exact VW.move hv hm.mv (by simp) (fun g hg=>.inl hg)
 |cons f fs=>
  obtain⟨u,m,us,rfl,hw,-⟩:=h.innermost;have hin:=h.in_top (by simp at hl;omega);obtain⟨a3,a4⟩:=hi f (by simp);obtain⟨t,x,rfl⟩:=VW.iface hv;have a2:=fun k (hk:k∈dZ m)=>hw.typed hk
  cases hw with
  |row g' A' c' us' its h1 h2 h3 h4=>
   have a6:us'.length=its.length:=h4.1;refine(uM (t:=t) (x:=x) hin h2 h3 hB (by simp only at a3;omega) (fun b hb e=>aW h3 h2 (by decide) (by rw[hb,e]))).mono ?_;rintro e w' ⟨rfl,k,A5,q5,r1,r2,r3,r4⟩;have hc:aV (fun k=>k=g'\/(Value.slice A' us'.length c').ownBlock=some k) w w':=(aV.of_below (av (Ze _ _) k)).trans r3 (fun i hi=>.inl hi);have hF:∀k,(k=g'\/(Value.slice A' us'.length c').ownBlock=some k)->k∈dZ (g',.slice A' us'.length c'):=fun k hk=>by simpa [dZ] using hk
   obtain⟨bs',hs⟩:=h.swap (w':=w') (m':=(g',.slice A5 (us'.length+1) q5)) (f':=⟨false,its ++ [j], [],none⟩) hc hF (fun k hk=>by
     simp only[dZ,List.mem_cons,Option.mem_toList] at hk ⊢;rcases hk with hk|hk
     .exact .inl (.inl hk)
     .rcases r4 with r4|⟨b,r4,r5⟩
      .exact .inl (.inr (by rw[<-r4];exact hk))
      .rw[r4] at hk;exact .inr (by rw[<-Zi hk];exact r5)) (by
     have hne:=aW r2 r1 (by decide);refine List.nodup_cons.2 ⟨fun hk=>hne (by simpa using hk),?_⟩
     cases (Value.slice A5 (us'.length+1) q5).ownBlock <;> simp) (fun bs2 hm a1 a0=>by
     have:=mt.row (P:=Pb B bs2) (B:=B) (w:=w') g' A5 q5 (us' ++ [.iface t x]) (its ++ [j]) h1 (by rw[List.length_append];exact r1) (by rw[List.length_append];exact r2) ((h4.mono fun _ _ h=>h.move hm.mv a0 a1).snoc (hv.move hm.mv a0 a1));rw[List.length_append] at this;exact this)
   exact⟨rfl,.chg hc hB (fun i e=>by obtain⟨q1,cs,t,z,q2,q3⟩:=a2 i (hF i e);exact⟨q1,cs,t,z,q2,.inl q3⟩),bs',_,_,_,_,hs⟩
  |table g' A' c' L ms s nm h1 h2 h3 h4 h5 h6=>
   obtain⟨sn,rfl⟩:∃sn,nm=some sn:=Option.isSome_iff_exists.1 (by simpa [KH] using ht);obtain rfl:=h6 sn rfl;have a6:L.length=ms.length:=by have:=congrArg List.length h4;simpa using this
   refine(qP (t:=t) (x:=x) hin h2 h3 hB (by simp only at a4;omega)).mono ?_;rintro e w' ⟨rfl,k,A5,q5,r1,r2,r3,r4⟩;have hc:aV (fun k=>k=g'\/(Value.slice A' L.length c').ownBlock=some k) w w':=(aV.of_below (av (Ze _ _) k)).trans r3 (fun i hi=>.inl hi);have hF:∀k,(k=g'\/(Value.slice A' L.length c').ownBlock=some k)->k∈dZ (g',.slice A' L.length c'):=fun k hk=>by simpa [dZ] using hk
   obtain⟨bs',hs⟩:=h.swap (w':=w') (m':=(g',.slice A5 (L.length+1) q5)) (f':=⟨true, [],ms ++ [(s,j)],none⟩) hc hF (fun k hk=>by
     simp only[dZ,List.mem_cons,Option.mem_toList] at hk ⊢;rcases hk with hk|hk
     .exact .inl (.inl hk)
     .rcases r4 with r4|⟨b,r4,r5⟩
      .exact .inl (.inr (by rw[<-r4];exact hk))
      .rw[r4] at hk;exact .inr (by rw[<-Zi hk];exact r5)) (by
     have hne:=aW r2 r1 (by decide);refine List.nodup_cons.2 ⟨fun hk=>hne (by simpa using hk),?_⟩
     cases (Value.slice A5 (L.length+1) q5).ownBlock <;> simp) (fun bs2 hm a1 a0=>by
     have a5:gU (L ++ [(s,.iface t x)])=gU L ++ [.string s,.iface t x]:=by simp[gU]
     have:=mt.table (P:=Pb B bs2) (B:=B) (w:=w') g' A5 q5 (L ++ [(s,.iface t x)]) (ms ++ [(s,j)]) s none h1 (by rw[List.length_append];exact r1) (by unfold yC;rw[List.length_append,a5];exact r2) (by rw[List.map_append,List.map_append,h4];rfl) (by
      rw[List.map_append,List.map_append];exact(h5.mono fun _ _ h=>h.move hm.mv a0 a1).snoc (hv.move hm.mv a0 a1)) (fun t e=>by cases e)
     rw[List.length_append] at this;exact this)
   exact⟨rfl,.chg hc hB (fun i e=>by obtain⟨q1,cs,t,z,q2,q3⟩:=a2 i (hF i e);exact⟨q1,cs,t,z,q2,.inl q3⟩),bs',_,_,_,_,hs⟩
end
section
variable {Q:Nat->Array Value->Prop}{B g c:Nat}{w:Wd}{bs:List Nat}{A:OA}{dv u:Value}{f:Fr}{frs:List Fr}{us:List (Value×Nat×Value)}
theorem lx.push (h:lx B Q w g frs none A c dv us bs){gN:Nat}(hB:B<=w.heap.size)(h2:ge w w2)(hN:w.heap.size<=gN)(a3:gN<w2.heap.size)(hg:w2.grownBy w5 (Value.slice A us.length c).ownBlock)
  (a0:w5.ownsRow B 103 1 (.slice A5 (us.length+1) q5) (us.length+1) ((us.map Prod.fst).reverse ++ [u])) (hf:∀P w',w'.heap[gN]?=w2.heap[gN]?->mt P B w' u f (gN,.slice none 0 0)) :
  zS B w (w5.setCell (nl g) (.slice A5 (us.length+1) q5))/\lx B Q (w5.setCell (nl g) (.slice A5 (us.length+1) q5)) g (f::frs) none A5 q5 dv ((u,gN,.slice none 0 0)::us) (gN::bs):=by
 obtain⟨ap1,ap2⟩:=h.apart;have a5:=ah h.row;have a2:gN≠g:=by omega
 have hob:∀b,(Value.slice A us.length c).ownBlock=some b->b<w.heap.size:=fun b hb=>by obtain⟨_,cur,h3⟩:=am h.own hb;exact ah h3
 have hc:aV (fun k=>k=g\/(Value.slice A us.length c).ownBlock=some k) w (w5.setCell (nl g) (.slice A5 (us.length+1) q5)):=((aV.of_below h2).trans (aV.grown hg) (fun i hi=>.inl (.inr hi))).trans (aV.set g 0 _) (fun i hi=>.inl (.inl hi));have hm:Mw [] w (w5.setCell (nl g) (.slice A5 (us.length+1) q5)):=Mw.of_chg hc fun k hk _=>.inr (by
  rcases hk with rfl|hk
  .exact⟨_,_,_,h.row,iL⟩
  .obtain⟨_,cur,h3⟩:=am h.own hk;exact⟨_,_,_,h3,Bf⟩)
 have a4:(w5.setCell (nl g) (.slice A5 (us.length+1) q5)).heap[gN]?=w2.heap[gN]?:=(Below.heap_setCell _ ⟨g,0,none⟩ _ gN a2).trans (hg.block gN a3 (fun e=>by have:=hob gN e.symm;omega));have g5:w5.heap[g]?=some (.cells #[.slice A us.length c,dv] 93 (0,0)):=(hg.block g (Nat.lt_of_lt_of_le a5 h2.size) (fun e=>(ap2 g e.symm).2 rfl)).trans (al h.row h2);have hne:=aW a0 g5 (by decide);have a1:∀k∈gN::bs,k∈bs\/w.heap.size<=k:=fun k hk=>by
  rcases List.mem_cons.1 hk with rfl|hk
  .exact .inr hN
  .exact .inl hk
 refine⟨.chg hc hB (fun i hi=>by
  rcases hi with rfl|hi
  .exact⟨h.low,_,_,_,h.row,.inr (.inl rfl)⟩
  .obtain⟨q1,cur,q2⟩:=am h.own hi;exact⟨q1,_,_,_,q2,.inr (.inr rfl)⟩),az g5 0 _,h.low,?_,⟨by simpa using h.frames.1,fun i a b h1 h2=>?_⟩,?_,?_,h.done,fun k cs hq=>⟨fun hk=>?_,hm.2 k _ _ _ (h.lone k cs hq).2 (.inl (.inr (.inr (.inr rfl)))) (by simp)⟩⟩
 rotate_right
 .rcases a1 k hk with hk|hk
  .exact(h.lone k cs hq).1 hk
  .have:=ah (h.lone k cs hq).2;omega
 .refine bM ?_ fun b hb=>Below.heap_setCell w5 ⟨g,0,none⟩ _ b (fun e=>hne (by have h9:=hb;rw[show b=g from e] at h9;exact h9))
  rw[List.map_cons,List.reverse_cons];exact a0
 .cases i with
  |zero=>
   simp only[List.getElem?_cons_zero,Option.some.injEq] at h1 h2;subst h1 h2;exact hf _ _ a4
  |succ i=>exact(h.frames.2 i a b (by simpa using h1) (by simpa using h2)).move hm (by simp) a1 (by simp)
 .rw[List.flatMap_cons,h.blocks];rfl
 .refine List.nodup_cons.2 ⟨fun hk=>?_,h.nodup⟩;have:=h.lt gN hk;omega
def LM (B:Nat)(Q:Nat->Array Value->Prop)(g:Nat)(frs:List Fr)(done:Option JV)(w:Wd)(e:Ending)(w':Wd):Prop:=e =.returned .nilIface/\zS B w w'/\∃bs',qE B Q w' g frs done bs'
end
theorem Ep(x W):y6 97 x 103 97 x true W:=by show _=_;kernel_rfl
section
variable {Q:Nat->Array Value->Prop}{B g:Nat}{w:Wd}{bs:List Nat}{fs:List Fr}{ms:List (Nc×JV)}{s:Nc}{a aU aE:Addr}
def Ll (B:Nat)(Q:Nat->Array Value->Prop)(g:Nat)(fs:List Fr)(ms:List (Nc×JV))(s:Nc)(er:Value)(w:Wd)(e:Ending)(w':Wd):Prop:=(s∈ms.map Prod.fst/\e =.returned er/\ge w w')\/(s∉ms.map Prod.fst/\LM B Q g (⟨true, [],ms,some s⟩::fs) none w e w')
theorem rP (h:qE B Q w g (⟨true, [],ms,none⟩::fs) none bs)(hs:dS s)(hG:cG w aU aE)(hsz:s.size<=1000000000)(hT:w.cell? (nl 2)=some (bR a))(hB:B<=w.heap.size)(hl:fs.length<1000000000)(b5:ms.length<=1000000000) :
  Calls prog 17 #[.pointer (some (nl g)),s] w (Ll B Q g fs ms s (bR a) w):=by
 obtain⟨A,c,dv,us,hA⟩:=h;obtain⟨u,m,us,rfl,hw,-⟩:=hA.innermost;have hin:=Qa (hA.in_top hl);have HA:=Qa hA;have HB:=Qa hB;have HQ:=Qa (fun w1 (hw:ge w w1)=>rl hs (hG.below hw) hsz);have HT:=Qa hT;clear hs hG hsz hA hT hB
 cases hw with
 |table gt At ct L ms s0 nm h1 h2 h3 h4 h5 h6=>
 have H1:=Qa h1;have H2:=Qa h2;have H3:=Qa h3;have H4:=Qa h4;have H5:=Qa h5;have c7:L.length<=1000000000:=by have:=congrArg List.length h4;simp at this;omega
 have hkt:=Ep;clear h1 h2 h3 h4 h5 h6 b5;go_in;go_wp2_with fail;refine Za hin ?_;rintro e w1 ⟨rfl,k,rfl⟩;obtain⟨wk,a2⟩:=y7 (w.drewN k);have a6:ge w wk:=by rw[<-a2];exact av (Ze _ _) k
 have c2:=ac (al H2 a6) (j:=2) (u:=.bool false) rfl;have a4:=Qa a6;rw[a2];clear a2 a6;have b7:=Qa (HQ wk a4.out);go_wp2_with fail;refine Za b7 ?_;rintro e w2 ⟨v,rfl,a9,b3⟩;have a7:=Qa (a4.trans (b3.mono a4.size));obtain⟨Aq,qq,rfl,-⟩:=ai a9;have c0:=ac (al H2 a7) (j:=0) (u:=.slice At L.length ct) rfl;clear a9 b3 c2;go_wp2_with fail
 go_loopg [10,39] L.length (fun k _ s39 wr=> ∃i:Nat,k+i=L.length/\s39 =(i:Int)/\ge w2 wr/\∀ (j:Nat) (p:Nc×Value),j<i->L[j]?=some p->p.1≠s)
 case atStart=>exact⟨0,rfl,rfl,Ze _ _,fun j p h=>by omega⟩
 case round=>
  obtain⟨i,hk,rfl,hb,b2⟩:=hrel;have Hb:=Qa (a7.trans (hb.mono a7.size));have b9:=Qa hb;have b1:=Qa b2;have Hk:=Qa hk;clear b2 hb hk c0
  by_cases hlt:i<L.length
  .obtain⟨p,hp⟩:∃p,L[i]?=some p:=⟨_,Zd hlt⟩;obtain⟨gm,rfl,q0,q1⟩:=(yC.rm H3).2.below Hb.out i p hp;obtain⟨tv,xv,hx⟩:∃t x,p.2 =.iface t x:=by
    have c1:=H5.1;obtain⟨b,hb⟩:∃b,(ms.map Prod.snd)[i]?=some b:=⟨_,Zd (by rw[<-c1];simpa using hlt)⟩;exact(H5.2 i p.2 b (by rw[List.getElem?_map,hp];rfl) hb).iface
   rw[hx] at q1;have a5:(i:Int)<L.length:=by omega
   have Hp:=Qa hp
   by_cases he:p.1=s
   .have b6:(p.1.toList==s.toList)=true:=by rw[he];simp
    have a1:=aa wr (.cells #[p.1,.iface tv xv] 107);have cT:=Zg (Hb.trans (a1.mono Hb.size)) HT.out;have b4:=Qa (Hb.trans (a1.mono Hb.size));have He:=Qa he;clear hp hx he a1;go_wp2;go_ret;exact .inl ⟨by rw[<-H4.out];exact List.mem_map.2 ⟨p,Zl Hp,He⟩,rfl,b4.out⟩
   .have b6:(p.1.toList==s.toList)=false:=by rw[eF];simpa using he
    have He:=Qa he;clear hp hx he;go_wp2_with fail;go_roundg (L.length - (i+1))
    case measure=>have:=Hk.out;omega
    case rel=>
     refine⟨i+1,by omega,by go_num,bI b9.out (aa _ _),fun j q hj hq=>?_⟩
     by_cases e:j=i
     .subst e;rw[Hp.out] at hq;rw[<-Zi hq];exact He.out
     .exact b1 j q (by omega) hq
  .obtain rfl:i=L.length:=by have:=Hk.out;omega
   have a5:¬ (L.length:Int)<L.length:=by omega
   have hr:=al H2.out Hb.out;have k1:=ac hr (j:=1) (u:=.string s0) rfl;have f1:=ao hr 1;have a0:=az hr 1 s;have k2:=ac a0 (j:=2) (u:=.bool false) rfl;have f2:=ao a0 2;have Hr:=Qa a0;have c6:=Qa hlt;clear hr a0 hlt;go_wp2;go_ret;have c5:=HA.below Hb.out;have hc:aV (fun k=>k=gt) wr ((wr.setCell (no gt 1) s).setCell (no gt 2) true):=(aV.set gt 1 _).trans (aV.set gt 2 _) fun i hi=>.inl hi
   have b0:yC wr B (.slice At L.length ct) L:=aq H3.out Hb.out (Zb _);have hne:=aW H3.out H2.out (by decide);have c3:s∉ms.map Prod.fst:=fun hm=>by
    rw[<-H4.out] at hm;obtain⟨p,hp,b8⟩:=List.mem_map.1 hm;obtain⟨j,hj,rfl⟩:=List.getElem_of_mem hp;exact b1 j _ hj (Zd hj) b8
   obtain⟨bs',hs⟩:=c5.swap (m':=(gt,.slice At L.length ct)) (f':=⟨true, [],ms,some s⟩) hc (fun k hk=>by subst hk;simp[dZ]) (fun k hk=>.inl hk) (by
     refine List.nodup_cons.2 ⟨fun hk=>hne (by simpa using hk),?_⟩
     cases (Value.slice At L.length ct).ownBlock <;> simp) (fun bs2 hm c4 a3=>.table gt At ct L ms s (some s) H1.out (az Hr 2 _) (bM b0 fun b hb=>hc.block b (ah (am b0 hb).2.choose_spec) fun e=>hne (by rw[hb,e])) H4.out ((H5.mono fun _ _ h=>h.later Hb.out).mono fun _ _ h=>h.move hm.mv a3 c4) (fun t e=>Zi e))
   exact .inr ⟨c3,rfl,(zS.new Hb HB).trans (.chg hc (Zc HB Hb.size) fun i e=>by subst e;exact⟨H1,_,_,_,al H2 Hb,.inl (.inr (.inr rfl))⟩),bs',_,_,_,_,hs⟩
end
