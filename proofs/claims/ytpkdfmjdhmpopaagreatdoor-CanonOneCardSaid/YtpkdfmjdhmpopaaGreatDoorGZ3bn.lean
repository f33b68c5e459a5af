import Derived.Test.YtpkdfmjdhmpopaaGreatDoorGZ3bm
set_option linter.unusedVariables false
set_option linter.unusedSimpArgs false
set_option maxHeartbeats 64000000
set_option maxRecDepth 100000
namespace Go.Proofs.YtpkdfmjdhmpopaaGreatDoor
open Go.RowKit
variable {aE aU : Addr} {s : ByteArray} {d : Dc} {j : JV} {ks : List JV} {ps : List Nat} {xs : List UInt8} {us : List Value} {B N a cap ck cn gt nn xb : Nat} {Ak An : Option Addr} {u v : Value} {W w w0 w5 : World}
def ww:Array Value:= #[.int .i64 1073741824, .int .i64 1073741824, .int .i64 1073741824, .int .i64 1073741824, .int .i64 1073741824, .int .i64 4611686018427387903]
theorem yW (p q:Value)(w:World):CallsD Tryz.prog 79 #[p,q] .returning w fun e u' w'=>e = .returned (.tuple #[])/\u' = .returning/\w'=w:=by
 refine callsD_of_wpS Tryz.func79 rfl fun c₀ cs hu=> ?_
 apply wpS_seq
 apply wpS_region
 simp [wpOpsS,go_sem,recoverD,hu,Tryz.ntmps79,Exit.thenS];apply wpS_seq;apply wpS_region;simp [wpOpsS,go_sem,Exit.thenS];refine wpS_cond (t:=false) (by simp [Act.eval,Array.replicate]) ?_;simp only [Bool.false_eq_true,if_false];refine wpS_of_wp (wp_skip ?_)
 cases c₀
 simp_all [bodyPostS,results,Tryz.results79]
theorem Bb {wr:World}{s1 s2:Nat}(hne:s1≠s2)(h1:wr.heap[s1]?=some (.cells #[.int .i64 0, .int .i64 0, .int .i64 0, .int .i64 0] 86 (0,0)))(h2:wr.heap[s2]?=some (.cells #[.nilIface] 35 (0,0)))(a b c d:Value)
  (hW: ((((wr.setCell ⟨s1,0,none⟩ a).setCell ⟨s1,1,none⟩ b).setCell ⟨s1,2,none⟩ c).setCell ⟨s1,3,none⟩ d).setCell ⟨s2,0,none⟩ .nilIface=W) :
  W.heap[s1]?=some (.cells #[a,b,c,d] 86 (0,0))/\W.heap[s2]?=some (.cells #[.nilIface] 35 (0,0))/\bl (fun k=>k=s1\/k=s2) wr W:=by
 subst hW;have g1:=ay (ay (ay (ay h1 0 a) 1 b) 2 c) 3 d;have g2:=aw _ s2 s1 3 d _ _ hne.symm (aw _ s2 s1 2 c _ _ hne.symm (aw _ s2 s1 1 b _ _ hne.symm (aw wr s2 s1 0 a _ _ hne.symm h2)));refine⟨aw _ s1 s2 0 .nilIface _ _ hne g1,ay g2 0 .nilIface, ?_⟩;exact(((((bl.set s1 0 a).mono fun _ h=> .inl h).trans (bl.set s1 1 b) fun i h=> .inl (.inl h)).trans (bl.set s1 2 c) fun i h=> .inl (.inl h)).trans (bl.set s1 3 d) fun i h=> .inl (.inl h)).trans (bl.set s2 0 _) fun i h=> .inl (.inr h)
def BN (w0:World)(rb lb xb:Nat)(v:Value)(xs:List UInt8)(j:JV)(m:Nat)(wr:World):Prop:=
 (∃ (f:Nat) (c:de) (k nd:Nat),m=xs.length - k+1/\kL f c (xs.drop k)=some j/\PS w0.heap.size rb lb xb v xs c k nd false wr/\c.ok jU/\dY c.frs<=k/\nd<=k/\k<=xs.length/\Below w0.heap.size w0 wr)\/
 (m=0/\∃nd bs,iC w0.heap.size wr rb lb xb v xs [] 7 xs.length nd true/\eW w0.heap.size wr xb [] (some j) bs/\Below w0.heap.size w0 wr)
def Ge (w0:World)(xb:Nat)(j:JV)(e:Ending)(w':World):Prop:= ∃a b c d:Int,e = .returned (.tuple #[.agg #[.int .i64 a, .int .i64 b, .int .i64 c, .int .i64 d], .nilIface])/\Below w0.heap.size w0 w'/\∃bs,eW w0.heap.size w' xb [] (some j) bs
theorem yO (hE:pk w0 aU aE)(hM:jZ w0)(f6:Below w0.heap.size w0 w)(hb:Bs w v xs)(h0:0<xs.length)(hl:xs.length<=1000000000)(f3:eW w0.heap.size w xb [] none [])(hp:dF xs=some j) :
  Calls Tryz.prog 57 #[v,ea, .func (.func 58) #[.pointer (some ⟨xb,0,none⟩)] #[]] w (Ge w0 xb j):=by
 have i3:∀ (fn:Fn) (first cap:Array Value) (w:World),(Instr.makeFunc fn first cap).run Tryz.prog w = .ok (.func fn first cap) w:=fun _ _ _ _=>rfl
 obtain⟨hm,A,cap,rfl,i0,b5⟩:=id hb;have HE:=Qa hE;have HM:=Qa hM;have b0:=Qa f6;have Hb:=Qa hb;have H0:=Qa h0;have Hl:=Qa hl;have g9:=Qa f3;have Hp:=Qa hp;have f0:=Qa (fun w=>vv w);have g4:=Qa (fun w=>sI (m:=1) (x:=(xs.length:Int)) (by omega) (by omega) w);unfold ea at *;have hlen: (xs.length:Int)<=1000000000:=by omega
 clear hE hM f6 hb h0 hl f3 hp b5;have g3:Below w.heap.size w (((w.alloc (.cells #[.int .i64 1073741824, .int .i64 1073741824, .int .i64 1073741824, .int .i64 1073741824, .int .i64 1073741824, .int .i64 4611686018427387903] 90)).alloc (.cells #[.int .i64 0, .int .i64 0, .int .i64 0, .int .i64 0] 86)).alloc (.cells #[.nilIface] 35)):=bo (bo (ac _ _) (ac _ _)) (ac _ _);have g0: (((w.alloc (.cells #[.int .i64 1073741824, .int .i64 1073741824, .int .i64 1073741824, .int .i64 1073741824, .int .i64 1073741824, .int .i64 4611686018427387903] 90)).alloc (.cells #[.int .i64 0, .int .i64 0, .int .i64 0, .int .i64 0] 86)).alloc (.cells #[.nilIface] 35)).heap[w.heap.size]?=some (.cells #[.int .i64 1073741824, .int .i64 1073741824, .int .i64 1073741824, .int .i64 1073741824, .int .i64 1073741824, .int .i64 4611686018427387903] 90 (0,0)):=(Below.heap_alloc _ _ _ (by simp only [World.size_alloc];omega)).trans ((Below.heap_alloc _ _ _ (by simp)).trans (Ze w _));have g1: (((w.alloc (.cells #[.int .i64 1073741824, .int .i64 1073741824, .int .i64 1073741824, .int .i64 1073741824, .int .i64 1073741824, .int .i64 4611686018427387903] 90)).alloc (.cells #[.int .i64 0, .int .i64 0, .int .i64 0, .int .i64 0] 86)).alloc (.cells #[.nilIface] 35)).heap[w.heap.size+1]?=some (.cells #[.int .i64 0, .int .i64 0, .int .i64 0, .int .i64 0] 86 (0,0)):=by
  have:=Ze (w.alloc (.cells #[.int .i64 1073741824, .int .i64 1073741824, .int .i64 1073741824, .int .i64 1073741824, .int .i64 1073741824, .int .i64 4611686018427387903] 90)) (.cells #[.int .i64 0, .int .i64 0, .int .i64 0, .int .i64 0] 86);rw [World.size_alloc] at this;exact(Below.heap_alloc _ _ _ (by simp)).trans this
 have g2: (((w.alloc (.cells #[.int .i64 1073741824, .int .i64 1073741824, .int .i64 1073741824, .int .i64 1073741824, .int .i64 1073741824, .int .i64 4611686018427387903] 90)).alloc (.cells #[.int .i64 0, .int .i64 0, .int .i64 0, .int .i64 0] 86)).alloc (.cells #[.nilIface] 35)).heap[w.heap.size+1+1]?=some (.cells #[.nilIface] 35 (0,0)):=by
  have:=Ze ((w.alloc (.cells #[.int .i64 1073741824, .int .i64 1073741824, .int .i64 1073741824, .int .i64 1073741824, .int .i64 1073741824, .int .i64 4611686018427387903] 90)).alloc (.cells #[.int .i64 0, .int .i64 0, .int .i64 0, .int .i64 0] 86)) (.cells #[.nilIface] 35)
  rwa [World.size_alloc,World.size_alloc] at this
 have h9:=Qa g3;have G0:=Qa g0;have G1:=Qa g1;have G2:=Qa g2;clear g3 g0 g1 g2;go_enter_defers Tryz.func57,Tryz.ntmps57;go_wp2_with fail;generalize ((w.alloc (.cells #[.int .i64 1073741824, .int .i64 1073741824, .int .i64 1073741824, .int .i64 1073741824, .int .i64 1073741824, .int .i64 4611686018427387903] 90)).alloc (.cells #[.int .i64 0, .int .i64 0, .int .i64 0, .int .i64 0] 86)).alloc (.cells #[.nilIface] 35)=w1 at *;(with_reducible refine(f0.out _).mono ?_);rintro e w2 ⟨rfl,e4⟩;have l0:=ai G0.out e4;have c0:=aa l0 (j:=0) (u:= .int .i64 1073741824) rfl;have c1:=aa l0 (j:=1) (u:= .int .i64 1073741824) rfl;have c2:=aa l0 (j:=2) (u:= .int .i64 1073741824) rfl;have c3:=aa l0 (j:=3) (u:= .int .i64 1073741824) rfl;have c4:=aa l0 (j:=4) (u:= .int .i64 1073741824) rfl;have c5:=aa l0 (j:=5) (u:= .int .i64 4611686018427387903) rfl;have d6:=Qa e4;clear l0 e4;go_wp2_with fail;(with_reducible refine(g4.out _).mono ?_);rintro e w3 ⟨rfl,b4⟩;have h6:=Qa (bo (bo h9.out d6.out) b4);have L0:=Qa (ai (ai G0.out d6.out) b4);have L1:=Qa (ai (ai G1.out d6.out) b4);have L2:=Qa (ai (ai G2.out d6.out) b4);clear c0 c1 c2 c3 c4 c5 b4;go_wp2_with fail;obtain⟨wr,d9⟩:∃wr,w3.drew=wr:=⟨_,rfl⟩;have d5:Below w3.heap.size w3 wr:=by rw [<- d9];exact(Zd _ _).drew
 have b1:=Qa (bo h6.out d5);have g7:=ai L0.out d5;have b2:∀ (w':World),w'.heap[w.heap.size]?=some (.cells #[.int .i64 1073741824, .int .i64 1073741824, .int .i64 1073741824, .int .i64 1073741824, .int .i64 1073741824, .int .i64 4611686018427387903] 90 (0,0))->w'.cell? ⟨w.heap.size,0,none⟩=some (.int .i64 1073741824)/\w'.cell? ⟨w.heap.size,1,none⟩=some (.int .i64 1073741824)/\w'.cell? ⟨w.heap.size,2,none⟩=some (.int .i64 1073741824)/\w'.cell? ⟨w.heap.size,3,none⟩=some (.int .i64 1073741824)/\w'.cell? ⟨w.heap.size,4,none⟩=some (.int .i64 1073741824)/\w'.cell? ⟨w.heap.size,5,none⟩=some (.int .i64 4611686018427387903):=fun _ h=>
  ⟨aa h (j:=0) rfl,aa h (j:=1) rfl,aa h (j:=2) rfl,aa h (j:=3) rfl,aa h (j:=4) rfl,aa h (j:=5) rfl⟩
 have a3:=Qa b2;have e1:=Qa g7;have b6:=Qa (wI (w:=wr) (Hb.out.below b1.out) H0.out (by have:=Hl.out;omega));have R1:=Qa (ai L1.out d5);have R2:=Qa (ai L2.out d5);clear d5 g7 b2;refine aW (fun w2=>w2.cell? ⟨w.heap.size,0,none⟩=some (.int .i64 1073741824)/\w2.cell? ⟨w.heap.size,1,none⟩=some (.int .i64 1073741824)/\w2.cell? ⟨w.heap.size,2,none⟩=some (.int .i64 1073741824)/\w2.cell? ⟨w.heap.size,3,none⟩=some (.int .i64 1073741824)/\w2.cell? ⟨w.heap.size,4,none⟩=some (.int .i64 1073741824)/\w2.cell? ⟨w.heap.size,5,none⟩=some (.int .i64 4611686018427387903)) ((by rw [d9];exact a3.out _ e1.out)) fun a1=> ?_
 refine tH 0 a1 ?_;refine tH 2 a1 ?_;refine tH 3 a1 ?_;refine tH 4 a1 ?_;refine tH 5 a1 ?_;refine tH 6 a1 ?_
 try simp only [Act.put,jP,jQ,jR]
 refine rH 1 fun K hK=> ?_
 go_simp;(try rw [d9]);(with_reducible refine b6.out.mono ?_);rintro e w5 ⟨lb,u,rfl,g5,f4,g8,b8⟩;have a9:=Qa f4;have i2:=Qa g5;have h8:=Qa g8;have e5:=Qa b8;clear f4 g5 g8 b8;go_wp2_with fail;refine hK.out _ _ (a3.out _ (ai e1.out a9.out)) (fun a1=> ?_);clear hK K
 try simp only [Act.put,jP,jQ,jR]
 refine tH 7 a1 ?_
 try simp only [Act.put,jP,jQ,jR]
 refine rH 8 fun K hK=> ?_
 go_simp;refine hK.out _ _ (a3.out _ (ai (ai e1.out a9.out) (ac _ _))) (fun a1=> ?_);clear hK K
 try simp only [Act.put,jP,jQ,jR]
 refine tH 9 a1 ?_
 try simp only [Act.put,jP,jQ,jR]
 refine wpAnyH_done (by kernel_rfl) (NoPanic.normal ?_) _;clear a1 d9;have e0:Below w0.heap.size w0 w5:=(b0.out.trans (b1.out.mono b0.out.size)).trans (a9.out.mono (Zb b0.out.size b1.out.size));have a0:=ac w5 (.cells (dH lb xb xs.length 0 0 0 (.slice none 0 0) (.slice none 0 0) 0 false) 183);have a5:=Ze w5 (.cells (dH lb xb xs.length 0 0 0 (.slice none 0 0) (.slice none 0 0) 0 false) 183);have f5:iz w0.heap.size (w5.alloc (.cells (dH lb xb xs.length 0 0 0 (.slice none 0 0) (.slice none 0 0) 0 false) 183)) w5.heap.size lb xb u xs [] 0 0 0 false xs.length 0 0 (.slice none 0 0) (.slice none 0 0) []:=
  ⟨a5,e0.size,i2.out.below a0,Zb (Zb b0.out.size b1.out.size) h8.out,ap (cQ e5.out (Zb b0.out.size b1.out.size)) a0 (Za _),⟨rfl, .inl ⟨rfl,rfl⟩⟩,⟨rfl, .inl ⟨rfl,rfl⟩⟩,bB.nil _,List.nodup_nil,Zj _⟩
 have b9:=(g9.out.below (bo b1.out a9.out)).below a0;have Hrel:=Qa (show BN w0 w5.heap.size lb xb u xs j (xs.length+1) (w5.alloc (.cells (dH lb xb xs.length 0 0 0 (.slice none 0 0) (.slice none 0 0) 0 false) 183)) from
  .inl ⟨xs.length+1,⟨[],0,none⟩,0,0,rfl,Hp.out,⟨f5.s, [],b9⟩,de.ok.start jU,Za _,Za _,Zj _,e0.trans (a0.mono e0.size)⟩)
 have Q1:=Qa (ai (ai R1.out a9.out) a0);have Q2:=Qa (ai (ai R2.out a9.out) a0);unfold dH at Hrel Q1 Q2;clear f5 b9 a5 a0 e0 b6 e1 a3 R1 R2 L0 L1 L2 G0 G1 G2 f0 g4;go_wp2_with fail
 go_loopg [] (xs.length+1) (fun m wr=>BN w0 w5.heap.size lb xb u xs j m wr/\wr.heap[w.heap.size+1]?=some (.cells #[.int .i64 0, .int .i64 0, .int .i64 0, .int .i64 0] 86 (0,0))/\wr.heap[w.heap.size+1+1]?=some (.cells #[.nilIface] 35 (0,0)))
 case atStart=>exact⟨Hrel.out,Q1.out,Q2.out⟩
 case round=>
  obtain⟨hrel,q1,q2⟩:=hrel;have HQ1:=Qa q1;have HQ2:=Qa q2;clear Hrel Q1 Q2 q1 q2;rcases hrel with ⟨f,c,k,nd,hm,hrun,a7,c6,hcn,f8,hk,a4⟩ | ⟨h5,nd,bs,hR,b7,a4⟩
  ·obtain⟨by9,dp9,ex9,ov9,nv9,maps9,a2⟩:=id a7.1
   have c15:=aa a2.row (j:=15) (u:= .bool false) rfl;have i4:=Qa a7;have Hm:=Qa hm;have Hbl:=Qa a4
   cases f with
   | zero=>cases hrun
   | succ f=>
    unfold kL at hrun
    cases hdw: (xs.drop k).dropWhile cD with
    | nil=>
     rw [hdw] at hrun;simp only at hrun
     split at hrun
     case isFalse=>cases hrun
     rename_i hw7
     obtain⟨frs,want,done⟩:=c;simp only at hw7 hrun;subst hw7 hrun;have h7:frs = []:=c6.want.1;subst h7;obtain⟨bs9,e8⟩:=a7.2;have e6:=Qa (BO (HE.out.below a4) a7.1 e8 Hl.out a4.size hdw);clear a7 c6 hcn f8 hk a4 hm a2 e8 hdw;go_wp2_with fail;(with_reducible refine e6.out.mono ?_);rintro e w7 ⟨rfl,h1,h2,h3⟩;have R:=Qa (And.intro h1 (And.intro h2 h3));clear h1 h2 h3 c15;go_wp2_with fail;go_roundg 0
     case measure=>have:=Hm.out;omega
     case rel=>exact⟨.inr ⟨rfl,nd,bs9,R.out.2.1,R.out.2.2,Hbl.out.trans R.out.1.b⟩,R.out.1.k.2 _ _ _ _ HQ1.out (by simp only [TA,TB,TV,lZ];decide),R.out.1.k.2 _ _ _ _ HQ2.out (by simp only [TA,TB,TV,lZ];decide)⟩
    | cons y ys=>
     rw [hdw] at hrun;simp only at hrun
     cases hlx:df (y::ys) with
     | none=>rw [hlx] at hrun;cases hrun
     | some tn=>
      obtain⟨t,n⟩:=tn;rw [hlx] at hrun;simp only at hrun
      cases hsb:dm c t with
      | none=>rw [hsb] at hrun;cases hrun
      | some c'=>
       rw [hsb] at hrun;simp only at hrun;have f1:=oA hlx;have hin: (y::ys).length<=xs.length - k:=by
        have h1:=dZ (xs.drop k);rw [hdw,List.length_drop] at h1;exact h1
       rw [List.length_cons] at f1 hin;have a6:xs.drop (xs.length - (ys.length+1))=y::ys:=by
        have h1:=qy (xs.drop k);rw [hdw,List.drop_drop] at h1;have h2:=congrArg List.length h1;rw [List.length_drop,List.length_cons] at h2;rw [<- h1]
        congr 1
        omega
       have e6:=Qa (AE (⟨HE.out,HM.out,a7,c6,by have:=Hl.out;omega,by have:=Hl.out;omega,Hl.out,a4⟩:jg w0 w5.heap.size lb xb u xs c k nd wr aU aE) hdw hlx hsb);have Hrun:=Qa (show kL f c' (xs.drop (xs.length - (ys.length+1)+n))=some j by rw [<- List.drop_drop,a6];exact hrun);have Hok:=Qa (DK c6 (DA (by rw [List.length_cons];have:=Hl.out;omega) hlx) hsb);have Hcn:=Qa (show dY c'.frs<=xs.length - (ys.length+1)+n/\nd+1<=xs.length - (ys.length+1)+n/\xs.length - (ys.length+1)+n<=xs.length/\k<xs.length - (ys.length+1)+n by have:=zD hsb;omega);clear a7 c6 hcn f8 hk a4 hm a2 hdw hlx hsb hrun f1 hin a6;go_wp2_with fail;(with_reducible refine e6.out.mono ?_);rintro e w7 ⟨nd',f9,rfl,h1,h2⟩;have R:=Qa (And.intro f9 (And.intro h1 h2));clear f9 h1 h2 c15;go_wp2_with fail;go_roundg (xs.length - (xs.length - (ys.length+1)+n)+1)
       case measure=>have:=Hm.out;have:=Hcn.out;omega
       case rel=>exact⟨.inl ⟨f,c',_,nd',rfl,Hrun.out,R.out.2.2,Hok.out,Hcn.out.1,Zb R.out.1 Hcn.out.2.1,Hcn.out.2.2.1,Hbl.out.trans R.out.2.1.b⟩,R.out.2.1.k.2 _ _ _ _ HQ1.out (by simp only [TA,TB,TV,lZ];decide),R.out.2.1.k.2 _ _ _ _ HQ2.out (by simp only [TA,TB,TV,lZ];decide)⟩
  ·obtain⟨by9,dp9,ex9,ov9,nv9,maps9,a2⟩:=id hR
   have c15:=aa a2.row (j:=15) (u:= .bool true) rfl;have c7:=aa a2.row (j:=7) (u:= .int .i64 by9) rfl;have c8:=aa a2.row (j:=8) (u:= .int .i64 dp9) rfl;have c9:=aa a2.row (j:=9) (u:= .int .i64 nd) rfl;have c10:=aa a2.row (j:=10) (u:= .int .i64 ex9) rfl;have h4:=Qa b7;have Hbl:=Qa a4;have r0:=aa HQ1.out (j:=0) rfl;have r1:=aa HQ1.out (j:=1) rfl;have r2:=aa HQ1.out (j:=2) rfl;have r3:=aa HQ1.out (j:=3) rfl;have r4:=aa HQ2.out (j:=0) rfl;have z0:=aj HQ1.out 0;have z1:=aj HQ1.out 1;have z2:=aj HQ1.out 2;have z3:=aj HQ1.out 3;have z4:=aj HQ2.out 0;clear h5 hR b7 a4 a2;go_wp2_with fail;obtain⟨W,hW⟩:∃W,((((wr.setCell ⟨w.heap.size+1,0,none⟩ (.int .i64 by9)).setCell ⟨w.heap.size+1,1,none⟩ (.int .i64 dp9)).setCell ⟨w.heap.size+1,2,none⟩ (.int .i64 nd)).setCell ⟨w.heap.size+1,3,none⟩ (.int .i64 ex9)).setCell ⟨w.heap.size+1+1,0,none⟩ .nilIface=W:=⟨_,rfl⟩;rw [hW];obtain⟨g1,g2,e3⟩:=Bb (by omega) HQ1.out HQ2.out _ _ _ _ hW;have d0:=aa g1 (j:=0) (u:= .int .i64 by9) rfl;have d1:=aa g1 (j:=1) (u:= .int .i64 dp9) rfl;have d2:=aa g1 (j:=2) (u:= .int .i64 nd) rfl;have d3:=aa g1 (j:=3) (u:= .int .i64 ex9) rfl;have d4:=aa g2 (j:=0) (u:= .nilIface) rfl;have g6:Kp (fun e=>e=86\/e=35) wr W:=Kp.of_chg e3 fun g hg _=>by
    rcases hg with rfl | rfl
    ·exact⟨_,_,_,HQ1.out, .inl rfl⟩
    ·exact⟨_,_,_,HQ2.out, .inr rfl⟩
   have f2:=h4.out.kp g6 fun e he=>by rcases he with (rfl | rfl | rfl | rfl) | rfl | rfl <;> decide
   have b3:Below w0.heap.size w0 W:=Hbl.out.trans (e3.below Hbl.out.size fun i hi=>by have:=b0.out.size;rcases hi with rfl | rfl <;> omega);have e2:Ge w0 xb j (.returned (.tuple #[.agg #[.int .i64 by9, .int .i64 dp9, .int .i64 nd, .int .i64 ex9], .nilIface])) W:=⟨_,_,_,_,rfl,b3,bs,f2⟩;clear hW e3 g6 f2 b3 r0 r1 r2 r3 r4 z0 z1 z2 z3 z4 c7 c8 c9 c10 c15;refine leaves_cons (f:=79) (args:= #[.pointer (some ⟨w.heap.size+1,0,none⟩), .pointer (some ⟨w.heap.size+1+1,0,none⟩)]) (by simp) (by simp [go_sem]) ?_;refine(yW _ _ _).mono ?_;rintro e u' w'' ⟨rfl,rfl,rfl⟩;simp [Leaves,settle,results,Tryz.results57,go_sem,d0,d1,d2,d3,d4];exact e2
def GU (w:World)(j:JV)(e:Ending)(w':World):Prop:= ∃ (u:Value) (a b c d:Int),e = .returned (.tuple #[u, .agg #[.int .i64 a, .int .i64 b, .int .i64 c, .int .i64 d], .nilIface])/\Below w.heap.size w w'/\VW (w.heap.size<= ·) w' u j
theorem pK (hE:pk w aU aE)(hM:jZ w)(hb:Bs w v xs)(h0:0<xs.length)(hl:xs.length<=1000000000)(hp:dF xs=some j) :
  Calls Tryz.prog 31 #[v,ea] w (GU w j):=by
 have e6:∀ (fn:Fn) (first cap:Array Value) (w:World),(Instr.makeFunc fn first cap).run Tryz.prog w = .ok (.func fn first cap) w:=fun _ _ _ _=>rfl
 have a6:Below w.heap.size w ((w.alloc (.cells ww 90)).alloc (.cells #[.int .i64 0, .int .i64 0, .int .i64 0, .int .i64 0] 86)):=bo (ac _ _) (ac _ _);have g0: ((w.alloc (.cells ww 90)).alloc (.cells #[.int .i64 0, .int .i64 0, .int .i64 0, .int .i64 0] 86)).heap[w.heap.size]?=some (.cells ww 90 (0,0)):=(Below.heap_alloc _ _ _ (by simp)).trans (Ze w _);have g1: ((w.alloc (.cells ww 90)).alloc (.cells #[.int .i64 0, .int .i64 0, .int .i64 0, .int .i64 0] 86)).heap[w.heap.size+1]?=some (.cells #[.int .i64 0, .int .i64 0, .int .i64 0, .int .i64 0] 86 (0,0)):=by
  have:=Ze (w.alloc (.cells ww 90)) (.cells #[.int .i64 0, .int .i64 0, .int .i64 0, .int .i64 0] 86)
  rwa [World.size_alloc] at this
 have hz: ((w.alloc (.cells ww 90)).alloc (.cells #[.int .i64 0, .int .i64 0, .int .i64 0, .int .i64 0] 86)).heap.size=w.heap.size+1+1:=by simp
 unfold ww at a6 g0 g1 hz;have H2:=Qa a6;have G0:=Qa g0;have G1:=Qa g1;have Hz:=Qa hz;have HE:=Qa (hE.below a6);have HM:=Qa (hM.below a6);have Hb:=Qa (hb.below a6);have H0:=Qa h0;have Hl:=Qa hl;have Hp:=Qa hp;have c9:=hE;unfold ea;clear a6 g0 g1 hz hE hM hb h0 hl hp c9;go_enter Tryz.func31,Tryz.ntmps31;go_wp2_with fail;generalize ((w.alloc (.cells #[.int .i64 1073741824, .int .i64 1073741824, .int .i64 1073741824, .int .i64 1073741824, .int .i64 1073741824, .int .i64 4611686018427387903] 90)).alloc (.cells #[.int .i64 0, .int .i64 0, .int .i64 0, .int .i64 0] 86))=w1 at *;rw [<- Hz.out];have a5:=ac w1 (.cells #[.slice none 0 0, .nilIface] 143);have a3:=Ze w1 (.cells #[.slice none 0 0, .nilIface] 143);have b1:eW w1.heap.size (w1.alloc (.cells #[.slice none 0 0, .nilIface] 143)) w1.heap.size [] none []:=⟨.slice none 0 0, .nilIface, [],a3,Za _,⟨rfl, .inl ⟨rfl,rfl⟩⟩,bB.nil _,rfl,List.nodup_nil,rfl⟩;have b7:=Qa (yO HE.out HM.out a5 (Hb.out.below a5) H0.out Hl.out b1 Hp.out);unfold ea at b7;clear a5 a3 b1;(with_reducible refine b7.out.mono ?_);rintro e w3 ⟨a,b,c,d,rfl,b5,bs,pv,dv,us,b3⟩;have c1:VW (Pb w1.heap.size bs) w3 dv j:=b3.done;obtain⟨tv,xv,c8⟩:=c1.iface;subst c8;have a0:=ac w3 (.cells #[.int .i64 a, .int .i64 b, .int .i64 c, .int .i64 d] 86);obtain⟨w4,c0⟩:∃w4,w3.alloc (.cells #[.int .i64 a, .int .i64 b, .int .i64 c, .int .i64 d] 86)=w4:=⟨_,rfl⟩;have b6:=Ze w3 (.cells #[.int .i64 a, .int .i64 b, .int .i64 c, .int .i64 d] 86);rw [c0] at a0 b6;have d9:=Qa (c1.later a0);have e3:=Qa (ai b3.row a0);have d5:=Qa b6;have c5:w3.heap[w.heap.size+1]?=some (.cells #[.int .i64 0, .int .i64 0, .int .i64 0, .int .i64 0] 86 (0,0)):=(b5.block _ (ae G1.out)).trans G1.out;have e4:=Qa (ai c5 a0);have c7:=Qa (show Below w1.heap.size w1 w4 from b5.trans (a0.mono b5.size));have e2:=Qa c0;have hlt:w1.heap.size<w3.heap.size:=ae b3.row;have d6:=Qa hlt;clear b5 b3 c1 a0 b6 c5 c0 hlt b7;go_wp2_with fail
 try rw [e2.out]
 obtain⟨wr,b9⟩:∃wr,w4.drew=wr:=⟨_,rfl⟩;have a7:Below w4.heap.size w4 wr:=by rw [<- b9];exact(Zd _ _).drew
 have e5:=Qa (d9.out.later a7);have hX:=ai e3.out a7;have hN:=ai d5.out a7;have hG:=ai e4.out a7;have e0:=Qa hX;have b4:=Qa hN;have c3:=Qa hG;have c4:=Qa (c7.out.trans (a7.mono c7.out.size));have z0:=aj hG 0;have z1:=aj hG 1;have z2:=aj hG 2;have z3:=aj hG 3;have y0:=aa hG (j:=0) (u:= .int .i64 0) rfl;have y1:=aa hG (j:=1) (u:= .int .i64 0) rfl;have y2:=aa hG (j:=2) (u:= .int .i64 0) rfl;have y3:=aa hG (j:=3) (u:= .int .i64 0) rfl;have b0:w.heap.size+1≠w1.heap.size:=by have:=Hz.out;omega
 have b2:w.heap.size+1≠w3.heap.size:=by have:=Hz.out;have:=d6.out;omega
 have c2:=Qa b0;have a2:=Qa b2;clear a7 hX hN hG b0 b2;have hS:wr.cell? ⟨w1.heap.size,1,none⟩=some (.iface tv xv)/\wr.cell? ⟨w3.heap.size,0,none⟩=some (.int .i64 a)/\wr.cell? ⟨w3.heap.size,1,none⟩=some (.int .i64 b)/\wr.cell? ⟨w3.heap.size,2,none⟩=some (.int .i64 c)/\wr.cell? ⟨w3.heap.size,3,none⟩=some (.int .i64 d):=
  ⟨aa e0.out (j:=1) rfl,aa b4.out (j:=0) rfl,aa b4.out (j:=1) rfl,aa b4.out (j:=2) rfl,aa b4.out (j:=3) rfl⟩
 have HS:=Qa hS;clear hS;have a9:∀ (W:World) (i:Nat) (x:Value),(W.cell? ⟨w1.heap.size,1,none⟩=some (.iface tv xv)/\W.cell? ⟨w3.heap.size,0,none⟩=some (.int .i64 a)/\W.cell? ⟨w3.heap.size,1,none⟩=some (.int .i64 b)/\W.cell? ⟨w3.heap.size,2,none⟩=some (.int .i64 c)/\W.cell? ⟨w3.heap.size,3,none⟩=some (.int .i64 d))->
   ((W.setCell ⟨w.heap.size+1,i,none⟩ x).cell? ⟨w1.heap.size,1,none⟩=some (.iface tv xv)/\(W.setCell ⟨w.heap.size+1,i,none⟩ x).cell? ⟨w3.heap.size,0,none⟩=some (.int .i64 a)/\(W.setCell ⟨w.heap.size+1,i,none⟩ x).cell? ⟨w3.heap.size,1,none⟩=some (.int .i64 b)/\(W.setCell ⟨w.heap.size+1,i,none⟩ x).cell? ⟨w3.heap.size,2,none⟩=some (.int .i64 c)/\(W.setCell ⟨w.heap.size+1,i,none⟩ x).cell? ⟨w3.heap.size,3,none⟩=some (.int .i64 d)):=fun W i x ⟨h1,h2,h3,h4,h5⟩=>
  ⟨(World.cell?_setCell_far _ _ _ _ c2.out).trans h1,(World.cell?_setCell_far _ _ _ _ a2.out).trans h2,(World.cell?_setCell_far _ _ _ _ a2.out).trans h3,(World.cell?_setCell_far _ _ _ _ a2.out).trans h4,(World.cell?_setCell_far _ _ _ _ a2.out).trans h5⟩
 have a1:=Qa a9;clear a9;refine aW (fun w2=>w2.cell? ⟨w1.heap.size,1,none⟩=some (.iface tv xv)/\w2.cell? ⟨w3.heap.size,0,none⟩=some (.int .i64 a)/\w2.cell? ⟨w3.heap.size,1,none⟩=some (.int .i64 b)/\w2.cell? ⟨w3.heap.size,2,none⟩=some (.int .i64 c)/\w2.cell? ⟨w3.heap.size,3,none⟩=some (.int .i64 d)) ((by rw [b9];exact HS.out)) fun a4=> ?_
 refine tH 0 a4 ?_;refine tH 1 a4 ?_;refine tH 2 a4 ?_;refine tH 3 a4 ?_
 try simp only [Act.put,jP,jQ,jR]
 refine rH 4 fun K hK=> ?_
 (try rw [b9] at a4 ⊢);go_simp;refine hK.out _ _ (a1.out _ _ _ (a1.out _ _ _ (a1.out _ _ _ (a1.out _ _ _ HS.out)))) (fun a4=> ?_);clear hK K
 try simp only [Act.put,jP,jQ,jR]
 refine tH 5 a4 ?_
 try simp only [Act.put,jP,jQ,jR]
 refine wpAnyH_done (by kernel_rfl) (NoPanic.normal ?_) _;clear y0 y1 y2 y3 z0 z1 z2 z3
 try clear a4
 go_wp2_with fail;obtain⟨W,hW⟩:∃W,(((wr.setCell ⟨w.heap.size+1,0,none⟩ (.int .i64 a)).setCell ⟨w.heap.size+1,1,none⟩ (.int .i64 b)).setCell ⟨w.heap.size+1,2,none⟩ (.int .i64 c)).setCell ⟨w.heap.size+1,3,none⟩ (.int .i64 d)=W:=⟨_,rfl⟩;rw [hW];have g:=ay (ay (ay (ay c3.out 0 (.int .i64 a)) 1 (.int .i64 b)) 2 (.int .i64 c)) 3 (.int .i64 d);rw [hW] at g;have c6:bl (fun k=>k=w.heap.size+1) wr W:=by
  rw [<- hW];exact((((bl.set _ 0 _).trans (bl.set _ 1 _) fun i h=> .inl h).trans (bl.set _ 2 _) fun i h=> .inl h).trans (bl.set _ 3 _) fun i h=> .inl h)
 have d0:=aa g (j:=0) (u:= .int .i64 a) rfl;have d1:=aa g (j:=1) (u:= .int .i64 b) rfl;have d2:=aa g (j:=2) (u:= .int .i64 c) rfl;have d3:=aa g (j:=3) (u:= .int .i64 d) rfl;have e1:Kp (fun e=>e=86) wr W:=Kp.of_chg c6 fun g hg _=>by subst hg;exact⟨_,_,_,c3.out,rfl⟩
 have d4:=(e5.out.keeps e1.keeps (fun e he=>by rcases he with rfl | rfl | rfl | rfl <;> decide)).imp (Q:=(w.heap.size<= ·)) (fun g hg _=>Zb H2.out.size hg.1);have b8:Below w.heap.size w W:=(H2.out.trans (c4.out.mono H2.out.size)).trans (c6.below (by have:=H2.out.size;have:=c4.out.size;omega) fun i hi=>by rw [hi];omega);refine Zg (v:= .tuple #[.iface tv xv, .agg #[.int .i64 a, .int .i64 b, .int .i64 c, .int .i64 d], .nilIface]) ?_ rfl ⟨_,_,_,_,_,rfl,b8,d4⟩;simp [results,Tryz.results31,go_sem,d0,d1,d2,d3]
theorem Br (w:World):Calls Tryz.prog 32 #[] w fun e w'=>e = .returned ea/\Below w.heap.size w w':=by
 unfold ea;go_enter Tryz.func32,Tryz.ntmps32;go_wp2_with fail;have hn:=Ze w (.cells #[.int .i64 1073741824, .int .i64 1073741824, .int .i64 1073741824, .int .i64 1073741824, .int .i64 1073741824, .int .i64 4611686018427387903] 90);have n0:=aa hn (j:=0) rfl;have n1:=aa hn (j:=1) rfl;have n2:=aa hn (j:=2) rfl;have n3:=aa hn (j:=3) rfl;have n4:=aa hn (j:=4) rfl;have n5:=aa hn (j:=5) rfl;have Hb:=ac w (.cells #[.int .i64 1073741824, .int .i64 1073741824, .int .i64 1073741824, .int .i64 1073741824, .int .i64 1073741824, .int .i64 4611686018427387903] 90);refine Zg (v:= .agg #[.int .i64 1073741824, .int .i64 1073741824, .int .i64 1073741824, .int .i64 1073741824, .int .i64 1073741824, .int .i64 4611686018427387903]) ?_ rfl ⟨rfl,Hb⟩;simp [results,Tryz.results32,go_sem,n0,n1,n2,n3,n4,n5]
theorem uP (w:World):Calls Tryz.prog 59 #[] w fun e w'=>e = .returned ea/\Below w.heap.size w w':=by
 unfold ea;go_enter Tryz.func59,Tryz.ntmps59;go_wp2_with fail;have hn:=Ze w (.cells #[.int .i64 1073741824, .int .i64 1073741824, .int .i64 1073741824, .int .i64 1073741824, .int .i64 1073741824, .int .i64 4611686018427387903] 90);have n0:=aa hn (j:=0) rfl;have n1:=aa hn (j:=1) rfl;have n2:=aa hn (j:=2) rfl;have n3:=aa hn (j:=3) rfl;have n4:=aa hn (j:=4) rfl;have n5:=aa hn (j:=5) rfl;have Hb:=ac w (.cells #[.int .i64 1073741824, .int .i64 1073741824, .int .i64 1073741824, .int .i64 1073741824, .int .i64 1073741824, .int .i64 4611686018427387903] 90);refine Zg (v:= .agg #[.int .i64 1073741824, .int .i64 1073741824, .int .i64 1073741824, .int .i64 1073741824, .int .i64 1073741824, .int .i64 4611686018427387903]) ?_ rfl ⟨rfl,Hb⟩;simp [results,Tryz.results59,go_sem,n0,n1,n2,n3,n4,n5]
def Ex (w:World)(j:JV)(e:Ending)(w':World):Prop:= ∃u,e = .returned (.tuple #[u, .nilIface])/\Below w.heap.size w w'/\VW (w.heap.size<= ·) w' u j
theorem zy (hE:pk w aU aE)(hM:jZ w)(hb:Bs w v xs)(h0:0<xs.length)(hl:xs.length<=1000000000)(hp:dF xs=some j) :
  Calls Tryz.prog 11 #[v] w (Ex w j):=by
 have Hf:=Qa (Br w);have H:=Qa (fun (w1:World) (h:Below w.heap.size w w1)=>pK (hE.below h) (hM.below h) (hb.below h) h0 hl hp);clear hE hM hb h0 hl hp;go_enter Tryz.func11,Tryz.ntmps11;go_wp2_with fail;(with_reducible refine Hf.out.mono ?_);rintro e w1 ⟨rfl,a0⟩;have a3:=Qa a0;have Hp:=Qa (H.out w1 a0);clear a0;go_wp2_with fail;(with_reducible refine Hp.out.mono ?_);rintro e w2 ⟨u,a,b,c,d,rfl,a2,hv⟩;obtain⟨tv,xv,rfl⟩:=hv.iface;have a1:=ac w2 (.cells #[.int .i64 a, .int .i64 b, .int .i64 c, .int .i64 d] 86);have HV:=Qa ((hv.later a1).imp (Q:=(w.heap.size<= ·)) fun g hg _=>Zb a3.out.size hg);have HB:=Qa (bo (bo a3.out a2) a1);clear a2 hv a1 Hp;go_wp2_with fail;go_ret2;exact⟨_,rfl,HB.out,HV.out⟩
theorem j8 (hE:pk w aU aE)(hM:jZ w)(hb:Bs w v xs)(h0:0<xs.length)(hl:xs.length<=1000000000)(hp:dF xs=some j) :
  Calls Tryz.prog 33 #[v] w (Ex w j):=by
 have Hf:=Qa (uP w);have H:=Qa (fun (w1:World) (h:Below w.heap.size w w1)=>pK (hE.below h) (hM.below h) (hb.below h) h0 hl hp);clear hE hM hb h0 hl hp;go_enter Tryz.func33,Tryz.ntmps33;go_wp2_with fail;(with_reducible refine Hf.out.mono ?_);rintro e w1 ⟨rfl,a0⟩;have a3:=Qa a0;have Hp:=Qa (H.out w1 a0);clear a0;go_wp2_with fail;(with_reducible refine Hp.out.mono ?_);rintro e w2 ⟨u,a,b,c,d,rfl,a2,hv⟩;obtain⟨tv,xv,rfl⟩:=hv.iface;have a1:=ac w2 (.cells #[.int .i64 a, .int .i64 b, .int .i64 c, .int .i64 d] 86);have HV:=Qa ((hv.later a1).imp (Q:=(w.heap.size<= ·)) fun g hg _=>Zb a3.out.size hg);have HB:=Qa (bo (bo a3.out a2) a1);clear a2 hv a1 Hp;go_wp2_with fail;go_ret2;exact⟨_,rfl,HB.out,HV.out⟩
open Go.Shelf
theorem oU {a:Bool}{x:Int}:Calls Tryz.prog 42 #[.agg #[.bool a, .string s, .int .i64 x]] w fun e w'=>e = .returned (.agg #[.bool a, .string s, .int .i64 x])/\Below w.heap.size w w':=by
 have a0:Below w.heap.size w ((w.alloc (.cells #[.bool a, .string s, .int .i64 x] 74)).alloc (.cells #[.bool a, .string s, .int .i64 x] 48)):=((Zd _ _).alloc (Za _) _).alloc (by simp) _;have a1:=Qa a0;clear a0;go_enter Tryz.func42,Tryz.ntmps42;go_wp2_with fail;have hh: ((w.alloc (.cells #[.bool a, .string s, .int .i64 x] 74)).alloc (.cells #[.bool a, .string s, .int .i64 x] 48)).heap[w.heap.size+1]?=some (.cells #[.bool a, .string s, .int .i64 x] 48 (0,0)):=by
  have:=Ze (w.alloc (.cells #[.bool a, .string s, .int .i64 x] 74)) (.cells #[.bool a, .string s, .int .i64 x] 48)
  rwa [World.size_alloc] at this
 exact Zg (results_cell_row Tryz.results42 _ _ (w.heap.size+1) 48 #[.bool a, .string s, .int .i64 x] (0,0) _ (by simp) hh Tryz.underlying48 rfl (by kernel_rfl)) rfl ⟨rfl,a1.out⟩
inductive oh:Int->Bool->ByteArray->Dc->Value->Prop
 | null (t:Bool) (x:ByteArray) (d:Dc):oh 1 t x d (.iface 58 (.agg #[]))
 | bool (t:Bool) (x:ByteArray) (d:Dc):oh 2 t x d (.iface 59 (.bool t))
 | num (t:Bool) (x:ByteArray) (d:Dc):oh 3 t x d (.iface 50 (.agg #[.bool d.neg, .string d.digits, .int .i64 d.exp]))
 | text (t:Bool) (x:ByteArray) (d:Dc):oh 4 t x d (.iface 60 (.string x))
 | hole (t:Bool) (x:ByteArray) (d:Dc):oh 7 t x d (.iface 54 (.agg #[]))
def mx (w:World)(gt a:Nat)(k:Int)(t:Bool)(x:ByteArray)(d:Dc)(vn vk:Value):Prop:= ∀ (j:Nat) (u:Value), [.int .i64 k, .bool t, .string x, .bool d.neg, .string d.digits, .int .i64 d.exp,vn,vk][j]?=some u->w.cell? ⟨gt,a*8+j,none⟩=some u
theorem yy {k:Int}{t:Bool}{x:ByteArray}{nk:Nat}(hc:mx w gt a k t x d (.slice An nn cn) (.slice Ak nk ck))(ha:a<N)(hN:N<=1000000)(hl:oh k t x d u):Calls Tryz.prog 25 #[.slice (some ⟨gt,0,none⟩) N cap, .int .i64 (a:Int)] w fun e w'=>e = .returned u/\Below w.heap.size w w':=by
 have c0:=hc 0 _ rfl;rw [Nat.add_zero] at c0;have c1:=hc 1 _ rfl;have c2:=hc 2 _ rfl;have c3:=hc 3 _ rfl;have c4:=hc 4 _ rfl;have c5:=hc 5 _ rfl;have c6:=hc 6 _ rfl;have c7:=hc 7 _ rfl;have a1: (a:Int)<N:=by omega
 have a0:=Qa (ac w (.cells #[.int .i64 k, .bool t, .string x, .bool d.neg, .string d.digits, .int .i64 d.exp, .slice An nn cn, .slice Ak nk ck] 77));clear hc
 cases hl
 case num=>
  go_enter Tryz.func25,Tryz.ntmps25;go_wp2_with fail;(with_reducible refine oU.mono ?_);rintro e w1 ⟨rfl,hb⟩;have Hb:=Qa (a0.out.trans (hb.mono a0.out.size));clear hb;go_wp2_with fail;go_ret;exact⟨rfl,Hb.out⟩
 all_goals
  go_enter Tryz.func25,Tryz.ntmps25;go_wp2_with fail;go_ret;exact⟨rfl,a0.out⟩
def Ej (w:World)(j:JV)(e:Ending)(w':World):Prop:= ∃u,e = .returned u/\Below w.heap.size w w'/\VW (w.heap.size<= ·) w' u j
theorem xJ {old new:Value}{k:JV}(hv:bB (VW (fun g=>B<=g/\old.ownBlock≠some g) w) us ks)(hu:VW (fun g=>B<=g/\old.ownBlock≠some g) w u k)(hg:w.grownBy w5 old.ownBlock)(hd:new.ownBlock=old.ownBlock\/new.ownBlock=some w.heap.size) :
  bB (VW (fun g=>B<=g/\new.ownBlock≠some g) w5) (us ++ [u]) (ks ++ [k]):=by
 have key:∀u k,VW (fun g=>B<=g/\old.ownBlock≠some g) w u k->VW (fun g=>B<=g/\new.ownBlock≠some g) w5 u k:=fun u k h=>h.stay fun g o ⟨h1,h2⟩ a0 _=>⟨⟨h1,fun e=>by
  rcases hd with hd | hd
  ·rw [hd] at e;exact h2 e
  ·rw [hd] at e
   have:=ae a0;injection e with e
   omega⟩,(hg.block g (ae a0) (fun e=>h2 e.symm)).trans a0⟩
 exact(hv.mono key).snoc (key _ _ hu)
def IF (B:Nat)(w2:World)(ks:List JV)(s6 s7:Value)(wr:World):Prop:= ∃ (i:Nat) (A:Option Addr) (c:Nat) (us:List Value),s7 = .int .i64 i/\i<=ks.length/\s6 = .slice A i c/\Below w2.heap.size w2 wr/\wr.ownsRow B 32 1 (.slice A i c) i us/\bB (VW (fun g=>B<=g/\(Value.slice A i c).ownBlock≠some g) wr) us (ks.take i)
theorem zu {t:Bool}{x:ByteArray}(hc:mx w gt a 5 t x d (.slice An nn cn) (.slice Ak ks.length ck))(hk:cB w 0 (.slice Ak ks.length ck) ps)(b6:ps.length=ks.length)(ha:a<N)(hN:N<=1000000)(hl:ks.length<=1000000)
  (H:∀ (i:Nat) (k:JV) (p:Nat),ks[i]?=some k->ps[i]?=some p->∀w1,Below w.heap.size w w1->Calls Tryz.prog 25 #[.slice (some ⟨gt,0,none⟩) N cap, .int .i64 (p:Int)] w1 (Ej w1 k)) :
  Calls Tryz.prog 25 #[.slice (some ⟨gt,0,none⟩) N cap, .int .i64 (a:Int)] w (Ej w (dl ks)):=by
 have c0:=hc 0 _ rfl;rw [Nat.add_zero] at c0;have c1:=hc 1 _ rfl;have c2:=hc 2 _ rfl;have c3:=hc 3 _ rfl;have c4:=hc 4 _ rfl;have c5:=hc 5 _ rfl;have c6:=hc 6 _ rfl;have c7:=hc 7 _ rfl;have e0: (a:Int)<N:=by omega
 have a2:=Qa (ac w (.cells #[.int .i64 5, .bool t, .string x, .bool d.neg, .string d.digits, .int .i64 d.exp, .slice An nn cn, .slice Ak ks.length ck] 77));have a0:=Qa (Ze w (.cells #[.int .i64 5, .bool t, .string x, .bool d.neg, .string d.digits, .int .i64 d.exp, .slice An nn cn, .slice Ak ks.length ck] 77));have Hk:=Qa (cB.below hk a2.out (Za _));have HH:=Qa H;have b4:=Qa b6;clear hc hk H b6;go_enter Tryz.func25,Tryz.ntmps25;go_wp2_with fail;obtain⟨w2,b7⟩:∃w2,w.alloc (.cells #[.int .i64 5, .bool t, .string x, .bool d.neg, .string d.digits, .int .i64 d.exp, .slice An nn cn, .slice Ak ks.length ck] 77)=w2:=⟨_,rfl⟩;rw [b7] at a2 a0 Hk ⊢;clear b7 c0 c1 c2 c3 c4 c5 c6 c7;have a7:=Qa (show w.heap.size<w2.heap.size from ae a0.out)
 go_loopw [6,7] (fun s6 s7 wr=>IF w2.heap.size w2 ks s6 s7 wr) (fun _ v _=>ks.length - (intOf v).toNat)
 case atStart=>exact⟨0,none,0, [],rfl,Zj _,rfl,Zd _ _,⟨rfl, .inl ⟨rfl,rfl⟩⟩,bB.nil _⟩
 case round=>
  obtain⟨i,A,c,us,rfl,hi,rfl,hb,ho,hv⟩:=hrel;have c7:=aa (ai a0.out hb) (j:=7) (u:= .slice Ak ks.length ck) rfl;have Hb:=Qa hb;have Ho:=Qa ho;have Hv:=Qa hv;have b8:=hb.size;clear hb ho hv
  by_cases hlt:i<ks.length
  ·obtain⟨k,a9⟩:∃k,ks[i]?=some k:=⟨_,Zc hlt⟩
   obtain⟨p,b2⟩:∃p,ps[i]?=some p:=⟨_,Zc (by rw [b4.out];exact hlt)⟩;have a5:=Hk.out.below Hb.out (Za _);unfold cB at a5;rw [b4.out] at a5;obtain⟨_,_,e,_,_,hA⟩:=ag a5;obtain⟨gk,rfl⟩:=hA (by omega);obtain⟨e1, -, -⟩:=Value.slice.inj e;subst e1;have ck0:=bg a5 rfl i (by omega);rw [List.getElem?_map,b2] at ck0;simp only [Option.map_some,bX] at ck0;have HC:=Qa (HH.out i k p a9 b2 wr (a2.out.trans (Hb.out.mono a2.out.size)));have d6:=Qa a9;have b1: (i:Int)<ks.length:=by omega
   clear a9 b2 a5 e hA;go_wp2_with fail;(with_reducible refine HC.out.mono ?_);rintro e w3 ⟨u,rfl,a6,hu⟩;obtain⟨tv,xv,rfl⟩:=hu.iface;have d4:=a6.size;have d2:=Qa (Hb.out.trans (a6.mono b8));have a1:=a6.alloc d4 (.cells #[.iface tv xv] 32);have a4:=Qa (ap Ho.out a1 (Za _));have d1:=Qa (av w3 [.iface tv xv] 32);have hob:∀b,(Value.slice A i c).ownBlock=some b->b<wr.heap.size:=fun b hb=>ae (ak Ho.out hb).2.choose_spec
   have d0:=Qa (Hv.out.mono fun _ _ h=>h.later a1);have Hu:=Qa ((hu.later (ac w3 (.cells #[.iface tv xv] 32))).imp (Q:=fun g=>w2.heap.size<=g/\(Value.slice A i c).ownBlock≠some g) fun g hg _=>⟨by omega,fun e=>by have:=hob g e;omega⟩);have a3:=Qa (show w2.heap.size<=(w3.alloc (.cells #[.iface tv xv] 32)).heap.size by simp;omega);have b3:=Qa (d2.out.alloc (by omega) (.cells #[.iface tv xv] 32));clear a6 a1 hu hob;go_wp2_with (at_builtin;refine ar xV rfl (.tmp 54) (.tmp 62) rfl w2.heap.size (.slice A i c) i w3.heap.size 1 1 us [.iface tv xv] (by simp [Act.eval]) a4.out (by simp [Act.eval]) rfl d1.out (by simp [Value.oneCell']) (by unfold maxLen;omega) (by omega) a3.out ?_;intro v' w5 p1 p2 p3;obtain⟨A5,q5,rfl, -, -, -⟩:=ag p1;have HK:=Qa p1;have HG:=Qa p2;have HD:=Qa p3;clear p1 p2 p3);refine⟨⟨i+1,A5,q5,us ++ [.iface tv xv],by go_num,by omega,rfl,b3.out.grown HG.out a3.out (fun g e=>(ak a4.out e).1),HK.out, ?_⟩,by simp [intOf];omega⟩;rw [cL d6.out];exact xJ d0.out Hu.out HG.out HD.out
  ·obtain rfl:i=ks.length:=by omega
   have b1:¬ (ks.length:Int)<ks.length:=by omega
   have b5:=Qa (show us.length=ks.length by have:=Hv.out.1;rw [List.take_length] at this;exact this);have c8:bB (VW (fun g=>w2.heap.size<=g/\(Value.slice A ks.length c).ownBlock≠some g) wr) us ks:=by have:=Hv.out;rw [List.take_length] at this;exact this
   have d5:=Qa c8;have HN:=Qa (lI (by have:=Sl.of_own Ho.out (us:=us);exact this) (fun v hv=>by
    obtain⟨j,hj,rfl⟩:=List.getElem_of_mem hv;exact(Hv.out.2 j us[j] ((ks.take ks.length)[j]'(by rw [List.take_length];have:=b5.out;omega)) (Zc hj) (Zc _)).iface) (by have:=b5.out;omega))
   clear hlt c8;go_wp2_with fail;(with_reducible refine HN.out.mono ?_);rintro e w3 ⟨gl,A1,c1,rfl,b0,e2,c9,b9⟩;have d3:=Qa (a2.out.trans ((Hb.out.trans (b0.mono b8)).mono a2.out.size));have d9:=Qa (x9 (Q:=(w.heap.size<= ·)) c9 (b9.stay fun g o hp hg _ _=>⟨by have:=a7.out;omega,hg⟩) (by have:=a7.out;omega) (d5.out.mono fun _ _ h=>(h.later b0).imp fun g hg _=>by have:=a7.out;omega));clear b0 c9 b9;go_wp2_with fail;go_ret;exact⟨_,rfl,d3.out,d9.out⟩
