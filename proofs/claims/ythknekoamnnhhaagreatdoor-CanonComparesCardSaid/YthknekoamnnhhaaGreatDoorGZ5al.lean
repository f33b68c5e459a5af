import Derived.Test.YthknekoamnnhhaaGreatDoorGZ5ak
import Derived.Shelf.Lay
import Derived.Shelf.Strings.Trim
import Derived.Shelf.Strconv.Atoi
set_option linter.unusedVariables false
set_option linter.unusedSimpArgs false
set_option maxHeartbeats 64000000
set_option maxRecDepth 100000
namespace Go.Proofs.YthknekoamnnhhaaGreatDoor
open Go.RowKit
variable {l xs ys:List UInt8}{base g:Nat}{F:Nat->Prop}{v:Value}{w w':World}
def oA (w:World):Prop:= ∀i,i<54->w.cell? ⟨15,i,none⟩=some (.int .u8 (oO.getD i 9:Nat))
theorem oA.below (h:oA w)(hb:Below w.heap.size w w'):oA w':=fun i hi=>Zf hb (h i hi)
def Kc (w:World)(g base:Nat)(t:NS):Prop:= ∃vd ve,w.heap[g]?=some (.cells #[.bool t.neg,.bool t.down,vd,.int .i64 t.part,ve,.int .i64 t.st,.int .i64 t.n] 374 (0,0))/\au w base vd t.digs/\au w base ve t.exps/\(∀b,vd.ownBlock=some b->ve.ownBlock≠some b)
def sG (t:NS)(w:World)(e:Ending)(w':World):Prop:= ∃vd ve,e =.returned (.agg #[.bool t.neg,.bool t.down,vd,.int .i64 t.part,ve,.int .i64 t.st,.int .i64 t.n])/\Below w.heap.size w w'/\au w' w.heap.size vd t.digs/\au w' w.heap.size ve t.exps
def Gp:Obj:=.cells #[.bool false,.bool false,.slice none 0 0,.int .i64 0,.slice none 0 0,.int .i64 0,.int .i64 0] 374 (0,0)
def EL (xs:List UInt8)(w:World)(m:Nat)(wr:World):Prop:= ∃t:NS,t.n+m=xs.length/\t.part<=t.n/\t.digs.length<=t.n/\t.exps.length<=t.n/\t.st<=8/\aD t (xs.drop t.n)=aD iE xs/\Kc wr (w.heap.size+1) (w.heap.size+2) t/\wr.heap[w.heap.size]?=some Gp/\Below w.heap.size w wr
theorem au.blk (h:au w base v ys)(h2:v.ownBlock=some g):base<=g/\g<w.heap.size:=by
 obtain⟨h1,cur,hg⟩:=al h h2;exact⟨h1,ae hg⟩
theorem au.stayB (h:au w base v ys)(hc:br F w w')(hf:∀b,v.ownBlock=some b->¬F b):au w' base v ys:=
 bH h (fun b hb=>by obtain⟨_,cur,hg⟩:=al h hb;exact hc.block b (ae hg) (hf b hb))
theorem lW (w:World)(xs:List UInt8)(hm:xs.length<=9223372036854775807):Bs (w.alloc (.cells (gS xs).toArray 5)) (.slice (some ⟨w.heap.size,0,none⟩) xs.length xs.length) xs:=
 qG xs hm (Za _) (Ze _ _)
theorem yH:(Tryz.prog.info? 374).map (·.size)=some 7:=by kernel_rfl
theorem Ie {s k:Nat}(h:eQ s k≠9)(hs:s<=8)(hk:k<=6):eQ s k=1\/eQ s k=2\/eQ s k=3\/eQ s k=4\/eQ s k=5\/eQ s k=6\/eQ s k=7\/eQ s k=8:=by
 have key:∀s,s<9->∀k,k<7->eQ s k≠9->1<=eQ s k/\eQ s k<=8:=by decide +kernel
 have:=key s (by omega) k (by omega) h;omega
theorem wI (c:UInt8):bD c<=6:=by
 have:=uK (p:=fun c=>decide (bD c<=6)) (by decide +kernel) c;simpa using this
theorem e9 {t:NS}{c:UInt8}(h:eQ t.st (bD c)≠9):aD t (c::xs)=aD (t.next c) xs:=by
 conv=>lhs;unfold aD
 rw[if_neg h]
theorem pM {t:NS}{c:UInt8}(h:eQ t.st (bD c)=9):aD t (c::xs)=t:=by
 unfold aD;rw[if_pos h]
theorem Jj (c:UInt8):(c==45)= ((c.toNat:Int)==45):=by
 have h:∀n,n<256->(UInt8.ofNat n==45)= ((n:Int)==45):=by decide +kernel
 have:=h c.toNat c.toNat_lt
 rwa[UInt8.ofNat_toNat] at this
theorem tP (hb:Bs w v xs)(hl:xs.length<=1000000000)(hG:oA w):Calls Tryz.prog 242 #[v] w (sG (aD iE xs) w):=by
 obtain⟨hm,A,cap,rfl,g6,d3⟩:=id hb;have Hb:=Qa hb;have HG:=Qa hG;have e1:=Qa d3;clear hb hG d3;go_enter Tryz.func242,Tryz.ntmps242;go_wp2_with fail;have h0:=Ze w (.cells #[.bool false,.bool false,.slice none 0 0,.int .i64 0,.slice none 0 0,.int .i64 0,.int .i64 0] 374);have h1:=Ze (w.alloc (.cells #[.bool false,.bool false,.slice none 0 0,.int .i64 0,.slice none 0 0,.int .i64 0,.int .i64 0] 374)) (.cells #[.bool false,.bool false,.slice none 0 0,.int .i64 0,.slice none 0 0,.int .i64 0,.int .i64 0] 374);have e7:Below w.heap.size w ((w.alloc (.cells #[.bool false,.bool false,.slice none 0 0,.int .i64 0,.slice none 0 0,.int .i64 0,.int .i64 0] 374)).alloc (.cells #[.bool false,.bool false,.slice none 0 0,.int .i64 0,.slice none 0 0,.int .i64 0,.int .i64 0] 374)):=((Zd _ _).alloc (Za _) _).alloc (by simp) _;have f9:=(Below.heap_alloc (w.alloc (.cells #[.bool false,.bool false,.slice none 0 0,.int .i64 0,.slice none 0 0,.int .i64 0,.int .i64 0] 374)) (.cells #[.bool false,.bool false,.slice none 0 0,.int .i64 0,.slice none 0 0,.int .i64 0,.int .i64 0] 374) w.heap.size (by simp)).trans h0;rw[World.size_alloc] at h1;generalize (w.alloc (.cells #[.bool false,.bool false,.slice none 0 0,.int .i64 0,.slice none 0 0,.int .i64 0,.int .i64 0] 374)).alloc (.cells #[.bool false,.bool false,.slice none 0 0,.int .i64 0,.slice none 0 0,.int .i64 0,.int .i64 0] 374)=w0 at *;have Hb2:=Qa e7;have H1:=Qa h1;have H0:=Qa f9;clear h0 h1 e7 f9
 go_loopg [4,5] xs.length (fun m _ _ wr=>EL xs w m wr)
 case atStart=>exact⟨iE,Nat.zero_add _,Za _,Za _,Za _,Zj _,rfl,⟨_,_,H1.out,au.nil _ _,au.nil _ _,fun b h=>by cases h⟩,H0.out,Hb2.out⟩
 case round=>
  clear Hb2 H1 H0;obtain⟨t,hn,hp,g9,g8,g5,hr,⟨vd,ve,hg,hd,he,hne⟩,hz,hb⟩:=hrel;obtain⟨tneg,tdown,tdigs,tpart,texps,tst,tn⟩:=t
  dsimp only at *
  obtain⟨Ad,nd,qd,rfl⟩:∃A n q,vd =.slice A n q:=by obtain⟨A,c,e,_⟩:=ah hd;exact⟨A,_,c,e⟩
  obtain⟨Ae,ne,qe,rfl⟩:∃A n q,ve =.slice A n q:=by obtain⟨A,c,e,_⟩:=ah he;exact⟨A,_,c,e⟩
  have Hg:=Qa hg;have Hd:=Qa hd;have He:=Qa he;have Hne:=Qa hne;have b0:=Qa hb;have Hr:=Qa hr;have HZ:=Qa hz;have Hn:=Qa hn;have e4:=ae hg;have e3:=Qa e4;have hnl:tn<=xs.length:=by omega
  have c0:=aa hg (j:=0) (u:=.bool tneg) rfl;have c1:=aa hg (j:=1) (u:=.bool tdown) rfl;have c2:=aa hg (j:=2) (u:=.slice Ad nd qd) rfl;have c3:=aa hg (j:=3) (u:=.int .i64 tpart) rfl;have c4:=aa hg (j:=4) (u:=.slice Ae ne qe) rfl;have c5:=aa hg (j:=5) (u:=.int .i64 tst) rfl;have c6:=aa hg (j:=6) (u:=.int .i64 tn) rfl;have f0:=am hg 0;have f1:=am hg 1;have f2:=am hg 2;have f3:=am hg 3;have f4:=am hg 4;have f5:=am hg 5;have f6:=am hg 6
  by_cases hlt:tn<xs.length
  ·obtain⟨b,o,rfl,f8⟩:=e1.out (by omega);obtain⟨c,rest,hc⟩:∃c rest,xs.drop tn=c::rest:=⟨_,_,List.drop_eq_getElem_cons hlt⟩;have e8:ap xs tn=c.toNat:=by
    have:=i7 xs tn 0;rw[hc] at this;exact this.symm
   have cc:=Zf b0.out (f8 tn hlt);rw[e8] at cc;have d4:xs.drop (tn+1)=rest:=by rw[<-List.drop_drop,hc];rfl
   have a2:=Qa d4;have e5:=hr;rw[hc] at e5;have d2:=Qa e5;have g2:(tn:Int)<xs.length:=by omega
   clear hc e8 f8 d4 hg hd he hne hb hr hz e5 hn;go_wp2_with fail;refine(tJ c wr).mono ?_;rintro e w' ⟨rfl,rfl⟩;have g4:=wI c;obtain⟨k,hk⟩:∃k,bD c=k:=⟨_,rfl⟩;have Hk:=Qa hk;rw[hk] at g4 ⊢;clear hk
   by_cases h6:k=6
   ·subst h6;have b9:=Qa (d2.out.symm.trans (pM (t:=⟨tneg,tdown,tdigs,tpart,texps,tst,tn⟩) (c:=c) (xs:=rest) (by show eQ tst (bD c)=9;rw[Hk.out];rfl)));have b7:=ai wr w.heap.size #[.bool tneg,.bool tdown,.slice Ad nd qd,.int .i64 tpart,.slice Ae ne qe,.int .i64 tst,.int .i64 tn];have a9:sG (aD iE xs) w (.returned (.agg #[.bool tneg,.bool tdown,.slice Ad nd qd,.int .i64 tpart,.slice Ae ne qe,.int .i64 tst,.int .i64 tn])) (wr.setRow w.heap.size #[.bool tneg,.bool tdown,.slice Ad nd qd,.int .i64 tpart,.slice Ae ne qe,.int .i64 tst,.int .i64 tn]):=by
     rw[b9.out];exact⟨.slice Ad nd qd,.slice Ae ne qe,rfl,b0.out.grown b7 b0.out.size (fun g e=>by cases e;exact Za _),(Hd.out.low (by omega)).grown b7 (fun g e e2=>by injection e2 with e2;have:=(au.blk Hd.out e).1;omega),(He.out.low (by omega)).grown b7 (fun g e e2=>by injection e2 with e2;have:=(au.blk He.out e).1;omega)⟩
    have c8:=Qa a9;clear a9 b7;have h4:=HZ.out;go_wp2_with (refine bM h4 ?_);exact Zg (results_cell_row Tryz.results242 _ _ w.heap.size 374 #[.bool tneg,.bool tdown,.slice Ad nd qd,.int .i64 tpart,.slice Ae ne qe,.int .i64 tst,.int .i64 tn] (0,0) _ (by simp) (setRow_heap _ _ _ _ _ _ HZ.out) Tryz.underlying374 rfl yH) rfl c8.out
   ·have g7:(k:Int)<6:=by omega
    have g1:((k:Int)==6)=false:=by simp;omega
    have g3:(tst:Int)<9:=by omega
    have ct:=Zf b0.out (HG.out (tst*6+k) (by omega));have g0:oO.getD (tst*6+k) 9=eQ tst k:=by unfold eQ;rw[if_pos (by omega)]
    rw[g0] at ct;clear g0 h6
    by_cases h9:eQ tst k=9
    ·rw[h9] at ct;have b9:=Qa (d2.out.symm.trans (pM (t:=⟨tneg,tdown,tdigs,tpart,texps,tst,tn⟩) (c:=c) (xs:=rest) (by show eQ tst (bD c)=9;rw[Hk.out,h9])));clear h9;have b7:=ai wr w.heap.size #[.bool tneg,.bool tdown,.slice Ad nd qd,.int .i64 tpart,.slice Ae ne qe,.int .i64 tst,.int .i64 tn];have a9:sG (aD iE xs) w (.returned (.agg #[.bool tneg,.bool tdown,.slice Ad nd qd,.int .i64 tpart,.slice Ae ne qe,.int .i64 tst,.int .i64 tn])) (wr.setRow w.heap.size #[.bool tneg,.bool tdown,.slice Ad nd qd,.int .i64 tpart,.slice Ae ne qe,.int .i64 tst,.int .i64 tn]):=by
      rw[b9.out];exact⟨.slice Ad nd qd,.slice Ae ne qe,rfl,b0.out.grown b7 b0.out.size (fun g e=>by cases e;exact Za _),(Hd.out.low (by omega)).grown b7 (fun g e e2=>by injection e2 with e2;have:=(au.blk Hd.out e).1;omega),(He.out.low (by omega)).grown b7 (fun g e e2=>by injection e2 with e2;have:=(au.blk He.out e).1;omega)⟩
     have c8:=Qa a9;clear a9 b7;have h4:=HZ.out;go_wp2_with (refine bM h4 ?_);exact Zg (results_cell_row Tryz.results242 _ _ w.heap.size 374 #[.bool tneg,.bool tdown,.slice Ad nd qd,.int .i64 tpart,.slice Ae ne qe,.int .i64 tst,.int .i64 tn] (0,0) _ (by simp) (setRow_heap _ _ _ _ _ _ HZ.out) Tryz.underlying374 rfl yH) rfl c8.out
    ·rcases Ie h9 g5 (by omega) with hS|hS|hS|hS|hS|hS|hS|hS
     ·
      have a0:eQ tst k=1:=hS;clear hS;have b6:=Qa (e9 (t:=⟨tneg,tdown,tdigs,tpart,texps,tst,tn⟩) (c:=c) (xs:=rest) (by show eQ tst (bD c)≠9;rw[Hk.out,a0];decide));have Hs:=Qa (show eQ tst (bD c)=1 by rw[Hk.out];exact a0);rw[a0] at ct;clear a0;have b2:=Qa (show(⟨tneg,tdown,tdigs,tpart,texps,tst,tn⟩:NS).next c= ⟨true,tdown,tdigs,tpart,texps,1,tn+1⟩ by simp[NS.next,Hs.out]);have Hrd:=Qa (show aD ⟨true,tdown,tdigs,tpart,texps,1,tn+1⟩ (xs.drop (tn+1))=aD iE xs by rw[a2.out,<-b2.out,<-b6.out];exact d2.out);have HgF:=Qa (aw (aw (aw Hg.out 5 (.int .i64 1)) 0 (.bool true)) 6 (.int .i64 ((tn:Int)+1)));have HzF:=Qa (av _ w.heap.size (w.heap.size+1) 6 (.int .i64 ((tn:Int)+1)) _ _ (by omega) (av _ w.heap.size (w.heap.size+1) 0 (.bool true) _ _ (by omega) (av wr w.heap.size (w.heap.size+1) 5 (.int .i64 1) _ _ (by omega) HZ.out)));have HbF:=Qa (((b0.out.setCell (p:=⟨w.heap.size+1,5,none⟩) (Nat.le_succ _) (.int .i64 1)).setCell (p:=⟨w.heap.size+1,0,none⟩) (Nat.le_succ _) (.bool true)).setCell (p:=⟨w.heap.size+1,6,none⟩) (Nat.le_succ _) (.int .i64 ((tn:Int)+1)));have a1:br (fun i=>i=w.heap.size+1) wr (((wr.setCell ⟨w.heap.size+1,5,none⟩ (.int .i64 1)).setCell ⟨w.heap.size+1,0,none⟩ (.bool true)).setCell ⟨w.heap.size+1,6,none⟩ (.int .i64 ((tn:Int)+1))):=((br.set (w:=wr) (w.heap.size+1) 5 (.int .i64 1)).trans (br.set (w.heap.size+1) 0 (.bool true)) (fun i h=>.inl h)).trans (br.set (w.heap.size+1) 6 (.int .i64 ((tn:Int)+1))) (fun i h=>.inl h);have HdF:=Qa (Hd.out.stayB a1 (fun b hb=>by have:=(au.blk Hd.out hb).1;omega));have HeF:=Qa (He.out.stayB a1 (fun b hb=>by have:=(au.blk He.out hb).1;omega));clear a1;go_wp2_with fail;go_roundg (gk - 1)
      case measure=>have:=Hn.out;omega
      case rel=>exact⟨⟨true,tdown,tdigs,tpart,texps,1,tn+1⟩,by have:=Hn.out;dsimp only;omega,by dsimp only;omega,by simp;omega,by simp;omega,by dsimp only;omega,Hrd.out,⟨_,_,by simpa using HgF.out,HdF.out,HeF.out,Hne.out⟩,HzF.out,HbF.out⟩
     ·
      have a0:eQ tst k=2:=hS;clear hS;have b6:=Qa (e9 (t:=⟨tneg,tdown,tdigs,tpart,texps,tst,tn⟩) (c:=c) (xs:=rest) (by show eQ tst (bD c)≠9;rw[Hk.out,a0];decide));have Hs:=Qa (show eQ tst (bD c)=2 by rw[Hk.out];exact a0);rw[a0] at ct;clear a0;have b2:=Qa (show(⟨tneg,tdown,tdigs,tpart,texps,tst,tn⟩:NS).next c= ⟨tneg,tdown,(tdigs ++ [c]),tpart,texps,2,tn+1⟩ by simp[NS.next,Hs.out]);have Hrd:=Qa (show aD ⟨tneg,tdown,(tdigs ++ [c]),tpart,texps,2,tn+1⟩ (xs.drop (tn+1))=aD iE xs by rw[a2.out,<-b2.out,<-b6.out];exact d2.out);have a7:=aw Hg.out 5 (.int .i64 2);have hza:=av wr w.heap.size (w.heap.size+1) 5 (.int .i64 2) _ _ (by omega) HZ.out;have b4:=b0.out.setCell (p:=⟨w.heap.size+1,5,none⟩) (Nat.le_succ _) (.int .i64 2);have a5:br (fun i=>i=w.heap.size+1) wr (wr.setCell ⟨w.heap.size+1,5,none⟩ (.int .i64 2)):=br.set (w:=wr) (w.heap.size+1) 5 (.int .i64 2);have hsa:(wr.setCell ⟨w.heap.size+1,5,none⟩ (.int .i64 2)).heap.size=wr.heap.size:=by simp
      go_upto_region 17 with fail
      obtain⟨wa,hwa⟩:∃wa,(wr.setCell ⟨w.heap.size+1,5,none⟩ (.int .i64 2))=wa:=⟨_,rfl⟩;rw[hwa] at a7 hza b4 a5 hsa ⊢;clear hwa c0 c1 c2 c3 c4 c5 c6 f0 f1 f2 f3 f4 f5 f6;have c9:=Qa a7;have d1:=Qa hza;have b5:=Qa b4;have d5:=Qa hsa;have a6:=Qa (Hd.out.stayB a5 (fun b hb=>by have:=(au.blk Hd.out hb).1;omega));have c7:=Qa (He.out.stayB a5 (fun b hb=>by have:=(au.blk He.out hb).1;omega));have d9:=Qa (lW wa [c] (by simp));have cx:=aa a7 (j:=2) (u:=.slice Ad nd qd) rfl;clear a7 hza b4 a5 hsa;go_wp2_with (at_builtin;refine pW (a6.out.below (ac wa _) (Za _)) d9.out (by simp;omega) (by rw[World.size_alloc];have:=e3.out;have:=d5.out;omega) ?_;intro v' w3 h1 h2 h3;obtain⟨A',q',rfl,-⟩:=ah h1;have HK:=Qa h1;have b1:=Qa h2;have HO:=Qa h3;have a4:=Qa (aF ((Below.heap_alloc wa _ _ (ae c9.out)).trans c9.out) h2 (fun e=>by have:=(au.blk a6.out e).1;omega));have d0:=aa a4.out (j:=2) rfl;have d6:=aa a4.out (j:=6) rfl;have e0:=am a4.out 2;have e6:=am a4.out 6;clear h1 h2 h3);have HgF:=Qa (aw (aw a4.out 2 (.slice A' (tdigs.length+1) q')) 6 (.int .i64 ((tn:Int)+1)));have hle:(tdigs ++ [c]).length=tdigs.length+1:=by simp
      rw[hle] at HK HO;clear hle;have a3:=aF ((Below.heap_alloc wa (.cells (gS [c]).toArray 5) _ (ae d1.out)).trans d1.out) b1.out (fun e=>by have:=(au.blk a6.out e).1;omega);have HzF:=Qa (av _ w.heap.size (w.heap.size+1) 6 (.int .i64 ((tn:Int)+1)) _ _ (by omega) (av _ w.heap.size (w.heap.size+1) 2 (.slice A' (tdigs.length+1) q') _ _ (by omega) a3));have b8:=(b5.out.alloc b5.out.size (.cells (gS [c]).toArray 5)).grown b1.out (by rw[World.size_alloc];have:=b5.out.size;omega) (fun b e=>by have:=(au.blk a6.out e).1;omega);have HbF:=Qa ((b8.setCell (p:=⟨w.heap.size+1,2,none⟩) (Nat.le_succ _) (.slice A' (tdigs.length+1) q')).setCell (p:=⟨w.heap.size+1,6,none⟩) (Nat.le_succ _) (.int .i64 ((tn:Int)+1)));have a1:=(br.set (w:=w3) (w.heap.size+1) 2 (.slice A' (tdigs.length+1) q')).trans (br.set (w.heap.size+1) 6 (.int .i64 ((tn:Int)+1))) (fun i h=>.inl h);have HmF:=Qa (au.stayB HK.out a1 (fun b hb=>by have:=(au.blk HK.out hb).1;omega));have b3:=(c7.out.below (ac wa (.cells (gS [c]).toArray 5)) (Za _)).grown b1.out (fun b hb e=>Hne.out b e hb);have HoF:=Qa (b3.stayB a1 (fun b hb=>by have:=(au.blk b3 hb).1;omega));have HnF:Hid (∀b,(Value.slice A' (tdigs.length+1) q').ownBlock=some b->(Value.slice Ae ne qe).ownBlock≠some b):=Qa (fun b hb e2=>by rcases HO.out with e|e;(· exact Hne.out b (e.symm.trans hb) e2);(· rw[e] at hb;injection hb with hb;have:=(au.blk c7.out e2).2;rw[World.size_alloc] at hb;omega));clear a3 b8 a1 b3;go_roundg (gk - 1)
      case measure=>have:=Hn.out;omega
      case rel=>exact⟨⟨tneg,tdown,(tdigs ++ [c]),tpart,texps,2,tn+1⟩,by have:=Hn.out;dsimp only;omega,by dsimp only;omega,by simp;omega,by simp;omega,by dsimp only;omega,Hrd.out,⟨_,_,by simpa using HgF.out,HmF.out,HoF.out,HnF.out⟩,HzF.out,HbF.out⟩
     ·
      have a0:eQ tst k=3:=hS;clear hS;have b6:=Qa (e9 (t:=⟨tneg,tdown,tdigs,tpart,texps,tst,tn⟩) (c:=c) (xs:=rest) (by show eQ tst (bD c)≠9;rw[Hk.out,a0];decide));have Hs:=Qa (show eQ tst (bD c)=3 by rw[Hk.out];exact a0);rw[a0] at ct;clear a0;have b2:=Qa (show(⟨tneg,tdown,tdigs,tpart,texps,tst,tn⟩:NS).next c= ⟨tneg,tdown,(tdigs ++ [c]),tpart,texps,3,tn+1⟩ by simp[NS.next,Hs.out]);have Hrd:=Qa (show aD ⟨tneg,tdown,(tdigs ++ [c]),tpart,texps,3,tn+1⟩ (xs.drop (tn+1))=aD iE xs by rw[a2.out,<-b2.out,<-b6.out];exact d2.out);have a7:=aw Hg.out 5 (.int .i64 3);have hza:=av wr w.heap.size (w.heap.size+1) 5 (.int .i64 3) _ _ (by omega) HZ.out;have b4:=b0.out.setCell (p:=⟨w.heap.size+1,5,none⟩) (Nat.le_succ _) (.int .i64 3);have a5:br (fun i=>i=w.heap.size+1) wr (wr.setCell ⟨w.heap.size+1,5,none⟩ (.int .i64 3)):=br.set (w:=wr) (w.heap.size+1) 5 (.int .i64 3);have hsa:(wr.setCell ⟨w.heap.size+1,5,none⟩ (.int .i64 3)).heap.size=wr.heap.size:=by simp
      go_upto_region 17 with fail
      obtain⟨wa,hwa⟩:∃wa,(wr.setCell ⟨w.heap.size+1,5,none⟩ (.int .i64 3))=wa:=⟨_,rfl⟩;rw[hwa] at a7 hza b4 a5 hsa ⊢;clear hwa c0 c1 c2 c3 c4 c5 c6 f0 f1 f2 f3 f4 f5 f6;have c9:=Qa a7;have d1:=Qa hza;have b5:=Qa b4;have d5:=Qa hsa;have a6:=Qa (Hd.out.stayB a5 (fun b hb=>by have:=(au.blk Hd.out hb).1;omega));have c7:=Qa (He.out.stayB a5 (fun b hb=>by have:=(au.blk He.out hb).1;omega));have d9:=Qa (lW wa [c] (by simp));have cx:=aa a7 (j:=2) (u:=.slice Ad nd qd) rfl;clear a7 hza b4 a5 hsa;go_wp2_with (at_builtin;refine pW (a6.out.below (ac wa _) (Za _)) d9.out (by simp;omega) (by rw[World.size_alloc];have:=e3.out;have:=d5.out;omega) ?_;intro v' w3 h1 h2 h3;obtain⟨A',q',rfl,-⟩:=ah h1;have HK:=Qa h1;have b1:=Qa h2;have HO:=Qa h3;have a4:=Qa (aF ((Below.heap_alloc wa _ _ (ae c9.out)).trans c9.out) h2 (fun e=>by have:=(au.blk a6.out e).1;omega));have d0:=aa a4.out (j:=2) rfl;have d6:=aa a4.out (j:=6) rfl;have e0:=am a4.out 2;have e6:=am a4.out 6;clear h1 h2 h3);have HgF:=Qa (aw (aw a4.out 2 (.slice A' (tdigs.length+1) q')) 6 (.int .i64 ((tn:Int)+1)));have hle:(tdigs ++ [c]).length=tdigs.length+1:=by simp
      rw[hle] at HK HO;clear hle;have a3:=aF ((Below.heap_alloc wa (.cells (gS [c]).toArray 5) _ (ae d1.out)).trans d1.out) b1.out (fun e=>by have:=(au.blk a6.out e).1;omega);have HzF:=Qa (av _ w.heap.size (w.heap.size+1) 6 (.int .i64 ((tn:Int)+1)) _ _ (by omega) (av _ w.heap.size (w.heap.size+1) 2 (.slice A' (tdigs.length+1) q') _ _ (by omega) a3));have b8:=(b5.out.alloc b5.out.size (.cells (gS [c]).toArray 5)).grown b1.out (by rw[World.size_alloc];have:=b5.out.size;omega) (fun b e=>by have:=(au.blk a6.out e).1;omega);have HbF:=Qa ((b8.setCell (p:=⟨w.heap.size+1,2,none⟩) (Nat.le_succ _) (.slice A' (tdigs.length+1) q')).setCell (p:=⟨w.heap.size+1,6,none⟩) (Nat.le_succ _) (.int .i64 ((tn:Int)+1)));have a1:=(br.set (w:=w3) (w.heap.size+1) 2 (.slice A' (tdigs.length+1) q')).trans (br.set (w.heap.size+1) 6 (.int .i64 ((tn:Int)+1))) (fun i h=>.inl h);have HmF:=Qa (au.stayB HK.out a1 (fun b hb=>by have:=(au.blk HK.out hb).1;omega));have b3:=(c7.out.below (ac wa (.cells (gS [c]).toArray 5)) (Za _)).grown b1.out (fun b hb e=>Hne.out b e hb);have HoF:=Qa (b3.stayB a1 (fun b hb=>by have:=(au.blk b3 hb).1;omega));have HnF:Hid (∀b,(Value.slice A' (tdigs.length+1) q').ownBlock=some b->(Value.slice Ae ne qe).ownBlock≠some b):=Qa (fun b hb e2=>by rcases HO.out with e|e;(· exact Hne.out b (e.symm.trans hb) e2);(· rw[e] at hb;injection hb with hb;have:=(au.blk c7.out e2).2;rw[World.size_alloc] at hb;omega));clear a3 b8 a1 b3;go_roundg (gk - 1)
      case measure=>have:=Hn.out;omega
      case rel=>exact⟨⟨tneg,tdown,(tdigs ++ [c]),tpart,texps,3,tn+1⟩,by have:=Hn.out;dsimp only;omega,by dsimp only;omega,by simp;omega,by simp;omega,by dsimp only;omega,Hrd.out,⟨_,_,by simpa using HgF.out,HmF.out,HoF.out,HnF.out⟩,HzF.out,HbF.out⟩
     ·
      have a0:eQ tst k=4:=hS;clear hS;have b6:=Qa (e9 (t:=⟨tneg,tdown,tdigs,tpart,texps,tst,tn⟩) (c:=c) (xs:=rest) (by show eQ tst (bD c)≠9;rw[Hk.out,a0];decide));have Hs:=Qa (show eQ tst (bD c)=4 by rw[Hk.out];exact a0);rw[a0] at ct;clear a0;have b2:=Qa (show(⟨tneg,tdown,tdigs,tpart,texps,tst,tn⟩:NS).next c= ⟨tneg,tdown,tdigs,tpart,texps,4,tn+1⟩ by simp[NS.next,Hs.out]);have Hrd:=Qa (show aD ⟨tneg,tdown,tdigs,tpart,texps,4,tn+1⟩ (xs.drop (tn+1))=aD iE xs by rw[a2.out,<-b2.out,<-b6.out];exact d2.out);have HgF:=Qa (aw (aw Hg.out 5 (.int .i64 4)) 6 (.int .i64 ((tn:Int)+1)));have HzF:=Qa (av _ w.heap.size (w.heap.size+1) 6 (.int .i64 ((tn:Int)+1)) _ _ (by omega) (av wr w.heap.size (w.heap.size+1) 5 (.int .i64 4) _ _ (by omega) HZ.out));have HbF:=Qa ((b0.out.setCell (p:=⟨w.heap.size+1,5,none⟩) (Nat.le_succ _) (.int .i64 4)).setCell (p:=⟨w.heap.size+1,6,none⟩) (Nat.le_succ _) (.int .i64 ((tn:Int)+1)));have a1:br (fun i=>i=w.heap.size+1) wr ((wr.setCell ⟨w.heap.size+1,5,none⟩ (.int .i64 4)).setCell ⟨w.heap.size+1,6,none⟩ (.int .i64 ((tn:Int)+1))):=(br.set (w:=wr) (w.heap.size+1) 5 (.int .i64 4)).trans (br.set (w.heap.size+1) 6 (.int .i64 ((tn:Int)+1))) (fun i h=>.inl h);have HdF:=Qa (Hd.out.stayB a1 (fun b hb=>by have:=(au.blk Hd.out hb).1;omega));have HeF:=Qa (He.out.stayB a1 (fun b hb=>by have:=(au.blk He.out hb).1;omega));clear a1;go_wp2_with fail;go_roundg (gk - 1)
      case measure=>have:=Hn.out;omega
      case rel=>exact⟨⟨tneg,tdown,tdigs,tpart,texps,4,tn+1⟩,by have:=Hn.out;dsimp only;omega,by dsimp only;omega,by simp;omega,by simp;omega,by dsimp only;omega,Hrd.out,⟨_,_,by simpa using HgF.out,HdF.out,HeF.out,Hne.out⟩,HzF.out,HbF.out⟩
     ·
      have a0:eQ tst k=5:=hS;clear hS;have b6:=Qa (e9 (t:=⟨tneg,tdown,tdigs,tpart,texps,tst,tn⟩) (c:=c) (xs:=rest) (by show eQ tst (bD c)≠9;rw[Hk.out,a0];decide));have Hs:=Qa (show eQ tst (bD c)=5 by rw[Hk.out];exact a0);rw[a0] at ct;clear a0;have b2:=Qa (show(⟨tneg,tdown,tdigs,tpart,texps,tst,tn⟩:NS).next c= ⟨tneg,tdown,(tdigs ++ [c]),(tpart+1),texps,5,tn+1⟩ by simp[NS.next,Hs.out]);have Hrd:=Qa (show aD ⟨tneg,tdown,(tdigs ++ [c]),(tpart+1),texps,5,tn+1⟩ (xs.drop (tn+1))=aD iE xs by rw[a2.out,<-b2.out,<-b6.out];exact d2.out);have a7:=aw (aw Hg.out 5 (.int .i64 5)) 3 (.int .i64 ((tpart:Int)+1));have hza:=av _ w.heap.size (w.heap.size+1) 3 (.int .i64 ((tpart:Int)+1)) _ _ (by omega) (av wr w.heap.size (w.heap.size+1) 5 (.int .i64 5) _ _ (by omega) HZ.out);have b4:=(b0.out.setCell (p:=⟨w.heap.size+1,5,none⟩) (Nat.le_succ _) (.int .i64 5)).setCell (p:=⟨w.heap.size+1,3,none⟩) (Nat.le_succ _) (.int .i64 ((tpart:Int)+1));have a5:br (fun i=>i=w.heap.size+1) wr ((wr.setCell ⟨w.heap.size+1,5,none⟩ (.int .i64 5)).setCell ⟨w.heap.size+1,3,none⟩ (.int .i64 ((tpart:Int)+1))):=(br.set (w:=wr) (w.heap.size+1) 5 (.int .i64 5)).trans (br.set (w.heap.size+1) 3 (.int .i64 ((tpart:Int)+1))) (fun i h=>.inl h);have hsa:((wr.setCell ⟨w.heap.size+1,5,none⟩ (.int .i64 5)).setCell ⟨w.heap.size+1,3,none⟩ (.int .i64 ((tpart:Int)+1))).heap.size=wr.heap.size:=by simp
      go_upto_region 17 with fail
      obtain⟨wa,hwa⟩:∃wa,((wr.setCell ⟨w.heap.size+1,5,none⟩ (.int .i64 5)).setCell ⟨w.heap.size+1,3,none⟩ (.int .i64 ((tpart:Int)+1)))=wa:=⟨_,rfl⟩;rw[hwa] at a7 hza b4 a5 hsa ⊢;clear hwa c0 c1 c2 c3 c4 c5 c6 f0 f1 f2 f3 f4 f5 f6;have c9:=Qa a7;have d1:=Qa hza;have b5:=Qa b4;have d5:=Qa hsa;have a6:=Qa (Hd.out.stayB a5 (fun b hb=>by have:=(au.blk Hd.out hb).1;omega));have c7:=Qa (He.out.stayB a5 (fun b hb=>by have:=(au.blk He.out hb).1;omega));have d9:=Qa (lW wa [c] (by simp));have cx:=aa a7 (j:=2) (u:=.slice Ad nd qd) rfl;clear a7 hza b4 a5 hsa;go_wp2_with (at_builtin;refine pW (a6.out.below (ac wa _) (Za _)) d9.out (by simp;omega) (by rw[World.size_alloc];have:=e3.out;have:=d5.out;omega) ?_;intro v' w3 h1 h2 h3;obtain⟨A',q',rfl,-⟩:=ah h1;have HK:=Qa h1;have b1:=Qa h2;have HO:=Qa h3;have a4:=Qa (aF ((Below.heap_alloc wa _ _ (ae c9.out)).trans c9.out) h2 (fun e=>by have:=(au.blk a6.out e).1;omega));have d0:=aa a4.out (j:=2) rfl;have d6:=aa a4.out (j:=6) rfl;have e0:=am a4.out 2;have e6:=am a4.out 6;clear h1 h2 h3);have HgF:=Qa (aw (aw a4.out 2 (.slice A' (tdigs.length+1) q')) 6 (.int .i64 ((tn:Int)+1)));have hle:(tdigs ++ [c]).length=tdigs.length+1:=by simp
      rw[hle] at HK HO;clear hle;have a3:=aF ((Below.heap_alloc wa (.cells (gS [c]).toArray 5) _ (ae d1.out)).trans d1.out) b1.out (fun e=>by have:=(au.blk a6.out e).1;omega);have HzF:=Qa (av _ w.heap.size (w.heap.size+1) 6 (.int .i64 ((tn:Int)+1)) _ _ (by omega) (av _ w.heap.size (w.heap.size+1) 2 (.slice A' (tdigs.length+1) q') _ _ (by omega) a3));have b8:=(b5.out.alloc b5.out.size (.cells (gS [c]).toArray 5)).grown b1.out (by rw[World.size_alloc];have:=b5.out.size;omega) (fun b e=>by have:=(au.blk a6.out e).1;omega);have HbF:=Qa ((b8.setCell (p:=⟨w.heap.size+1,2,none⟩) (Nat.le_succ _) (.slice A' (tdigs.length+1) q')).setCell (p:=⟨w.heap.size+1,6,none⟩) (Nat.le_succ _) (.int .i64 ((tn:Int)+1)));have a1:=(br.set (w:=w3) (w.heap.size+1) 2 (.slice A' (tdigs.length+1) q')).trans (br.set (w.heap.size+1) 6 (.int .i64 ((tn:Int)+1))) (fun i h=>.inl h);have HmF:=Qa (au.stayB HK.out a1 (fun b hb=>by have:=(au.blk HK.out hb).1;omega));have b3:=(c7.out.below (ac wa (.cells (gS [c]).toArray 5)) (Za _)).grown b1.out (fun b hb e=>Hne.out b e hb);have HoF:=Qa (b3.stayB a1 (fun b hb=>by have:=(au.blk b3 hb).1;omega));have HnF:Hid (∀b,(Value.slice A' (tdigs.length+1) q').ownBlock=some b->(Value.slice Ae ne qe).ownBlock≠some b):=Qa (fun b hb e2=>by rcases HO.out with e|e;(· exact Hne.out b (e.symm.trans hb) e2);(· rw[e] at hb;injection hb with hb;have:=(au.blk c7.out e2).2;rw[World.size_alloc] at hb;omega));clear a3 b8 a1 b3;go_roundg (gk - 1)
      case measure=>have:=Hn.out;omega
      case rel=>exact⟨⟨tneg,tdown,(tdigs ++ [c]),(tpart+1),texps,5,tn+1⟩,by have:=Hn.out;dsimp only;omega,by dsimp only;omega,by simp;omega,by simp;omega,by dsimp only;omega,Hrd.out,⟨_,_,by simpa using HgF.out,HmF.out,HoF.out,HnF.out⟩,HzF.out,HbF.out⟩
     ·
      have a0:eQ tst k=6:=hS;clear hS;have b6:=Qa (e9 (t:=⟨tneg,tdown,tdigs,tpart,texps,tst,tn⟩) (c:=c) (xs:=rest) (by show eQ tst (bD c)≠9;rw[Hk.out,a0];decide));have Hs:=Qa (show eQ tst (bD c)=6 by rw[Hk.out];exact a0);rw[a0] at ct;clear a0;have b2:=Qa (show(⟨tneg,tdown,tdigs,tpart,texps,tst,tn⟩:NS).next c= ⟨tneg,tdown,tdigs,tpart,texps,6,tn+1⟩ by simp[NS.next,Hs.out]);have Hrd:=Qa (show aD ⟨tneg,tdown,tdigs,tpart,texps,6,tn+1⟩ (xs.drop (tn+1))=aD iE xs by rw[a2.out,<-b2.out,<-b6.out];exact d2.out);have HgF:=Qa (aw (aw Hg.out 5 (.int .i64 6)) 6 (.int .i64 ((tn:Int)+1)));have HzF:=Qa (av _ w.heap.size (w.heap.size+1) 6 (.int .i64 ((tn:Int)+1)) _ _ (by omega) (av wr w.heap.size (w.heap.size+1) 5 (.int .i64 6) _ _ (by omega) HZ.out));have HbF:=Qa ((b0.out.setCell (p:=⟨w.heap.size+1,5,none⟩) (Nat.le_succ _) (.int .i64 6)).setCell (p:=⟨w.heap.size+1,6,none⟩) (Nat.le_succ _) (.int .i64 ((tn:Int)+1)));have a1:br (fun i=>i=w.heap.size+1) wr ((wr.setCell ⟨w.heap.size+1,5,none⟩ (.int .i64 6)).setCell ⟨w.heap.size+1,6,none⟩ (.int .i64 ((tn:Int)+1))):=(br.set (w:=wr) (w.heap.size+1) 5 (.int .i64 6)).trans (br.set (w.heap.size+1) 6 (.int .i64 ((tn:Int)+1))) (fun i h=>.inl h);have HdF:=Qa (Hd.out.stayB a1 (fun b hb=>by have:=(au.blk Hd.out hb).1;omega));have HeF:=Qa (He.out.stayB a1 (fun b hb=>by have:=(au.blk He.out hb).1;omega));clear a1;go_wp2_with fail;go_roundg (gk - 1)
      case measure=>have:=Hn.out;omega
      case rel=>exact⟨⟨tneg,tdown,tdigs,tpart,texps,6,tn+1⟩,by have:=Hn.out;dsimp only;omega,by dsimp only;omega,by simp;omega,by simp;omega,by dsimp only;omega,Hrd.out,⟨_,_,by simpa using HgF.out,HdF.out,HeF.out,Hne.out⟩,HzF.out,HbF.out⟩
     ·
      have a0:eQ tst k=7:=hS;clear hS;have b6:=Qa (e9 (t:=⟨tneg,tdown,tdigs,tpart,texps,tst,tn⟩) (c:=c) (xs:=rest) (by show eQ tst (bD c)≠9;rw[Hk.out,a0];decide));have Hs:=Qa (show eQ tst (bD c)=7 by rw[Hk.out];exact a0);rw[a0] at ct;clear a0;have b2:=Qa (show(⟨tneg,tdown,tdigs,tpart,texps,tst,tn⟩:NS).next c= ⟨tneg,((c.toNat:Int)==45),tdigs,tpart,texps,7,tn+1⟩ by simp[NS.next,Hs.out,Jj]);have Hrd:=Qa (show aD ⟨tneg,((c.toNat:Int)==45),tdigs,tpart,texps,7,tn+1⟩ (xs.drop (tn+1))=aD iE xs by rw[a2.out,<-b2.out,<-b6.out];exact d2.out);have HgF:=Qa (aw (aw (aw Hg.out 5 (.int .i64 7)) 1 (.bool ((c.toNat:Int)==45))) 6 (.int .i64 ((tn:Int)+1)));have HzF:=Qa (av _ w.heap.size (w.heap.size+1) 6 (.int .i64 ((tn:Int)+1)) _ _ (by omega) (av _ w.heap.size (w.heap.size+1) 1 (.bool ((c.toNat:Int)==45)) _ _ (by omega) (av wr w.heap.size (w.heap.size+1) 5 (.int .i64 7) _ _ (by omega) HZ.out)));have HbF:=Qa (((b0.out.setCell (p:=⟨w.heap.size+1,5,none⟩) (Nat.le_succ _) (.int .i64 7)).setCell (p:=⟨w.heap.size+1,1,none⟩) (Nat.le_succ _) (.bool ((c.toNat:Int)==45))).setCell (p:=⟨w.heap.size+1,6,none⟩) (Nat.le_succ _) (.int .i64 ((tn:Int)+1)));have a1:br (fun i=>i=w.heap.size+1) wr (((wr.setCell ⟨w.heap.size+1,5,none⟩ (.int .i64 7)).setCell ⟨w.heap.size+1,1,none⟩ (.bool ((c.toNat:Int)==45))).setCell ⟨w.heap.size+1,6,none⟩ (.int .i64 ((tn:Int)+1))):=((br.set (w:=wr) (w.heap.size+1) 5 (.int .i64 7)).trans (br.set (w.heap.size+1) 1 (.bool ((c.toNat:Int)==45))) (fun i h=>.inl h)).trans (br.set (w.heap.size+1) 6 (.int .i64 ((tn:Int)+1))) (fun i h=>.inl h);have HdF:=Qa (Hd.out.stayB a1 (fun b hb=>by have:=(au.blk Hd.out hb).1;omega));have HeF:=Qa (He.out.stayB a1 (fun b hb=>by have:=(au.blk He.out hb).1;omega));clear a1;go_wp2_with fail;go_roundg (gk - 1)
      case measure=>have:=Hn.out;omega
      case rel=>exact⟨⟨tneg,((c.toNat:Int)==45),tdigs,tpart,texps,7,tn+1⟩,by have:=Hn.out;dsimp only;omega,by dsimp only;omega,by simp;omega,by simp;omega,by dsimp only;omega,Hrd.out,⟨_,_,by simpa using HgF.out,HdF.out,HeF.out,Hne.out⟩,HzF.out,HbF.out⟩
     ·
      have a0:eQ tst k=8:=hS;clear hS;have b6:=Qa (e9 (t:=⟨tneg,tdown,tdigs,tpart,texps,tst,tn⟩) (c:=c) (xs:=rest) (by show eQ tst (bD c)≠9;rw[Hk.out,a0];decide));have Hs:=Qa (show eQ tst (bD c)=8 by rw[Hk.out];exact a0);rw[a0] at ct;clear a0;have b2:=Qa (show(⟨tneg,tdown,tdigs,tpart,texps,tst,tn⟩:NS).next c= ⟨tneg,tdown,tdigs,tpart,(texps ++ [c]),8,tn+1⟩ by simp[NS.next,Hs.out]);have Hrd:=Qa (show aD ⟨tneg,tdown,tdigs,tpart,(texps ++ [c]),8,tn+1⟩ (xs.drop (tn+1))=aD iE xs by rw[a2.out,<-b2.out,<-b6.out];exact d2.out);have a7:=aw Hg.out 5 (.int .i64 8);have hza:=av wr w.heap.size (w.heap.size+1) 5 (.int .i64 8) _ _ (by omega) HZ.out;have b4:=b0.out.setCell (p:=⟨w.heap.size+1,5,none⟩) (Nat.le_succ _) (.int .i64 8);have a5:br (fun i=>i=w.heap.size+1) wr (wr.setCell ⟨w.heap.size+1,5,none⟩ (.int .i64 8)):=br.set (w:=wr) (w.heap.size+1) 5 (.int .i64 8);have hsa:(wr.setCell ⟨w.heap.size+1,5,none⟩ (.int .i64 8)).heap.size=wr.heap.size:=by simp
      go_upto_region 19 with fail
      obtain⟨wa,hwa⟩:∃wa,(wr.setCell ⟨w.heap.size+1,5,none⟩ (.int .i64 8))=wa:=⟨_,rfl⟩;rw[hwa] at a7 hza b4 a5 hsa ⊢;clear hwa c0 c1 c2 c3 c4 c5 c6 f0 f1 f2 f3 f4 f5 f6;have c9:=Qa a7;have d1:=Qa hza;have b5:=Qa b4;have d5:=Qa hsa;have a6:=Qa (He.out.stayB a5 (fun b hb=>by have:=(au.blk He.out hb).1;omega));have c7:=Qa (Hd.out.stayB a5 (fun b hb=>by have:=(au.blk Hd.out hb).1;omega));have d9:=Qa (lW wa [c] (by simp));have cx:=aa a7 (j:=4) (u:=.slice Ae ne qe) rfl;clear a7 hza b4 a5 hsa;go_wp2_with (at_builtin;refine pW (a6.out.below (ac wa _) (Za _)) d9.out (by simp;omega) (by rw[World.size_alloc];have:=e3.out;have:=d5.out;omega) ?_;intro v' w3 h1 h2 h3;obtain⟨A',q',rfl,-⟩:=ah h1;have HK:=Qa h1;have b1:=Qa h2;have HO:=Qa h3;have a4:=Qa (aF ((Below.heap_alloc wa _ _ (ae c9.out)).trans c9.out) h2 (fun e=>by have:=(au.blk a6.out e).1;omega));have d0:=aa a4.out (j:=4) rfl;have d6:=aa a4.out (j:=6) rfl;have e0:=am a4.out 4;have e6:=am a4.out 6;clear h1 h2 h3);have HgF:=Qa (aw (aw a4.out 4 (.slice A' (texps.length+1) q')) 6 (.int .i64 ((tn:Int)+1)));have hle:(texps ++ [c]).length=texps.length+1:=by simp
      rw[hle] at HK HO;clear hle;have a3:=aF ((Below.heap_alloc wa (.cells (gS [c]).toArray 5) _ (ae d1.out)).trans d1.out) b1.out (fun e=>by have:=(au.blk a6.out e).1;omega);have HzF:=Qa (av _ w.heap.size (w.heap.size+1) 6 (.int .i64 ((tn:Int)+1)) _ _ (by omega) (av _ w.heap.size (w.heap.size+1) 4 (.slice A' (texps.length+1) q') _ _ (by omega) a3));have b8:=(b5.out.alloc b5.out.size (.cells (gS [c]).toArray 5)).grown b1.out (by rw[World.size_alloc];have:=b5.out.size;omega) (fun b e=>by have:=(au.blk a6.out e).1;omega);have HbF:=Qa ((b8.setCell (p:=⟨w.heap.size+1,4,none⟩) (Nat.le_succ _) (.slice A' (texps.length+1) q')).setCell (p:=⟨w.heap.size+1,6,none⟩) (Nat.le_succ _) (.int .i64 ((tn:Int)+1)));have a1:=(br.set (w:=w3) (w.heap.size+1) 4 (.slice A' (texps.length+1) q')).trans (br.set (w.heap.size+1) 6 (.int .i64 ((tn:Int)+1))) (fun i h=>.inl h);have HmF:=Qa (au.stayB HK.out a1 (fun b hb=>by have:=(au.blk HK.out hb).1;omega));have b3:=(c7.out.below (ac wa (.cells (gS [c]).toArray 5)) (Za _)).grown b1.out (fun b hb e=>Hne.out b hb e);have HoF:=Qa (b3.stayB a1 (fun b hb=>by have:=(au.blk b3 hb).1;omega));have HnF:Hid (∀b,(Value.slice Ad nd qd).ownBlock=some b->(Value.slice A' (texps.length+1) q').ownBlock≠some b):=Qa (fun b hb e2=>by rcases HO.out with e|e;(· exact Hne.out b hb (e.symm.trans e2));(· rw[e] at e2;injection e2 with e2;have:=(au.blk c7.out hb).2;rw[World.size_alloc] at e2;omega));clear a3 b8 a1 b3;go_roundg (gk - 1)
      case measure=>have:=Hn.out;omega
      case rel=>exact⟨⟨tneg,tdown,tdigs,tpart,(texps ++ [c]),8,tn+1⟩,by have:=Hn.out;dsimp only;omega,by dsimp only;omega,by simp;omega,by simp;omega,by dsimp only;omega,Hrd.out,⟨_,_,by simpa using HgF.out,HoF.out,HmF.out,HnF.out⟩,HzF.out,HbF.out⟩
  ·have g2:¬ (tn:Int)<xs.length:=by omega
   have b9:=Qa (show aD iE xs= ⟨tneg,tdown,tdigs,tpart,texps,tst,tn⟩ by rw[<-hr,List.drop_of_length_le (by omega)];rfl);clear hg hd he hne hb hr hz hn;have b7:=ai wr w.heap.size #[.bool tneg,.bool tdown,.slice Ad nd qd,.int .i64 tpart,.slice Ae ne qe,.int .i64 tst,.int .i64 tn];have a9:sG (aD iE xs) w (.returned (.agg #[.bool tneg,.bool tdown,.slice Ad nd qd,.int .i64 tpart,.slice Ae ne qe,.int .i64 tst,.int .i64 tn])) (wr.setRow w.heap.size #[.bool tneg,.bool tdown,.slice Ad nd qd,.int .i64 tpart,.slice Ae ne qe,.int .i64 tst,.int .i64 tn]):=by
    rw[b9.out];exact⟨.slice Ad nd qd,.slice Ae ne qe,rfl,b0.out.grown b7 b0.out.size (fun g e=>by cases e;exact Za _),(Hd.out.low (by omega)).grown b7 (fun g e e2=>by injection e2 with e2;have:=(au.blk Hd.out e).1;omega),(He.out.low (by omega)).grown b7 (fun g e e2=>by injection e2 with e2;have:=(au.blk He.out e).1;omega)⟩
   have c8:=Qa a9;clear a9 b7;have h4:=HZ.out;go_wp2_with (refine bM h4 ?_);exact Zg (results_cell_row Tryz.results242 _ _ w.heap.size 374 #[.bool tneg,.bool tdown,.slice Ad nd qd,.int .i64 tpart,.slice Ae ne qe,.int .i64 tst,.int .i64 tn] (0,0) _ (by simp) (setRow_heap _ _ _ _ _ _ HZ.out) Tryz.underlying374 rfl yH) rfl c8.out
open Go.Shelf
def xA:Go.Shelf.Ren:=⟨fun|161=>254|231=>260|227=>261|233=>262|235=>263|228=>270|197=>271|151=>272|260=>281|152=>282|137=>287|119=>288|224=>289|225=>290|217=>293|266=>294|n=>n,fun|9=>9|4=>4|3=>3|5=>5|117=>400|116=>399|0=>0|124=>403|105=>395|21=>21|119=>420|46=>200|139=>423|138=>422|n=>n,fun|3=>23|4=>24|n=>n⟩
theorem Gn:Go.Proofs.Lays.n161 Tryz.prog xA:={
 mixed:=by kernel_rfl
 f119:=Tryz.func288.trans (congrArg some (by kernel_rfl))
 f137:=Tryz.func287.trans (congrArg some (by kernel_rfl))
 f151:=Tryz.func272.trans (congrArg some (by kernel_rfl))
 f152:=Tryz.func282.trans (congrArg some (by kernel_rfl))
 f161:=Tryz.func254.trans (congrArg some (by kernel_rfl))
 f197:=Tryz.func271.trans (congrArg some (by kernel_rfl))
 f217:=Tryz.func293.trans (congrArg some (by kernel_rfl))
 f224:=Tryz.func289.trans (congrArg some (by kernel_rfl))
 f225:=Tryz.func290.trans (congrArg some (by kernel_rfl))
 f227:=Tryz.func261.trans (congrArg some (by kernel_rfl))
 f228:=Tryz.func270.trans (congrArg some (by kernel_rfl))
 f231:=Tryz.func260.trans (congrArg some (by kernel_rfl))
 f233:=Tryz.func262.trans (congrArg some (by kernel_rfl))
 f235:=Tryz.func263.trans (congrArg some (by kernel_rfl))
 f260:=Tryz.func281.trans (congrArg some (by kernel_rfl))
 f266:=Tryz.func294.trans (congrArg some (by kernel_rfl))
 t0:=Tryz.underlying0
 a0:=Tryz.isAgg0
 z0:=Tryz.sizeOf0
 v0:=Tryz.zeroValue0
 t3:=Tryz.underlying3
 a3:=Tryz.isAgg3
 z3:=Tryz.sizeOf3
 v3:=Tryz.zeroValue3
 t4:=Tryz.underlying4
 a4:=Tryz.isAgg4
 z4:=Tryz.sizeOf4
 v4:=Tryz.zeroValue4
 t5:=Tryz.underlying5
 a5:=Tryz.isAgg5
 z5:=Tryz.sizeOf5
 v5:=Tryz.zeroValue5
 t9:=Tryz.underlying9
 a9:=Tryz.isAgg9
 z9:=Tryz.sizeOf9
 v9:=Tryz.zeroValue9
 t21:=Tryz.underlying21
 a21:=Tryz.isAgg21
 z21:=Tryz.sizeOf21
 v21:=Tryz.zeroValue21
 t46:=Tryz.underlying200
 a46:=Tryz.isAgg200
 z46:=Tryz.sizeOf200
 v46:=Tryz.zeroValue200
 t105:=Tryz.underlying395
 a105:=Tryz.isAgg395
 z105:=Tryz.sizeOf395
 v105:=Tryz.zeroValue395
 t116:=Tryz.underlying399
 a116:=Tryz.isAgg399
 z116:=Tryz.sizeOf399
 t117:=Tryz.underlying400
 a117:=Tryz.isAgg400
 z117:=Tryz.sizeOf400
 v117:=Tryz.zeroValue400
 t119:=Tryz.underlying420
 a119:=Tryz.isAgg420
 z119:=Tryz.sizeOf420
 t124:=Tryz.underlying403
 a124:=Tryz.isAgg403
 z124:=Tryz.sizeOf403
 v124:=Tryz.zeroValue403
 t138:=Tryz.underlying422
 a138:=Tryz.isAgg422
 z138:=Tryz.sizeOf422
 v138:=Tryz.zeroValue422
 t139:=Tryz.underlying423
 a139:=Tryz.isAgg423
 z139:=Tryz.sizeOf423
 v139:=Tryz.zeroValue423
 g3:=by kernel_rfl
 g4:=by kernel_rfl
}
def wY:Go.Shelf.Ren:=⟨fun|162=>255|232=>264|227=>261|234=>265|236=>266|228=>270|271=>273|151=>272|120=>283|197=>271|152=>282|260=>281|137=>287|119=>288|224=>289|225=>290|217=>293|266=>294|n=>n,fun|9=>9|4=>4|3=>3|5=>5|117=>400|116=>399|0=>0|124=>403|21=>21|105=>395|46=>200|119=>420|139=>423|138=>422|n=>n,fun|3=>23|4=>24|n=>n⟩
theorem Ia:Go.Proofs.Lays.n162 Tryz.prog wY:={
 mixed:=by kernel_rfl
 f119:=Tryz.func288.trans (congrArg some (by kernel_rfl))
 f120:=Tryz.func283.trans (congrArg some (by kernel_rfl))
 f137:=Tryz.func287.trans (congrArg some (by kernel_rfl))
 f151:=Tryz.func272.trans (congrArg some (by kernel_rfl))
 f152:=Tryz.func282.trans (congrArg some (by kernel_rfl))
 f162:=Tryz.func255.trans (congrArg some (by kernel_rfl))
 f197:=Tryz.func271.trans (congrArg some (by kernel_rfl))
 f217:=Tryz.func293.trans (congrArg some (by kernel_rfl))
 f224:=Tryz.func289.trans (congrArg some (by kernel_rfl))
 f225:=Tryz.func290.trans (congrArg some (by kernel_rfl))
 f227:=Tryz.func261.trans (congrArg some (by kernel_rfl))
 f228:=Tryz.func270.trans (congrArg some (by kernel_rfl))
 f232:=Tryz.func264.trans (congrArg some (by kernel_rfl))
 f234:=Tryz.func265.trans (congrArg some (by kernel_rfl))
 f236:=Tryz.func266.trans (congrArg some (by kernel_rfl))
 f260:=Tryz.func281.trans (congrArg some (by kernel_rfl))
 f266:=Tryz.func294.trans (congrArg some (by kernel_rfl))
 f271:=Tryz.func273.trans (congrArg some (by kernel_rfl))
 t0:=Tryz.underlying0
 a0:=Tryz.isAgg0
 z0:=Tryz.sizeOf0
 v0:=Tryz.zeroValue0
 t3:=Tryz.underlying3
 a3:=Tryz.isAgg3
 z3:=Tryz.sizeOf3
 v3:=Tryz.zeroValue3
 t4:=Tryz.underlying4
 a4:=Tryz.isAgg4
 z4:=Tryz.sizeOf4
 v4:=Tryz.zeroValue4
 t5:=Tryz.underlying5
 a5:=Tryz.isAgg5
 z5:=Tryz.sizeOf5
 v5:=Tryz.zeroValue5
 t9:=Tryz.underlying9
 a9:=Tryz.isAgg9
 z9:=Tryz.sizeOf9
 v9:=Tryz.zeroValue9
 t21:=Tryz.underlying21
 a21:=Tryz.isAgg21
 z21:=Tryz.sizeOf21
 v21:=Tryz.zeroValue21
 t46:=Tryz.underlying200
 a46:=Tryz.isAgg200
 z46:=Tryz.sizeOf200
 v46:=Tryz.zeroValue200
 t105:=Tryz.underlying395
 a105:=Tryz.isAgg395
 z105:=Tryz.sizeOf395
 v105:=Tryz.zeroValue395
 t116:=Tryz.underlying399
 a116:=Tryz.isAgg399
 z116:=Tryz.sizeOf399
 t117:=Tryz.underlying400
 a117:=Tryz.isAgg400
 z117:=Tryz.sizeOf400
 v117:=Tryz.zeroValue400
 t119:=Tryz.underlying420
 a119:=Tryz.isAgg420
 z119:=Tryz.sizeOf420
 t124:=Tryz.underlying403
 a124:=Tryz.isAgg403
 z124:=Tryz.sizeOf403
 v124:=Tryz.zeroValue403
 t138:=Tryz.underlying422
 a138:=Tryz.isAgg422
 z138:=Tryz.sizeOf422
 v138:=Tryz.zeroValue422
 t139:=Tryz.underlying423
 a139:=Tryz.isAgg423
 z139:=Tryz.sizeOf423
 v139:=Tryz.zeroValue423
 g3:=by kernel_rfl
 g4:=by kernel_rfl
}
def ss:Go.Shelf.Ren:=⟨fun|172=>256|244=>267|245=>268|247=>274|279=>275|280=>276|281=>277|282=>278|287=>284|316=>285|171=>111|205=>286|321=>291|322=>292|243=>141|246=>182|283=>215|284=>216|285=>217|286=>218|129=>164|317=>233|318=>234|319=>235|320=>236|337=>246|338=>247|n=>n,fun|9=>9|3=>3|75=>49|76=>198|4=>4|5=>5|167=>407|37=>22|0=>0|85=>408|2=>2|168=>410|53=>277|175=>415|46=>200|210=>419|127=>426|145=>429|143=>427|21=>21|171=>340|173=>342|212=>367|51=>275|20=>20|213=>368|232=>392|233=>393|80=>159|n=>n,fun|15=>21|16=>22|17=>11|18=>16|19=>17|n=>n⟩
theorem De:Go.Proofs.Lays.n172 Tryz.prog ss:={
 mixed:=by kernel_rfl
 f129:=Tryz.func164.trans (congrArg some (by kernel_rfl))
 f171:=Tryz.func111.trans (congrArg some (by kernel_rfl))
 f172:=Tryz.func256.trans (congrArg some (by kernel_rfl))
 f205:=Tryz.func286.trans (congrArg some (by kernel_rfl))
 f243:=Tryz.func141.trans (congrArg some (by kernel_rfl))
 f244:=Tryz.func267.trans (congrArg some (by kernel_rfl))
 f245:=Tryz.func268.trans (congrArg some (by kernel_rfl))
 f246:=Tryz.func182.trans (congrArg some (by kernel_rfl))
 f247:=Tryz.func274.trans (congrArg some (by kernel_rfl))
 f279:=Tryz.func275.trans (congrArg some (by kernel_rfl))
 f280:=Tryz.func276.trans (congrArg some (by kernel_rfl))
 f281:=Tryz.func277.trans (congrArg some (by kernel_rfl))
 f282:=Tryz.func278.trans (congrArg some (by kernel_rfl))
 f283:=Tryz.func215.trans (congrArg some (by kernel_rfl))
 f284:=Tryz.func216.trans (congrArg some (by kernel_rfl))
 f285:=Tryz.func217.trans (congrArg some (by kernel_rfl))
 f286:=Tryz.func218.trans (congrArg some (by kernel_rfl))
 f287:=Tryz.func284.trans (congrArg some (by kernel_rfl))
 f316:=Tryz.func285.trans (congrArg some (by kernel_rfl))
 f317:=Tryz.func233.trans (congrArg some (by kernel_rfl))
 f318:=Tryz.func234.trans (congrArg some (by kernel_rfl))
 f319:=Tryz.func235.trans (congrArg some (by kernel_rfl))
 f320:=Tryz.func236.trans (congrArg some (by kernel_rfl))
 f321:=Tryz.func291.trans (congrArg some (by kernel_rfl))
 f322:=Tryz.func292.trans (congrArg some (by kernel_rfl))
 f337:=Tryz.func246.trans (congrArg some (by kernel_rfl))
 f338:=Tryz.func247.trans (congrArg some (by kernel_rfl))
 t0:=Tryz.underlying0
 a0:=Tryz.isAgg0
 z0:=Tryz.sizeOf0
 v0:=Tryz.zeroValue0
 t2:=Tryz.underlying2
 a2:=Tryz.isAgg2
 z2:=Tryz.sizeOf2
 v2:=Tryz.zeroValue2
 t3:=Tryz.underlying3
 a3:=Tryz.isAgg3
 z3:=Tryz.sizeOf3
 v3:=Tryz.zeroValue3
 t4:=Tryz.underlying4
 a4:=Tryz.isAgg4
 z4:=Tryz.sizeOf4
 v4:=Tryz.zeroValue4
 t5:=Tryz.underlying5
 a5:=Tryz.isAgg5
 z5:=Tryz.sizeOf5
 v5:=Tryz.zeroValue5
 t9:=Tryz.underlying9
 a9:=Tryz.isAgg9
 z9:=Tryz.sizeOf9
 v9:=Tryz.zeroValue9
 t20:=Tryz.underlying20
 a20:=Tryz.isAgg20
 z20:=Tryz.sizeOf20
 v20:=Tryz.zeroValue20
 t21:=Tryz.underlying21
 a21:=Tryz.isAgg21
 z21:=Tryz.sizeOf21
 v21:=Tryz.zeroValue21
 t37:=Tryz.underlying22
 a37:=Tryz.isAgg22
 z37:=Tryz.sizeOf22
 v37:=Tryz.zeroValue22
 t46:=Tryz.underlying200
 a46:=Tryz.isAgg200
 z46:=Tryz.sizeOf200
 v46:=Tryz.zeroValue200
 t51:=Tryz.underlying275
 a51:=Tryz.isAgg275
 z51:=Tryz.sizeOf275
 v51:=Tryz.zeroValue275
 t53:=Tryz.underlying277
 a53:=Tryz.isAgg277
 z53:=Tryz.sizeOf277
 v53:=Tryz.zeroValue277
 t75:=Tryz.underlying49
 a75:=Tryz.isAgg49
 z75:=Tryz.sizeOf49
 v75:=Tryz.zeroValue49
 t76:=Tryz.underlying198
 a76:=Tryz.isAgg198
 z76:=Tryz.sizeOf198
 v76:=Tryz.zeroValue198
 t85:=Tryz.underlying408
 a85:=Tryz.isAgg408
 z85:=Tryz.sizeOf408
 v85:=Tryz.zeroValue408
 t127:=Tryz.underlying426
 a127:=Tryz.isAgg426
 z127:=Tryz.sizeOf426
 v127:=Tryz.zeroValue426
 t143:=Tryz.underlying427
 a143:=Tryz.isAgg427
 z143:=Tryz.sizeOf427
 v143:=Tryz.zeroValue427
 t145:=Tryz.underlying429
 a145:=Tryz.isAgg429
 z145:=Tryz.sizeOf429
 v145:=Tryz.zeroValue429
 t167:=Tryz.underlying407
 a167:=Tryz.isAgg407
 z167:=Tryz.sizeOf407
 v167:=Tryz.zeroValue407
 t168:=Tryz.underlying410
 a168:=Tryz.isAgg410
 z168:=Tryz.sizeOf410
 v168:=Tryz.zeroValue410
 t171:=Tryz.underlying340
 a171:=Tryz.isAgg340
 z171:=Tryz.sizeOf340
 v171:=Tryz.zeroValue340
 t173:=Tryz.underlying342
 a173:=Tryz.isAgg342
 z173:=Tryz.sizeOf342
 v173:=Tryz.zeroValue342
 t175:=Tryz.underlying415
 a175:=Tryz.isAgg415
 z175:=Tryz.sizeOf415
 v175:=Tryz.zeroValue415
 t210:=Tryz.underlying419
 a210:=Tryz.isAgg419
 z210:=Tryz.sizeOf419
 v210:=Tryz.zeroValue419
 t212:=Tryz.underlying367
 a212:=Tryz.isAgg367
 z212:=Tryz.sizeOf367
 v212:=Tryz.zeroValue367
 t213:=Tryz.underlying368
 a213:=Tryz.isAgg368
 z213:=Tryz.sizeOf368
 t232:=Tryz.underlying392
 a232:=Tryz.isAgg392
 z232:=Tryz.sizeOf392
 v232:=Tryz.zeroValue392
 t233:=Tryz.underlying393
 a233:=Tryz.isAgg393
 z233:=Tryz.sizeOf393
 v233:=Tryz.zeroValue393
 g15:=by kernel_rfl
 g16:=by kernel_rfl
 g17:=by kernel_rfl
 g18:=by kernel_rfl
 g19:=by kernel_rfl
}
theorem kJ (s:ByteArray)(w:World):Calls Tryz.prog 254 #[.string s,.string ⟨#[48]⟩] w fun e w'=>e =.returned (.string ⟨(dT s.data.toList).toArray⟩)/\w=w':=
 (Any.strings_TrimLeft_one Gn s 48 (by decide) w).mono fun _ _ ⟨h1,h2⟩=>⟨h1,h2.symm⟩
theorem pl (s:ByteArray)(hs:s.size<=9223372036854775807)(w:World):Calls Tryz.prog 255 #[.string s,.string ⟨#[48]⟩] w fun e w'=>e =.returned (.string ⟨(oS s.data.toList).toArray⟩)/\w=w':=
 (Any.strings_TrimRight_one Ia s 48 (by decide) w hs).mono fun _ _ ⟨h1,h2⟩=>⟨h1,h2.symm⟩
theorem uu:∀ (l:List UInt8) (a:Nat),(∀c∈l,eI c=true)->Lib.decFrom a l=some (l.foldl (fun a c=>a*10+ (c.toNat - 48)) a)
 | [],a,_=>rfl
 |c::l,a,h=>by
  have hd:=h c (by simp);have hv:Lib.digitVal c=some (c.toNat - 48):=by
   have:=uK (p:=fun c=> !eI c||(Lib.digitVal c==some (c.toNat - 48))) (by decide +kernel) c;simpa [hd] using this
  show(match Lib.digitVal c with|some d=>Lib.decFrom (a*10+d) l|none=>none)=_
  rw[hv];exact uu l _ (fun c hc=>h c (Zl _ hc))
theorem BX (h:∀c∈l,eI c=true)(hl:l.length<=12)(w:World):Calls Tryz.prog 256 #[.string ⟨(48::l).toArray⟩] w fun e w'=>e =.returned (.tuple #[.int .i64 (jT l:Nat),.nilIface])/\Below w.heap.size w w':=by
 have ha:Lib.atoi (⟨(48::l).toArray⟩:ByteArray).data.toList=some ((jT l:Nat):Int):=by
  show(Lib.decNat (48::l)).map _=_
  have:Lib.decNat (48::l)=some (jT l):=by
   show Lib.decFrom 0 (48::l)=_
   rw[uu (48::l) 0 (by intro c hc;rcases List.mem_cons.1 hc with rfl|hc;decide;exact h c hc)];rfl
  rw[this];rfl
 refine(Any.strconv_Atoi De ⟨(48::l).toArray⟩ _ (by show(48::l).length<=18;simp;omega) ha w).mono ?_;rintro e w' ⟨rfl,t,rfl⟩;exact⟨rfl,⟨rfl,rfl,rfl,by rw[Lib.bytesWorld_size];omega,fun k hk=>Lib.bytesWorld_at_old _ _ _ _ hk⟩⟩
theorem kl (h:∀c∈l,eI c=true):∀c∈dT l,eI c=true:=fun c hc=>h c ((List.dropWhile_sublist _).mem hc)
theorem vZ:∀ (l:List UInt8),(∀c∈l,eI c=true)->jT l.reverse<10 ^ l.length
 | [],_=>by decide
 |c::l,h=>by
  have h1:=vZ l (fun c hc=>h c (Zl _ hc));have h2:=h c (by simp);unfold eI at h2;simp at h2;rw[List.reverse_cons,p6,List.length_cons,Nat.pow_succ];omega
theorem zm (l:List UInt8)(h:∀c∈l,eI c=true):jT l<10 ^ l.length:=by
 have:=vZ l.reverse (fun c hc=>h c (List.mem_reverse.1 hc))
 rwa[List.reverse_reverse,List.length_reverse] at this
theorem IN (l:List UInt8):(⟨#[48]⟩:ByteArray)++ ⟨l.toArray⟩= ⟨(48::l).toArray⟩:=by
 apply ByteArray.ext
 simp
theorem EJ {t:NS}(hd:∀c∈t.exps,eI c=true): -1099511627776<=f7 t/\f7 t<=1099511627776:=by
 have h1:=zm _ (kl hd);unfold f7
 by_cases h:(dT t.exps).length<=12
 ·have h2:10 ^ (dT t.exps).length<=10 ^ 12:=Nat.pow_le_pow_right (by decide) h;simp only[if_pos h]
  split <;> omega
 ·simp only[if_neg h]
  split <;> omega
theorem qk (t:NS)(vd ve:Value)(a5:Bs w ve t.exps)(hd:∀c∈t.exps,eI c=true)(hl:t.exps.length<=1000000000):Calls Tryz.prog 245 #[.agg #[.bool t.neg,.bool t.down,vd,.int .i64 t.part,ve,.int .i64 t.st,.int .i64 t.n]] w fun e w'=>e =.returned (.int .i64 (f7 t))/\Below w.heap.size w w':=by
 obtain⟨neg,down,digs,part,exps,st,n⟩:=t
 dsimp only at *
 have hv:=zm _ (kl hd);have b0:=Qa (fun hl w=>BX (l:=dT exps) (kl hd) hl w);have hle:(dT exps).length<=exps.length:=(List.dropWhile_sublist _).length_le;have hb:=ac w (.cells #[.bool neg,.bool down,vd,.int .i64 part,ve,.int .i64 st,.int .i64 n] 374);have hc:=aW (a5.below hb);have Hb:=Qa hb;have a6:f7 ⟨neg,down,digs,part,exps,st,n⟩= (if down then -(if(dT exps).length<=12 then((jT (dT exps):Nat):Int) else 1099511627776) else(if(dT exps).length<=12 then((jT (dT exps):Nat):Int) else 1099511627776)):=rfl;rw[a6];clear hb a5 hd a6;have e1:(⟨exps.toArray⟩:ByteArray).data.toList=exps:=rfl;have a7:=Qa (fun w=>kJ ⟨exps.toArray⟩ w);rw[e1] at a7;clear e1;generalize dT exps=l at *;have hsz:(⟨l.toArray⟩:ByteArray).size=l.length:=rfl;have a2:=IN l;obtain⟨s,hs⟩:∃s:ByteArray,⟨l.toArray⟩=s:=⟨_,rfl⟩;rw[hs] at hsz a2;have Hs:=Qa hs;have a9:=Qa a2;clear a2;obtain⟨z,hz⟩:∃z:Int,(if l.length<=12 then((jT l:Nat):Int) else 1099511627776)=z:=⟨_,rfl⟩;rw[hz];go_enter Tryz.func245,Tryz.ntmps245;go_wp2_with fail;refine(a7.out _).mono ?_;rintro e w1 ⟨rfl,rfl⟩;rw[Hs.out];clear hs hc
 by_cases h12:l.length<=12
 ·have a0:(s.size:Int)<=12:=by omega
  have b1:jT l<1000000000000:=Nat.lt_of_lt_of_le hv (Nat.pow_le_pow_right (by decide) h12);rw[if_pos h12] at hz;subst hz;go_wp2_with fail;rw[a9.out];refine(b0.out h12 _).mono ?_;rintro e w2 ⟨rfl,a1⟩;have a3:=bE Hb.out a1;have a4:=Qa a3;have c1:w2.cell? ⟨w.heap.size,1,none⟩=some (.bool down):=Zf a1 (aa (Ze w (.cells #[.bool neg,.bool down,vd,.int .i64 part,ve,.int .i64 st,.int .i64 n] 374)) (j:=1) rfl);clear a1 a3
  cases down with
  |true=>
   go_wp2_with fail;go_ret;exact⟨rfl,a4.out⟩
  |false=>
   go_wp2_with fail;go_ret;exact⟨rfl,a4.out⟩
 ·have a0:¬ (s.size:Int)<=12:=by omega
  rw[if_neg h12] at hz;subst hz
  cases down with
  |true=>
   go_wp2_with fail;go_ret;exact⟨rfl,Hb.out⟩
  |false=>
   go_wp2_with fail;go_ret;exact⟨rfl,Hb.out⟩
def Jq:Option Dc->Value->Prop
 |some d,v=>v =.tuple #[.agg #[.bool d.neg,.string d.digits,.int .i64 d.exp],.bool true]
 |none,v=> ∃a b c,v =.tuple #[.agg #[.bool a,.string b,.int .i64 c],.bool false]
theorem Cw:(Tryz.prog.info? 124).map (·.size)=some 3:=by kernel_rfl
theorem iI {fn:Func}{p q:Tmp}(h:fn.results = #[.cell p 124,.tmp q])(tmps:Array Value)(w:World)(g:Nat)(t:TypeId)(d0 d1 d2:Value)(fr:Nat×Nat)
  (hp:tmps.getD p undef =.pointer (some ⟨g,0,none⟩)) (hg:w.heap[g]?=some (.cells #[d0,d1,d2] t fr)):(results fn tmps).run Tryz.prog w =.ok (.tuple #[.agg #[d0,d1,d2],tmps.getD q undef]) w:=by
 have a0:tmps[p]?.getD undef =.pointer (some ⟨g,0,none⟩):=by simpa using hp
 have hl:=run_loadVar_row (P:=Tryz.prog) w g t 124 #[d0,d1,d2] fr _ hg Tryz.underlying124 rfl Cw;simp[results,h,a0,asAddr,hl]
theorem jk {fn:Func}{p q r:Tmp}(h:fn.results = #[.cell p 124,.tmp q,.tmp r])(tmps:Array Value)(w:World)(g:Nat)(t:TypeId)(d0 d1 d2:Value)(fr:Nat×Nat)
  (hp:tmps.getD p undef =.pointer (some ⟨g,0,none⟩)) (hg:w.heap[g]?=some (.cells #[d0,d1,d2] t fr)):(results fn tmps).run Tryz.prog w =.ok (.tuple #[.agg #[d0,d1,d2],tmps.getD q undef,tmps.getD r undef]) w:=by
 have a0:tmps[p]?.getD undef =.pointer (some ⟨g,0,none⟩):=by simpa using hp
 have hl:=run_loadVar_row (P:=Tryz.prog) w g t 124 #[d0,d1,d2] fr _ hg Tryz.underlying124 rfl Cw;simp[results,h,a0,asAddr,hl]
def zI (neg:Bool)(l:List UInt8)(x m:Int)(w:World)(e:Ending)(w':World):Prop:= ∃v,e =.returned v/\Jq (iT neg l x m) v/\Below w.heap.size w w'
theorem jx (neg:Bool)(l:List UInt8)(x m:Int)(hl:l.length<=1000000000)(hx: -9223372036854775808<=x/\x<=9223372036854775807)(hm: -1000000000<=m/\m<=1000000000)(w:World):Calls Tryz.prog 244 #[.bool neg,.string ⟨l.toArray⟩,.int .i64 x,.int .i64 m] w (zI neg l x m w):=by
 have hle:(dT l).length<=l.length:=(List.dropWhile_sublist _).length_le;have a0:=Qa (fun w=>kJ ⟨l.toArray⟩ w);have e1:(⟨l.toArray⟩:ByteArray).data.toList=l:=rfl;rw[e1] at a0;unfold zI iT
 dsimp only
 clear e1;generalize hd:dT l=d at *;have hb:=ac w (.cells #[.bool false,.string es,.int .i64 0] 124);have h0:=Ze w (.cells #[.bool false,.string es,.int .i64 0] 124);have Hb:=Qa hb;have H0:=Qa h0;clear hb h0 hd
 by_cases hde:d = []
 ·subst hde;rw[if_pos rfl];go_enter Tryz.func244,Tryz.ntmps244;go_wp2_with fail;refine(a0.out _).mono ?_;rintro e w1 ⟨rfl,rfl⟩;have h4:=H0.out;go_wp2_with (refine bM h4 ?_);exact Zg (iI Tryz.results244 _ _ w.heap.size 124 _ _ _ (0,0) (by simp) (setRow_heap _ _ _ _ _ _ H0.out)) rfl ⟨_,rfl,rfl,Hb.out.grown (ai ..) Hb.out.size (fun g e=>by cases e;exact Za _)⟩
 ·rw[if_neg hde];have hs:∃s:ByteArray,⟨d.toArray⟩=s/\s.toList.isEmpty=false/\s.size=d.length:=⟨_,rfl,by rw[ByteArray.toList_eq];simpa using hde,rfl⟩;obtain⟨s,a2,b3,a4⟩:=hs;have a1:=Qa (fun w=>pl s (by omega) w);have e2:s.data.toList=d:=by rw[<-a2]
  rw[e2] at a1;have a9:(oS d).length<=d.length:=by
   unfold oS;have:=(List.dropWhile_sublist (l:=d.reverse) (p:=(· == 48))).length_le;simp only[dT,List.length_reverse] at this ⊢;exact this
  generalize oS d=r at *;have hr:∃q:ByteArray,⟨r.toArray⟩=q/\q.size=r.length:=⟨_,rfl,rfl⟩;obtain⟨q,a6,a7⟩:=hr;rw[a2] at a0;rw[a6] at a1 ⊢;clear a2 a6 e2;rw[<-a4,<-a7];have b0:q.size<=s.size:=by omega
  have b4:s.size<=1000000000:=by omega
  clear a4 a7 a9 hle;generalize hy:oG x=y at *;have b1: -2199023255552<=y/\y<=2199023255552:=by unfold oG at hy;omega
  have b2:max (-2199023255552) (min x 2199023255552)=y:=hy;clear hy;go_enter Tryz.func244,Tryz.ntmps244;go_wp2_with fail;refine(a0.out _).mono ?_;rintro e w1 ⟨rfl,rfl⟩;go_wp2_with fail;refine(a1.out _).mono ?_;rintro e w1 ⟨rfl,rfl⟩;have h4:=H0.out;have s1:IntKind.i64.wrap ((s.size:Int) - q.size)= (s.size:Int) - q.size:=IntWalk.i64_in _ (by omega);have s2:IntKind.i64.wrap (y+m+ ((s.size:Int) - q.size))=y+m+ ((s.size:Int) - q.size):=IntWalk.i64_in _ (by omega)
  by_cases a5: -1000000000<=y+m+ ((s.size:Int) - q.size)
  ·by_cases a3:y+m+ ((s.size:Int) - q.size)<=1000000000
   ·have Hz:=Qa (And.intro a5 a3);go_wp2_with (refine bM h4 ?_);exact Zg (iI Tryz.results244 _ _ w.heap.size 124 _ _ _ (0,0) (by simp) (setRow_heap _ _ _ _ _ _ H0.out)) rfl ⟨_,rfl,by first|rfl|(rw[if_pos Hz.out];rfl),Hb.out.grown (ai ..) Hb.out.size (fun g e=>by cases e;exact Za _)⟩
   ·have Hz:=Qa (show ¬ (-1000000000<=y+m+ ((s.size:Int) - q.size)/\y+m+ ((s.size:Int) - q.size)<=1000000000) from fun h=>a3 h.2);go_wp2_with (refine bM h4 ?_);exact Zg (iI Tryz.results244 _ _ w.heap.size 124 _ _ _ (0,0) (by simp) (setRow_heap _ _ _ _ _ _ H0.out)) rfl ⟨_,rfl,by first|exact⟨_,_,_,rfl⟩|(rw[if_neg Hz.out];exact⟨_,_,_,rfl⟩),Hb.out.grown (ai ..) Hb.out.size (fun g e=>by cases e;exact Za _)⟩
  ·have Hz:=Qa (show ¬ (-1000000000<=y+m+ ((s.size:Int) - q.size)/\y+m+ ((s.size:Int) - q.size)<=1000000000) from fun h=>a5 h.1);go_wp2_with (refine bM h4 ?_);exact Zg (iI Tryz.results244 _ _ w.heap.size 124 _ _ _ (0,0) (by simp) (setRow_heap _ _ _ _ _ _ H0.out)) rfl ⟨_,rfl,by first|exact⟨_,_,_,rfl⟩|(rw[if_neg Hz.out];exact⟨_,_,_,rfl⟩),Hb.out.grown (ai ..) Hb.out.size (fun g e=>by cases e;exact Za _)⟩
