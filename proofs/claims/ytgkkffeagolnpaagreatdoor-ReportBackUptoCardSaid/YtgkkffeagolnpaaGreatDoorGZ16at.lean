import Derived.Test.YtgkkffeagolnpaaGreatDoorGZ16as
set_option linter.unusedVariables false
set_option linter.unusedSimpArgs false
set_option maxHeartbeats 64000000
set_option maxRecDepth 100000
namespace Go.Proofs.YtgkkffeagolnpaaGreatDoor
open Go.RowKit Go.Shelf
variable {aE aU:Addr}{cs:Array Value}{j:JV}{ns y:List ByteArray}{ks:List JV}{us:List Value}{L o:Nat}{P:Nat->Prop}{A:Option Addr}{t0 t1:TypeId}{v x0 x1:Value}{w w2:World}
attribute [local go_sem] Oper.semAt_some
def sg (ns:List ByteArray)(us:List Value):List (ByteArray×Value):=ns.zip us
theorem wD (h:ns.length=us.length):(sg ns us).length=us.length:=by simp[sg,h]
theorem Be (h:ns.length=us.length)(i:Fin (sg ns us).length):∃u s,us[i.val]?=some u/\ns[i.val]?=some s/\(sg ns us).get i= (s,u):=by
 have hi:i.val<us.length:=by have h1:=i.isLt;have h2:=wD h;omega
 have hj:i.val<ns.length:=by omega
 exact⟨us[i.val],ns[i.val],Zd hi,Zd hj,by
  show(sg ns us)[i.val]'i.isLt=_
  simp only[sg,List.getElem_zip]⟩
theorem zg (h:eJ P w A us ns ks)
  (H:∀ (i:Nat) v k,us[i]?=some v->ks[i]?=some k->∀w1,Below w.heap.size w w1->Calls Tryz.prog 97 #[v] w1 fun e w'=>e =.returned (.bool false)/\Below w1.heap.size w1 w') :
  CallsIn Fence.wide 9 Tryz.prog 97 #[.iface 95 (.pointer A)] w fun e w'=>e =.returned (.bool false)/\Below w.heap.size w w':=by
 have k1:=un;have Hh:=Qa h;have b8:=Qa (show ns.length=us.length by rw[h.names,h.len]);have HH:=Qa H;clear h H;refine callsIn_of_wp_marks Tryz.func97 rfl trivial ?_ rfl;simp only[Tryz.ntmps97,List.size_toArray,List.length_cons,List.length_nil,Nat.reduceAdd,Nat.reduceSub,Array.replicate_succ,Array.replicate_zero,List.push_toArray,List.append_toArray,List.nil_append,List.cons_append];have Hk:=Qa (Bx.new w 4 (.bool false));have a1:=Qa (show Below w.heap.size w (w.alloc (.cells #[.bool false] 4)) from(Ze _ _).alloc (Zb _) _)
 gi_wp2_with fail
 obtain⟨W0,c1⟩:∃W0,w.alloc (.cells #[.bool false] 4)=W0:=⟨_,rfl⟩;have a0:W0.heap.size=w.heap.size+1:=by rw[<-c1];simp
 rw[c1] at Hk a1 ⊢;have b0:=Qa a0;clear c1 a0;refine⟨fun _ _=>trivial,?_⟩;go_invoke
 gi_wp2_with fail
 refine(callsIn_wide.2 su).mono ?_;rintro e w1 ⟨rfl,c5⟩;have a9:=Qa c5;clear c5
 gi_wp2_with fail
 refine⟨trivial,?_⟩;refine(callsIn_wide.2 ij).mono ?_;rintro e w2 ⟨rfl,rfl⟩;have a2:W0.heap.size<=w1.heap.size:=a9.out.size;have b2:=aa w1 (.cells #[.iface 95 (.pointer A)] 168);have c2:=Zf w1 (.cells #[.iface 95 (.pointer A)] 168);obtain⟨W1,b4⟩:∃W1,w1.alloc (.cells #[.iface 95 (.pointer A)] 168)=W1:=⟨_,rfl⟩;have a4:W1.heap.size=w1.heap.size+1:=by rw[<-b4];simp
 rw[b4] at b2 c2 ⊢;clear b4;have c6:FF w (sg ns us).length [] W1:=⟨(Hk.out.later a9.out).later b2,a1.out.trans ((a9.out.mono a1.out.size).trans (b2.mono (Zc a1.out.size a9.out.size)))⟩;have d0:=Qa c6;have c0:=Qa a4;have d2:=Qa c2;have a3:=Qa a2;clear b2 c2 c6 a4 a2 Hk a1 a9
 gi_wp2
 have b3:∀X,eW w.heap.size (w.heap.size+1) W1 X->Ig w X:=fun X hX g cs t z hg=>hX g cs t z (.inl (ak hg)) ((d0.out.2.block g (ak hg)).trans hg)
 have c9:=Qa b3;have c3:=Qa (wD b8.out);have d5:=Qa Hh.out.bd;have a5:SeqStopsK Fence.wide (9 - 1) Tryz.prog 90 #[.pointer (some ⟨w1.heap.size,0,none⟩)] (fun x:Fin (sg ns us).length=> #[.string ((sg ns us).get x).1,((sg ns us).get x).2]) (eW w.heap.size (w.heap.size+1)) (fun _=>True) (fun _=>True) (sg ns us).length W1:=by
  intro l J Jx W hW hJ d1 hY h0;refine BK (9 - 1) (by omega) l w1.heap.size A (sg ns us) (by rw[c3.out];exact d5.out) w.heap.size (w.heap.size+1) (eW w.heap.size (w.heap.size+1) W1) (fun X Y h1 h2=>h1.t h2) (fun X hX=>?_) (fun X hX=>?_) (fun X k hX=>?_) J Jx W (eW.of_below hW) hJ d1 hY h0
  ·exact ac (hX _ _ _ _ (.inr (by have:=a3.out;have:=b0.out;omega)) d2.out) (j:=0) rfl
  ·rw[c3.out];exact eF (Hh.out.kp (c9.out X hX))
  ·obtain⟨u,s,hu,hs,he⟩:=Be b8.out k;rw[he];exact oU (Hh.out.kp (c9.out X hX)) k.val hu hs
 have b9:=Qa a5;clear b3 a5;have d6:w.heap.size+2<=W1.heap.size:=by have:=c0.out;have:=a3.out;have:=b0.out;omega
 refine wpIn_rangeFunc_ownF rfl (by omega) (gf:=90) (lb:= #[.pointer (some ⟨w1.heap.size,0,none⟩)]) (by simp[Act.eval]) trivial (enters_of Tryz.func90 (by kernel_rfl) rfl)
  b9.out
  (fun h k=>h.t k) (fun W l o o' _ h ho _=>eW.b W l o o' h ho) (Ze _ _) (fun _=>rfl)
  (FF w (sg ns us).length) (fun _ _ _=>False) ?hI ?hIx d0.out
  (fun x=>{tmps:= #[.iface 95 (.pointer A),undef,.pointer (some ⟨w.heap.size,0,none⟩),.iface 95 (.pointer A),.bool true,undef,((sg ns us).get x).2,.iface 95 (.pointer A),.int .i64 6,.bool false,.tuple #[.iface 95 (.pointer A),.bool true],.iface 95 (.pointer A),.tuple #[.iface 95 (.pointer A),.bool true],.iface 95 (.pointer A),.bool true,.bool true,.iface 95 (.pointer A),.func (.func 90) #[] #[.pointer (some ⟨w1.heap.size,0,none⟩)],.string ((sg ns us).get x).1,((sg ns us).get x).2,undef,undef],defers:= []}) ?assign ?body ?done ?stop
 case hI=>
  intro s A B row hs hg hr;exact⟨hs.1.kept hg (fun r e=>(hr r e).2),hs.2.grown hg hs.2.size (fun k e=>by have:=(hr k e).1;omega)⟩
 case hIx=>exact fun _ _ _ _ _ hs _ _=>hs
 case assign=>
  intro l x W K hK;generalize (sg ns us).get x=y at hK ⊢;obtain⟨y1,y2⟩:=y
  dsimp only at hK ⊢
  gi_wp2
  exact hK
 case body=>
  rintro l pre x W ⟨hk,hB⟩ hN;obtain⟨u,s,hu,hs,he⟩:=Be b8.out x;have d9:x.val<ks.length:=by rw[<-Hh.out.len];exact(List.getElem?_eq_some_iff.1 hu).1
  have Hc:=Qa (HH.out x.val u _ hu (Zd d9) W hB)
  try dsimp only
  rw[he];have d4:=Qa hk;have c8:=Qa hB;clear hk hB
  gi_wp2_with fail
  refine⟨trivial,?_⟩;refine(CallsIn.inRound l (callsIn_wide.2 Hc.out)).mono ?_;rintro e W2 ⟨rfl,c7⟩;have b1:=Qa c7;clear c7
  gi_wp2
  exact⟨fB b1.out,eW.of_below b1.out,d4.out.later b1.out,c8.out.trans (b1.out.mono c8.out.size)⟩
 case done=>
  rintro D ys W hD - ⟨hk,hB⟩ hK;have b3:=hk.cell;have e0:=hk.frozen
  gi_wp2
  have hne:w.heap.size≠D:=by omega
  have c4:(W.setCell ⟨w.heap.size,0,none⟩ (.bool false)).heap[D]?=some (.deferred (some [])):=(Below.heap_setCell W _ _ D (fun e=>hne e.symm)).trans hK;have b5:=hk.set (.bool false);refine⟨by simp,.inl ⟨_,_,rfl,run_takeDeferred c4,?_⟩⟩;have d3:((W.setCell ⟨w.heap.size,0,none⟩ (.bool false)).putObj D (.deferred none)).cell? ⟨w.heap.size,0,none⟩=some (.bool false):=by
   rw[World.cell?_of_block (w:=W.setCell ⟨w.heap.size,0,none⟩ (.bool false)) (World.putObj_heap_other hne)];exact b5.cell
  refine⟨.bool false,?_,rfl,?_⟩
  ·simp[results,Tryz.results97,go_sem,d3]
  ·exact(hB.setCell (p:=⟨w.heap.size,0,none⟩) (Zb _) _).trans (belowK_b (w:=w) (Zb _) _ D _ _ (by omega) c4 rfl rfl)
 case stop=>
  rintro D c pre W hD _ h _;exact h.elim
theorem up:Calls Tryz.prog 97 #[.iface 343 (.agg #[])] w fun e w'=>e =.returned (.bool false)/\Below w.heap.size w w':=by
 have k1:=rp;have a2:=Qa (show Below w.heap.size w (w.alloc (.cells #[.bool false] 4)) from(Ze _ _).alloc (Zb _) _);have Hk:=Qa (Bx.new w 4 (.bool false));go_enter Tryz.func97,Tryz.ntmps97;go_wp2_with fail;refine oP.mono ?_;rintro e w1 ⟨rfl,a1⟩;have a4:=Qa (a2.out.trans (a1.mono a2.out.size));have a0:=Hk.out.later a1;have a9:=a0.cell;have b0:=a0.frozen;have a3:=Qa (a0.set (.bool false)).cell;clear a1 a0;go_wp2_with fail;refine Zh (v:=.bool false) ?_ rfl ⟨rfl,a4.out.setCell (p:=⟨w.heap.size,0,none⟩) (Zb _) _⟩;have a5:=a3.out;simp[results,Tryz.results97,go_sem,a5]
theorem uV {b:Bool}:Calls Tryz.prog 97 #[.iface 341 (.bool b)] w fun e w'=>e =.returned (.bool false)/\Below w.heap.size w w':=by
 have k1:=tA;have a2:=Qa (show Below w.heap.size w (w.alloc (.cells #[.bool false] 4)) from(Ze _ _).alloc (Zb _) _);have Hk:=Qa (Bx.new w 4 (.bool false));go_enter Tryz.func97,Tryz.ntmps97;go_wp2_with fail;refine oF.mono ?_;rintro e w1 ⟨rfl,a1⟩;have a4:=Qa (a2.out.trans (a1.mono a2.out.size));have a0:=Hk.out.later a1;have a9:=a0.cell;have b0:=a0.frozen;have a3:=Qa (a0.set (.bool false)).cell;clear a1 a0;go_wp2_with fail;refine Zh (v:=.bool false) ?_ rfl ⟨rfl,a4.out.setCell (p:=⟨w.heap.size,0,none⟩) (Zb _) _⟩;have a5:=a3.out;simp[results,Tryz.results97,go_sem,a5]
theorem xJ:Calls Tryz.prog 97 #[.iface 313 (.agg cs)] w fun e w'=>e =.returned (.bool false)/\Below w.heap.size w w':=by
 have k1:=uo;have a2:=Qa (show Below w.heap.size w (w.alloc (.cells #[.bool false] 4)) from(Ze _ _).alloc (Zb _) _);have Hk:=Qa (Bx.new w 4 (.bool false));go_enter Tryz.func97,Tryz.ntmps97;go_wp2_with fail;refine qG.mono ?_;rintro e w1 ⟨rfl,a1⟩;have a4:=Qa (a2.out.trans (a1.mono a2.out.size));have a0:=Hk.out.later a1;have a9:=a0.cell;have b0:=a0.frozen;have a3:=Qa (a0.set (.bool false)).cell;clear a1 a0;go_wp2_with fail;refine Zh (v:=.bool false) ?_ rfl ⟨rfl,a4.out.setCell (p:=⟨w.heap.size,0,none⟩) (Zb _) _⟩;have a5:=a3.out;simp[results,Tryz.results97,go_sem,a5]
theorem uT {s:ByteArray}:Calls Tryz.prog 97 #[.iface 78 (.string s)] w fun e w'=>e =.returned (.bool false)/\Below w.heap.size w w':=by
 have k1:=sQ;have a2:=Qa (show Below w.heap.size w (w.alloc (.cells #[.bool false] 4)) from(Ze _ _).alloc (Zb _) _);have Hk:=Qa (Bx.new w 4 (.bool false));go_enter Tryz.func97,Tryz.ntmps97;go_wp2_with fail;refine oe.mono ?_;rintro e w1 ⟨rfl,a1⟩;have a4:=Qa (a2.out.trans (a1.mono a2.out.size));have a0:=Hk.out.later a1;have a9:=a0.cell;have b0:=a0.frozen;have a3:=Qa (a0.set (.bool false)).cell;clear a1 a0;go_wp2_with fail;refine Zh (v:=.bool false) ?_ rfl ⟨rfl,a4.out.setCell (p:=⟨w.heap.size,0,none⟩) (Zb _) _⟩;have a5:=a3.out;simp[results,Tryz.results97,go_sem,a5]
theorem ye (h:VW P w v j)(hT:ek w):Tx j->∀w1,Below w.heap.size w w1->Calls Tryz.prog 97 #[v] w1 fun e w'=>e =.returned (.bool false)/\Below w1.heap.size w1 w':=by
 induction h with
 |null=>intro _ w1 _;exact up
 |bool b=>intro _ w1 _;exact uV
 |num d=>intro _ w1 _;exact xJ
 |text s=>intro _ w1 _;exact uT
 |bare=>
  intro tx w1 h1;refine callsIn_wide.1 (lY (P:=P) (us:= []) (ks:= []) (.inl ⟨rfl,rfl,rfl⟩) (hT.below h1) fun i v k e1=>?_);simp at e1
 |list g A c us ks hp hg hr hl hks ih=>
  intro tx w1 h1;have hk:∀u∈ks,Tx u:=by cases tx;assumption
  have hL:d7 P w (some ⟨g,0,none⟩) us ks:=.inr ⟨g,A,c,rfl,hg,hr,hl⟩;exact callsIn_wide.1 (lY (hL.below h1) (hT.below h1) fun i v k e1 e2 w2 h2=>ih i v k e1 e2 (hk k (Zk e2)) w2 (h1.trans (h2.mono h1.size)))
 |obj g A c us ns ks hp hg hr hl hn hks ih=>
  intro tx w1 h1;have hk:∀u∈ks,Tx u:=by cases tx;assumption
  have hL:eJ P w (some ⟨g,0,none⟩) us ns ks:=⟨g,A,c,rfl,hg,hr,hl,hn⟩;exact callsIn_wide.1 (zg (hL.below h1) fun i v k e1 e2 w2 h2=>ih i v k e1 e2 (hk k (Zk e2)) w2 (h1.trans (h2.mono h1.size)))
theorem tQ (p q:Value)(w:World):CallsD Tryz.prog 98 #[p,q] .returning w fun e u' w'=>e =.returned (.tuple #[])/\u' =.returning/\w'=w:=by
 refine callsD_of_wpS Tryz.func98 rfl fun c₀ cs hu=>?_
 apply wpS_seq
 apply wpS_region
 simp[wpOpsS,go_sem,recoverD,hu,Tryz.ntmps98,Exit.thenS];apply wpS_seq;apply wpS_region;simp[wpOpsS,go_sem,Exit.thenS];refine wpS_cond (t:=false) (by simp[Act.eval,Array.replicate]) ?_;simp only[Bool.false_eq_true,if_false];refine wpS_of_wp (wp_skip ?_)
 cases c₀
 simp_all [bodyPostS,results,Tryz.results98]
theorem Et (h0:w2.heap[w.heap.size]?=some (.cells #[x0] t0 (0,0)))(h1:w2.heap[w.heap.size+1]?=some (.cells #[x1] t1 (0,0)))(hb:Below w.heap.size w w2)(y0 y1:Value) :
  Below w.heap.size w ((w2.setCell ⟨w.heap.size,0,none⟩ y0).setCell ⟨w.heap.size+1,0,none⟩ y1)/\((w2.setCell ⟨w.heap.size,0,none⟩ y0).setCell ⟨w.heap.size+1,0,none⟩ y1).cell? ⟨w.heap.size,0,none⟩=some y0/\
   ((w2.setCell ⟨w.heap.size,0,none⟩ y0).setCell ⟨w.heap.size+1,0,none⟩ y1).cell? ⟨w.heap.size+1,0,none⟩=some y1:=by
 have a0:=ar h0 0 y0;have a1:=au w2 (w.heap.size+1) w.heap.size 0 y0 _ _ (by omega) h1;have b0:=au _ w.heap.size (w.heap.size+1) 0 y1 _ _ (by omega) a0;have b1:=ar a1 0 y1;exact⟨(hb.setCell (p:=⟨w.heap.size,0,none⟩) (Zb _) _).setCell (p:=⟨w.heap.size+1,0,none⟩) (Nat.le_succ _) _,ac b0 (j:=0) rfl,ac b1 (j:=0) rfl⟩
def Ea (l:List UInt8)(w:World)(e:Ending)(w':World):Prop:= ∃v,e =.returned (.tuple #[v,.nilIface])/\aq w' w.heap.size v l/\Below w.heap.size w w'
theorem nV (h:VW P w v j)(hT:ek w)(hG:cD w aU aE)(tx:Tx j)(sz:Sz j)(hl:(JV.txt j).length<=140737488355328):Calls Tryz.prog 68 #[v] w (Ea (JV.txt j) w):=by
 have b4:∀ (fn:Fn) (first cap:Array Value) (w:World),(Instr.makeFunc fn first cap).run Tryz.prog w =.ok (.func fn first cap) w:=fun _ _ _ _=>rfl
 have a5:Below w.heap.size w ((w.alloc (.cells #[.slice none 0 0] 28)).alloc (.cells #[.nilIface] 30)):=((Ze _ _).alloc (Zb _) _).alloc (by simp) _;have h0:((w.alloc (.cells #[.slice none 0 0] 28)).alloc (.cells #[.nilIface] 30)).heap[w.heap.size]?=some (.cells #[.slice none 0 0] 28 (0,0)):=(Below.heap_alloc _ _ _ (by simp)).trans (Zf w _);have h1:((w.alloc (.cells #[.slice none 0 0] 28)).alloc (.cells #[.nilIface] 30)).heap[w.heap.size+1]?=some (.cells #[.nilIface] 30 (0,0)):=by
  have:=Zf (w.alloc (.cells #[.slice none 0 0] 28)) (.cells #[.nilIface] 30)
  rwa[World.size_alloc] at this
 have hz:((w.alloc (.cells #[.slice none 0 0] 28)).alloc (.cells #[.nilIface] 30)).heap.size=w.heap.size+2:=by simp
 have a4:=Qa a5;have H0:=Qa h0;have H1:=Qa h1;have Hz:=Qa hz;have b3:=Qa (fun w1 (hw:Below w.heap.size w w1)=>ye h hT tx w1 hw);have a2:=Qa (fun w1 (hw:Below w.heap.size w w1)=>BL (h.later hw) (hT.below hw) (hG.below hw) tx sz w1 (.slice none 0 0) [] (Ze _ _) (aq.nil _ _) (by simpa using hl));obtain⟨t1,x1,rfl⟩:=h.iface;clear a5 h0 h1 hz h hT hG tx sz hl;generalize JV.txt j=tl at *;go_enter_defers Tryz.func68,Tryz.ntmps68;go_wp2_with fail;generalize (w.alloc (.cells #[.slice none 0 0] 28)).alloc (.cells #[.nilIface] 30)=w1 at *;refine(b3.out w1 a4.out).mono ?_;rintro e w2 ⟨rfl,a0⟩;have a3:=Qa (a4.out.trans (a0.mono a4.out.size));have G0:=Qa (ah H0.out a0);have G1:=Qa (ah H1.out a0);have b2:=Qa (show w.heap.size+2<=w2.heap.size by have:=Hz.out;have:=a0.size;omega);clear a0;go_wp2_with fail;refine(a2.out w2 a3.out).mono ?_;rintro e w3 ⟨v,rfl,ho,a1⟩;rw[List.nil_append] at ho;have Ho:=Qa ho;have a9:=Qa (a3.out.trans (a1.mono a3.out.size));have g0:=ah G0.out a1;have g1:=ah G1.out a1;have G03:=Qa g0;have G13:=Qa g1;have c0:=ac g0 (j:=0) (u:=.slice none 0 0) rfl;have f0:=al g0 0;have c1:=ac g1 (j:=0) (u:=.nilIface) rfl;have f1:=al g1 0;obtain⟨A,q,rfl,-⟩:=ag ho;clear g0 g1 a1 ho;go_wp2_with fail;obtain⟨b0,d0,d1⟩:=Et G03.out G13.out a9.out (.slice A tl.length q) .nilIface;have b1:aq ((w3.setCell ⟨w.heap.size,0,none⟩ (.slice A tl.length q)).setCell ⟨w.heap.size+1,0,none⟩ .nilIface) w.heap.size (.slice A tl.length q) tl:=by
  have hz:=b2.out;have h1:=Ho.out.stayB (aP.set w.heap.size 0 (.slice A tl.length q)) (fun b hb e=>by have:=(aq.blk Ho.out hb).1;omega);have h2:=h1.stayB (aP.set (w.heap.size+1) 0 .nilIface) (fun b hb e=>by have:=(aq.blk h1 hb).1;omega);exact bj h2 (by omega)
 clear c0 c1 f0 f1;generalize (w3.setCell ⟨w.heap.size,0,none⟩ (.slice A tl.length q)).setCell ⟨w.heap.size+1,0,none⟩ .nilIface=w4 at *;refine leaves_cons (f:=98) (args:= #[.pointer (some ⟨w.heap.size,0,none⟩),.pointer (some ⟨w.heap.size+1,0,none⟩)]) (by simp) (by simp[go_sem]) ?_;refine(tQ _ _ _).mono ?_;rintro e u' w'' ⟨rfl,rfl,rfl⟩;simp[Leaves,settle,results,Tryz.results68,go_sem,d0,d1];exact⟨_,rfl,b1,b0⟩
def bP:List ByteArray:= [⟨#[36,114,101,102]⟩,⟨#[97,108,108,79,102]⟩,⟨#[97,110,121,79,102]⟩,⟨#[111,110,101,79,102]⟩,⟨#[110,111,116]⟩,⟨#[105,102]⟩,⟨#[116,121,112,101]⟩,⟨#[101,110,117,109]⟩,⟨#[99,111,110,115,116]⟩,⟨#[109,105,110,105,109,117,109]⟩,⟨#[101,120,99,108,117,115,105,118,101,77,105,110,105,109,117,109]⟩,⟨#[109,97,120,105,109,117,109]⟩,⟨#[101,120,99,108,117,115,105,118,101,77,97,120,105,109,117,109]⟩,⟨#[109,117,108,116,105,112,108,101,79,102]⟩,⟨#[109,105,110,76,101,110,103,116,104]⟩,⟨#[109,97,120,76,101,110,103,116,104]⟩,⟨#[112,97,116,116,101,114,110]⟩,⟨#[112,114,101,102,105,120,73,116,101,109,115]⟩,⟨#[105,116,101,109,115]⟩,⟨#[99,111,110,116,97,105,110,115]⟩,⟨#[109,105,110,73,116,101,109,115]⟩,⟨#[109,97,120,73,116,101,109,115]⟩,⟨#[117,110,105,113,117,101,73,116,101,109,115]⟩,⟨#[112,114,111,112,101,114,116,105,101,115]⟩,⟨#[112,97,116,116,101,114,110,80,114,111,112,101,114,116,105,101,115]⟩,⟨#[97,100,100,105,116,105,111,110,97,108,80,114,111,112,101,114,116,105,101,115]⟩,⟨#[112,114,111,112,101,114,116,121,78,97,109,101,115]⟩,⟨#[114,101,113,117,105,114,101,100]⟩,⟨#[109,105,110,80,114,111,112,101,114,116,105,101,115]⟩,⟨#[109,97,120,80,114,111,112,101,114,116,105,101,115]⟩,⟨#[100,101,112,101,110,100,101,110,116,82,101,113,117,105,114,101,100]⟩,⟨#[100,101,112,101,110,100,101,110,116,83,99,104,101,109,97,115]⟩]
def Gf:ByteArray:=⟨#[102,97,108,115,101]⟩
def AF (k:ByteArray):Prop:=k=Gf\/k∈bP
theorem cd {s:ByteArray}(h:∀c∈s.data.toList,c.toNat<128):bi s:=by
 refine⟨s.data.toList.map fun c=>(c.toNat:Int),?_,?_⟩
 ·intro c hc;obtain⟨x,hx,rfl⟩:=List.mem_map.1 hc;have:=h x hx;rw[bY];simp;omega
 ·generalize s.data.toList=l at *
  induction l with
  |nil=>rfl
  |cons x l ih=>
   rw[List.map_cons,List.flatMap_cons,<-ih (fun c hc=>h c (Zl _ hc)),la _ (h x (by simp)),UInt8.ofNat_toNat];rfl
theorem vI:∀k∈bP,k.size<=30/\k≠lK/\∀c∈k.data.toList,c.toNat<128:=by decide
theorem AF.fine {k:ByteArray}(h:AF k):k.size<=30/\k≠lK/\bi k:=by
 rcases h with rfl|h
 ·exact⟨by decide,by decide,cd (by decide)⟩
 ·obtain⟨h1,h2,h3⟩:=vI k h;exact⟨h1,h2,cd h3⟩
def gI (e:En):Prop:=aW e.eAt/\aW e.eSch/\AF e.eKw
def e9 (e:En):Prop:=aW e.eAt/\aW e.eSch/\e.eKw.size<=30/\bi e.eKw
theorem gI.en {e:En}(h:gI e):e9 e:=⟨h.1,h.2.1,h.2.2.fine.1,h.2.2.fine.2.2⟩
theorem Cs {p:ByteArray}(h:aW p):e9 (eH p):=⟨h,ig,(by decide:lK.size<=30),cd (s:=lK) (by decide)⟩
theorem e9.enp {e:En}(h:e9 e):Jn e:=⟨h.1.ptr,h.2.1.ptr⟩
theorem GC {x:List En}(hx:∀e∈x,gI e)(hy:∀p∈y,aW p):∀e∈fu x y,e9 e:=fun e he=>by
 rcases co.1 he with h|⟨p,hp,-,rfl⟩
 ·exact(hx e h.1).en
 ·exact Cs (hy p hp)
theorem bu.ok {x:List En}{es:List En}(h:bu x y es)(hx:∀e∈x,gI e)(hy:∀p∈y,aW p):∀e∈es,e9 e:=fun e he=>GC hx hy e ((h.mem e).1 he)
def ia:ByteArray:=⟨#[97,116]⟩
def gq:ByteArray:=⟨#[107,101,121,119,111,114,100]⟩
def gR:ByteArray:=⟨#[115,99,104,101,109,97]⟩
def lU:ByteArray:=⟨#[101,110,116,114,105,101,115]⟩
def lH:ByteArray:=⟨#[111,117,116,99,111,109,101]⟩
def cH:List ByteArray:= [⟨#[]⟩,⟨#[118,97,108,105,100]⟩,⟨#[105,110,118,97,108,105,100]⟩,⟨#[98,97,100,32,115,99,104,101,109,97]⟩,⟨#[98,97,100,32,100,111,99,117,109,101,110,116]⟩,⟨#[111,118,101,114,32,108,105,109,105,116]⟩]
def bw (o:Nat):ByteArray:=cH.getD o ⟨#[]⟩
def dJ (e:En):JV:=fV [(ia,aZ e.eAt),(gq,aZ e.eKw),(gR,aZ e.eSch)]
def bU (o:Nat)(es:List En):JV:=fV [(lU,cJ (es.map dJ)),(lH,aZ (bw o))]
theorem I8:E9 [ia,gq,gR]:=by
 have e1:aJ (nm ia) (nm gq) = -1:=rfl;have e2:aJ (nm ia) (nm gR) = -1:=rfl;have e3:aJ (nm gq) (nm gR) = -1:=rfl;refine List.pairwise_cons.2 ⟨fun b hb=>?_,List.pairwise_cons.2 ⟨fun b hb=>?_,List.pairwise_singleton _ _⟩⟩
 ·simp only[List.mem_cons,List.mem_nil_iff,or_false] at hb;rcases hb with rfl|rfl
  ·show aJ _ _<0;rw[e1];decide
  ·show aJ _ _<0;rw[e2];decide
 ·simp only[List.mem_cons,List.mem_nil_iff,or_false] at hb;subst hb
  show aJ _ _<0;rw[e3];decide
theorem IR:E9 [lU,lH]:=by
 have e1:aJ (nm lU) (nm lH) = -1:=rfl;refine List.pairwise_cons.2 ⟨fun b hb=>?_,List.pairwise_singleton _ _⟩;rw[List.mem_singleton.1 hb]
 show aJ _ _<0;rw[e1];decide
theorem dl (o:Nat):bi (bw o)/\(bw o).size<=30:=by
 by_cases h:o<6
 ·have:∀o<6,(bw o).size<=30/\∀c∈(bw o).data.toList,c.toNat<128:=by decide
  exact⟨cd (this o h).2,(this o h).1⟩
 ·have e:bw o= ⟨#[]⟩:=by unfold bw;rw[List.getD_eq_getElem?_getD,List.getElem?_eq_none (by simp[cH];omega)];rfl
  rw[e];exact⟨cd (by simp),by decide⟩
theorem bk:bi ia/\bi gq/\bi gR/\bi lU/\bi lH:=⟨cd (by decide),cd (by decide),cd (by decide),cd (by decide),cd (by decide)⟩
theorem Gw {e:En}(h:e9 e):Tx (dJ e):=by
 obtain⟨n1,n2,n3,-⟩:=bk;refine .obj [ia,gq,gR] [aZ e.eAt,aZ e.eKw,aZ e.eSch] rfl (fun s hs=>?_) I8 (fun u hu=>?_)
 ·simp only[List.mem_cons,List.mem_nil_iff,or_false] at hs;rcases hs with rfl|rfl|rfl <;> assumption
 ·simp only[List.mem_cons,List.mem_nil_iff,or_false] at hu;rcases hu with rfl|rfl|rfl
  ·exact .text _ h.1.utf
  ·exact .text _ h.2.2.2
  ·exact .text _ h.2.1.utf
theorem qw {es:List En}(h:∀e∈es,e9 e):Tx (bU o es):=by
 obtain⟨-,-,-,n4,n5⟩:=bk;refine .obj [lU,lH] [cJ (es.map dJ),aZ (bw o)] rfl (fun s hs=>?_) IR (fun u hu=>?_)
 ·simp only[List.mem_cons,List.mem_nil_iff,or_false] at hs;rcases hs with rfl|rfl <;> assumption
 ·simp only[List.mem_cons,List.mem_nil_iff,or_false] at hu;rcases hu with rfl|rfl
  ·refine .list _ fun u hu=>?_
   obtain⟨e,he,rfl⟩:=List.mem_map.1 hu;exact Gw (h e he)
  ·exact .text _ (dl o).1
def FM (L:Nat)(e:En):Prop:=e.eAt.size<=L/\e.eSch.size<=L
theorem Ex (hL:30<=L){e:En}(h:e9 e)(hb:FM L e):zK L (dJ e):=by
 obtain⟨n1,n2,n3,-⟩:=bk;have s1:ia.size<=30:=by decide
 have s2:gq.size<=30:=by decide
 have s3:gR.size<=30:=by decide
 refine .obj [ia,gq,gR] [aZ e.eAt,aZ e.eKw,aZ e.eSch] rfl (fun s hs=>?_) (fun u hu=>?_)
 ·simp only[List.mem_cons,List.mem_nil_iff,or_false] at hs;rcases hs with rfl|rfl|rfl
  ·exact⟨n1,by omega⟩
  ·exact⟨n2,by omega⟩
  ·exact⟨n3,by omega⟩
 ·simp only[List.mem_cons,List.mem_nil_iff,or_false] at hu;rcases hu with rfl|rfl|rfl
  ·exact .text _ h.1.utf hb.1
  ·exact .text _ h.2.2.2 (by have:=h.2.2.1;omega)
  ·exact .text _ h.2.1.utf hb.2
theorem DX (hL:30<=L){es:List En}(h:∀e∈es,e9 e)(hb:∀e∈es,FM L e):zK L (bU o es):=by
 obtain⟨-,-,-,n4,n5⟩:=bk;have s4:lU.size<=30:=by decide
 have s5:lH.size<=30:=by decide
 refine .obj [lU,lH] [cJ (es.map dJ),aZ (bw o)] rfl (fun s hs=>?_) (fun u hu=>?_)
 ·simp only[List.mem_cons,List.mem_nil_iff,or_false] at hs;rcases hs with rfl|rfl
  ·exact⟨n4,by omega⟩
  ·exact⟨n5,by omega⟩
 ·simp only[List.mem_cons,List.mem_nil_iff,or_false] at hu;rcases hu with rfl|rfl
  ·refine .list _ fun u hu=>?_
   obtain⟨e,he,rfl⟩:=List.mem_map.1 hu;exact Ex hL (h e he) (hb e he)
  ·exact .text _ (dl o).1 (by have:=(dl o).2;omega)
theorem yb (es:List En):JV.sizes (es.map dJ)=4*es.length:=by
 induction es with
 |nil=>rfl
 |cons e es ih=>
  rw[List.map_cons,List.length_cons,JV.sizes,ih];have:(dJ e).size=4:=by simp[dJ,fV,aZ,JV.size,JV.sizes]
  omega
theorem E2 (hL:30<=L){es:List En}(h:∀e∈es,e9 e)(hb:∀e∈es,FM L e):(bU o es).txt.length<=(4*es.length+3)* (12*L+40):=by
 have h1:=(DX (o:=o) hL h hb).len;have h2:(bU o es).size=4*es.length+3:=by
  have:=yb es;simp[bU,fV,aZ,cJ,JV.size,JV.sizes,this];omega
 rw[h2] at h1;omega
theorem ib {s:ByteArray}(h:s.size<=1000000000):Sz (aZ s):=.mk _ _ _ _ _ _ h (by decide) (by simp) (by simp)
theorem Gy (hL:L<=1000000000){e:En}(h:e9 e)(hb:FM L e):Sz (dJ e):=by
 refine .mk _ _ _ _ _ _ (by decide) (by decide) (fun s hs=>?_) (fun u hu=>?_)
 ·simp only[List.map_cons,List.map_nil,List.mem_cons,List.mem_nil_iff,or_false] at hs;rcases hs with rfl|rfl|rfl <;> decide
 ·simp only[List.map_cons,List.map_nil,List.mem_cons,List.mem_nil_iff,or_false] at hu;rcases hu with rfl|rfl|rfl
  ·exact ib (by have:=hb.1;omega)
  ·exact ib (by have:=h.2.2.1;omega)
  ·exact ib (by have:=hb.2;omega)
theorem GM (hL:L<=1000000000){es:List En}(h:∀e∈es,e9 e)(hb:∀e∈es,FM L e):Sz (bU o es):=by
 refine .mk _ _ _ _ _ _ (by decide) (by decide) (fun s hs=>?_) (fun u hu=>?_)
 ·simp only[List.map_cons,List.map_nil,List.mem_cons,List.mem_nil_iff,or_false] at hs;rcases hs with rfl|rfl <;> decide
 ·simp only[List.map_cons,List.map_nil,List.mem_cons,List.mem_nil_iff,or_false] at hu;rcases hu with rfl|rfl
  ·refine .mk _ _ _ _ _ _ (by decide) (by decide) (by simp) (fun u hu=>?_);obtain⟨e,he,rfl⟩:=List.mem_map.1 hu;exact Gy hL (h e he) (hb e he)
  ·exact ib (by have:=(dl o).2;omega)
def vY (l:List UInt8):Prop:= ∃cs:List Int,(∀c∈cs,cA c=true)/\l=cs.flatMap a7
theorem vY.nil:vY []:=⟨[],by simp,rfl⟩
theorem vY.app {c:Int}(hc:cA c=true){l:List UInt8}(h:vY l):vY (a7 c++l):=by
 obtain⟨cs,h1,rfl⟩:=h;exact⟨c::cs,fun d hd=>by rcases List.mem_cons.1 hd with rfl|hd;exact hc;exact h1 d hd,by simp⟩
theorem pZ {c:Int}(h:cA c=true):(∃x:UInt8,x.toNat<128/\a7 c = [x]/\c=x.toNat)\/∀x∈a7 c,128<=x.toNat:=by
 have h0:=cq h;obtain⟨n,rfl⟩:∃n:Nat,c=n:=⟨c.toNat,by omega⟩;have hn:=h;rw[bY] at hn;simp only[decide_eq_true_eq] at hn
 by_cases h1:n<128
 ·exact .inl ⟨UInt8.ofNat n,by rw[bm n (by omega)];exact h1,la n h1,by rw[bm n (by omega)]⟩
 ·right
  have big:∀k,128<=k->k<256->128<=(UInt8.ofNat k).toNat:=fun k h2 h3=>by rw[bm k h3];exact h2
  intro x hx
  by_cases h2:n<2048
  ·rw[og n ⟨by omega,h2⟩] at hx;simp only[List.mem_cons,List.mem_nil_iff,or_false] at hx;rcases hx with rfl|rfl <;> exact big _ (by omega) (by omega)
  ·by_cases h3:n<65536
   ·rw[l9 n ⟨by omega,h3⟩ hn.2] at hx;simp only[List.mem_cons,List.mem_nil_iff,or_false] at hx;rcases hx with rfl|rfl|rfl <;> exact big _ (by omega) (by omega)
   ·rw[nX n ⟨by omega,hn.1⟩] at hx;simp only[List.mem_cons,List.mem_nil_iff,or_false] at hx;rcases hx with rfl|rfl|rfl|rfl <;> exact big _ (by omega) (by omega)
theorem Cr {a:List UInt8}(h:47∉a){b:List UInt8}{x:List UInt8}{r:List (List UInt8)}(e:ci b=x::r):ci (a++b)= (a++x)::r:=by
 induction a with
 |nil=>exact e
 |cons c t ih=>
  have h1:c≠47:=fun e=>h (by simp[e])
  rw[List.cons_append,ci,if_neg h1,ih (fun e=>h (by simp[e]))];rfl
theorem AC:∀ (cs:List Int),(∀c∈cs,cA c=true)->∀p∈ci (cs.flatMap a7),vY p:=by
 intro cs
 induction cs with
 |nil=>intro _ p hp;simp[ci] at hp;subst hp;exact .nil
 |cons c cs ih=>
  intro h p hp;have hc:=h c (by simp);have ih:=ih fun d hd=>h d (by simp[hd])
  rw[List.flatMap_cons] at hp
  by_cases h47:c=47
  ·subst h47;have e:a7 47 = [47]:=by decide
   rw[e,List.singleton_append,ci,if_pos rfl] at hp;rcases List.mem_cons.1 hp with rfl|hp
   ·exact .nil
   ·exact ih p hp
  ·obtain⟨x,r,e⟩:∃x r,ci (cs.flatMap a7)=x::r:=by
    cases e:ci (cs.flatMap a7) with
    |nil=>exact absurd e (jZ _)
    |cons x r=>exact⟨x,r,rfl⟩
   rw[Cr (fun hm=>by
    rcases pZ hc with ⟨x,-,e2,e3⟩|hb
    ·rw[e2,List.mem_singleton] at hm;rw[<-hm] at e3;exact h47 e3
    ·exact absurd (hb 47 hm) (by decide)) e] at hp
   rw[e] at ih;rcases List.mem_cons.1 hp with rfl|hp
   ·exact vY.app hc (ih x (by simp))
   ·exact ih p (by simp[hp])
theorem CC {b c:UInt8}{a:List UInt8}(h:126∉a)(t:List UInt8):cG b c (a++t)=a++cG b c t:=by
 induction a with
 |nil=>rfl
 |cons x a ih=>rw[List.cons_append,fm (fun e=>h (by simp[e])),ih (fun e=>h (by simp[e]))];rfl
theorem EP {c:UInt8}(h:c.toNat<128):cA (c.toNat:Int)=true/\a7 (c.toNat:Int) = [c]:=⟨by rw[bY];simp;omega,by rw[la _ h,UInt8.ofNat_toNat]⟩
theorem sD {b c:UInt8}(hb:b.toNat<128)(hc:c.toNat<128):∀ (n:Nat) (cs:List Int),cs.length<=n->(∀c∈cs,cA c=true)->vY (cG b c (cs.flatMap a7)):=by
 intro n
 induction n with
 |zero=>intro cs h _;obtain rfl:=List.eq_nil_of_length_eq_zero (show cs.length=0 by omega);exact .nil
 |succ n ih=>
  intro cs hn h
  cases cs with
  |nil=>exact .nil
  |cons d ds=>
   have hd:=h d (by simp);have a0:∀c∈ds,cA c=true:=fun e he=>h e (by simp[he])
   simp only[List.length_cons] at hn;rw[List.flatMap_cons]
   by_cases h126:d=126
   ·subst h126;rw[show a7 126 = [126] by decide,List.singleton_append]
    cases ds with
    |nil=>exact⟨[126],by simp;decide,rfl⟩
    |cons e es=>
     have he:=a0 e (by simp);simp only[List.length_cons] at hn;rw[List.flatMap_cons];have miss:∀x t,a7 e=x::t->x≠b->vY (cG b c (126:: (a7 e++es.flatMap a7))):=by
      intro x t e2 hx;rw[e2,List.cons_append,oC hx,<-List.cons_append,<-e2,<-List.flatMap_cons];exact vY.app (c:=126) (by decide) (ih (e::es) (by simp;omega) a0)
     rcases pZ he with ⟨x,hx,e2,-⟩|a1
     ·by_cases hxb:x=b
      ·rw[e2,List.singleton_append,hxb,ju];have o:=EP hc;have:=vY.app o.1 (ih es (by omega) fun f hf=>a0 f (by simp[hf]));rw[o.2] at this;exact this
      ·exact miss x [] e2 hxb
     ·cases e2:a7 e with
      |nil=>exact absurd e2 (gQ he)
      |cons x t=>
       rw[<-e2];exact miss x t e2 (fun e3=>by have:=a1 x (by rw[e2];simp);rw[e3] at this;omega)
   ·rw[CC (fun hm=>by
     rcases pZ hd with ⟨x,-,e2,e3⟩|a2
     ·rw[e2,List.mem_singleton] at hm;rw[<-hm] at e3;exact h126 e3
     ·exact absurd (a2 126 hm) (by decide))]
    exact vY.app hd (ih ds (by omega) a0)
theorem EC {l:List UInt8}(h:vY l):vY (ru l):=by
 obtain⟨cs,h1,rfl⟩:=h;obtain⟨ds,h2,h3⟩:=sD (b:=49) (c:=47) (by decide) (by decide) _ cs (Zb _) h1;unfold ru;rw[h3];exact sD (by decide) (by decide) _ ds (Zb _) h2
theorem zt {s:ByteArray}(h:aW s):∀p∈bq s.data.toList,vY p:=by
 intro p hp;obtain⟨cs,h1,h2⟩:=h.utf;rw[h2] at hp
 cases hx:cs.flatMap a7 with
 |nil=>rw[hx] at hp;simp[bq] at hp
 |cons x t=>
  rw[hx,bq] at hp;obtain⟨q,hq,rfl⟩:=List.mem_map.1 hp;refine EC ?_;rcases h with h|⟨h,-⟩
  ·rw[h2,hx] at h;cases h
  ·rw[h2,hx] at h;obtain rfl:x=47:=by simpa using h
   have:=AC cs h1 q;rw[hx,ci,if_pos rfl] at this;exact this (by simp[hq])
theorem Fb (x:List UInt8):∀y:List UInt8,GJ x y=cO (fun x y:UInt8=>ny x.toNat y.toNat) x y:=by
 induction x with
 |nil=>intro y;cases y <;> rfl
 |cons a x ih=>
  intro y
  cases y with
  |nil=>rfl
  |cons b y=>
   have ih:=ih y;rw[cO]
   by_cases h1:a<b
   ·have a0:a.toNat<b.toNat:=h1;simp[ny,GJ,Op.bytesLess,h1,a0]
   ·have a0:¬a.toNat<b.toNat:=h1
    by_cases h2:b<a
    ·have a1:b.toNat<a.toNat:=h2;have:a≠b:=fun e=>by subst e;exact absurd a1 (Nat.lt_irrefl _)
     simp[ny,GJ,Op.bytesLess,h1,a0,a1,this]
    ·have a1:¬b.toNat<a.toNat:=h2;have e:a=b:=UInt8.toNat_inj.1 (by omega);subst e;rw[if_pos (by simp[ny]),<-ih];simp[GJ,Op.bytesLess,h1]
theorem Ce (a b:ByteArray):GJ a.toList b.toList=vG a b:=by
 unfold vG;rw[ByteArray.toList_eq,ByteArray.toList_eq,Fb]
theorem vr (s:ByteArray):∀ (n:Nat) (cs:List Int) (p:Nat) (acc:Array Value),(∀c∈cs,cA c=true)->s.data.toList.drop p=cs.flatMap a7->cs.length<=n->Conv.runesFrom s n p acc=acc++ (cs.map fj).toArray:=by
 intro n
 induction n with
 |zero=>
  intro cs p acc _ _ h;obtain rfl:=List.eq_nil_of_length_eq_zero (show cs.length=0 by omega);simp[Conv.runesFrom]
 |succ n ih=>
  intro cs p acc hc hd h;have hl:s.data.toList.length=s.size:=by simp
  cases cs with
  |nil=>
   have hp:¬p<s.size:=by
    have:=congrArg List.length hd;rw[List.length_drop] at this;simp at this;omega
   unfold Conv.runesFrom;rw[if_neg hp];simp
  |cons c cs=>
   have h0:=hc c (by simp);have hlen:=congrArg List.length hd;rw[List.length_drop,hl,List.flatMap_cons,List.length_append] at hlen;have a1:(a7 c).length≠0:=fun e=>gQ h0 (List.eq_nil_of_length_eq_zero e)
   have hlt:p<s.size:=by omega
   unfold Conv.runesFrom;rw[if_pos hlt,i7 s p hlt,hd,List.flatMap_cons,lJ h0,if_pos rfl]
   dsimp only
   have a0:Int.ofNat c.toNat=c:=by have:=cq h0;show((c.toNat:Nat):Int)=c;omega
   rw[a0,ih cs _ _ (fun d hd=>hc d (by simp[hd])) (by rw[<-List.drop_drop,hd,List.flatMap_cons,List.drop_left]) (by simp at h;omega)];simp[fj]
theorem l5 (W:World)(s:ByteArray)(hs:bi s)(hz:s.size<=1000000000):∃W2 q,(convert 9 173 (.string s)).run Tryz.prog W =.ok (.slice (some ⟨W.heap.size,0,none⟩) (nm s).length q) W2/\
  Below W.heap.size W W2/\ze W2 W.heap.size (.slice (some ⟨W.heap.size,0,none⟩) (nm s).length q) (nm s)/\W2.heap.size=W.heap.size+1:=by
 obtain⟨hc,hd⟩:=hs.nm;have a2:s.data.toList.length=s.size:=by simp
 have a0:(nm s).length<=s.size:=by have:=dQ hc;rw[hd,a2] at this;exact this
 have e:Conv.runesFrom s s.size 0 #[]= ((nm s).map fj).toArray:=by
  rw[vr s s.size (nm s) 0 #[] hc hd.symm a0];simp
 have ez:(((nm s).map fj).toArray).size= (nm s).length:=by simp
 have hr:=run_runes_of_string (P:=Tryz.prog) W 9 173 21 s Tryz.underlying9 Tryz.underlying173 Tryz.underlying21 (by rw[e,ez];omega);rw[e,ez] at hr;have a1:=grownCap_ge W (nm s).length 0 21;have hle:=grownCap_le_maxLen W (nm s).length 0 21 (by unfold maxLen;omega);generalize grownCap W (nm s).length 0 21=q at *;refine⟨_,q,hr,?_,?_,by simp⟩
 ·exact(ap (Ze W.heap.size W) 1).alloc (Zb _) _
 ·have hh:=Zf W.drew (.cells (((nm s).map fj).toArray++Array.replicate (q - (nm s).length) (.int .i32 0)) 21);refine⟨by simp,.inr ⟨W.heap.size,q,_,rfl,Zb _,hh,a1,hle,by simp;omega,?_⟩⟩;simp
theorem wj {s t:ByteArray}(hs:bi s)(ht:bi t)(hz:s.size<=1000000000)(hy:t.size<=1000000000):Calls Tryz.prog 134 #[.string s,.string t] w fun e w'=>e =.returned (.int .i64 (aJ (nm s) (nm t)))/\Below w.heap.size w w':=by
 have a4:(nm s).length<=4294967296:=by have:=dQ hs.nm.1;rw[hs.nm.2] at this;have h2:s.data.toList.length=s.size:=(by simp);omega
 have a9:(nm t).length<=4294967296:=by have:=dQ ht.nm.1;rw[ht.nm.2] at this;have h2:t.data.toList.length=t.size:=(by simp);omega
 obtain⟨W2,q,h1,a1,a5,b2⟩:=l5 w s hs hz;obtain⟨W3,r,h2,a2,a3,-⟩:=l5 W2 t ht hy;have b0:=a1.trans (a2.mono a1.size);have a0:ze W3 w.heap.size (.slice (some ⟨w.heap.size,0,none⟩) (nm s).length q) (nm s):=ai a5 a2 (Zb _);have H:=Qa (iX a0 a3 a4 a9);have b1:=Qa b0;generalize nm s=x at *;generalize nm t=y at *;clear hs ht hz hy a4 a9 a1 a2 b0 a5 a3 a0 b2;go_enter Tryz.func134,Tryz.ntmps134;go_wp2_with fail;refine Za H ?_;rintro e w' ⟨rfl,rfl⟩;go_wp2_with fail;go_ret;exact⟨rfl,b1.out⟩
