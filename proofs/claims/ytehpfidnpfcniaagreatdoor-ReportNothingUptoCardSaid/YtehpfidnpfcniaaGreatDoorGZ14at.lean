import Derived.Test.YtehpfidnpfcniaaGreatDoorGZ14as
import Derived.Test.YtehpfidnpfcniaaGreatDoorGZ14an
set_option linter.unusedVariables false
set_option linter.unusedSimpArgs false
set_option maxHeartbeats 64000000
set_option maxRecDepth 100000
namespace Go.Proofs.YtehpfidnpfcniaaGreatDoor
open Go.RowKit Go.Shelf
variable {aE aU:Addr}{cs:Array Value}{p:ByteArray}{j:JV}{ns y:List ByteArray}{ks:List JV}{us:List Value}{L o:Nat}{P:Nat->Prop}{A:Option Addr}{t0 t1:TypeId}{v x0 x1:Value}{w w2:World}
attribute [local go_sem] Oper.semAt_some
def pw (ns:List ByteArray)(us:List Value):List (ByteArray×Value):=ns.zip us
theorem vC (h:ns.length=us.length):(pw ns us).length=us.length:=by simp[pw,h]
theorem zN (h:ns.length=us.length)(i:Fin (pw ns us).length):∃u s,us[i.val]?=some u/\ns[i.val]?=some s/\(pw ns us).get i= (s,u):=by
 have hi:i.val<us.length:=by have h1:=i.isLt;have h2:=vC h;omega
 have hj:i.val<ns.length:=by omega
 exact⟨us[i.val],ns[i.val],Zd hi,Zd hj,by
  show(pw ns us)[i.val]'i.isLt=_
  simp only[pw,List.getElem_zip]⟩
theorem xu (h:eG P w A us ns ks)
  (H:∀ (i:Nat) v k,us[i]?=some v->ks[i]?=some k->∀w1,Below w.heap.size w w1->Calls Tryz.prog 100 #[v] w1 fun e w'=>e =.returned (.bool false)/\Below w1.heap.size w1 w') :
  CallsIn Fence.wide 9 Tryz.prog 100 #[.iface 103 (.pointer A)] w fun e w'=>e =.returned (.bool false)/\Below w.heap.size w w':=by
 have k1:=uo;have Hh:=H8 h;have b9:=H8 (show ns.length=us.length by rw[h.names,h.len]);have HH:=H8 H;clear h H;refine callsIn_of_wp_marks Tryz.func100 rfl trivial ?_ rfl;simp only[Tryz.ntmps100,List.size_toArray,List.length_cons,List.length_nil,Nat.reduceAdd,Nat.reduceSub,Array.replicate_succ,Array.replicate_zero,List.push_toArray,List.append_toArray,List.nil_append,List.cons_append];have Hk:=H8 (Bx.new w 4 (.bool false));have a4:=H8 (show Below w.heap.size w (w.alloc (.cells #[.bool false] 4)) from(Ze _ _).alloc (Zb _) _)
 gi_wp2_with fail
 obtain⟨W0,c0⟩:∃W0,w.alloc (.cells #[.bool false] 4)=W0:=⟨_,rfl⟩;have a1:W0.heap.size=w.heap.size+1:=by rw[<-c0];simp
 rw[c0] at Hk a4 ⊢;have a9:=H8 a1;clear c0 a1;refine⟨fun _ _=>trivial,?_⟩;go_invoke
 gi_wp2_with fail
 refine(callsIn_wide.2 BC).mono ?_;rintro e w1 ⟨rfl,c6⟩;have a0:=H8 c6;clear c6
 gi_wp2_with fail
 refine⟨trivial,?_⟩;refine(callsIn_wide.2 jD).mono ?_;rintro e w2 ⟨rfl,rfl⟩;have a3:W0.heap.size<=w1.heap.size:=a0.out.size;have b2:=ac w1 (.cells #[.iface 103 (.pointer A)] 175);have b4:=Zf w1 (.cells #[.iface 103 (.pointer A)] 175);obtain⟨W1,b5⟩:∃W1,w1.alloc (.cells #[.iface 103 (.pointer A)] 175)=W1:=⟨_,rfl⟩;have b0:W1.heap.size=w1.heap.size+1:=by rw[<-b5];simp
 rw[b5] at b2 b4 ⊢;clear b5;have c3:Dp w (pw ns us).length [] W1:=⟨(Hk.out.later a0.out).later b2,a4.out.trans ((a0.out.mono a4.out.size).trans (b2.mono (Zc a4.out.size a0.out.size)))⟩;have c4:=H8 c3;have c2:=H8 b0;have d5:=H8 b4;have a2:=H8 a3;clear b2 b4 c3 b0 a3 Hk a4 a0
 gi_wp2
 have b8:∀X,et w.heap.size (w.heap.size+1) W1 X->E3 w X:=fun X hX g cs t z hg=>hX g cs t z (.inl (ah hg)) ((c4.out.2.block g (ah hg)).trans hg)
 have d0:=H8 b8;have c9:=H8 (vC b9.out);have d2:=H8 Hh.out.bd;have a5:SeqStopsK Fence.wide (9 - 1) Tryz.prog 96 #[.pointer (some ⟨w1.heap.size,0,none⟩)] (fun x:Fin (pw ns us).length=> #[.string ((pw ns us).get x).1,((pw ns us).get x).2]) (et w.heap.size (w.heap.size+1)) (fun _=>True) (fun _=>True) (pw ns us).length W1:=by
  intro l J Jx W hW hJ d4 hY h0;refine AH (9 - 1) (by omega) l w1.heap.size A (pw ns us) (by rw[c9.out];exact d2.out) w.heap.size (w.heap.size+1) (et w.heap.size (w.heap.size+1) W1) (fun X Y h1 h2=>h1.t h2) (fun X hX=>?_) (fun X hX=>?_) (fun X k hX=>?_) J Jx W (et.of_below hW) hJ d4 hY h0
  ·exact aa (hX _ _ _ _ (.inr (by have:=a2.out;have:=a9.out;omega)) d5.out) (j:=0) rfl
  ·rw[c9.out];exact iE (Hh.out.kp (d0.out X hX))
  ·obtain⟨u,s,hu,hs,he⟩:=zN b9.out k;rw[he];exact nI (Hh.out.kp (d0.out X hX)) k.val hu hs
 have c1:=H8 a5;clear b8 a5;have d9:w.heap.size+2<=W1.heap.size:=by have:=c2.out;have:=a2.out;have:=a9.out;omega
 refine wpIn_rangeFunc_ownF rfl (by omega) (gf:=96) (lb:= #[.pointer (some ⟨w1.heap.size,0,none⟩)]) (by simp[Act.eval]) trivial (enters_of Tryz.func96 (by kernel_rfl) rfl)
  c1.out
  (fun h k=>h.t k) (fun W l o o' _ h ho _=>et.b W l o o' h ho) (Ze _ _) (fun _=>rfl)
  (Dp w (pw ns us).length) (fun _ _ _=>False) ?hI ?hIx c4.out
  (fun x=>{tmps:= #[.iface 103 (.pointer A),undef,.pointer (some ⟨w.heap.size,0,none⟩),.iface 103 (.pointer A),.bool true,undef,((pw ns us).get x).2,.iface 103 (.pointer A),.int .i64 6,.bool false,.tuple #[.iface 103 (.pointer A),.bool true],.iface 103 (.pointer A),.tuple #[.iface 103 (.pointer A),.bool true],.iface 103 (.pointer A),.bool true,.bool true,.iface 103 (.pointer A),.func (.func 96) #[] #[.pointer (some ⟨w1.heap.size,0,none⟩)],.string ((pw ns us).get x).1,((pw ns us).get x).2,undef,undef],defers:= []}) ?assign ?body ?done ?stop
 case hI=>
  intro s A B row hs hg hr;exact⟨hs.1.kept hg (fun r e=>(hr r e).2),hs.2.grown hg hs.2.size (fun k e=>by have:=(hr k e).1;omega)⟩
 case hIx=>exact fun _ _ _ _ _ hs _ _=>hs
 case assign=>
  intro l x W K hK;generalize (pw ns us).get x=y at hK ⊢;obtain⟨y1,y2⟩:=y
  dsimp only at hK ⊢
  gi_wp2
  exact hK
 case body=>
  rintro l pre x W ⟨hk,hB⟩ hN;obtain⟨u,s,hu,hs,he⟩:=zN b9.out x;have d6:x.val<ks.length:=by rw[<-Hh.out.len];exact(List.getElem?_eq_some_iff.1 hu).1
  have Hc:=H8 (HH.out x.val u _ hu (Zd d6) W hB)
  try dsimp only
  rw[he];have d3:=H8 hk;have c5:=H8 hB;clear hk hB
  gi_wp2_with fail
  refine⟨trivial,?_⟩;refine(CallsIn.inRound l (callsIn_wide.2 Hc.out)).mono ?_;rintro e W2 ⟨rfl,c8⟩;have b1:=H8 c8;clear c8
  gi_wp2
  exact⟨iF b1.out,et.of_below b1.out,d3.out.later b1.out,c5.out.trans (b1.out.mono c5.out.size)⟩
 case done=>
  rintro D ys W hD - ⟨hk,hB⟩ hK;have b8:=hk.cell;have e0:=hk.frozen
  gi_wp2
  have hne:w.heap.size≠D:=by omega
  have c7:(W.setCell ⟨w.heap.size,0,none⟩ (.bool false)).heap[D]?=some (.deferred (some [])):=(Below.heap_setCell W _ _ D (fun e=>hne e.symm)).trans hK;have b3:=hk.set (.bool false);refine⟨by simp,.inl ⟨_,_,rfl,run_takeDeferred c7,?_⟩⟩;have d1:((W.setCell ⟨w.heap.size,0,none⟩ (.bool false)).putObj D (.deferred none)).cell? ⟨w.heap.size,0,none⟩=some (.bool false):=by
   rw[World.cell?_of_block (w:=W.setCell ⟨w.heap.size,0,none⟩ (.bool false)) (World.putObj_heap_other hne)];exact b3.cell
  refine⟨.bool false,?_,rfl,?_⟩
  ·simp[results,Tryz.results100,go_sem,d1]
  ·exact(hB.setCell (p:=⟨w.heap.size,0,none⟩) (Zb _) _).trans (belowK_b (w:=w) (Zb _) _ D _ _ (by omega) c7 rfl rfl)
 case stop=>
  rintro D c pre W hD _ h _;exact h.elim
theorem up:Calls Tryz.prog 100 #[.iface 344 (.agg #[])] w fun e w'=>e =.returned (.bool false)/\Below w.heap.size w w':=by
 have k1:=rl;have a2:=H8 (show Below w.heap.size w (w.alloc (.cells #[.bool false] 4)) from(Ze _ _).alloc (Zb _) _);have Hk:=H8 (Bx.new w 4 (.bool false));go_enter Tryz.func100,Tryz.ntmps100;go_wp2_with fail;refine wY.mono ?_;rintro e w1 ⟨rfl,a1⟩;have a3:=H8 (a2.out.trans (a1.mono a2.out.size));have a0:=Hk.out.later a1;have a9:=a0.cell;have b0:=a0.frozen;have a5:=H8 (a0.set (.bool false)).cell;clear a1 a0;go_wp2_with fail;refine Zh (v:=.bool false) ?_ rfl ⟨rfl,a3.out.setCell (p:=⟨w.heap.size,0,none⟩) (Zb _) _⟩;have a4:=a5.out;simp[results,Tryz.results100,go_sem,a4]
theorem tV {b:Bool}:Calls Tryz.prog 100 #[.iface 342 (.bool b)] w fun e w'=>e =.returned (.bool false)/\Below w.heap.size w w':=by
 have k1:=pQ;have a2:=H8 (show Below w.heap.size w (w.alloc (.cells #[.bool false] 4)) from(Ze _ _).alloc (Zb _) _);have Hk:=H8 (Bx.new w 4 (.bool false));go_enter Tryz.func100,Tryz.ntmps100;go_wp2_with fail;refine xY.mono ?_;rintro e w1 ⟨rfl,a1⟩;have a3:=H8 (a2.out.trans (a1.mono a2.out.size));have a0:=Hk.out.later a1;have a9:=a0.cell;have b0:=a0.frozen;have a5:=H8 (a0.set (.bool false)).cell;clear a1 a0;go_wp2_with fail;refine Zh (v:=.bool false) ?_ rfl ⟨rfl,a3.out.setCell (p:=⟨w.heap.size,0,none⟩) (Zb _) _⟩;have a4:=a5.out;simp[results,Tryz.results100,go_sem,a4]
theorem wJ:Calls Tryz.prog 100 #[.iface 322 (.agg cs)] w fun e w'=>e =.returned (.bool false)/\Below w.heap.size w w':=by
 have k1:=tf;have a2:=H8 (show Below w.heap.size w (w.alloc (.cells #[.bool false] 4)) from(Ze _ _).alloc (Zb _) _);have Hk:=H8 (Bx.new w 4 (.bool false));go_enter Tryz.func100,Tryz.ntmps100;go_wp2_with fail;refine yH.mono ?_;rintro e w1 ⟨rfl,a1⟩;have a3:=H8 (a2.out.trans (a1.mono a2.out.size));have a0:=Hk.out.later a1;have a9:=a0.cell;have b0:=a0.frozen;have a5:=H8 (a0.set (.bool false)).cell;clear a1 a0;go_wp2_with fail;refine Zh (v:=.bool false) ?_ rfl ⟨rfl,a3.out.setCell (p:=⟨w.heap.size,0,none⟩) (Zb _) _⟩;have a4:=a5.out;simp[results,Tryz.results100,go_sem,a4]
theorem ub {s:ByteArray}:Calls Tryz.prog 100 #[.iface 83 (.string s)] w fun e w'=>e =.returned (.bool false)/\Below w.heap.size w w':=by
 have k1:=qW;have a2:=H8 (show Below w.heap.size w (w.alloc (.cells #[.bool false] 4)) from(Ze _ _).alloc (Zb _) _);have Hk:=H8 (Bx.new w 4 (.bool false));go_enter Tryz.func100,Tryz.ntmps100;go_wp2_with fail;refine wS.mono ?_;rintro e w1 ⟨rfl,a1⟩;have a3:=H8 (a2.out.trans (a1.mono a2.out.size));have a0:=Hk.out.later a1;have a9:=a0.cell;have b0:=a0.frozen;have a5:=H8 (a0.set (.bool false)).cell;clear a1 a0;go_wp2_with fail;refine Zh (v:=.bool false) ?_ rfl ⟨rfl,a3.out.setCell (p:=⟨w.heap.size,0,none⟩) (Zb _) _⟩;have a4:=a5.out;simp[results,Tryz.results100,go_sem,a4]
theorem wg (h:VW P w v j)(hT:dI w):Tx j->∀w1,Below w.heap.size w w1->Calls Tryz.prog 100 #[v] w1 fun e w'=>e =.returned (.bool false)/\Below w1.heap.size w1 w':=by
 induction h with
 |null=>intro _ w1 _;exact up
 |bool b=>intro _ w1 _;exact tV
 |num d=>intro _ w1 _;exact wJ
 |text s=>intro _ w1 _;exact ub
 |bare=>
  intro tx w1 h1;refine callsIn_wide.1 (lR (P:=P) (us:= []) (ks:= []) (.inl ⟨rfl,rfl,rfl⟩) (hT.below h1) fun i v k e1=>?_);simp at e1
 |list g A c us ks hp hg hr hl hks ih=>
  intro tx w1 h1;have hk:∀u∈ks,Tx u:=by cases tx;assumption
  have hL:dF P w (some ⟨g,0,none⟩) us ks:=.inr ⟨g,A,c,rfl,hg,hr,hl⟩;exact callsIn_wide.1 (lR (hL.below h1) (hT.below h1) fun i v k e1 e2 w2 h2=>ih i v k e1 e2 (hk k (Zk e2)) w2 (h1.trans (h2.mono h1.size)))
 |obj g A c us ns ks hp hg hr hl hn hks ih=>
  intro tx w1 h1;have hk:∀u∈ks,Tx u:=by cases tx;assumption
  have hL:eG P w (some ⟨g,0,none⟩) us ns ks:=⟨g,A,c,rfl,hg,hr,hl,hn⟩;exact callsIn_wide.1 (xu (hL.below h1) fun i v k e1 e2 w2 h2=>ih i v k e1 e2 (hk k (Zk e2)) w2 (h1.trans (h2.mono h1.size)))
theorem uE (p q:Value)(w:World):CallsD Tryz.prog 101 #[p,q] .returning w fun e u' w'=>e =.returned (.tuple #[])/\u' =.returning/\w'=w:=by
 refine callsD_of_wpS Tryz.func101 rfl fun c₀ cs hu=>?_
 apply wpS_seq
 apply wpS_region
 simp[wpOpsS,go_sem,recoverD,hu,Tryz.ntmps101,Exit.thenS];apply wpS_seq;apply wpS_region;simp[wpOpsS,go_sem,Exit.thenS];refine wpS_cond (t:=false) (by simp[Act.eval,Array.replicate]) ?_;simp only[Bool.false_eq_true,if_false];refine wpS_of_wp (wp_skip ?_)
 cases c₀
 simp_all [bodyPostS,results,Tryz.results101]
theorem BU (h0:w2.heap[w.heap.size]?=some (.cells #[x0] t0 (0,0)))(h1:w2.heap[w.heap.size+1]?=some (.cells #[x1] t1 (0,0)))(hb:Below w.heap.size w w2)(y0 y1:Value) :
  Below w.heap.size w ((w2.setCell ⟨w.heap.size,0,none⟩ y0).setCell ⟨w.heap.size+1,0,none⟩ y1)/\((w2.setCell ⟨w.heap.size,0,none⟩ y0).setCell ⟨w.heap.size+1,0,none⟩ y1).cell? ⟨w.heap.size,0,none⟩=some y0/\
   ((w2.setCell ⟨w.heap.size,0,none⟩ y0).setCell ⟨w.heap.size+1,0,none⟩ y1).cell? ⟨w.heap.size+1,0,none⟩=some y1:=by
 have a0:=au h0 0 y0;have a1:=aq w2 (w.heap.size+1) w.heap.size 0 y0 _ _ (by omega) h1;have b0:=aq _ w.heap.size (w.heap.size+1) 0 y1 _ _ (by omega) a0;have b1:=au a1 0 y1;exact⟨(hb.setCell (p:=⟨w.heap.size,0,none⟩) (Zb _) _).setCell (p:=⟨w.heap.size+1,0,none⟩) (Nat.le_succ _) _,aa b0 (j:=0) rfl,aa b1 (j:=0) rfl⟩
def CT (l:List UInt8)(w:World)(e:Ending)(w':World):Prop:= ∃v,e =.returned (.tuple #[v,.nilIface])/\ao w' w.heap.size v l/\Below w.heap.size w w'
theorem nf (h:VW P w v j)(hT:dI w)(hG:cd w aU aE)(tx:Tx j)(sz:Sz j)(hl:(JV.txt j).length<=140737488355328):Calls Tryz.prog 70 #[v] w (CT (JV.txt j) w):=by
 have b4:∀ (fn:Fn) (first cap:Array Value) (w:World),(Instr.makeFunc fn first cap).run Tryz.prog w =.ok (.func fn first cap) w:=fun _ _ _ _=>rfl
 have a5:Below w.heap.size w ((w.alloc (.cells #[.slice none 0 0] 28)).alloc (.cells #[.nilIface] 30)):=((Ze _ _).alloc (Zb _) _).alloc (by simp) _;have h0:((w.alloc (.cells #[.slice none 0 0] 28)).alloc (.cells #[.nilIface] 30)).heap[w.heap.size]?=some (.cells #[.slice none 0 0] 28 (0,0)):=(Below.heap_alloc _ _ _ (by simp)).trans (Zf w _);have h1:((w.alloc (.cells #[.slice none 0 0] 28)).alloc (.cells #[.nilIface] 30)).heap[w.heap.size+1]?=some (.cells #[.nilIface] 30 (0,0)):=by
  have:=Zf (w.alloc (.cells #[.slice none 0 0] 28)) (.cells #[.nilIface] 30)
  rwa[World.size_alloc] at this
 have hz:((w.alloc (.cells #[.slice none 0 0] 28)).alloc (.cells #[.nilIface] 30)).heap.size=w.heap.size+2:=by simp
 have a3:=H8 a5;have H0:=H8 h0;have H1:=H8 h1;have Hz:=H8 hz;have b2:=H8 (fun w1 (hw:Below w.heap.size w w1)=>wg h hT tx w1 hw);have a4:=H8 (fun w1 (hw:Below w.heap.size w w1)=>AE (h.later hw) (hT.below hw) (hG.below hw) tx sz w1 (.slice none 0 0) [] (Ze _ _) (ao.nil _ _) (by simpa using hl));obtain⟨t1,x1,rfl⟩:=h.iface;clear a5 h0 h1 hz h hT hG tx sz hl;generalize JV.txt j=tl at *;go_enter_defers Tryz.func70,Tryz.ntmps70;go_wp2_with fail;generalize (w.alloc (.cells #[.slice none 0 0] 28)).alloc (.cells #[.nilIface] 30)=w1 at *;refine(b2.out w1 a3.out).mono ?_;rintro e w2 ⟨rfl,a0⟩;have a2:=H8 (a3.out.trans (a0.mono a3.out.size));have G0:=H8 (ai H0.out a0);have G1:=H8 (ai H1.out a0);have b3:=H8 (show w.heap.size+2<=w2.heap.size by have:=Hz.out;have:=a0.size;omega);clear a0;go_wp2_with fail;refine(a4.out w2 a2.out).mono ?_;rintro e w3 ⟨v,rfl,ho,a1⟩;rw[List.nil_append] at ho;have Ho:=H8 ho;have b1:=H8 (a2.out.trans (a1.mono a2.out.size));have g0:=ai G0.out a1;have g1:=ai G1.out a1;have G03:=H8 g0;have G13:=H8 g1;have c0:=aa g0 (j:=0) (u:=.slice none 0 0) rfl;have f0:=aj g0 0;have c1:=aa g1 (j:=0) (u:=.nilIface) rfl;have f1:=aj g1 0;obtain⟨A,q,rfl,-⟩:=af ho;clear g0 g1 a1 ho;go_wp2_with fail;obtain⟨b0,d0,d1⟩:=BU G03.out G13.out b1.out (.slice A tl.length q) .nilIface;have a9:ao ((w3.setCell ⟨w.heap.size,0,none⟩ (.slice A tl.length q)).setCell ⟨w.heap.size+1,0,none⟩ .nilIface) w.heap.size (.slice A tl.length q) tl:=by
  have hz:=b3.out;have h1:=Ho.out.stayB (aM.set w.heap.size 0 (.slice A tl.length q)) (fun b hb e=>by have:=(ao.blk Ho.out hb).1;omega);have h2:=h1.stayB (aM.set (w.heap.size+1) 0 .nilIface) (fun b hb e=>by have:=(ao.blk h1 hb).1;omega);exact bB h2 (by omega)
 clear c0 c1 f0 f1;generalize (w3.setCell ⟨w.heap.size,0,none⟩ (.slice A tl.length q)).setCell ⟨w.heap.size+1,0,none⟩ .nilIface=w4 at *;refine leaves_cons (f:=101) (args:= #[.pointer (some ⟨w.heap.size,0,none⟩),.pointer (some ⟨w.heap.size+1,0,none⟩)]) (by simp) (by simp[go_sem]) ?_;refine(uE _ _ _).mono ?_;rintro e u' w'' ⟨rfl,rfl,rfl⟩;simp[Leaves,settle,results,Tryz.results70,go_sem,d0,d1];exact⟨_,rfl,a9,b0⟩
def bE:List ByteArray:= [⟨#[36,114,101,102]⟩,⟨#[97,108,108,79,102]⟩,⟨#[97,110,121,79,102]⟩,⟨#[111,110,101,79,102]⟩,⟨#[110,111,116]⟩,⟨#[105,102]⟩,⟨#[116,121,112,101]⟩,⟨#[101,110,117,109]⟩,⟨#[99,111,110,115,116]⟩,⟨#[109,105,110,105,109,117,109]⟩,⟨#[101,120,99,108,117,115,105,118,101,77,105,110,105,109,117,109]⟩,⟨#[109,97,120,105,109,117,109]⟩,⟨#[101,120,99,108,117,115,105,118,101,77,97,120,105,109,117,109]⟩,⟨#[109,117,108,116,105,112,108,101,79,102]⟩,⟨#[109,105,110,76,101,110,103,116,104]⟩,⟨#[109,97,120,76,101,110,103,116,104]⟩,⟨#[112,97,116,116,101,114,110]⟩,⟨#[112,114,101,102,105,120,73,116,101,109,115]⟩,⟨#[105,116,101,109,115]⟩,⟨#[99,111,110,116,97,105,110,115]⟩,⟨#[109,105,110,73,116,101,109,115]⟩,⟨#[109,97,120,73,116,101,109,115]⟩,⟨#[117,110,105,113,117,101,73,116,101,109,115]⟩,⟨#[112,114,111,112,101,114,116,105,101,115]⟩,⟨#[112,97,116,116,101,114,110,80,114,111,112,101,114,116,105,101,115]⟩,⟨#[97,100,100,105,116,105,111,110,97,108,80,114,111,112,101,114,116,105,101,115]⟩,⟨#[112,114,111,112,101,114,116,121,78,97,109,101,115]⟩,⟨#[114,101,113,117,105,114,101,100]⟩,⟨#[109,105,110,80,114,111,112,101,114,116,105,101,115]⟩,⟨#[109,97,120,80,114,111,112,101,114,116,105,101,115]⟩,⟨#[100,101,112,101,110,100,101,110,116,82,101,113,117,105,114,101,100]⟩,⟨#[100,101,112,101,110,100,101,110,116,83,99,104,101,109,97,115]⟩]
def vD:ByteArray:=⟨#[102,97,108,115,101]⟩
def AF (k:ByteArray):Prop:=k=vD\/k∈bE
theorem bQ {s:ByteArray}(h:∀c∈s.data.toList,c.toNat<128):bf s:=by
 refine⟨s.data.toList.map fun c=>(c.toNat:Int),?_,?_⟩
 ·intro c hc;obtain⟨x,hx,rfl⟩:=List.mem_map.1 hc;have:=h x hx;rw[bK];simp;omega
 ·generalize s.data.toList=l at *
  induction l with
  |nil=>rfl
  |cons x l ih=>
   rw[List.map_cons,List.flatMap_cons,<-ih (fun c hc=>h c (Zl _ hc)),j4 _ (h x (by simp)),UInt8.ofNat_toNat];rfl
theorem ta:∀k∈bE,k.size<=30/\k≠mt/\∀c∈k.data.toList,c.toNat<128:=by decide
theorem AF.fine {k:ByteArray}(h:AF k):k.size<=30/\k≠mt/\bf k:=by
 rcases h with rfl|h
 ·exact⟨by decide,by decide,bQ (by decide)⟩
 ·obtain⟨h1,h2,h3⟩:=ta k h;exact⟨h1,h2,bQ h3⟩
def kj (e:En):Prop:=aT e.eAt/\aT e.eSch/\AF e.eKw
def fS (e:En):Prop:=aT e.eAt/\aT e.eSch/\e.eKw.size<=30/\bf e.eKw
theorem kj.en {e:En}(h:kj e):fS e:=⟨h.1,h.2.1,h.2.2.fine.1,h.2.2.fine.2.2⟩
theorem zg (h:aT p):fS (fZ p):=⟨h,gC,(by decide:mt.size<=30),bQ (s:=mt) (by decide)⟩
theorem fS.enp {e:En}(h:fS e):F2 e:=⟨h.1.ptr,h.2.1.ptr⟩
theorem EF {x:List En}(hx:∀e∈x,kj e)(hy:∀p∈y,aT p):∀e∈eV x y,fS e:=fun e he=>by
 rcases ci.1 he with h|⟨p,hp,-,rfl⟩
 ·exact(hx e h.1).en
 ·exact zg (hy p hp)
theorem bF.ok {x:List En}{es:List En}(h:bF x y es)(hx:∀e∈x,kj e)(hy:∀p∈y,aT p):∀e∈es,fS e:=fun e he=>EF hx hy e ((h.mem e).1 he)
def iA:ByteArray:=⟨#[97,116]⟩
def ib:ByteArray:=⟨#[107,101,121,119,111,114,100]⟩
def iB:ByteArray:=⟨#[115,99,104,101,109,97]⟩
def mZ:ByteArray:=⟨#[101,110,116,114,105,101,115]⟩
def mc:ByteArray:=⟨#[111,117,116,99,111,109,101]⟩
def cJ:List ByteArray:= [⟨#[]⟩,⟨#[118,97,108,105,100]⟩,⟨#[105,110,118,97,108,105,100]⟩,⟨#[98,97,100,32,115,99,104,101,109,97]⟩,⟨#[98,97,100,32,100,111,99,117,109,101,110,116]⟩,⟨#[111,118,101,114,32,108,105,109,105,116]⟩]
def bA (o:Nat):ByteArray:=cJ.getD o ⟨#[]⟩
def ec (e:En):JV:=fQ [(iA,aY e.eAt),(ib,aY e.eKw),(iB,aY e.eSch)]
def cO (o:Nat)(es:List En):JV:=fQ [(mZ,cD (es.map ec)),(mc,aY (bA o))]
theorem FL:B7 [iA,ib,iB]:=by
 have e1:aJ (nm iA) (nm ib) = -1:=rfl;have e2:aJ (nm iA) (nm iB) = -1:=rfl;have e3:aJ (nm ib) (nm iB) = -1:=rfl;refine List.pairwise_cons.2 ⟨fun b hb=>?_,List.pairwise_cons.2 ⟨fun b hb=>?_,List.pairwise_singleton _ _⟩⟩
 ·simp only[List.mem_cons,List.mem_nil_iff,or_false] at hb;rcases hb with rfl|rfl
  ·show aJ _ _<0;rw[e1];decide
  ·show aJ _ _<0;rw[e2];decide
 ·simp only[List.mem_cons,List.mem_nil_iff,or_false] at hb;subst hb
  show aJ _ _<0;rw[e3];decide
theorem Fm:B7 [mZ,mc]:=by
 have e1:aJ (nm mZ) (nm mc) = -1:=rfl;refine List.pairwise_cons.2 ⟨fun b hb=>?_,List.pairwise_singleton _ _⟩;rw[List.mem_singleton.1 hb]
 show aJ _ _<0;rw[e1];decide
theorem dR (o:Nat):bf (bA o)/\(bA o).size<=30:=by
 by_cases h:o<6
 ·have:∀o<6,(bA o).size<=30/\∀c∈(bA o).data.toList,c.toNat<128:=by decide
  exact⟨bQ (this o h).2,(this o h).1⟩
 ·have e:bA o= ⟨#[]⟩:=by unfold bA;rw[List.getD_eq_getElem?_getD,List.getElem?_eq_none (by simp[cJ];omega)];rfl
  rw[e];exact⟨bQ (by simp),by decide⟩
theorem bg:bf iA/\bf ib/\bf iB/\bf mZ/\bf mc:=⟨bQ (by decide),bQ (by decide),bQ (by decide),bQ (by decide),bQ (by decide)⟩
theorem Eh {e:En}(h:fS e):Tx (ec e):=by
 obtain⟨n1,n2,n3,-⟩:=bg;refine .obj [iA,ib,iB] [aY e.eAt,aY e.eKw,aY e.eSch] rfl (fun s hs=>?_) FL (fun u hu=>?_)
 ·simp only[List.mem_cons,List.mem_nil_iff,or_false] at hs;rcases hs with rfl|rfl|rfl <;> assumption
 ·simp only[List.mem_cons,List.mem_nil_iff,or_false] at hu;rcases hu with rfl|rfl|rfl
  ·exact .text _ h.1.utf
  ·exact .text _ h.2.2.2
  ·exact .text _ h.2.1.utf
theorem uW {es:List En}(h:∀e∈es,fS e):Tx (cO o es):=by
 obtain⟨-,-,-,n4,n5⟩:=bg;refine .obj [mZ,mc] [cD (es.map ec),aY (bA o)] rfl (fun s hs=>?_) Fm (fun u hu=>?_)
 ·simp only[List.mem_cons,List.mem_nil_iff,or_false] at hs;rcases hs with rfl|rfl <;> assumption
 ·simp only[List.mem_cons,List.mem_nil_iff,or_false] at hu;rcases hu with rfl|rfl
  ·refine .list _ fun u hu=>?_
   obtain⟨e,he,rfl⟩:=List.mem_map.1 hu;exact Eh (h e he)
  ·exact .text _ (dR o).1
def Dt (L:Nat)(e:En):Prop:=e.eAt.size<=L/\e.eSch.size<=L
theorem CQ (hL:30<=L){e:En}(h:fS e)(hb:Dt L e):yu L (ec e):=by
 obtain⟨n1,n2,n3,-⟩:=bg;have s1:iA.size<=30:=by decide
 have s2:ib.size<=30:=by decide
 have s3:iB.size<=30:=by decide
 refine .obj [iA,ib,iB] [aY e.eAt,aY e.eKw,aY e.eSch] rfl (fun s hs=>?_) (fun u hu=>?_)
 ·simp only[List.mem_cons,List.mem_nil_iff,or_false] at hs;rcases hs with rfl|rfl|rfl
  ·exact⟨n1,by omega⟩
  ·exact⟨n2,by omega⟩
  ·exact⟨n3,by omega⟩
 ·simp only[List.mem_cons,List.mem_nil_iff,or_false] at hu;rcases hu with rfl|rfl|rfl
  ·exact .text _ h.1.utf hb.1
  ·exact .text _ h.2.2.2 (by have:=h.2.2.1;omega)
  ·exact .text _ h.2.1.utf hb.2
theorem CO (hL:30<=L){es:List En}(h:∀e∈es,fS e)(hb:∀e∈es,Dt L e):yu L (cO o es):=by
 obtain⟨-,-,-,n4,n5⟩:=bg;have s4:mZ.size<=30:=by decide
 have s5:mc.size<=30:=by decide
 refine .obj [mZ,mc] [cD (es.map ec),aY (bA o)] rfl (fun s hs=>?_) (fun u hu=>?_)
 ·simp only[List.mem_cons,List.mem_nil_iff,or_false] at hs;rcases hs with rfl|rfl
  ·exact⟨n4,by omega⟩
  ·exact⟨n5,by omega⟩
 ·simp only[List.mem_cons,List.mem_nil_iff,or_false] at hu;rcases hu with rfl|rfl
  ·refine .list _ fun u hu=>?_
   obtain⟨e,he,rfl⟩:=List.mem_map.1 hu;exact CQ hL (h e he) (hb e he)
  ·exact .text _ (dR o).1 (by have:=(dR o).2;omega)
theorem yd (es:List En):JV.sizes (es.map ec)=4*es.length:=by
 induction es with
 |nil=>rfl
 |cons e es ih=>
  rw[List.map_cons,List.length_cons,JV.sizes,ih];have:(ec e).size=4:=by simp[ec,fQ,aY,JV.size,JV.sizes]
  omega
theorem B4 (hL:30<=L){es:List En}(h:∀e∈es,fS e)(hb:∀e∈es,Dt L e):(cO o es).txt.length<=(4*es.length+3)* (12*L+40):=by
 have h1:=(CO (o:=o) hL h hb).len;have h2:(cO o es).size=4*es.length+3:=by
  have:=yd es;simp[cO,fQ,aY,cD,JV.size,JV.sizes,this];omega
 rw[h2] at h1;omega
theorem fY {s:ByteArray}(h:s.size<=1000000000):Sz (aY s):=.mk _ _ _ _ _ _ h (by decide) (by simp) (by simp)
theorem EH (hL:L<=1000000000){e:En}(h:fS e)(hb:Dt L e):Sz (ec e):=by
 refine .mk _ _ _ _ _ _ (by decide) (by decide) (fun s hs=>?_) (fun u hu=>?_)
 ·simp only[List.map_cons,List.map_nil,List.mem_cons,List.mem_nil_iff,or_false] at hs;rcases hs with rfl|rfl|rfl <;> decide
 ·simp only[List.map_cons,List.map_nil,List.mem_cons,List.mem_nil_iff,or_false] at hu;rcases hu with rfl|rfl|rfl
  ·exact fY (by have:=hb.1;omega)
  ·exact fY (by have:=h.2.2.1;omega)
  ·exact fY (by have:=hb.2;omega)
theorem D1 (hL:L<=1000000000){es:List En}(h:∀e∈es,fS e)(hb:∀e∈es,Dt L e):Sz (cO o es):=by
 refine .mk _ _ _ _ _ _ (by decide) (by decide) (fun s hs=>?_) (fun u hu=>?_)
 ·simp only[List.map_cons,List.map_nil,List.mem_cons,List.mem_nil_iff,or_false] at hs;rcases hs with rfl|rfl <;> decide
 ·simp only[List.map_cons,List.map_nil,List.mem_cons,List.mem_nil_iff,or_false] at hu;rcases hu with rfl|rfl
  ·refine .mk _ _ _ _ _ _ (by decide) (by decide) (by simp) (fun u hu=>?_);obtain⟨e,he,rfl⟩:=List.mem_map.1 hu;exact EH hL (h e he) (hb e he)
  ·exact fY (by have:=(dR o).2;omega)
def sH (l:List UInt8):Prop:= ∃cs:List Int,(∀c∈cs,b6 c=true)/\l=cs.flatMap aO
theorem sH.nil:sH []:=⟨[],by simp,rfl⟩
theorem sH.app {c:Int}(hc:b6 c=true){l:List UInt8}(h:sH l):sH (aO c++l):=by
 obtain⟨cs,h1,rfl⟩:=h;exact⟨c::cs,fun d hd=>by rcases List.mem_cons.1 hd with rfl|hd;exact hc;exact h1 d hd,by simp⟩
theorem oZ {c:Int}(h:b6 c=true):(∃x:UInt8,x.toNat<128/\aO c = [x]/\c=x.toNat)\/∀x∈aO c,128<=x.toNat:=by
 have h0:=bX h;obtain⟨n,rfl⟩:∃n:Nat,c=n:=⟨c.toNat,by omega⟩;have hn:=h;rw[bK] at hn;simp only[decide_eq_true_eq] at hn
 by_cases h1:n<128
 ·exact .inl ⟨UInt8.ofNat n,by rw[bh n (by omega)];exact h1,j4 n h1,by rw[bh n (by omega)]⟩
 ·right
  have big:∀k,128<=k->k<256->128<=(UInt8.ofNat k).toNat:=fun k h2 h3=>by rw[bh k h3];exact h2
  intro x hx
  by_cases h2:n<2048
  ·rw[nG n ⟨by omega,h2⟩] at hx;simp only[List.mem_cons,List.mem_nil_iff,or_false] at hx;rcases hx with rfl|rfl <;> exact big _ (by omega) (by omega)
  ·by_cases h3:n<65536
   ·rw[lu n ⟨by omega,h3⟩ hn.2] at hx;simp only[List.mem_cons,List.mem_nil_iff,or_false] at hx;rcases hx with rfl|rfl|rfl <;> exact big _ (by omega) (by omega)
   ·rw[mW n ⟨by omega,hn.1⟩] at hx;simp only[List.mem_cons,List.mem_nil_iff,or_false] at hx;rcases hx with rfl|rfl|rfl|rfl <;> exact big _ (by omega) (by omega)
theorem yL {a:List UInt8}(h:47∉a){b:List UInt8}{x:List UInt8}{r:List (List UInt8)}(e:bT b=x::r):bT (a++b)= (a++x)::r:=by
 induction a with
 |nil=>exact e
 |cons c t ih=>
  have h1:c≠47:=fun e=>h (by simp[e])
  rw[List.cons_append,bT,if_neg h1,ih (fun e=>h (by simp[e]))];rfl
theorem zB:∀ (cs:List Int),(∀c∈cs,b6 c=true)->∀p∈bT (cs.flatMap aO),sH p:=by
 intro cs
 induction cs with
 |nil=>intro _ p hp;simp[bT] at hp;subst hp;exact .nil
 |cons c cs ih=>
  intro h p hp;have hc:=h c (by simp);have ih:=ih fun d hd=>h d (by simp[hd])
  rw[List.flatMap_cons] at hp
  by_cases h47:c=47
  ·subst h47;have e:aO 47 = [47]:=by decide
   rw[e,List.singleton_append,bT,if_pos rfl] at hp;rcases List.mem_cons.1 hp with rfl|hp
   ·exact .nil
   ·exact ih p hp
  ·obtain⟨x,r,e⟩:∃x r,bT (cs.flatMap aO)=x::r:=by
    cases e:bT (cs.flatMap aO) with
    |nil=>exact absurd e (ja _)
    |cons x r=>exact⟨x,r,rfl⟩
   rw[yL (fun hm=>by
    rcases oZ hc with ⟨x,-,e2,e3⟩|hb
    ·rw[e2,List.mem_singleton] at hm;rw[<-hm] at e3;exact h47 e3
    ·exact absurd (hb 47 hm) (by decide)) e] at hp
   rw[e] at ih;rcases List.mem_cons.1 hp with rfl|hp
   ·exact sH.app hc (ih x (by simp))
   ·exact ih p (by simp[hp])
theorem zt {b c:UInt8}{a:List UInt8}(h:126∉a)(t:List UInt8):cj b c (a++t)=a++cj b c t:=by
 induction a with
 |nil=>rfl
 |cons x a ih=>rw[List.cons_append,eU (fun e=>h (by simp[e])),ih (fun e=>h (by simp[e]))];rfl
theorem Dh {c:UInt8}(h:c.toNat<128):b6 (c.toNat:Int)=true/\aO (c.toNat:Int) = [c]:=⟨by rw[bK];simp;omega,by rw[j4 _ h,UInt8.ofNat_toNat]⟩
theorem rk {b c:UInt8}(hb:b.toNat<128)(hc:c.toNat<128):∀ (n:Nat) (cs:List Int),cs.length<=n->(∀c∈cs,b6 c=true)->sH (cj b c (cs.flatMap aO)):=by
 intro n
 induction n with
 |zero=>intro cs h _;obtain rfl:=List.eq_nil_of_length_eq_zero (show cs.length=0 by omega);exact .nil
 |succ n ih=>
  intro cs hn h
  cases cs with
  |nil=>exact .nil
  |cons d ds=>
   have hd:=h d (by simp);have a0:∀c∈ds,b6 c=true:=fun e he=>h e (by simp[he])
   simp only[List.length_cons] at hn;rw[List.flatMap_cons]
   by_cases h126:d=126
   ·subst h126;rw[show aO 126 = [126] by decide,List.singleton_append]
    cases ds with
    |nil=>exact⟨[126],by simp;decide,rfl⟩
    |cons e es=>
     have he:=a0 e (by simp);simp only[List.length_cons] at hn;rw[List.flatMap_cons];have miss:∀x t,aO e=x::t->x≠b->sH (cj b c (126:: (aO e++es.flatMap aO))):=by
      intro x t e2 hx;rw[e2,List.cons_append,mR hx,<-List.cons_append,<-e2,<-List.flatMap_cons];exact sH.app (c:=126) (by decide) (ih (e::es) (by simp;omega) a0)
     rcases oZ he with ⟨x,hx,e2,-⟩|a1
     ·by_cases hxb:x=b
      ·rw[e2,List.singleton_append,hxb,jc];have o:=Dh hc;have:=sH.app o.1 (ih es (by omega) fun f hf=>a0 f (by simp[hf]));rw[o.2] at this;exact this
      ·exact miss x [] e2 hxb
     ·cases e2:aO e with
      |nil=>exact absurd e2 (ga he)
      |cons x t=>
       rw[<-e2];exact miss x t e2 (fun e3=>by have:=a1 x (by rw[e2];simp);rw[e3] at this;omega)
   ·rw[zt (fun hm=>by
     rcases oZ hd with ⟨x,-,e2,e3⟩|a2
     ·rw[e2,List.mem_singleton] at hm;rw[<-hm] at e3;exact h126 e3
     ·exact absurd (a2 126 hm) (by decide))]
    exact sH.app hd (ih ds (by omega) a0)
theorem Cl {l:List UInt8}(h:sH l):sH (pC l):=by
 obtain⟨cs,h1,rfl⟩:=h;obtain⟨ds,h2,h3⟩:=rk (b:=49) (c:=47) (by decide) (by decide) _ cs (Zb _) h1;unfold pC;rw[h3];exact rk (by decide) (by decide) _ ds (Zb _) h2
theorem wF {s:ByteArray}(h:aT s):∀p∈bi s.data.toList,sH p:=by
 intro p hp;obtain⟨cs,h1,h2⟩:=h.utf;rw[h2] at hp
 cases hx:cs.flatMap aO with
 |nil=>rw[hx] at hp;simp[bi] at hp
 |cons x t=>
  rw[hx,bi] at hp;obtain⟨q,hq,rfl⟩:=List.mem_map.1 hp;refine Cl ?_;rcases h with h|⟨h,-⟩
  ·rw[h2,hx] at h;cases h
  ·rw[h2,hx] at h;obtain rfl:x=47:=by simpa using h
   have:=zB cs h1 q;rw[hx,bT,if_pos rfl] at this;exact this (by simp[hq])
theorem BV (x:List UInt8):∀y:List UInt8,EI x y=cB (fun x y:UInt8=>mr x.toNat y.toNat) x y:=by
 induction x with
 |nil=>intro y;cases y <;> rfl
 |cons a x ih=>
  intro y
  cases y with
  |nil=>rfl
  |cons b y=>
   have ih:=ih y;rw[cB]
   by_cases h1:a<b
   ·have a0:a.toNat<b.toNat:=h1;simp[mr,EI,Op.bytesLess,h1,a0]
   ·have a0:¬a.toNat<b.toNat:=h1
    by_cases h2:b<a
    ·have a1:b.toNat<a.toNat:=h2;have:a≠b:=fun e=>by subst e;exact absurd a1 (Nat.lt_irrefl _)
     simp[mr,EI,Op.bytesLess,h1,a0,a1,this]
    ·have a1:¬b.toNat<a.toNat:=h2;have e:a=b:=UInt8.toNat_inj.1 (by omega);subst e;rw[if_pos (by simp[mr]),<-ih];simp[EI,Op.bytesLess,h1]
theorem yU (a b:ByteArray):EI a.toList b.toList=tT a b:=by
 unfold tT;rw[ByteArray.toList_eq,ByteArray.toList_eq,BV]
theorem tP (s:ByteArray):∀ (n:Nat) (cs:List Int) (p:Nat) (acc:Array Value),(∀c∈cs,b6 c=true)->s.data.toList.drop p=cs.flatMap aO->cs.length<=n->Conv.runesFrom s n p acc=acc++ (cs.map eC).toArray:=by
 intro n
 induction n with
 |zero=>
  intro cs p acc _ _ h;obtain rfl:=List.eq_nil_of_length_eq_zero (show cs.length=0 by omega);simp[Conv.runesFrom]
 |succ n ih=>
  intro cs p acc hc hd h;have hl:s.data.toList.length=s.size:=by simp
  cases cs with
  |nil=>
   have hp:¬p<s.size:=by
    have:=congrArg List.length hd;rw[List.length_drop] at this;simp at this;omega
   unfold Conv.runesFrom;rw[if_neg hp];simp
  |cons c cs=>
   have h0:=hc c (by simp);have hlen:=congrArg List.length hd;rw[List.length_drop,hl,List.flatMap_cons,List.length_append] at hlen;have a1:(aO c).length≠0:=fun e=>ga h0 (List.eq_nil_of_length_eq_zero e)
   have hlt:p<s.size:=by omega
   unfold Conv.runesFrom;rw[if_pos hlt,iq s p hlt,hd,List.flatMap_cons,kH h0,if_pos rfl]
   dsimp only
   have a0:Int.ofNat c.toNat=c:=by have:=bX h0;show((c.toNat:Nat):Int)=c;omega
   rw[a0,ih cs _ _ (fun d hd=>hc d (by simp[hd])) (by rw[<-List.drop_drop,hd,List.flatMap_cons,List.drop_left]) (by simp at h;omega)];simp[eC]
theorem la (W:World)(s:ByteArray)(hs:bf s)(hz:s.size<=1000000000):∃W2 q,(convert 9 180 (.string s)).run Tryz.prog W =.ok (.slice (some ⟨W.heap.size,0,none⟩) (nm s).length q) W2/\
  Below W.heap.size W W2/\xp W2 W.heap.size (.slice (some ⟨W.heap.size,0,none⟩) (nm s).length q) (nm s)/\W2.heap.size=W.heap.size+1:=by
 obtain⟨hc,hd⟩:=hs.nm;have a0:s.data.toList.length=s.size:=by simp
 have a1:(nm s).length<=s.size:=by have:=dq hc;rw[hd,a0] at this;exact this
 have e:Conv.runesFrom s s.size 0 #[]= ((nm s).map eC).toArray:=by
  rw[tP s s.size (nm s) 0 #[] hc hd.symm a1];simp
 have ez:(((nm s).map eC).toArray).size= (nm s).length:=by simp
 have hr:=run_runes_of_string (P:=Tryz.prog) W 9 180 21 s Tryz.underlying9 Tryz.underlying180 Tryz.underlying21 (by rw[e,ez];omega);rw[e,ez] at hr;have a2:=grownCap_ge W (nm s).length 0 21;have hle:=grownCap_le_maxLen W (nm s).length 0 21 (by unfold maxLen;omega);generalize grownCap W (nm s).length 0 21=q at *;refine⟨_,q,hr,?_,?_,by simp⟩
 ·exact(ap (Ze W.heap.size W) 1).alloc (Zb _) _
 ·have hh:=Zf W.drew (.cells (((nm s).map eC).toArray++Array.replicate (q - (nm s).length) (.int .i32 0)) 21);refine⟨by simp,.inr ⟨W.heap.size,q,_,rfl,Zb _,hh,a2,hle,by simp;omega,?_⟩⟩;simp
theorem uy {s t:ByteArray}(hs:bf s)(ht:bf t)(hz:s.size<=1000000000)(hy:t.size<=1000000000):Calls Tryz.prog 138 #[.string s,.string t] w fun e w'=>e =.returned (.int .i64 (aJ (nm s) (nm t)))/\Below w.heap.size w w':=by
 have a4:(nm s).length<=4294967296:=by have:=dq hs.nm.1;rw[hs.nm.2] at this;have h2:s.data.toList.length=s.size:=(by simp);omega
 have a9:(nm t).length<=4294967296:=by have:=dq ht.nm.1;rw[ht.nm.2] at this;have h2:t.data.toList.length=t.size:=(by simp);omega
 obtain⟨W2,q,h1,a1,a3,b1⟩:=la w s hs hz;obtain⟨W3,r,h2,a2,a5,-⟩:=la W2 t ht hy;have b0:=a1.trans (a2.mono a1.size);have a0:xp W3 w.heap.size (.slice (some ⟨w.heap.size,0,none⟩) (nm s).length q) (nm s):=ag a3 a2 (Zb _);have H:=H8 (gH a0 a5 a4 a9);have b2:=H8 b0;generalize nm s=x at *;generalize nm t=y at *;clear hs ht hz hy a4 a9 a1 a2 b0 a3 a5 a0 b1;go_enter Tryz.func138,Tryz.ntmps138;go_wp2_with fail;refine Za H ?_;rintro e w' ⟨rfl,rfl⟩;go_wp2_with fail;go_ret;exact⟨rfl,b2.out⟩
