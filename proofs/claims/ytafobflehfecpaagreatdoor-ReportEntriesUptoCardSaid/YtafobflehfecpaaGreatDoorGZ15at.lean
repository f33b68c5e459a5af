import Derived.Test.YtafobflehfecpaaGreatDoorGZ15as
import Derived.Test.YtafobflehfecpaaGreatDoorGZ15an
set_option linter.unusedVariables false
set_option linter.unusedSimpArgs false
set_option maxHeartbeats 64000000
set_option maxRecDepth 100000
namespace Go.Proofs.YtafobflehfecpaaGreatDoor
open Go.RowKit Go.Shelf
variable {aE aU:Addr}{cs:Array Value}{p:ByteArray}{j:JV}{ns y:List ByteArray}{ks:List JV}{us:List Value}{L o:Nat}{P:Nat->Prop}{A:Option Addr}{t0 t1:TypeId}{v x0 x1:Value}{w w2:World}
attribute [local go_sem] Oper.semAt_some
def pD (ns:List ByteArray)(us:List Value):List (ByteArray×Value):=ns.zip us
theorem vF (h:ns.length=us.length):(pD ns us).length=us.length:=by simp[pD,h]
theorem AD (h:ns.length=us.length)(i:Fin (pD ns us).length):∃u s,us[i.val]?=some u/\ns[i.val]?=some s/\(pD ns us).get i= (s,u):=by
 have hi:i.val<us.length:=by have h1:=i.isLt;have h2:=vF h;omega
 have hj:i.val<ns.length:=by omega
 exact⟨us[i.val],ns[i.val],Zd hi,Zd hj,by
  show(pD ns us)[i.val]'i.isLt=_
  simp only[pD,List.getElem_zip]⟩
theorem xc (h:eI P w A us ns ks)
  (H:∀ (i:Nat) v k,us[i]?=some v->ks[i]?=some k->∀w1,Below w.heap.size w w1->Calls Tryz.prog 63 #[v] w1 fun e w'=>e =.returned (.bool false)/\Below w1.heap.size w1 w') :
  CallsIn Fence.wide 9 Tryz.prog 63 #[.iface 97 (.pointer A)] w fun e w'=>e =.returned (.bool false)/\Below w.heap.size w w':=by
 have k1:=sM;have Hh:=Qa h;have c0:=Qa (show ns.length=us.length by rw[h.names,h.len]);have HH:=Qa H;clear h H;refine callsIn_of_wp_marks Tryz.func63 rfl trivial ?_ rfl;simp only[Tryz.ntmps63,List.size_toArray,List.length_cons,List.length_nil,Nat.reduceAdd,Nat.reduceSub,Array.replicate_succ,Array.replicate_zero,List.push_toArray,List.append_toArray,List.nil_append,List.cons_append];have Hk:=Qa (Bx.new w 4 (.bool false));have a5:=Qa (show Below w.heap.size w (w.alloc (.cells #[.bool false] 4)) from(Ze _ _).alloc (Zb _) _)
 gi_wp2_with fail
 obtain⟨W0,b4⟩:∃W0,w.alloc (.cells #[.bool false] 4)=W0:=⟨_,rfl⟩;have a3:W0.heap.size=w.heap.size+1:=by rw[<-b4];simp
 rw[b4] at Hk a5 ⊢;have b0:=Qa a3;clear b4 a3;refine⟨fun _ _=>trivial,?_⟩;go_invoke
 gi_wp2_with fail
 refine(callsIn_wide.2 z7).mono ?_;rintro e w1 ⟨rfl,c4⟩;have a2:=Qa c4;clear c4
 gi_wp2_with fail
 refine⟨trivial,?_⟩;refine(callsIn_wide.2 jz).mono ?_;rintro e w2 ⟨rfl,rfl⟩;have a1:W0.heap.size<=w1.heap.size:=a2.out.size;have b1:=ac w1 (.cells #[.iface 97 (.pointer A)] 174);have b9:=Zf w1 (.cells #[.iface 97 (.pointer A)] 174);obtain⟨W1,c2⟩:∃W1,w1.alloc (.cells #[.iface 97 (.pointer A)] 174)=W1:=⟨_,rfl⟩;have a0:W1.heap.size=w1.heap.size+1:=by rw[<-c2];simp
 rw[c2] at b1 b9 ⊢;clear c2;have c9:Cg w (pD ns us).length [] W1:=⟨(Hk.out.later a2.out).later b1,a5.out.trans ((a2.out.mono a5.out.size).trans (b1.mono (Zc a5.out.size a2.out.size)))⟩;have c6:=Qa c9;have b8:=Qa a0;have d5:=Qa b9;have a4:=Qa a1;clear b1 b9 c9 a0 a1 Hk a5 a2
 gi_wp2
 have c1:∀X,eu w.heap.size (w.heap.size+1) W1 X->Fj w X:=fun X hX g cs t z hg=>hX g cs t z (.inl (ag hg)) ((c6.out.2.block g (ag hg)).trans hg)
 have d0:=Qa c1;have c8:=Qa (vF c0.out);have d1:=Qa Hh.out.bd;have a9:SeqStopsK Fence.wide (9 - 1) Tryz.prog 97 #[.pointer (some ⟨w1.heap.size,0,none⟩)] (fun x:Fin (pD ns us).length=> #[.string ((pD ns us).get x).1,((pD ns us).get x).2]) (eu w.heap.size (w.heap.size+1)) (fun _=>True) (fun _=>True) (pD ns us).length W1:=by
  intro l J Jx W hW hJ d9 hY h0;refine Bo (9 - 1) (by omega) l w1.heap.size A (pD ns us) (by rw[c8.out];exact d1.out) w.heap.size (w.heap.size+1) (eu w.heap.size (w.heap.size+1) W1) (fun X Y h1 h2=>h1.t h2) (fun X hX=>?_) (fun X hX=>?_) (fun X k hX=>?_) J Jx W (eu.of_below hW) hJ d9 hY h0
  ·exact aa (hX _ _ _ _ (.inr (by have:=a4.out;have:=b0.out;omega)) d5.out) (j:=0) rfl
  ·rw[c8.out];exact jg (Hh.out.kp (d0.out X hX))
  ·obtain⟨u,s,hu,hs,he⟩:=AD c0.out k;rw[he];exact nw (Hh.out.kp (d0.out X hX)) k.val hu hs
 have b3:=Qa a9;clear c1 a9;have d2:w.heap.size+2<=W1.heap.size:=by have:=b8.out;have:=a4.out;have:=b0.out;omega
 refine wpIn_rangeFunc_ownF rfl (by omega) (gf:=97) (lb:= #[.pointer (some ⟨w1.heap.size,0,none⟩)]) (by simp[Act.eval]) trivial (enters_of Tryz.func97 (by kernel_rfl) rfl)
  b3.out
  (fun h k=>h.t k) (fun W l o o' _ h ho _=>eu.b W l o o' h ho) (Ze _ _) (fun _=>rfl)
  (Cg w (pD ns us).length) (fun _ _ _=>False) ?hI ?hIx c6.out
  (fun x=>{tmps:= #[.iface 97 (.pointer A),undef,.pointer (some ⟨w.heap.size,0,none⟩),.iface 97 (.pointer A),.bool true,undef,((pD ns us).get x).2,.iface 97 (.pointer A),.int .i64 6,.bool false,.tuple #[.iface 97 (.pointer A),.bool true],.iface 97 (.pointer A),.tuple #[.iface 97 (.pointer A),.bool true],.iface 97 (.pointer A),.bool true,.bool true,.iface 97 (.pointer A),.func (.func 97) #[] #[.pointer (some ⟨w1.heap.size,0,none⟩)],.string ((pD ns us).get x).1,((pD ns us).get x).2,undef,undef],defers:= []}) ?assign ?body ?done ?stop
 case hI=>
  intro s A B row hs hg hr;exact⟨hs.1.kept hg (fun r e=>(hr r e).2),hs.2.grown hg hs.2.size (fun k e=>by have:=(hr k e).1;omega)⟩
 case hIx=>exact fun _ _ _ _ _ hs _ _=>hs
 case assign=>
  intro l x W K hK;generalize (pD ns us).get x=y at hK ⊢;obtain⟨y1,y2⟩:=y
  dsimp only at hK ⊢
  gi_wp2
  exact hK
 case body=>
  rintro l pre x W ⟨hk,hB⟩ hN;obtain⟨u,s,hu,hs,he⟩:=AD c0.out x;have d3:x.val<ks.length:=by rw[<-Hh.out.len];exact(List.getElem?_eq_some_iff.1 hu).1
  have Hc:=Qa (HH.out x.val u _ hu (Zd d3) W hB)
  try dsimp only
  rw[he];have d4:=Qa hk;have c3:=Qa hB;clear hk hB
  gi_wp2_with fail
  refine⟨trivial,?_⟩;refine(CallsIn.inRound l (callsIn_wide.2 Hc.out)).mono ?_;rintro e W2 ⟨rfl,c5⟩;have b2:=Qa c5;clear c5
  gi_wp2
  exact⟨jf b2.out,eu.of_below b2.out,d4.out.later b2.out,c3.out.trans (b2.out.mono c3.out.size)⟩
 case done=>
  rintro D ys W hD - ⟨hk,hB⟩ hK;have c1:=hk.cell;have e0:=hk.frozen
  gi_wp2
  have hne:w.heap.size≠D:=by omega
  have c7:(W.setCell ⟨w.heap.size,0,none⟩ (.bool false)).heap[D]?=some (.deferred (some [])):=(Below.heap_setCell W _ _ D (fun e=>hne e.symm)).trans hK;have b5:=hk.set (.bool false);refine⟨by simp,.inl ⟨_,_,rfl,run_takeDeferred c7,?_⟩⟩;have d6:((W.setCell ⟨w.heap.size,0,none⟩ (.bool false)).putObj D (.deferred none)).cell? ⟨w.heap.size,0,none⟩=some (.bool false):=by
   rw[World.cell?_of_block (w:=W.setCell ⟨w.heap.size,0,none⟩ (.bool false)) (World.putObj_heap_other hne)];exact b5.cell
  refine⟨.bool false,?_,rfl,?_⟩
  ·simp[results,Tryz.results63,go_sem,d6]
  ·exact(hB.setCell (p:=⟨w.heap.size,0,none⟩) (Zb _) _).trans (belowK_b (w:=w) (Zb _) _ D _ _ (by omega) c7 rfl rfl)
 case stop=>
  rintro D c pre W hD _ h _;exact h.elim
theorem va:Calls Tryz.prog 63 #[.iface 335 (.agg #[])] w fun e w'=>e =.returned (.bool false)/\Below w.heap.size w w':=by
 have k1:=ss;have a2:=Qa (show Below w.heap.size w (w.alloc (.cells #[.bool false] 4)) from(Ze _ _).alloc (Zb _) _);have Hk:=Qa (Bx.new w 4 (.bool false));go_enter Tryz.func63,Tryz.ntmps63;go_wp2_with fail;refine xN.mono ?_;rintro e w1 ⟨rfl,a1⟩;have a5:=Qa (a2.out.trans (a1.mono a2.out.size));have a0:=Hk.out.later a1;have a9:=a0.cell;have b0:=a0.frozen;have a3:=Qa (a0.set (.bool false)).cell;clear a1 a0;go_wp2_with fail;refine Zh (v:=.bool false) ?_ rfl ⟨rfl,a5.out.setCell (p:=⟨w.heap.size,0,none⟩) (Zb _) _⟩;have a4:=a3.out;simp[results,Tryz.results63,go_sem,a4]
theorem sY {b:Bool}:Calls Tryz.prog 63 #[.iface 333 (.bool b)] w fun e w'=>e =.returned (.bool false)/\Below w.heap.size w w':=by
 have k1:=r8;have a2:=Qa (show Below w.heap.size w (w.alloc (.cells #[.bool false] 4)) from(Ze _ _).alloc (Zb _) _);have Hk:=Qa (Bx.new w 4 (.bool false));go_enter Tryz.func63,Tryz.ntmps63;go_wp2_with fail;refine xo.mono ?_;rintro e w1 ⟨rfl,a1⟩;have a5:=Qa (a2.out.trans (a1.mono a2.out.size));have a0:=Hk.out.later a1;have a9:=a0.cell;have b0:=a0.frozen;have a3:=Qa (a0.set (.bool false)).cell;clear a1 a0;go_wp2_with fail;refine Zh (v:=.bool false) ?_ rfl ⟨rfl,a5.out.setCell (p:=⟨w.heap.size,0,none⟩) (Zb _) _⟩;have a4:=a3.out;simp[results,Tryz.results63,go_sem,a4]
theorem wW:Calls Tryz.prog 63 #[.iface 310 (.agg cs)] w fun e w'=>e =.returned (.bool false)/\Below w.heap.size w w':=by
 have k1:=uL;have a2:=Qa (show Below w.heap.size w (w.alloc (.cells #[.bool false] 4)) from(Ze _ _).alloc (Zb _) _);have Hk:=Qa (Bx.new w 4 (.bool false));go_enter Tryz.func63,Tryz.ntmps63;go_wp2_with fail;refine AS.mono ?_;rintro e w1 ⟨rfl,a1⟩;have a5:=Qa (a2.out.trans (a1.mono a2.out.size));have a0:=Hk.out.later a1;have a9:=a0.cell;have b0:=a0.frozen;have a3:=Qa (a0.set (.bool false)).cell;clear a1 a0;go_wp2_with fail;refine Zh (v:=.bool false) ?_ rfl ⟨rfl,a5.out.setCell (p:=⟨w.heap.size,0,none⟩) (Zb _) _⟩;have a4:=a3.out;simp[results,Tryz.results63,go_sem,a4]
theorem sT {s:ByteArray}:Calls Tryz.prog 63 #[.iface 86 (.string s)] w fun e w'=>e =.returned (.bool false)/\Below w.heap.size w w':=by
 have k1:=qn;have a2:=Qa (show Below w.heap.size w (w.alloc (.cells #[.bool false] 4)) from(Ze _ _).alloc (Zb _) _);have Hk:=Qa (Bx.new w 4 (.bool false));go_enter Tryz.func63,Tryz.ntmps63;go_wp2_with fail;refine wL.mono ?_;rintro e w1 ⟨rfl,a1⟩;have a5:=Qa (a2.out.trans (a1.mono a2.out.size));have a0:=Hk.out.later a1;have a9:=a0.cell;have b0:=a0.frozen;have a3:=Qa (a0.set (.bool false)).cell;clear a1 a0;go_wp2_with fail;refine Zh (v:=.bool false) ?_ rfl ⟨rfl,a5.out.setCell (p:=⟨w.heap.size,0,none⟩) (Zb _) _⟩;have a4:=a3.out;simp[results,Tryz.results63,go_sem,a4]
theorem yo (h:VW P w v j)(hT:dE w):Tx j->∀w1,Below w.heap.size w w1->Calls Tryz.prog 63 #[v] w1 fun e w'=>e =.returned (.bool false)/\Below w1.heap.size w1 w':=by
 induction h with
 |null=>intro _ w1 _;exact va
 |bool b=>intro _ w1 _;exact sY
 |num d=>intro _ w1 _;exact wW
 |text s=>intro _ w1 _;exact sT
 |bare=>
  intro tx w1 h1;refine callsIn_wide.1 (l4 (P:=P) (us:= []) (ks:= []) (.inl ⟨rfl,rfl,rfl⟩) (hT.below h1) fun i v k e1=>?_);simp at e1
 |list g A c us ks hp hg hr hl hks ih=>
  intro tx w1 h1;have hk:∀u∈ks,Tx u:=by cases tx;assumption
  have hL:dF P w (some ⟨g,0,none⟩) us ks:=.inr ⟨g,A,c,rfl,hg,hr,hl⟩;exact callsIn_wide.1 (l4 (hL.below h1) (hT.below h1) fun i v k e1 e2 w2 h2=>ih i v k e1 e2 (hk k (Zk e2)) w2 (h1.trans (h2.mono h1.size)))
 |obj g A c us ns ks hp hg hr hl hn hks ih=>
  intro tx w1 h1;have hk:∀u∈ks,Tx u:=by cases tx;assumption
  have hL:eI P w (some ⟨g,0,none⟩) us ns ks:=⟨g,A,c,rfl,hg,hr,hl,hn⟩;exact callsIn_wide.1 (xc (hL.below h1) fun i v k e1 e2 w2 h2=>ih i v k e1 e2 (hk k (Zk e2)) w2 (h1.trans (h2.mono h1.size)))
theorem tF (p q:Value)(w:World):CallsD Tryz.prog 64 #[p,q] .returning w fun e u' w'=>e =.returned (.tuple #[])/\u' =.returning/\w'=w:=by
 refine callsD_of_wpS Tryz.func64 rfl fun c₀ cs hu=>?_
 apply wpS_seq
 apply wpS_region
 simp[wpOpsS,go_sem,recoverD,hu,Tryz.ntmps64,Exit.thenS];apply wpS_seq;apply wpS_region;simp[wpOpsS,go_sem,Exit.thenS];refine wpS_cond (t:=false) (by simp[Act.eval,Array.replicate]) ?_;simp only[Bool.false_eq_true,if_false];refine wpS_of_wp (wp_skip ?_)
 cases c₀
 simp_all [bodyPostS,results,Tryz.results64]
theorem CS (h0:w2.heap[w.heap.size]?=some (.cells #[x0] t0 (0,0)))(h1:w2.heap[w.heap.size+1]?=some (.cells #[x1] t1 (0,0)))(hb:Below w.heap.size w w2)(y0 y1:Value) :
  Below w.heap.size w ((w2.setCell ⟨w.heap.size,0,none⟩ y0).setCell ⟨w.heap.size+1,0,none⟩ y1)/\((w2.setCell ⟨w.heap.size,0,none⟩ y0).setCell ⟨w.heap.size+1,0,none⟩ y1).cell? ⟨w.heap.size,0,none⟩=some y0/\
   ((w2.setCell ⟨w.heap.size,0,none⟩ y0).setCell ⟨w.heap.size+1,0,none⟩ y1).cell? ⟨w.heap.size+1,0,none⟩=some y1:=by
 have a0:=ar h0 0 y0;have a1:=aq w2 (w.heap.size+1) w.heap.size 0 y0 _ _ (by omega) h1;have b0:=aq _ w.heap.size (w.heap.size+1) 0 y1 _ _ (by omega) a0;have b1:=ar a1 0 y1;exact⟨(hb.setCell (p:=⟨w.heap.size,0,none⟩) (Zb _) _).setCell (p:=⟨w.heap.size+1,0,none⟩) (Nat.le_succ _) _,aa b0 (j:=0) rfl,aa b1 (j:=0) rfl⟩
def yD (l:List UInt8)(w:World)(e:Ending)(w':World):Prop:= ∃v,e =.returned (.tuple #[v,.nilIface])/\ao w' w.heap.size v l/\Below w.heap.size w w'
theorem jk (h:VW P w v j)(hT:dE w)(hG:cf w aU aE)(tx:Tx j)(sz:Sz j)(hl:(JV.txt j).length<=140737488355328):Calls Tryz.prog 29 #[v] w (yD (JV.txt j) w):=by
 have b4:∀ (fn:Fn) (first cap:Array Value) (w:World),(Instr.makeFunc fn first cap).run Tryz.prog w =.ok (.func fn first cap) w:=fun _ _ _ _=>rfl
 have a5:Below w.heap.size w ((w.alloc (.cells #[.slice none 0 0] 28)).alloc (.cells #[.nilIface] 30)):=((Ze _ _).alloc (Zb _) _).alloc (by simp) _;have h0:((w.alloc (.cells #[.slice none 0 0] 28)).alloc (.cells #[.nilIface] 30)).heap[w.heap.size]?=some (.cells #[.slice none 0 0] 28 (0,0)):=(Below.heap_alloc _ _ _ (by simp)).trans (Zf w _);have h1:((w.alloc (.cells #[.slice none 0 0] 28)).alloc (.cells #[.nilIface] 30)).heap[w.heap.size+1]?=some (.cells #[.nilIface] 30 (0,0)):=by
  have:=Zf (w.alloc (.cells #[.slice none 0 0] 28)) (.cells #[.nilIface] 30)
  rwa[World.size_alloc] at this
 have hz:((w.alloc (.cells #[.slice none 0 0] 28)).alloc (.cells #[.nilIface] 30)).heap.size=w.heap.size+2:=by simp
 have a4:=Qa a5;have H0:=Qa h0;have H1:=Qa h1;have Hz:=Qa hz;have b1:=Qa (fun w1 (hw:Below w.heap.size w w1)=>yo h hT tx w1 hw);have a2:=Qa (fun w1 (hw:Below w.heap.size w w1)=>yM (h.later hw) (hT.below hw) (hG.below hw) tx sz w1 (.slice none 0 0) [] (Ze _ _) (ao.nil _ _) (by simpa using hl));obtain⟨t1,x1,rfl⟩:=h.iface;clear a5 h0 h1 hz h hT hG tx sz hl;generalize JV.txt j=tl at *;go_enter_defers Tryz.func29,Tryz.ntmps29;go_wp2_with fail;generalize (w.alloc (.cells #[.slice none 0 0] 28)).alloc (.cells #[.nilIface] 30)=w1 at *;refine(b1.out w1 a4.out).mono ?_;rintro e w2 ⟨rfl,a0⟩;have a3:=Qa (a4.out.trans (a0.mono a4.out.size));have G0:=Qa (ah H0.out a0);have G1:=Qa (ah H1.out a0);have b2:=Qa (show w.heap.size+2<=w2.heap.size by have:=Hz.out;have:=a0.size;omega);clear a0;go_wp2_with fail;refine(a2.out w2 a3.out).mono ?_;rintro e w3 ⟨v,rfl,ho,a1⟩;rw[List.nil_append] at ho;have Ho:=Qa ho;have a9:=Qa (a3.out.trans (a1.mono a3.out.size));have g0:=ah G0.out a1;have g1:=ah G1.out a1;have G03:=Qa g0;have G13:=Qa g1;have c0:=aa g0 (j:=0) (u:=.slice none 0 0) rfl;have f0:=aj g0 0;have c1:=aa g1 (j:=0) (u:=.nilIface) rfl;have f1:=aj g1 0;obtain⟨A,q,rfl,-⟩:=af ho;clear g0 g1 a1 ho;go_wp2_with fail;obtain⟨b0,d0,d1⟩:=CS G03.out G13.out a9.out (.slice A tl.length q) .nilIface;have b3:ao ((w3.setCell ⟨w.heap.size,0,none⟩ (.slice A tl.length q)).setCell ⟨w.heap.size+1,0,none⟩ .nilIface) w.heap.size (.slice A tl.length q) tl:=by
  have hz:=b2.out;have h1:=Ho.out.stayB (aM.set w.heap.size 0 (.slice A tl.length q)) (fun b hb e=>by have:=(ao.blk Ho.out hb).1;omega);have h2:=h1.stayB (aM.set (w.heap.size+1) 0 .nilIface) (fun b hb e=>by have:=(ao.blk h1 hb).1;omega);exact bp h2 (by omega)
 clear c0 c1 f0 f1;generalize (w3.setCell ⟨w.heap.size,0,none⟩ (.slice A tl.length q)).setCell ⟨w.heap.size+1,0,none⟩ .nilIface=w4 at *;refine leaves_cons (f:=64) (args:= #[.pointer (some ⟨w.heap.size,0,none⟩),.pointer (some ⟨w.heap.size+1,0,none⟩)]) (by simp) (by simp[go_sem]) ?_;refine(tF _ _ _).mono ?_;rintro e u' w'' ⟨rfl,rfl,rfl⟩;simp[Leaves,settle,results,Tryz.results29,go_sem,d0,d1];exact⟨_,rfl,b3,b0⟩
def bD:List ByteArray:= [⟨#[36,114,101,102]⟩,⟨#[97,108,108,79,102]⟩,⟨#[97,110,121,79,102]⟩,⟨#[111,110,101,79,102]⟩,⟨#[110,111,116]⟩,⟨#[105,102]⟩,⟨#[116,121,112,101]⟩,⟨#[101,110,117,109]⟩,⟨#[99,111,110,115,116]⟩,⟨#[109,105,110,105,109,117,109]⟩,⟨#[101,120,99,108,117,115,105,118,101,77,105,110,105,109,117,109]⟩,⟨#[109,97,120,105,109,117,109]⟩,⟨#[101,120,99,108,117,115,105,118,101,77,97,120,105,109,117,109]⟩,⟨#[109,117,108,116,105,112,108,101,79,102]⟩,⟨#[109,105,110,76,101,110,103,116,104]⟩,⟨#[109,97,120,76,101,110,103,116,104]⟩,⟨#[112,97,116,116,101,114,110]⟩,⟨#[112,114,101,102,105,120,73,116,101,109,115]⟩,⟨#[105,116,101,109,115]⟩,⟨#[99,111,110,116,97,105,110,115]⟩,⟨#[109,105,110,73,116,101,109,115]⟩,⟨#[109,97,120,73,116,101,109,115]⟩,⟨#[117,110,105,113,117,101,73,116,101,109,115]⟩,⟨#[112,114,111,112,101,114,116,105,101,115]⟩,⟨#[112,97,116,116,101,114,110,80,114,111,112,101,114,116,105,101,115]⟩,⟨#[97,100,100,105,116,105,111,110,97,108,80,114,111,112,101,114,116,105,101,115]⟩,⟨#[112,114,111,112,101,114,116,121,78,97,109,101,115]⟩,⟨#[114,101,113,117,105,114,101,100]⟩,⟨#[109,105,110,80,114,111,112,101,114,116,105,101,115]⟩,⟨#[109,97,120,80,114,111,112,101,114,116,105,101,115]⟩,⟨#[100,101,112,101,110,100,101,110,116,82,101,113,117,105,114,101,100]⟩,⟨#[100,101,112,101,110,100,101,110,116,83,99,104,101,109,97,115]⟩]
def Fo:ByteArray:=⟨#[102,97,108,115,101]⟩
def Ba (k:ByteArray):Prop:=k=Fo\/k∈bD
theorem bR {s:ByteArray}(h:∀c∈s.data.toList,c.toNat<128):bf s:=by
 refine⟨s.data.toList.map fun c=>(c.toNat:Int),?_,?_⟩
 ·intro c hc;obtain⟨x,hx,rfl⟩:=List.mem_map.1 hc;have:=h x hx;rw[bI];simp;omega
 ·generalize s.data.toList=l at *
  induction l with
  |nil=>rfl
  |cons x l ih=>
   rw[List.map_cons,List.flatMap_cons,<-ih (fun c hc=>h c (Zl _ hc)),j2 _ (h x (by simp)),UInt8.ofNat_toNat];rfl
theorem tA:∀k∈bD,k.size<=30/\k≠kI/\∀c∈k.data.toList,c.toNat<128:=by decide
theorem Ba.fine {k:ByteArray}(h:Ba k):k.size<=30/\k≠kI/\bf k:=by
 rcases h with rfl|h
 ·exact⟨by decide,by decide,bR (by decide)⟩
 ·obtain⟨h1,h2,h3⟩:=tA k h;exact⟨h1,h2,bR h3⟩
def jM (e:En):Prop:=aT e.eAt/\aT e.eSch/\Ba e.eKw
def ff (e:En):Prop:=aT e.eAt/\aT e.eSch/\e.eKw.size<=30/\bf e.eKw
theorem jM.en {e:En}(h:jM e):ff e:=⟨h.1,h.2.1,h.2.2.fine.1,h.2.2.fine.2.2⟩
theorem Bc (h:aT p):ff (fC p):=⟨h,gn,(by decide:kI.size<=30),bR (s:=kI) (by decide)⟩
theorem ff.enp {e:En}(h:ff e):Gd e:=⟨h.1.ptr,h.2.1.ptr⟩
theorem Ej {x:List En}(hx:∀e∈x,jM e)(hy:∀p∈y,aT p):∀e∈eA x y,ff e:=fun e he=>by
 rcases bM.1 he with h|⟨p,hp,-,rfl⟩
 ·exact(hx e h.1).en
 ·exact Bc (hy p hp)
theorem br.ok {x:List En}{es:List En}(h:br x y es)(hx:∀e∈x,jM e)(hy:∀p∈y,aT p):∀e∈es,ff e:=fun e he=>Ej hx hy e ((h.mem e).1 he)
def iC:ByteArray:=⟨#[97,116]⟩
def ij:ByteArray:=⟨#[107,101,121,119,111,114,100]⟩
def iD:ByteArray:=⟨#[115,99,104,101,109,97]⟩
def nh:ByteArray:=⟨#[101,110,116,114,105,101,115]⟩
def mh:ByteArray:=⟨#[111,117,116,99,111,109,101]⟩
def cJ:List ByteArray:= [⟨#[]⟩,⟨#[118,97,108,105,100]⟩,⟨#[105,110,118,97,108,105,100]⟩,⟨#[98,97,100,32,115,99,104,101,109,97]⟩,⟨#[98,97,100,32,100,111,99,117,109,101,110,116]⟩,⟨#[111,118,101,114,32,108,105,109,105,116]⟩]
def bA (o:Nat):ByteArray:=cJ.getD o ⟨#[]⟩
def ee (e:En):JV:=fU [(iC,aY e.eAt),(ij,aY e.eKw),(iD,aY e.eSch)]
def cm (o:Nat)(es:List En):JV:=fU [(nh,cD (es.map ee)),(mh,aY (bA o))]
theorem Ft:CM [iC,ij,iD]:=by
 have e1:aI (nm iC) (nm ij) = -1:=rfl;have e2:aI (nm iC) (nm iD) = -1:=rfl;have e3:aI (nm ij) (nm iD) = -1:=rfl;refine List.pairwise_cons.2 ⟨fun b hb=>?_,List.pairwise_cons.2 ⟨fun b hb=>?_,List.pairwise_singleton _ _⟩⟩
 ·simp only[List.mem_cons,List.mem_nil_iff,or_false] at hb;rcases hb with rfl|rfl
  ·show aI _ _<0;rw[e1];decide
  ·show aI _ _<0;rw[e2];decide
 ·simp only[List.mem_cons,List.mem_nil_iff,or_false] at hb;subst hb
  show aI _ _<0;rw[e3];decide
theorem FW:CM [nh,mh]:=by
 have e1:aI (nm nh) (nm mh) = -1:=rfl;refine List.pairwise_cons.2 ⟨fun b hb=>?_,List.pairwise_singleton _ _⟩;rw[List.mem_singleton.1 hb]
 show aI _ _<0;rw[e1];decide
theorem dR (o:Nat):bf (bA o)/\(bA o).size<=30:=by
 by_cases h:o<6
 ·have:∀o<6,(bA o).size<=30/\∀c∈(bA o).data.toList,c.toNat<128:=by decide
  exact⟨bR (this o h).2,(this o h).1⟩
 ·have e:bA o= ⟨#[]⟩:=by unfold bA;rw[List.getD_eq_getElem?_getD,List.getElem?_eq_none (by simp[cJ];omega)];rfl
  rw[e];exact⟨bR (by simp),by decide⟩
theorem bg:bf iC/\bf ij/\bf iD/\bf nh/\bf mh:=⟨bR (by decide),bR (by decide),bR (by decide),bR (by decide),bR (by decide)⟩
theorem Fa {e:En}(h:ff e):Tx (ee e):=by
 obtain⟨n1,n2,n3,-⟩:=bg;refine .obj [iC,ij,iD] [aY e.eAt,aY e.eKw,aY e.eSch] rfl (fun s hs=>?_) Ft (fun u hu=>?_)
 ·simp only[List.mem_cons,List.mem_nil_iff,or_false] at hs;rcases hs with rfl|rfl|rfl <;> assumption
 ·simp only[List.mem_cons,List.mem_nil_iff,or_false] at hu;rcases hu with rfl|rfl|rfl
  ·exact .text _ h.1.utf
  ·exact .text _ h.2.2.2
  ·exact .text _ h.2.1.utf
theorem lB {es:List En}(h:∀e∈es,ff e):Tx (cm o es):=by
 obtain⟨-,-,-,n4,n5⟩:=bg;refine .obj [nh,mh] [cD (es.map ee),aY (bA o)] rfl (fun s hs=>?_) FW (fun u hu=>?_)
 ·simp only[List.mem_cons,List.mem_nil_iff,or_false] at hs;rcases hs with rfl|rfl <;> assumption
 ·simp only[List.mem_cons,List.mem_nil_iff,or_false] at hu;rcases hu with rfl|rfl
  ·refine .list _ fun u hu=>?_
   obtain⟨e,he,rfl⟩:=List.mem_map.1 hu;exact Fa (h e he)
  ·exact .text _ (dR o).1
def zB (L:Nat)(e:En):Prop:=e.eAt.size<=L/\e.eSch.size<=L
theorem CK (hL:30<=L){e:En}(h:ff e)(hb:zB L e):yI L (ee e):=by
 obtain⟨n1,n2,n3,-⟩:=bg;have s1:iC.size<=30:=by decide
 have s2:ij.size<=30:=by decide
 have s3:iD.size<=30:=by decide
 refine .obj [iC,ij,iD] [aY e.eAt,aY e.eKw,aY e.eSch] rfl (fun s hs=>?_) (fun u hu=>?_)
 ·simp only[List.mem_cons,List.mem_nil_iff,or_false] at hs;rcases hs with rfl|rfl|rfl
  ·exact⟨n1,by omega⟩
  ·exact⟨n2,by omega⟩
  ·exact⟨n3,by omega⟩
 ·simp only[List.mem_cons,List.mem_nil_iff,or_false] at hu;rcases hu with rfl|rfl|rfl
  ·exact .text _ h.1.utf hb.1
  ·exact .text _ h.2.2.2 (by have:=h.2.2.1;omega)
  ·exact .text _ h.2.1.utf hb.2
theorem Dj (hL:30<=L){es:List En}(h:∀e∈es,ff e)(hb:∀e∈es,zB L e):yI L (cm o es):=by
 obtain⟨-,-,-,n4,n5⟩:=bg;have s4:nh.size<=30:=by decide
 have s5:mh.size<=30:=by decide
 refine .obj [nh,mh] [cD (es.map ee),aY (bA o)] rfl (fun s hs=>?_) (fun u hu=>?_)
 ·simp only[List.mem_cons,List.mem_nil_iff,or_false] at hs;rcases hs with rfl|rfl
  ·exact⟨n4,by omega⟩
  ·exact⟨n5,by omega⟩
 ·simp only[List.mem_cons,List.mem_nil_iff,or_false] at hu;rcases hu with rfl|rfl
  ·refine .list _ fun u hu=>?_
   obtain⟨e,he,rfl⟩:=List.mem_map.1 hu;exact CK hL (h e he) (hb e he)
  ·exact .text _ (dR o).1 (by have:=(dR o).2;omega)
theorem yt (es:List En):JV.sizes (es.map ee)=4*es.length:=by
 induction es with
 |nil=>rfl
 |cons e es ih=>
  rw[List.map_cons,List.length_cons,JV.sizes,ih];have:(ee e).size=4:=by simp[ee,fU,aY,JV.size,JV.sizes]
  omega
theorem vz (hL:30<=L){es:List En}(h:∀e∈es,ff e)(hb:∀e∈es,zB L e):(cm o es).txt.length<=(4*es.length+3)* (12*L+40):=by
 have h1:=(Dj (o:=o) hL h hb).len;have h2:(cm o es).size=4*es.length+3:=by
  have:=yt es;simp[cm,fU,aY,cD,JV.size,JV.sizes,this];omega
 rw[h2] at h1;omega
theorem fV {s:ByteArray}(h:s.size<=1000000000):Sz (aY s):=.mk _ _ _ _ _ _ h (by decide) (by simp) (by simp)
theorem D9 (hL:L<=1000000000){e:En}(h:ff e)(hb:zB L e):Sz (ee e):=by
 refine .mk _ _ _ _ _ _ (by decide) (by decide) (fun s hs=>?_) (fun u hu=>?_)
 ·simp only[List.map_cons,List.map_nil,List.mem_cons,List.mem_nil_iff,or_false] at hs;rcases hs with rfl|rfl|rfl <;> decide
 ·simp only[List.map_cons,List.map_nil,List.mem_cons,List.mem_nil_iff,or_false] at hu;rcases hu with rfl|rfl|rfl
  ·exact fV (by have:=hb.1;omega)
  ·exact fV (by have:=h.2.2.1;omega)
  ·exact fV (by have:=hb.2;omega)
theorem yL (hL:L<=1000000000){es:List En}(h:∀e∈es,ff e)(hb:∀e∈es,zB L e):Sz (cm o es):=by
 refine .mk _ _ _ _ _ _ (by decide) (by decide) (fun s hs=>?_) (fun u hu=>?_)
 ·simp only[List.map_cons,List.map_nil,List.mem_cons,List.mem_nil_iff,or_false] at hs;rcases hs with rfl|rfl <;> decide
 ·simp only[List.map_cons,List.map_nil,List.mem_cons,List.mem_nil_iff,or_false] at hu;rcases hu with rfl|rfl
  ·refine .mk _ _ _ _ _ _ (by decide) (by decide) (by simp) (fun u hu=>?_);obtain⟨e,he,rfl⟩:=List.mem_map.1 hu;exact D9 hL (h e he) (hb e he)
  ·exact fV (by have:=(dR o).2;omega)
def uX (l:List UInt8):Prop:= ∃cs:List Int,(∀c∈cs,ce c=true)/\l=cs.flatMap aO
theorem uX.nil:uX []:=⟨[],by simp,rfl⟩
theorem uX.app {c:Int}(hc:ce c=true){l:List UInt8}(h:uX l):uX (aO c++l):=by
 obtain⟨cs,h1,rfl⟩:=h;exact⟨c::cs,fun d hd=>by rcases List.mem_cons.1 hd with rfl|hd;exact hc;exact h1 d hd,by simp⟩
theorem pp {c:Int}(h:ce c=true):(∃x:UInt8,x.toNat<128/\aO c = [x]/\c=x.toNat)\/∀x∈aO c,128<=x.toNat:=by
 have h0:=bY h;obtain⟨n,rfl⟩:∃n:Nat,c=n:=⟨c.toNat,by omega⟩;have hn:=h;rw[bI] at hn;simp only[decide_eq_true_eq] at hn
 by_cases h1:n<128
 ·exact .inl ⟨UInt8.ofNat n,by rw[bh n (by omega)];exact h1,j2 n h1,by rw[bh n (by omega)]⟩
 ·right
  have big:∀k,128<=k->k<256->128<=(UInt8.ofNat k).toNat:=fun k h2 h3=>by rw[bh k h3];exact h2
  intro x hx
  by_cases h2:n<2048
  ·rw[mL n ⟨by omega,h2⟩] at hx;simp only[List.mem_cons,List.mem_nil_iff,or_false] at hx;rcases hx with rfl|rfl <;> exact big _ (by omega) (by omega)
  ·by_cases h3:n<65536
   ·rw[lK n ⟨by omega,h3⟩ hn.2] at hx;simp only[List.mem_cons,List.mem_nil_iff,or_false] at hx;rcases hx with rfl|rfl|rfl <;> exact big _ (by omega) (by omega)
   ·rw[mK n ⟨by omega,hn.1⟩] at hx;simp only[List.mem_cons,List.mem_nil_iff,or_false] at hx;rcases hx with rfl|rfl|rfl|rfl <;> exact big _ (by omega) (by omega)
theorem Ao {a:List UInt8}(h:47∉a){b:List UInt8}{x:List UInt8}{r:List (List UInt8)}(e:bU b=x::r):bU (a++b)= (a++x)::r:=by
 induction a with
 |nil=>exact e
 |cons c t ih=>
  have h1:c≠47:=fun e=>h (by simp[e])
  rw[List.cons_append,bU,if_neg h1,ih (fun e=>h (by simp[e]))];rfl
theorem zL:∀ (cs:List Int),(∀c∈cs,ce c=true)->∀p∈bU (cs.flatMap aO),uX p:=by
 intro cs
 induction cs with
 |nil=>intro _ p hp;simp[bU] at hp;subst hp;exact .nil
 |cons c cs ih=>
  intro h p hp;have hc:=h c (by simp);have ih:=ih fun d hd=>h d (by simp[hd])
  rw[List.flatMap_cons] at hp
  by_cases h47:c=47
  ·subst h47;have e:aO 47 = [47]:=by decide
   rw[e,List.singleton_append,bU,if_pos rfl] at hp;rcases List.mem_cons.1 hp with rfl|hp
   ·exact .nil
   ·exact ih p hp
  ·obtain⟨x,r,e⟩:∃x r,bU (cs.flatMap aO)=x::r:=by
    cases e:bU (cs.flatMap aO) with
    |nil=>exact absurd e (iU _)
    |cons x r=>exact⟨x,r,rfl⟩
   rw[Ao (fun hm=>by
    rcases pp hc with ⟨x,-,e2,e3⟩|hb
    ·rw[e2,List.mem_singleton] at hm;rw[<-hm] at e3;exact h47 e3
    ·exact absurd (hb 47 hm) (by decide)) e] at hp
   rw[e] at ih;rcases List.mem_cons.1 hp with rfl|hp
   ·exact uX.app hc (ih x (by simp))
   ·exact ih p (by simp[hp])
theorem Bj {b c:UInt8}{a:List UInt8}(h:126∉a)(t:List UInt8):cn b c (a++t)=a++cn b c t:=by
 induction a with
 |nil=>rfl
 |cons x a ih=>rw[List.cons_append,eN (fun e=>h (by simp[e])),ih (fun e=>h (by simp[e]))];rfl
theorem Cc {c:UInt8}(h:c.toNat<128):ce (c.toNat:Int)=true/\aO (c.toNat:Int) = [c]:=⟨by rw[bI];simp;omega,by rw[j2 _ h,UInt8.ofNat_toNat]⟩
theorem rr {b c:UInt8}(hb:b.toNat<128)(hc:c.toNat<128):∀ (n:Nat) (cs:List Int),cs.length<=n->(∀c∈cs,ce c=true)->uX (cn b c (cs.flatMap aO)):=by
 intro n
 induction n with
 |zero=>intro cs h _;obtain rfl:=List.eq_nil_of_length_eq_zero (show cs.length=0 by omega);exact .nil
 |succ n ih=>
  intro cs hn h
  cases cs with
  |nil=>exact .nil
  |cons d ds=>
   have hd:=h d (by simp);have a0:∀c∈ds,ce c=true:=fun e he=>h e (by simp[he])
   simp only[List.length_cons] at hn;rw[List.flatMap_cons]
   by_cases h126:d=126
   ·subst h126;rw[show aO 126 = [126] by decide,List.singleton_append]
    cases ds with
    |nil=>exact⟨[126],by simp;decide,rfl⟩
    |cons e es=>
     have he:=a0 e (by simp);simp only[List.length_cons] at hn;rw[List.flatMap_cons];have miss:∀x t,aO e=x::t->x≠b->uX (cn b c (126:: (aO e++es.flatMap aO))):=by
      intro x t e2 hx;rw[e2,List.cons_append,mU hx,<-List.cons_append,<-e2,<-List.flatMap_cons];exact uX.app (c:=126) (by decide) (ih (e::es) (by simp;omega) a0)
     rcases pp he with ⟨x,hx,e2,-⟩|a1
     ·by_cases hxb:x=b
      ·rw[e2,List.singleton_append,hxb,iG];have o:=Cc hc;have:=uX.app o.1 (ih es (by omega) fun f hf=>a0 f (by simp[hf]));rw[o.2] at this;exact this
      ·exact miss x [] e2 hxb
     ·cases e2:aO e with
      |nil=>exact absurd e2 (fO he)
      |cons x t=>
       rw[<-e2];exact miss x t e2 (fun e3=>by have:=a1 x (by rw[e2];simp);rw[e3] at this;omega)
   ·rw[Bj (fun hm=>by
     rcases pp hd with ⟨x,-,e2,e3⟩|a2
     ·rw[e2,List.mem_singleton] at hm;rw[<-hm] at e3;exact h126 e3
     ·exact absurd (a2 126 hm) (by decide))]
    exact uX.app hd (ih ds (by omega) a0)
theorem CC {l:List UInt8}(h:uX l):uX (qY l):=by
 obtain⟨cs,h1,rfl⟩:=h;obtain⟨ds,h2,h3⟩:=rr (b:=49) (c:=47) (by decide) (by decide) _ cs (Zb _) h1;unfold qY;rw[h3];exact rr (by decide) (by decide) _ ds (Zb _) h2
theorem yr {s:ByteArray}(h:aT s):∀p∈bi s.data.toList,uX p:=by
 intro p hp;obtain⟨cs,h1,h2⟩:=h.utf;rw[h2] at hp
 cases hx:cs.flatMap aO with
 |nil=>rw[hx] at hp;simp[bi] at hp
 |cons x t=>
  rw[hx,bi] at hp;obtain⟨q,hq,rfl⟩:=List.mem_map.1 hp;refine CC ?_;rcases h with h|⟨h,-⟩
  ·rw[h2,hx] at h;cases h
  ·rw[h2,hx] at h;obtain rfl:x=47:=by simpa using h
   have:=zL cs h1 q;rw[hx,bU,if_pos rfl] at this;exact this (by simp[hq])
theorem CJ (x:List UInt8):∀y:List UInt8,Ex x y=cB (fun x y:UInt8=>mI x.toNat y.toNat) x y:=by
 induction x with
 |nil=>intro y;cases y <;> rfl
 |cons a x ih=>
  intro y
  cases y with
  |nil=>rfl
  |cons b y=>
   have ih:=ih y;rw[cB]
   by_cases h1:a<b
   ·have a1:a.toNat<b.toNat:=h1;simp[mI,Ex,Op.bytesLess,h1,a1]
   ·have a1:¬a.toNat<b.toNat:=h1
    by_cases h2:b<a
    ·have a0:b.toNat<a.toNat:=h2;have:a≠b:=fun e=>by subst e;exact absurd a0 (Nat.lt_irrefl _)
     simp[mI,Ex,Op.bytesLess,h1,a1,a0,this]
    ·have a0:¬b.toNat<a.toNat:=h2;have e:a=b:=UInt8.toNat_inj.1 (by omega);subst e;rw[if_pos (by simp[mI]),<-ih];simp[Ex,Op.bytesLess,h1]
theorem Aw (a b:ByteArray):Ex a.toList b.toList=uv a b:=by
 unfold uv;rw[ByteArray.toList_eq,ByteArray.toList_eq,CJ]
theorem uu (s:ByteArray):∀ (n:Nat) (cs:List Int) (p:Nat) (acc:Array Value),(∀c∈cs,ce c=true)->s.data.toList.drop p=cs.flatMap aO->cs.length<=n->Conv.runesFrom s n p acc=acc++ (cs.map eX).toArray:=by
 intro n
 induction n with
 |zero=>
  intro cs p acc _ _ h;obtain rfl:=List.eq_nil_of_length_eq_zero (show cs.length=0 by omega);simp[Conv.runesFrom]
 |succ n ih=>
  intro cs p acc hc hd h;have hl:s.data.toList.length=s.size:=by simp
  cases cs with
  |nil=>
   have hp:¬p<s.size:=by
    have:=congrArg List.length hd;rw[List.length_drop] at this;simp at this;omega
   unfold Conv.runesFrom;rw[if_neg hp];simp
  |cons c cs=>
   have h0:=hc c (by simp);have hlen:=congrArg List.length hd;rw[List.length_drop,hl,List.flatMap_cons,List.length_append] at hlen;have a1:(aO c).length≠0:=fun e=>fO h0 (List.eq_nil_of_length_eq_zero e)
   have hlt:p<s.size:=by omega
   unfold Conv.runesFrom;rw[if_pos hlt,iu s p hlt,hd,List.flatMap_cons,kL h0,if_pos rfl]
   dsimp only
   have a0:Int.ofNat c.toNat=c:=by have:=bY h0;show((c.toNat:Nat):Int)=c;omega
   rw[a0,ih cs _ _ (fun d hd=>hc d (by simp[hd])) (by rw[<-List.drop_drop,hd,List.flatMap_cons,List.drop_left]) (by simp at h;omega)];simp[eX]
theorem l9 (W:World)(s:ByteArray)(hs:bf s)(hz:s.size<=1000000000):∃W2 q,(convert 9 192 (.string s)).run Tryz.prog W =.ok (.slice (some ⟨W.heap.size,0,none⟩) (nm s).length q) W2/\
  Below W.heap.size W W2/\yd W2 W.heap.size (.slice (some ⟨W.heap.size,0,none⟩) (nm s).length q) (nm s)/\W2.heap.size=W.heap.size+1:=by
 obtain⟨hc,hd⟩:=hs.nm;have a2:s.data.toList.length=s.size:=by simp
 have a0:(nm s).length<=s.size:=by have:=dw hc;rw[hd,a2] at this;exact this
 have e:Conv.runesFrom s s.size 0 #[]= ((nm s).map eX).toArray:=by
  rw[uu s s.size (nm s) 0 #[] hc hd.symm a0];simp
 have ez:(((nm s).map eX).toArray).size= (nm s).length:=by simp
 have hr:=run_runes_of_string (P:=Tryz.prog) W 9 192 21 s Tryz.underlying9 Tryz.underlying192 Tryz.underlying21 (by rw[e,ez];omega);rw[e,ez] at hr;have a1:=grownCap_ge W (nm s).length 0 21;have hle:=grownCap_le_maxLen W (nm s).length 0 21 (by unfold maxLen;omega);generalize grownCap W (nm s).length 0 21=q at *;refine⟨_,q,hr,?_,?_,by simp⟩
 ·exact(ap (Ze W.heap.size W) 1).alloc (Zb _) _
 ·have hh:=Zf W.drew (.cells (((nm s).map eX).toArray++Array.replicate (q - (nm s).length) (.int .i32 0)) 21);refine⟨by simp,.inr ⟨W.heap.size,q,_,rfl,Zb _,hh,a1,hle,by simp;omega,?_⟩⟩;simp
theorem uk {s t:ByteArray}(hs:bf s)(ht:bf t)(hz:s.size<=1000000000)(hy:t.size<=1000000000):Calls Tryz.prog 138 #[.string s,.string t] w fun e w'=>e =.returned (.int .i64 (aI (nm s) (nm t)))/\Below w.heap.size w w':=by
 have a4:(nm s).length<=4294967296:=by have:=dw hs.nm.1;rw[hs.nm.2] at this;have h2:s.data.toList.length=s.size:=(by simp);omega
 have a5:(nm t).length<=4294967296:=by have:=dw ht.nm.1;rw[ht.nm.2] at this;have h2:t.data.toList.length=t.size:=(by simp);omega
 obtain⟨W2,q,h1,a1,b0,b2⟩:=l9 w s hs hz;obtain⟨W3,r,h2,a2,a9,-⟩:=l9 W2 t ht hy;have a3:=a1.trans (a2.mono a1.size);have a0:yd W3 w.heap.size (.slice (some ⟨w.heap.size,0,none⟩) (nm s).length q) (nm s):=ai b0 a2 (Zb _);have H:=Qa (gI a0 a9 a4 a5);have b1:=Qa a3;generalize nm s=x at *;generalize nm t=y at *;clear hs ht hz hy a4 a5 a1 a2 a3 b0 a9 a0 b2;go_enter Tryz.func138,Tryz.ntmps138;go_wp2_with fail;refine Za H ?_;rintro e w' ⟨rfl,rfl⟩;go_wp2_with fail;go_ret;exact⟨rfl,b1.out⟩
