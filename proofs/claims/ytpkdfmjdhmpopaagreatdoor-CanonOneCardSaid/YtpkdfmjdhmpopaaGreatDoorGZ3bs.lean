import Derived.Test.YtpkdfmjdhmpopaaGreatDoorGZ3br
set_option linter.unusedVariables false
set_option linter.unusedSimpArgs false
set_option maxHeartbeats 64000000
set_option maxRecDepth 100000
namespace Go.Proofs.YtpkdfmjdhmpopaaGreatDoor
open Go.RowKit Go.Shelf
variable {aE aU : Addr} {cs : Array Value} {r : Bool} {s : ByteArray} {j : JV} {ns ns' : List ByteArray} {ks ks' : List JV} {us us' : List Value} {i : Nat} {P Q : Nat -> Prop} {A : Option Addr} {t0 t1 : TypeId} {v x0 x1 : Value} {w w2 : World}
attribute [local go_sem] Oper.semAt_some
def sr (ns:List ByteArray)(us:List Value):List (ByteArray×Value):=ns.zip us
theorem ye (h:ns.length=us.length): (sr ns us).length=us.length:=by simp [sr,h]
theorem AI (h:ns.length=us.length)(i:Fin (sr ns us).length):∃u s,us[i.val]?=some u/\ns[i.val]?=some s/\(sr ns us).get i= (s,u):=by
 have hi:i.val<us.length:=by have h1:=i.isLt;have h2:=ye h;omega
 have hj:i.val<ns.length:=by omega
 exact⟨us[i.val],ns[i.val],Zc hi,Zc hj,by
  show(sr ns us)[i.val]'i.isLt=_
  simp only [sr,List.getElem_zip]⟩
theorem yB (h:eS P w A us ns ks)
  (H:∀ (i:Nat) v k,us[i]?=some v->ks[i]?=some k->∀w1,Below w.heap.size w w1->Calls Tryz.prog 26 #[v] w1 fun e w'=>e = .returned (.bool false)/\Below w1.heap.size w1 w') :
  CallsIn Fence.wide 9 Tryz.prog 26 #[.iface 119 (.pointer A)] w fun e w'=>e = .returned (.bool false)/\Below w.heap.size w w':=by
 have k1:=jX;have Hh:=Qa h;have b6:=Qa (show ns.length=us.length by rw [h.names,h.len]);have HH:=Qa H;clear h H;refine callsIn_of_wp_marks Tryz.func26 rfl trivial ?_ rfl;simp only [Tryz.ntmps26,List.size_toArray,List.length_cons,List.length_nil,Nat.reduceAdd,Nat.reduceSub,Array.replicate_succ,Array.replicate_zero,List.push_toArray,List.append_toArray,List.nil_append,List.cons_append];have Hk:=Qa (Bx.new w 4 (.bool false));have a5:=Qa (show Below w.heap.size w (w.alloc (.cells #[.bool false] 4)) from(Zd _ _).alloc (Za _) _)
 gi_wp2_with fail
 obtain⟨W0,b8⟩:∃W0,w.alloc (.cells #[.bool false] 4)=W0:=⟨_,rfl⟩;have a3:W0.heap.size=w.heap.size+1:=by rw [<- b8];simp
 rw [b8] at Hk a5 ⊢;have a1:=Qa a3;clear b8 a3;refine⟨fun _ _=>trivial, ?_⟩;go_invoke
 gi_wp2_with fail
 refine(callsIn_wide.2 gJ).mono ?_;rintro e w1 ⟨rfl,c5⟩;have a2:=Qa c5;clear c5
 gi_wp2_with fail
 refine⟨trivial, ?_⟩;refine(callsIn_wide.2 pn).mono ?_;rintro e w2 ⟨rfl,rfl⟩;have a0:W0.heap.size<=w1.heap.size:=a2.out.size;have b0:=ac w1 (.cells #[.iface 119 (.pointer A)] 124);have b7:=Ze w1 (.cells #[.iface 119 (.pointer A)] 124);obtain⟨W1,b4⟩:∃W1,w1.alloc (.cells #[.iface 119 (.pointer A)] 124)=W1:=⟨_,rfl⟩;have a7:W1.heap.size=w1.heap.size+1:=by rw [<- b4];simp
 rw [b4] at b0 b7 ⊢;clear b4;have c3:CG w (sr ns us).length [] W1:=⟨(Hk.out.later a2.out).later b0,a5.out.trans ((a2.out.mono a5.out.size).trans (b0.mono (Zb a5.out.size a2.out.size)))⟩;have c2:=Qa c3;have b1:=Qa a7;have d1:=Qa b7;have a4:=Qa a0;clear b0 b7 c3 a7 a0 Hk a5 a2
 gi_wp2
 have b3:∀X,fY w.heap.size (w.heap.size+1) W1 X->GE w X:=fun X hX g cs t z hg=>hX g cs t z (.inl (ae hg)) ((c2.out.2.block g (ae hg)).trans hg)
 have b9:=Qa b3;have c1:=Qa (ye b6.out);have d0:=Qa Hh.out.bd;have a6:SeqStopsK Fence.wide (9 - 1) Tryz.prog 71 #[.pointer (some ⟨w1.heap.size,0,none⟩)] (fun x:Fin (sr ns us).length=> #[.string ((sr ns us).get x).1,((sr ns us).get x).2]) (fY w.heap.size (w.heap.size+1)) (fun _=>True) (fun _=>True) (sr ns us).length W1:=by
  intro l J Jx W hW hJ c7 hY h0;refine zJ (9 - 1) (by omega) l w1.heap.size A (sr ns us) (by rw [c1.out];exact d0.out) w.heap.size (w.heap.size+1) (fY w.heap.size (w.heap.size+1) W1) (fun X Y h1 h2=>h1.t h2) (fun X hX=> ?_) (fun X hX=> ?_) (fun X k hX=> ?_) J Jx W (fY.of_below hW) hJ c7 hY h0
  ·exact aa (hX _ _ _ _ (.inr (by have:=a4.out;have:=a1.out;omega)) d1.out) (j:=0) rfl
  ·rw [c1.out];exact eK (Hh.out.kp (b9.out X hX))
  ·obtain⟨u,s,hu,hs,he⟩:=AI b6.out k
   rw [he];exact fm (Hh.out.kp (b9.out X hX)) k.val hu hs
 have b5:=Qa a6;clear b3 a6;have d3:w.heap.size+2<=W1.heap.size:=by have:=b1.out;have:=a4.out;have:=a1.out;omega
 refine wpIn_rangeFunc_ownF rfl (by omega) (gf:=71) (lb:= #[.pointer (some ⟨w1.heap.size,0,none⟩)]) (by simp [Act.eval]) trivial (enters_of Tryz.func71 (by kernel_rfl) rfl)
  b5.out
  (fun h k=>h.t k) (fun W l o o' _ h ho _=>fY.b W l o o' h ho) (Zd _ _) (fun _=>rfl)
  (CG w (sr ns us).length) (fun _ _ _=>False) ?hI ?hIx c2.out
  (fun x=>{tmps:= #[.iface 119 (.pointer A),undef, .pointer (some ⟨w.heap.size,0,none⟩), .iface 119 (.pointer A), .bool true,undef,((sr ns us).get x).2, .iface 119 (.pointer A), .int .i64 6, .bool false, .tuple #[.iface 119 (.pointer A), .bool true], .iface 119 (.pointer A), .tuple #[.iface 119 (.pointer A), .bool true], .iface 119 (.pointer A), .bool true, .bool true, .iface 119 (.pointer A), .func (.func 71) #[] #[.pointer (some ⟨w1.heap.size,0,none⟩)], .string ((sr ns us).get x).1,((sr ns us).get x).2,undef,undef],defers:= []}) ?assign ?body ?done ?stop
 case hI=>
  intro s A B row hs hg hr;exact⟨hs.1.kept hg (fun r e=>(hr r e).2),hs.2.grown hg hs.2.size (fun k e=>by have:=(hr k e).1;omega)⟩
 case hIx=>exact fun _ _ _ _ _ hs _ _=>hs
 case assign=>
  intro l x W K hK;generalize (sr ns us).get x=y at hK ⊢;obtain⟨y1,y2⟩:=y
  dsimp only at hK ⊢
  gi_wp2
  exact hK
 case body=>
  rintro l pre x W ⟨hk,hB⟩ hN;obtain⟨u,s,hu,hs,he⟩:=AI b6.out x;have c8:x.val<ks.length:=by rw [<- Hh.out.len];exact(List.getElem?_eq_some_iff.1 hu).1
  have Hc:=Qa (HH.out x.val u _ hu (Zc c8) W hB)
  try dsimp only
  rw [he];have c9:=Qa hk;have c6:=Qa hB;clear hk hB
  gi_wp2_with fail
  refine⟨trivial, ?_⟩;refine(CallsIn.inRound l (callsIn_wide.2 Hc.out)).mono ?_;rintro e W2 ⟨rfl,c0⟩;have a9:=Qa c0;clear c0
  gi_wp2
  exact⟨m7 a9.out,fY.of_below a9.out,c9.out.later a9.out,c6.out.trans (a9.out.mono c6.out.size)⟩
 case done=>
  rintro D ys W hD - ⟨hk,hB⟩ hK;have b3:=hk.cell;have d4:=hk.frozen
  gi_wp2
  have hne:w.heap.size≠D:=by omega
  have c4: (W.setCell ⟨w.heap.size,0,none⟩ (.bool false)).heap[D]?=some (.deferred (some [])):=(Below.heap_setCell W _ _ D (fun e=>hne e.symm)).trans hK;have b2:=hk.set (.bool false);refine⟨by simp, .inl ⟨_,_,rfl,run_takeDeferred c4, ?_⟩⟩;have d2: ((W.setCell ⟨w.heap.size,0,none⟩ (.bool false)).putObj D (.deferred none)).cell? ⟨w.heap.size,0,none⟩=some (.bool false):=by
   rw [World.cell?_of_block (w:=W.setCell ⟨w.heap.size,0,none⟩ (.bool false)) (World.putObj_heap_other hne)];exact b2.cell
  refine⟨.bool false, ?_,rfl, ?_⟩
  ·simp [results,Tryz.results26,go_sem,d2]
  ·exact(hB.setCell (p:=⟨w.heap.size,0,none⟩) (Za _) _).trans (belowK_b (w:=w) (Za _) _ D _ _ (by omega) c4 rfl rfl)
 case stop=>
  rintro D c pre W hD _ h _;exact h.elim
theorem wD:Calls Tryz.prog 26 #[.iface 58 (.agg #[])] w fun e w'=>e = .returned (.bool false)/\Below w.heap.size w w':=by
 have k1:=iG;have a2:=Qa (show Below w.heap.size w (w.alloc (.cells #[.bool false] 4)) from(Zd _ _).alloc (Za _) _);have Hk:=Qa (Bx.new w 4 (.bool false));go_enter Tryz.func26,Tryz.ntmps26;go_wp2_with fail;(with_reducible refine gS.mono ?_);rintro e w1 ⟨rfl,a1⟩;have a5:=Qa (a2.out.trans (a1.mono a2.out.size));have a0:=Hk.out.later a1;have a7:=a0.cell;have a6:=a0.frozen;have a3:=Qa (a0.set (.bool false)).cell;clear a1 a0;go_wp2_with fail;refine Zg (v:= .bool false) ?_ rfl ⟨rfl,a5.out.setCell (p:=⟨w.heap.size,0,none⟩) (Za _) _⟩;have a4:=a3.out;simp [results,Tryz.results26,go_sem,a4]
theorem vb {b:Bool}:Calls Tryz.prog 26 #[.iface 59 (.bool b)] w fun e w'=>e = .returned (.bool false)/\Below w.heap.size w w':=by
 have k1:=lK;have a2:=Qa (show Below w.heap.size w (w.alloc (.cells #[.bool false] 4)) from(Zd _ _).alloc (Za _) _);have Hk:=Qa (Bx.new w 4 (.bool false));go_enter Tryz.func26,Tryz.ntmps26;go_wp2_with fail;(with_reducible refine gT.mono ?_);rintro e w1 ⟨rfl,a1⟩;have a5:=Qa (a2.out.trans (a1.mono a2.out.size));have a0:=Hk.out.later a1;have a7:=a0.cell;have a6:=a0.frozen;have a3:=Qa (a0.set (.bool false)).cell;clear a1 a0;go_wp2_with fail;refine Zg (v:= .bool false) ?_ rfl ⟨rfl,a5.out.setCell (p:=⟨w.heap.size,0,none⟩) (Za _) _⟩;have a4:=a3.out;simp [results,Tryz.results26,go_sem,a4]
theorem zc:Calls Tryz.prog 26 #[.iface 50 (.agg cs)] w fun e w'=>e = .returned (.bool false)/\Below w.heap.size w w':=by
 have k1:=nM;have a2:=Qa (show Below w.heap.size w (w.alloc (.cells #[.bool false] 4)) from(Zd _ _).alloc (Za _) _);have Hk:=Qa (Bx.new w 4 (.bool false));go_enter Tryz.func26,Tryz.ntmps26;go_wp2_with fail;(with_reducible refine iP.mono ?_);rintro e w1 ⟨rfl,a1⟩;have a5:=Qa (a2.out.trans (a1.mono a2.out.size));have a0:=Hk.out.later a1;have a7:=a0.cell;have a6:=a0.frozen;have a3:=Qa (a0.set (.bool false)).cell;clear a1 a0;go_wp2_with fail;refine Zg (v:= .bool false) ?_ rfl ⟨rfl,a5.out.setCell (p:=⟨w.heap.size,0,none⟩) (Za _) _⟩;have a4:=a3.out;simp [results,Tryz.results26,go_sem,a4]
theorem wZ:Calls Tryz.prog 26 #[.iface 60 (.string s)] w fun e w'=>e = .returned (.bool false)/\Below w.heap.size w w':=by
 have k1:=lO;have a2:=Qa (show Below w.heap.size w (w.alloc (.cells #[.bool false] 4)) from(Zd _ _).alloc (Za _) _);have Hk:=Qa (Bx.new w 4 (.bool false));go_enter Tryz.func26,Tryz.ntmps26;go_wp2_with fail;(with_reducible refine gK.mono ?_);rintro e w1 ⟨rfl,a1⟩;have a5:=Qa (a2.out.trans (a1.mono a2.out.size));have a0:=Hk.out.later a1;have a7:=a0.cell;have a6:=a0.frozen;have a3:=Qa (a0.set (.bool false)).cell;clear a1 a0;go_wp2_with fail;refine Zg (v:= .bool false) ?_ rfl ⟨rfl,a5.out.setCell (p:=⟨w.heap.size,0,none⟩) (Za _) _⟩;have a4:=a3.out;simp [results,Tryz.results26,go_sem,a4]
theorem y5 (h:VW P w v j)(hT:dt w):Tx j->∀w1,Below w.heap.size w w1->Calls Tryz.prog 26 #[v] w1 fun e w'=>e = .returned (.bool false)/\Below w1.heap.size w1 w':=by
 induction h with
 | null=>intro _ w1 _;exact wD
 | bool b=>intro _ w1 _;exact vb
 | num d=>intro _ w1 _;exact zc
 | text s=>intro _ w1 _;exact wZ
 | hole=>intro tx;cases tx
 | bare=>
  intro tx w1 h1;refine callsIn_wide.1 (ob (P:=P) (us:= []) (ks:= []) (.inl ⟨rfl,rfl,rfl⟩) (hT.below h1) fun i v k e1=> ?_);simp at e1
 | list g A c us ks hp hg hr hl hks ih=>
  intro tx w1 h1;have hk:∀u∈ks,Tx u:=by cases tx;assumption
  have hL:dk P w (some ⟨g,0,none⟩) us ks:= .inr ⟨g,A,c,rfl,hg,hr,hl⟩;exact callsIn_wide.1 (ob (hL.below h1) (hT.below h1) fun i v k e1 e2 w2 h2=>ih i v k e1 e2 (hk k (Zk e2)) w2 (h1.trans (h2.mono h1.size)))
 | obj g A c us ns ks hp hg hr hl hn hks ih=>
  intro tx w1 h1;have hk:∀u∈ks,Tx u:=by cases tx;assumption
  have hL:eS P w (some ⟨g,0,none⟩) us ns ks:=⟨g,A,c,rfl,hg,hr,hl,hn⟩;exact callsIn_wide.1 (yB (hL.below h1) fun i v k e1 e2 w2 h2=>ih i v k e1 e2 (hk k (Zk e2)) w2 (h1.trans (h2.mono h1.size)))
theorem wQ (p q:Value)(w:World):CallsD Tryz.prog 27 #[p,q] .returning w fun e u' w'=>e = .returned (.tuple #[])/\u' = .returning/\w'=w:=by
 refine callsD_of_wpS Tryz.func27 rfl fun c₀ cs hu=> ?_
 apply wpS_seq
 apply wpS_region
 simp [wpOpsS,go_sem,recoverD,hu,Tryz.ntmps27,Exit.thenS];apply wpS_seq;apply wpS_region;simp [wpOpsS,go_sem,Exit.thenS];refine wpS_cond (t:=false) (by simp [Act.eval,Array.replicate]) ?_;simp only [Bool.false_eq_true,if_false];refine wpS_of_wp (wp_skip ?_)
 cases c₀
 simp_all [bodyPostS,results,Tryz.results27]
theorem qU (h0:w2.heap[w.heap.size]?=some (.cells #[x0] t0 (0,0)))(h1:w2.heap[w.heap.size+1]?=some (.cells #[x1] t1 (0,0)))(hb:Below w.heap.size w w2)(y0 y1:Value) :
  Below w.heap.size w ((w2.setCell ⟨w.heap.size,0,none⟩ y0).setCell ⟨w.heap.size+1,0,none⟩ y1)/\((w2.setCell ⟨w.heap.size,0,none⟩ y0).setCell ⟨w.heap.size+1,0,none⟩ y1).cell? ⟨w.heap.size,0,none⟩=some y0/\
   ((w2.setCell ⟨w.heap.size,0,none⟩ y0).setCell ⟨w.heap.size+1,0,none⟩ y1).cell? ⟨w.heap.size+1,0,none⟩=some y1:=by
 have a0:=ay h0 0 y0;have a1:=aw w2 (w.heap.size+1) w.heap.size 0 y0 _ _ (by omega) h1;have b0:=aw _ w.heap.size (w.heap.size+1) 0 y1 _ _ (by omega) a0;have b1:=ay a1 0 y1;exact⟨(hb.setCell (p:=⟨w.heap.size,0,none⟩) (Za _) _).setCell (p:=⟨w.heap.size+1,0,none⟩) (Nat.le_succ _) _,aa b0 (j:=0) rfl,aa b1 (j:=0) rfl⟩
def Fu (l:List UInt8)(w:World)(e:Ending)(w':World):Prop:= ∃v,e = .returned (.tuple #[v, .nilIface])/\au w' w.heap.size v l/\Below w.heap.size w w'
theorem eo (h:VW P w v j)(hT:dt w)(hG:cG w aU aE)(tx:Tx j)(sz:Sz j)(hl: (JV.txt j).length<=140737488355328):Calls Tryz.prog 7 #[v] w (Fu (JV.txt j) w):=by
 have b2:∀ (fn:Fn) (first cap:Array Value) (w:World),(Instr.makeFunc fn first cap).run Tryz.prog w = .ok (.func fn first cap) w:=fun _ _ _ _=>rfl
 have a5:Below w.heap.size w ((w.alloc (.cells #[.slice none 0 0] 22)).alloc (.cells #[.nilIface] 35)):=((Zd _ _).alloc (Za _) _).alloc (by simp) _;have h0: ((w.alloc (.cells #[.slice none 0 0] 22)).alloc (.cells #[.nilIface] 35)).heap[w.heap.size]?=some (.cells #[.slice none 0 0] 22 (0,0)):=(Below.heap_alloc _ _ _ (by simp)).trans (Ze w _);have h1: ((w.alloc (.cells #[.slice none 0 0] 22)).alloc (.cells #[.nilIface] 35)).heap[w.heap.size+1]?=some (.cells #[.nilIface] 35 (0,0)):=by
  have:=Ze (w.alloc (.cells #[.slice none 0 0] 22)) (.cells #[.nilIface] 35)
  rwa [World.size_alloc] at this
 have hz: ((w.alloc (.cells #[.slice none 0 0] 22)).alloc (.cells #[.nilIface] 35)).heap.size=w.heap.size+2:=by simp
 have a4:=Qa a5;have H0:=Qa h0;have H1:=Qa h1;have Hz:=Qa hz;have b0:=Qa (fun w1 (hw:Below w.heap.size w w1)=>y5 h hT tx w1 hw);have a3:=Qa (fun w1 (hw:Below w.heap.size w w1)=>Ct (h.later hw) (hT.below hw) (hG.below hw) tx sz w1 (.slice none 0 0) [] (Zd _ _) (au.nil _ _) (by simpa using hl));obtain⟨t1,x1,rfl⟩:=h.iface;clear a5 h0 h1 hz h hT hG tx sz hl;generalize JV.txt j=tl at *;go_enter_defers Tryz.func7,Tryz.ntmps7;go_wp2_with fail;generalize (w.alloc (.cells #[.slice none 0 0] 22)).alloc (.cells #[.nilIface] 35)=w1 at *;refine(b0.out w1 a4.out).mono ?_;rintro e w2 ⟨rfl,a0⟩;have a2:=Qa (a4.out.trans (a0.mono a4.out.size));have G0:=Qa (ai H0.out a0);have G1:=Qa (ai H1.out a0);have b1:=Qa (show w.heap.size+2<=w2.heap.size by have:=Hz.out;have:=a0.size;omega);clear a0;go_wp2_with fail;refine(a3.out w2 a2.out).mono ?_;rintro e w3 ⟨v,rfl,ho,a1⟩;rw [List.nil_append] at ho;have Ho:=Qa ho;have a9:=Qa (a2.out.trans (a1.mono a2.out.size));have g0:=ai G0.out a1;have g1:=ai G1.out a1;have G03:=Qa g0;have G13:=Qa g1;have c0:=aa g0 (j:=0) (u:= .slice none 0 0) rfl;have f0:=aj g0 0;have c1:=aa g1 (j:=0) (u:= .nilIface) rfl;have f1:=aj g1 0;obtain⟨A,q,rfl, -⟩:=ag ho;clear g0 g1 a1 ho;go_wp2_with fail;obtain⟨a6,d0,d1⟩:=qU G03.out G13.out a9.out (.slice A tl.length q) .nilIface;have a7:au ((w3.setCell ⟨w.heap.size,0,none⟩ (.slice A tl.length q)).setCell ⟨w.heap.size+1,0,none⟩ .nilIface) w.heap.size (.slice A tl.length q) tl:=by
  have hz:=b1.out;have h1:=Ho.out.stayB (bl.set w.heap.size 0 (.slice A tl.length q)) (fun b hb e=>by have:=(au.blk Ho.out hb).1;omega);have h2:=h1.stayB (bl.set (w.heap.size+1) 0 .nilIface) (fun b hb e=>by have:=(au.blk h1 hb).1;omega);exact cQ h2 (by omega)
 clear c0 c1 f0 f1;generalize (w3.setCell ⟨w.heap.size,0,none⟩ (.slice A tl.length q)).setCell ⟨w.heap.size+1,0,none⟩ .nilIface=w4 at *;refine leaves_cons (f:=27) (args:= #[.pointer (some ⟨w.heap.size,0,none⟩), .pointer (some ⟨w.heap.size+1,0,none⟩)]) (by simp) (by simp [go_sem]) ?_;refine(wQ _ _ _).mono ?_;rintro e u' w'' ⟨rfl,rfl,rfl⟩;simp [Leaves,settle,results,Tryz.results7,go_sem,d0,d1];exact⟨_,rfl,a7,a6⟩
open Classical in
noncomputable def oD (a b:JV):Bool:=decide (a=b)
theorem bV {a b:JV}:oD a b=true↔a=b:=by unfold oD;simp
theorem fi {a b:JV}:oD a b=false↔a≠b:=by unfold oD;simp
theorem kT {α:Type}{l m:List α}{x:α}(h:l.take i=m.take i)(h1:l[i]?=some x)(h2:m[i]?=some x):l.take (i+1)=m.take (i+1):=by
 rw [List.take_add_one,List.take_add_one,h,h1,h2]
def Gv (W:World)(ks ks':List JV)(s17:Value)(wr:World):Prop:= ∃i:Nat,s17 = .int .i64 i/\i<=ks.length/\ks.take i=ks'.take i/\Below W.heap.size W wr
theorem rl {B:Option Addr}(ha:dk P w A us ks)(hb:dk Q w B us' ks')(hT:dt w)(hr:r=true↔ks=ks')
  (H:∀ (i:Nat) u u' k k',us[i]?=some u->ks[i]?=some k->us'[i]?=some u'->ks'[i]?=some k'->∀w1,Below w.heap.size w w1->Calls Tryz.prog 29 #[u,u'] w1 fun e w'=>e = .returned (.bool (oD k k'))/\Below w1.heap.size w1 w') :
  Calls Tryz.prog 51 #[.iface 57 (.pointer A), .iface 57 (.pointer B)] w fun e w'=>e = .returned (.bool r)/\Below w.heap.size w w':=by
 have la:=ha.len;have lb:=hb.len;have hl:=ha.bd;have c5:=hb.bd;unfold maxLen at hl c5;have Ha:=Qa ha;have Hb:=Qa hb;have HT:=Qa hT;have HH:=Qa H;have Hr:=Qa hr;clear ha hb hT H hr;have Hl:=Qa (dU Ha.out);have b7:=Qa (dU Hb.out);have b5:=Qa la;have b6:=Qa lb;generalize hn:us.length=n at *;generalize hn':us'.length=n' at *;have Hn:=Qa hn;have c1:=Qa hn';clear hn hn' la lb
 by_cases hne:n=n'
 ·subst hne
  go_enter Tryz.func51,Tryz.ntmps51;go_wp2_with fail;(with_reducible refine Hl.out.mono ?_);rintro e w3 ⟨rfl,rfl⟩;go_wp2_with fail;(with_reducible refine b7.out.mono ?_);rintro e w3 ⟨rfl,rfl⟩;go_wp2_with fail;(with_reducible refine Hl.out.mono ?_);rintro e w3 ⟨rfl,rfl⟩;go_wp2_with fail;clear Hl b7
  go_loopw [17] (fun s17 wr=>Gv w ks ks' s17 wr) (fun s17 _=>n - (intOf s17).toNat)
  case atStart=>exact⟨0,rfl,Zj _,rfl,Zd _ _⟩
  case round=>
   obtain⟨i,rfl,c2,he,a0⟩:=hrel;have a1:=Qa a0;have He:=Qa he;have Hi:=Qa c2;clear he c2;have c3:=Qa (Ha.out.below a0);have c4:=Qa (Hb.out.below a0);have c0:=Qa (HT.out.below a0);clear a0
   by_cases h:i<n
   ·have b8:i<us.length:=by have:=Hn.out;omega
    have b4:i<us'.length:=by have:=c1.out;omega
    have b0:i<ks.length:=by have:=b5.out;have:=Hn.out;omega
    have b2:i<ks'.length:=by have:=b6.out;have:=c1.out;omega
    obtain⟨u,hu⟩:∃u,us[i]?=some u:=⟨_,Zc b8⟩;obtain⟨u',a9⟩:∃u,us'[i]?=some u:=⟨_,Zc b4⟩;obtain⟨k,hk⟩:∃u,ks[i]?=some u:=⟨_,Zc b0⟩;obtain⟨k',a6⟩:∃u,ks'[i]?=some u:=⟨_,Zc b2⟩;have Hp:=Qa (en c3.out c0.out i hu);have Hq:=Qa (fun w5 (h:Below wr.heap.size wr w5)=>en (c4.out.below h) (c0.out.below h) i a9);have Hc:=Qa (HH.out i u u' k k' hu hk a9 a6);have Hk:=Qa b0;have h': (i:Int)<n:=by omega
    have w1:IntKind.i64.wrap ((i:Int)+1)= (i:Int)+1:=IntWalk.i64_in _ (by omega)
    by_cases hkk:k=k'
    ·have Hs:=Qa (kT He.out hk (hkk▸a6))
     rw [bV.2 hkk] at Hc;clear b8 b4 b0 b2 hu a9 hk a6 He hkk;go_wp2_with fail;(with_reducible refine Hp.out.mono ?_);rintro e w3 ⟨rfl,a3⟩;have a5:=Qa a3;have b1:=Qa (Hq.out w3 a3);clear a3;go_wp2_with fail;(with_reducible refine b1.out.mono ?_);rintro e w4 ⟨rfl,a4⟩;have a2:=Qa (a1.out.trans ((a5.out.trans (a4.mono a5.out.size)).mono a1.out.size));have b9:=Qa (Hc.out w4 a2.out);clear a4;go_wp2_with fail;(with_reducible refine b9.out.mono ?_);rintro e w5 ⟨rfl,a7⟩;have b3:=Qa (a2.out.trans (a7.mono a2.out.size));clear a7;go_wp2_with fail;refine⟨⟨i+1,rfl,Hk.out,Hs.out,b3.out⟩, ?_⟩
     show n - ((i:Int)+1).toNat<n - ((i:Int)).toNat
     omega
    ·have Hs:Hid (r=false):=Qa (by
      rw [Bool.eq_false_iff];intro e;have:=Hr.out.1 e;rw [this,a6] at hk;exact hkk (Zh hk).symm)
     rw [fi.2 hkk] at Hc;clear b8 b4 b0 b2 hu a9 hk a6 He hkk;go_wp2_with fail;(with_reducible refine Hp.out.mono ?_);rintro e w3 ⟨rfl,a3⟩;have a5:=Qa a3;have b1:=Qa (Hq.out w3 a3);clear a3;go_wp2_with fail;(with_reducible refine b1.out.mono ?_);rintro e w4 ⟨rfl,a4⟩;have a2:=Qa (a1.out.trans ((a5.out.trans (a4.mono a5.out.size)).mono a1.out.size));have b9:=Qa (Hc.out w4 a2.out);clear a4;go_wp2_with fail;(with_reducible refine b9.out.mono ?_);rintro e w5 ⟨rfl,a7⟩;have b3:=Qa (a2.out.trans (a7.mono a2.out.size));clear a7;go_wp2_with fail;go_ret;rw [Hs.out];exact⟨rfl,b3.out⟩
   ·have h':¬ (i:Int)<n:=by omega
    have Hs:Hid (r=true):=Qa (Hr.out.2 (by
     have h1:=He.out;have h2:=b5.out;have h3:=b6.out;have h4:=Hi.out
     rwa [List.take_of_length_le (by omega),List.take_of_length_le (by omega)] at h1))
    clear He;go_wp2_with fail;go_ret;rw [Hs.out];exact⟨rfl,a1.out⟩
 ·have Hs:Hid (r=false):=Qa (by
   rw [Bool.eq_false_iff];intro e;have:=Hr.out.1 e;subst this;exact hne (b5.out.trans b6.out.symm))
  have c6: ((n:Int)==n')=false:=by simp only [beq_eq_false_iff_ne];omega
  clear hne Ha Hb Hr;go_enter Tryz.func51,Tryz.ntmps51;go_wp2_with fail;(with_reducible refine Hl.out.mono ?_);rintro e w3 ⟨rfl,rfl⟩;go_wp2_with fail;(with_reducible refine b7.out.mono ?_);rintro e w3 ⟨rfl,rfl⟩;go_wp2_with fail;go_ret;rw [Hs.out];exact⟨rfl,Zd _ _⟩
def FM (W:World)(ns ns':List ByteArray)(ks ks':List JV)(s17:Value)(wr:World):Prop:= ∃i:Nat,s17 = .int .i64 i/\i<=ks.length/\(ns.take i=ns'.take i/\ks.take i=ks'.take i)/\Below W.heap.size W wr
theorem uC {B:Option Addr}(ha:eS P w A us ns ks)(hb:eS Q w B us' ns' ks')(hr:r=true↔ns=ns'/\ks=ks')
  (H:∀ (i:Nat) u u' k k',us[i]?=some u->ks[i]?=some k->us'[i]?=some u'->ks'[i]?=some k'->∀w1,Below w.heap.size w w1->Calls Tryz.prog 29 #[u,u'] w1 fun e w'=>e = .returned (.bool (oD k k'))/\Below w1.heap.size w1 w') :
  Calls Tryz.prog 51 #[.iface 119 (.pointer A), .iface 119 (.pointer B)] w fun e w'=>e = .returned (.bool r)/\Below w.heap.size w w':=by
 have la:=ha.len;have lb:=hb.len;have c4:=Qa ha.names;have c3:=Qa hb.names;have hl:=ha.bd;have d0:=hb.bd;unfold maxLen at hl d0;have Ha:=Qa ha;have Hb:=Qa hb;have HH:=Qa H;have Hr:=Qa hr;clear ha hb H hr;have Hl:=Qa (eK Ha.out);have c1:=Qa (eK Hb.out);have b9:=Qa la;have c0:=Qa lb;generalize hn:us.length=n at *;generalize hn':us'.length=n' at *;have Hn:=Qa hn;have c5:=Qa hn';clear hn hn' la lb
 by_cases hne:n=n'
 ·subst hne
  go_enter Tryz.func51,Tryz.ntmps51;go_wp2_with fail;(with_reducible refine Hl.out.mono ?_);rintro e w3 ⟨rfl,rfl⟩;go_wp2_with fail;(with_reducible refine c1.out.mono ?_);rintro e w3 ⟨rfl,rfl⟩;go_wp2_with fail;(with_reducible refine Hl.out.mono ?_);rintro e w3 ⟨rfl,rfl⟩;go_wp2_with fail;clear Hl c1
  go_loopw [17] (fun s17 wr=>FM w ns ns' ks ks' s17 wr) (fun s17 _=>n - (intOf s17).toNat)
  case atStart=>exact⟨0,rfl,Zj _,⟨rfl,rfl⟩,Zd _ _⟩
  case round=>
   obtain⟨i,rfl,c6,he,a3⟩:=hrel;have a0:=Qa a3;have He:=Qa he;have Hi:=Qa c6;clear he c6;have c7:=Qa (Ha.out.below a3);have c9:=Qa (Hb.out.below a3);clear a3
   by_cases h:i<n
   ·have b6:i<us.length:=by have:=Hn.out;omega
    have b5:i<us'.length:=by have:=c5.out;omega
    have b2:i<ks.length:=by have:=b9.out;have:=Hn.out;omega
    have b3:i<ks'.length:=by have:=c0.out;have:=c5.out;omega
    obtain⟨u,hu⟩:∃u,us[i]?=some u:=⟨_,Zc b6⟩;obtain⟨u',b1⟩:∃u,us'[i]?=some u:=⟨_,Zc b5⟩;obtain⟨k,hk⟩:∃u,ks[i]?=some u:=⟨_,Zc b2⟩;obtain⟨k',a6⟩:∃u,ks'[i]?=some u:=⟨_,Zc b3⟩;have b7:i<ns.length:=by have:=c4.out;omega
    have b4:i<ns'.length:=by have:=c3.out;omega
    obtain⟨s,hs⟩:∃u,ns[i]?=some u:=⟨_,Zc b7⟩;obtain⟨s',a7⟩:∃u,ns'[i]?=some u:=⟨_,Zc b4⟩;have Hp:=Qa (fm c7.out i hu hs);have Hq:=Qa (fun w5 (h:Below wr.heap.size wr w5)=>fm (c9.out.below h) i b1 a7);have Hc:=Qa (HH.out i u u' k k' hu hk b1 a6);have Hk:=Qa b2;have h': (i:Int)<n:=by omega
    have w1:IntKind.i64.wrap ((i:Int)+1)= (i:Int)+1:=IntWalk.i64_in _ (by omega)
    by_cases hss:s=s'
    ·subst hss
     by_cases hkk:k=k'
     ·have Hs:=Qa (And.intro (kT He.out.1 hs a7) (kT He.out.2 hk (hkk▸a6)))
      rw [bV.2 hkk] at Hc;clear b6 b5 b2 b3 hu b1 hk a6 hs a7 b7 b4 He hkk;go_wp2_with fail;(with_reducible refine Hp.out.mono ?_);rintro e w3 ⟨rfl,a1⟩;have a5:=Qa a1;have a9:=Qa (Hq.out w3 a1);clear a1;go_wp2_with fail;(with_reducible refine a9.out.mono ?_);rintro e w4 ⟨rfl,a4⟩;have a2:=Qa (a0.out.trans ((a5.out.trans (a4.mono a5.out.size)).mono a0.out.size));have c2:=Qa (Hc.out w4 a2.out);clear a4;go_wp2_with fail;(with_reducible refine c2.out.mono ?_);rintro e w5 ⟨rfl,b0⟩;have b8:=Qa (a2.out.trans (b0.mono a2.out.size));clear b0;go_wp2_with fail;refine⟨⟨i+1,rfl,Hk.out,Hs.out,b8.out⟩, ?_⟩
      show n - ((i:Int)+1).toNat<n - ((i:Int)).toNat
      omega
     ·have Hs:Hid (r=false):=Qa (by
       rw [Bool.eq_false_iff];intro e;have:=Hr.out.1 e;rw [this.2,a6] at hk;exact hkk (Zh hk).symm)
      rw [fi.2 hkk] at Hc;clear b6 b5 b2 b3 hu b1 hk a6 hs a7 b7 b4 He hkk;go_wp2_with fail;(with_reducible refine Hp.out.mono ?_);rintro e w3 ⟨rfl,a1⟩;have a5:=Qa a1;have a9:=Qa (Hq.out w3 a1);clear a1;go_wp2_with fail;(with_reducible refine a9.out.mono ?_);rintro e w4 ⟨rfl,a4⟩;have a2:=Qa (a0.out.trans ((a5.out.trans (a4.mono a5.out.size)).mono a0.out.size));have c2:=Qa (Hc.out w4 a2.out);clear a4;go_wp2_with fail;(with_reducible refine c2.out.mono ?_);rintro e w5 ⟨rfl,b0⟩;have b8:=Qa (a2.out.trans (b0.mono a2.out.size));clear b0;go_wp2_with fail;go_ret;rw [Hs.out];exact⟨rfl,b8.out⟩
    ·have Hs:Hid (r=false):=Qa (by
      rw [Bool.eq_false_iff];intro e;have:=Hr.out.1 e;rw [this.1,a7] at hs;exact hss (Zh hs).symm)
     have c8: (s.toList==s'.toList)=false:=by
      simp only [beq_eq_false_iff_ne,ByteArray.toList_eq];intro e;apply hss
      cases s with | mk a=>cases s' with | mk b=>simp only at e;rw [Array.toList_inj.1 e]
     clear b6 b5 b2 b3 hu b1 hk a6 hs a7 b7 b4 He hss;go_wp2_with fail;(with_reducible refine Hp.out.mono ?_);rintro e w3 ⟨rfl,a1⟩;have a5:=Qa a1;have a9:=Qa (Hq.out w3 a1);clear a1;go_wp2_with fail;(with_reducible refine a9.out.mono ?_);rintro e w4 ⟨rfl,a4⟩;have a2:=Qa (a0.out.trans ((a5.out.trans (a4.mono a5.out.size)).mono a0.out.size));clear a4;go_wp2_with fail;go_ret;rw [Hs.out];exact⟨rfl,a2.out⟩
   ·have h':¬ (i:Int)<n:=by omega
    have Hs:Hid (r=true):=Qa (Hr.out.2 (by
     have h1:=He.out;have h2:=b9.out;have h3:=c0.out;have h4:=Hi.out;have h5:=c4.out;have h6:=c3.out
     rwa [List.take_of_length_le (by omega),List.take_of_length_le (by omega),List.take_of_length_le (by omega),List.take_of_length_le (by omega)] at h1))
    clear He;go_wp2_with fail;go_ret;rw [Hs.out];exact⟨rfl,a0.out⟩
 ·have Hs:Hid (r=false):=Qa (by
   rw [Bool.eq_false_iff];intro e;have:=(Hr.out.1 e).2;subst this;exact hne (b9.out.trans c0.out.symm))
  have c8: ((n:Int)==n')=false:=by simp only [beq_eq_false_iff_ne];omega
  clear hne Ha Hb Hr;go_enter Tryz.func51,Tryz.ntmps51;go_wp2_with fail;(with_reducible refine Hl.out.mono ?_);rintro e w3 ⟨rfl,rfl⟩;go_wp2_with fail;(with_reducible refine c1.out.mono ?_);rintro e w3 ⟨rfl,rfl⟩;go_wp2_with fail;go_ret;rw [Hs.out];exact⟨rfl,Zd _ _⟩
theorem Eb (hr:∀W,(binOp .eql 32 (.iface 58 (.agg #[])) (.iface 58 (.agg #[]))).run Tryz.prog W = .ok (.bool r) W):Calls Tryz.prog 29 #[.iface 58 (.agg #[]), .iface 58 (.agg #[])] w fun e w'=>e = .returned (.bool r)/\Below w.heap.size w w':=by
 have k1:=iG;go_enter Tryz.func29,Tryz.ntmps29;go_wp2_with fail;(with_reducible refine gS.mono ?_);rintro e w1 ⟨rfl,a1⟩;have a2:=Qa a1;clear a1;go_wp2_with fail;(with_reducible refine gS.mono ?_);rintro e w2 ⟨rfl,a0⟩;have a3:=Qa (a2.out.trans (a0.mono a2.out.size));clear a0;go_wp2_with fail;go_ret;exact⟨rfl,a3.out⟩
theorem DS (hr:∀W,(binOp .eql 32 (.iface 54 (.agg #[])) (.iface 54 (.agg #[]))).run Tryz.prog W = .ok (.bool r) W):Calls Tryz.prog 29 #[.iface 54 (.agg #[]), .iface 54 (.agg #[])] w fun e w'=>e = .returned (.bool r)/\Below w.heap.size w w':=by
 have k1:=lF;go_enter Tryz.func29,Tryz.ntmps29;go_wp2_with fail;(with_reducible refine gH.mono ?_);rintro e w1 ⟨rfl,a1⟩;have a2:=Qa a1;clear a1;go_wp2_with fail;(with_reducible refine gH.mono ?_);rintro e w2 ⟨rfl,a0⟩;have a3:=Qa (a2.out.trans (a0.mono a2.out.size));clear a0;go_wp2_with fail;go_ret;exact⟨rfl,a3.out⟩
theorem DI (a b:Bool)(hr:∀W,(binOp .eql 32 (.iface 59 (.bool a)) (.iface 59 (.bool b))).run Tryz.prog W = .ok (.bool r) W):Calls Tryz.prog 29 #[.iface 59 (.bool a), .iface 59 (.bool b)] w fun e w'=>e = .returned (.bool r)/\Below w.heap.size w w':=by
 have k1:=lK;go_enter Tryz.func29,Tryz.ntmps29;go_wp2_with fail;(with_reducible refine gT.mono ?_);rintro e w1 ⟨rfl,a1⟩;have a2:=Qa a1;clear a1;go_wp2_with fail;(with_reducible refine gT.mono ?_);rintro e w2 ⟨rfl,a0⟩;have a3:=Qa (a2.out.trans (a0.mono a2.out.size));clear a0;go_wp2_with fail;go_ret;exact⟨rfl,a3.out⟩
theorem DF (a b:ByteArray)(hr:∀W,(binOp .eql 32 (.iface 60 (.string a)) (.iface 60 (.string b))).run Tryz.prog W = .ok (.bool r) W):Calls Tryz.prog 29 #[.iface 60 (.string a), .iface 60 (.string b)] w fun e w'=>e = .returned (.bool r)/\Below w.heap.size w w':=by
 have k1:=lO;go_enter Tryz.func29,Tryz.ntmps29;go_wp2_with fail;(with_reducible refine gK.mono ?_);rintro e w1 ⟨rfl,a1⟩;have a2:=Qa a1;clear a1;go_wp2_with fail;(with_reducible refine gK.mono ?_);rintro e w2 ⟨rfl,a0⟩;have a3:=Qa (a2.out.trans (a0.mono a2.out.size));clear a0;go_wp2_with fail;go_ret;exact⟨rfl,a3.out⟩
theorem Fq (a b:Dc)(hr:∀W,(binOp .eql 32 (.iface 50 (.agg #[.bool a.neg, .string a.digits, .int .i64 a.exp])) (.iface 50 (.agg #[.bool b.neg, .string b.digits, .int .i64 b.exp]))).run Tryz.prog W = .ok (.bool r) W):Calls Tryz.prog 29 #[.iface 50 (.agg #[.bool a.neg, .string a.digits, .int .i64 a.exp]), .iface 50 (.agg #[.bool b.neg, .string b.digits, .int .i64 b.exp])] w fun e w'=>e = .returned (.bool r)/\Below w.heap.size w w':=by
 have k1:=nM;go_enter Tryz.func29,Tryz.ntmps29;go_wp2_with fail;(with_reducible refine iP.mono ?_);rintro e w1 ⟨rfl,a1⟩;have a2:=Qa a1;clear a1;go_wp2_with fail;(with_reducible refine iP.mono ?_);rintro e w2 ⟨rfl,a0⟩;have a3:=Qa (a2.out.trans (a0.mono a2.out.size));clear a0;go_wp2_with fail;go_ret;exact⟨rfl,a3.out⟩
theorem DC {B:Option Addr}(HP:∀w1,Below w.heap.size w w1->Calls Tryz.prog 51 #[.iface 57 (.pointer A), .iface 57 (.pointer B)] w1 fun e w'=>e = .returned (.bool r)/\Below w1.heap.size w1 w'):Calls Tryz.prog 29 #[.iface 57 (.pointer A), .iface 57 (.pointer B)] w fun e w'=>e = .returned (.bool r)/\Below w.heap.size w w':=by
 have k4:=iR;have k5:=lR;have HL:=Qa HP;clear HP;go_enter Tryz.func29,Tryz.ntmps29;go_wp2_with fail;(with_reducible refine ep.mono ?_);rintro e w1 ⟨rfl,a4⟩;have a3:=Qa a4;clear a4;go_wp2_with fail;(with_reducible refine ep.mono ?_);rintro e w2 ⟨rfl,a2⟩;have a0:=Qa (a3.out.trans (a2.mono a3.out.size));clear a2;go_wp2_with fail;(with_reducible refine(HL.out w2 a0.out).mono ?_);rintro e w4 ⟨rfl,a1⟩;have a5:=Qa (a0.out.trans (a1.mono a0.out.size));clear a1;go_wp2_with fail;go_ret;exact⟨rfl,a5.out⟩
theorem EU {B:Option Addr}(HP:∀w1,Below w.heap.size w w1->Calls Tryz.prog 51 #[.iface 119 (.pointer A), .iface 119 (.pointer B)] w1 fun e w'=>e = .returned (.bool r)/\Below w1.heap.size w1 w'):Calls Tryz.prog 29 #[.iface 119 (.pointer A), .iface 119 (.pointer B)] w fun e w'=>e = .returned (.bool r)/\Below w.heap.size w w':=by
 have k4:=jX;have k5:=nG;have HL:=Qa HP;clear HP;go_enter Tryz.func29,Tryz.ntmps29;go_wp2_with fail;(with_reducible refine gJ.mono ?_);rintro e w1 ⟨rfl,a4⟩;have a3:=Qa a4;clear a4;go_wp2_with fail;(with_reducible refine gJ.mono ?_);rintro e w2 ⟨rfl,a2⟩;have a0:=Qa (a3.out.trans (a2.mono a3.out.size));clear a2;go_wp2_with fail;(with_reducible refine(HL.out w2 a0.out).mono ?_);rintro e w4 ⟨rfl,a1⟩;have a5:=Qa (a0.out.trans (a1.mono a0.out.size));clear a1;go_wp2_with fail;go_ret;exact⟨rfl,a5.out⟩
