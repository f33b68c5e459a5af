import Derived.Test.YtibmppoeeppnoaaGreatDoorGZ4bp
set_option linter.unusedVariables false
set_option linter.unusedSimpArgs false
set_option maxHeartbeats 64000000
set_option maxRecDepth 100000
namespace Go.Proofs.YtibmppoeeppnoaaGreatDoor
open Go.RowKit Go.Shelf
variable {aE aU:Addr}{cs:Array Value}{r:Bool}{s:ByteArray}{j:JV}{ns ns':List ByteArray}{ks ks':List JV}{us us':List Value}{i:Nat}{P Q:Nat->Prop}{A:Option Addr}{t0 t1:TypeId}{v x0 x1:Value}{X w w2:World}
attribute [local go_sem] Oper.semAt_some
def te (us:List Value):List (ByteArray×Value):=us.mapIdx fun i u=>(⟨(Lib.itoa i).toArray⟩,u)
theorem yn (us:List Value):(te us).length=us.length:=by simp[te]
theorem BO (us:List Value)(i:Fin (te us).length):∃u,us[i.val]?=some u/\(te us).get i= (⟨(Lib.itoa i.val).toArray⟩,u):=by
 have hi:i.val<us.length:=by have h1:=i.isLt;have h2:=yn us;omega
 exact⟨us[i.val],Zc hi,by
  show(te us)[i.val]'i.isLt=_
  simp only[te,List.getElem_mapIdx]⟩
def Gm (w X:World):Prop:= ∀ (g:Nat) cs t z,w.heap[g]?=some (Obj.cells cs t z)->X.heap[g]?=some (Obj.cells cs t z)
theorem da.kp (h:da P w A us ks)(hk:Gm w X):da P X A us ks:=by
 rcases h with h|⟨g,R,c,e,hg,hr,hl⟩
 ·exact .inl h
 ·exact .inr ⟨g,R,c,e,hk _ _ _ _ hg,hr.stay fun g o hp hg _ ⟨cs,z,ho⟩=>⟨hp,by subst ho;exact hk _ _ _ _ hg⟩,hl⟩
theorem eD.kp (h:eD P w A us ns ks)(hk:Gm w X):eD P X A us ns ks:=by
 obtain⟨g,R,c,e,hg,hr,hl⟩:=h;exact⟨g,R,c,e,hk _ _ _ _ hg,hr.stay fun g o hp hg _ ⟨cs,z,ho⟩=>⟨hp,by subst ho;exact hk _ _ _ _ hg⟩,hl⟩
theorem cW.kp (h:cW w)(hk:Gm w X):cW X:=by
 have hg:Tryz.prog.globalNamed "internal/strconv.uint64pow10" = some 9:=by kernel_rfl
 unfold cW Lib.TabIs World.var? at h ⊢;rw[hg] at h ⊢;simp only[Option.bind_some] at h ⊢;rcases ho:w.heap[(9:Nat)]? with _|o
 ·rw[ho] at h;cases h
 ·rw[ho] at h
  cases o with
  |cells cs t z=>rw[hk _ _ _ _ ho];exact h
  |_=>cases h
def El (w:World)(n:Nat)(pre:List (Fin n))(W:World):Prop:=Bx W w.heap.size 4 (.bool false)/\Below w.heap.size w W
theorem og (h:da P w A us ks)(hT:cW w)
  (H:∀ (i:Nat) v k,us[i]?=some v->ks[i]?=some k->∀w1,Below w.heap.size w w1->Calls Tryz.prog 24 #[v] w1 fun e w'=>e =.returned (.bool false)/\Below w1.heap.size w1 w') :
  CallsIn Fence.wide 9 Tryz.prog 24 #[.iface 52 (.pointer A)] w fun e w'=>e =.returned (.bool false)/\Below w.heap.size w w':=by
 have k1:=iF;have Hh:=Qa h;have HT:=Qa hT;have HH:=Qa H;clear h hT H;refine callsIn_of_wp_marks Tryz.func24 rfl trivial ?_ rfl;simp only[Tryz.ntmps24,List.size_toArray,List.length_cons,List.length_nil,Nat.reduceAdd,Nat.reduceSub,Array.replicate_succ,Array.replicate_zero,List.push_toArray,List.append_toArray,List.nil_append,List.cons_append];have Hk:=Qa (Bx.new w 4 (.bool false));have a0:=Qa (show Below w.heap.size w (w.alloc (.cells #[.bool false] 4)) from(Zd _ _).alloc (Za _) _)
 gi_wp2_with fail
 obtain⟨W0,b7⟩:∃W0,w.alloc (.cells #[.bool false] 4)=W0:=⟨_,rfl⟩;have a6:W0.heap.size=w.heap.size+1:=by rw[<-b7];simp
 rw[b7] at Hk a0 ⊢;have a7:=Qa a6;clear b7 a6;refine⟨fun _ _=>trivial,?_⟩;go_invoke
 gi_wp2_with fail
 refine(callsIn_wide.2 em).mono ?_;rintro e w1 ⟨rfl,c1⟩;have a5:=Qa c1;clear c1
 gi_wp2_with fail
 refine⟨trivial,?_⟩;refine(callsIn_wide.2 pI).mono ?_;rintro e w2 ⟨rfl,rfl⟩;have a3:W0.heap.size<=w1.heap.size:=a5.out.size;have a9:=ac w1 (.cells #[.iface 52 (.pointer A)] 113);have b3:=Ze w1 (.cells #[.iface 52 (.pointer A)] 113);obtain⟨W1,b6⟩:∃W1,w1.alloc (.cells #[.iface 52 (.pointer A)] 113)=W1:=⟨_,rfl⟩;have a2:W1.heap.size=w1.heap.size+1:=by rw[<-b6];simp
 rw[b6] at a9 b3 ⊢;clear b6;have c2:El w (te us).length [] W1:=⟨(Hk.out.later a5.out).later a9,a0.out.trans ((a5.out.mono a0.out.size).trans (a9.mono (Zb a0.out.size a5.out.size)))⟩;have c5:=Qa c2;have b8:=Qa a2;have c6:=Qa b3;have a1:=Qa a3;clear a9 b3 c2 a2 a3 Hk a0 a5
 gi_wp2
 have b4:∀X,fQ w.heap.size (w.heap.size+1) W1 X->Gm w X:=fun X hX g cs t z hg=>hX g cs t z (.inl (ae hg)) ((c5.out.2.block g (ae hg)).trans hg)
 have b2:=Qa b4;have c4:=Qa (yn us);have c7:=Qa Hh.out.bd;have a4:SeqStopsK Fence.wide (9 - 1) Tryz.prog 63 #[.pointer (some ⟨w1.heap.size,0,none⟩)] (fun x:Fin (te us).length=> #[.string ((te us).get x).1,((te us).get x).2]) (fQ w.heap.size (w.heap.size+1)) (fun _=>True) (fun _=>True) (te us).length W1:=by
  intro l J Jx W hW hJ c9 hY h0;refine BI (9 - 1) (by omega) l w1.heap.size A (te us) (by rw[c4.out];exact c7.out) w.heap.size (w.heap.size+1) (fQ w.heap.size (w.heap.size+1) W1) (fun X Y h1 h2=>h1.t h2) (fun X hX=>?_) (fun X hX=>?_) (fun X k hX=>?_) J Jx W (fQ.of_below hW) hJ c9 hY h0
  ·exact aa (hX _ _ _ _ (.inr (by have:=a1.out;have:=a7.out;omega)) c6.out) (j:=0) rfl
  ·rw[c4.out];exact dR (Hh.out.kp (b2.out X hX))
  ·obtain⟨u,hu,he⟩:=BO us k;rw[he];exact et (Hh.out.kp (b2.out X hX)) (HT.out.kp (b2.out X hX)) k.val hu
 have b5:=Qa a4;clear b4 a4;have d0:w.heap.size+2<=W1.heap.size:=by have:=b8.out;have:=a1.out;have:=a7.out;omega
 refine wpIn_rangeFunc_ownF rfl (by omega) (gf:=63) (lb:= #[.pointer (some ⟨w1.heap.size,0,none⟩)]) (by simp[Act.eval]) trivial (enters_of Tryz.func63 (by kernel_rfl) rfl)
  b5.out
  (fun h k=>h.t k) (fun W l o o' _ h ho _=>fQ.b W l o o' h ho) (Zd _ _) (fun _=>rfl)
  (El w (te us).length) (fun _ _ _=>False) ?hI ?hIx c5.out
  (fun x=>{tmps:= #[.iface 52 (.pointer A),undef,.pointer (some ⟨w.heap.size,0,none⟩),.iface 52 (.pointer A),.bool true,undef,((te us).get x).2,.iface 52 (.pointer A),.int .i64 5,.bool false,.tuple #[.iface 52 (.pointer A),.bool true],.iface 52 (.pointer A),.tuple #[.iface 52 (.pointer A),.bool true],.iface 52 (.pointer A),.bool true,.bool true,.iface 52 (.pointer A),.func (.func 63) #[] #[.pointer (some ⟨w1.heap.size,0,none⟩)],.string ((te us).get x).1,((te us).get x).2,undef,undef],defers:= []}) ?assign ?body ?done ?stop
 case hI=>
  intro s A B row hs hg hr;exact⟨hs.1.kept hg (fun r e=>(hr r e).2),hs.2.grown hg hs.2.size (fun k e=>by have:=(hr k e).1;omega)⟩
 case hIx=>exact fun _ _ _ _ _ hs _ _=>hs
 case assign=>
  intro l x W K hK;generalize (te us).get x=y at hK ⊢;obtain⟨y1,y2⟩:=y
  dsimp only at hK ⊢
  gi_wp2
  exact hK
 case body=>
  rintro l pre x W ⟨hk,hB⟩ hN;obtain⟨u,hu,he⟩:=BO us x;have d2:x.val<ks.length:=by rw[<-Hh.out.len];exact(List.getElem?_eq_some_iff.1 hu).1
  have Hc:=Qa (HH.out x.val u _ hu (Zc d2) W hB)
  try dsimp only
  rw[he];have d1:=Qa hk;have c0:=Qa hB;clear hk hB
  gi_wp2_with fail
  refine⟨trivial,?_⟩;refine(CallsIn.inRound l (callsIn_wide.2 Hc.out)).mono ?_;rintro e W2 ⟨rfl,c3⟩;have b0:=Qa c3;clear c3
  gi_wp2
  exact⟨mP b0.out,fQ.of_below b0.out,d1.out.later b0.out,c0.out.trans (b0.out.mono c0.out.size)⟩
 case done=>
  rintro D ys W hD - ⟨hk,hB⟩ hK;have b4:=hk.cell;have d3:=hk.frozen
  gi_wp2
  have hne:w.heap.size≠D:=by omega
  have b9:(W.setCell ⟨w.heap.size,0,none⟩ (.bool false)).heap[D]?=some (.deferred (some [])):=(Below.heap_setCell W _ _ D (fun e=>hne e.symm)).trans hK;have b1:=hk.set (.bool false);refine⟨by simp,.inl ⟨_,_,rfl,run_takeDeferred b9,?_⟩⟩;have c8:((W.setCell ⟨w.heap.size,0,none⟩ (.bool false)).putObj D (.deferred none)).cell? ⟨w.heap.size,0,none⟩=some (.bool false):=by
   rw[World.cell?_of_block (w:=W.setCell ⟨w.heap.size,0,none⟩ (.bool false)) (World.putObj_heap_other hne)];exact b1.cell
  refine⟨.bool false,?_,rfl,?_⟩
  ·simp[results,Tryz.results24,go_sem,c8]
  ·exact(hB.setCell (p:=⟨w.heap.size,0,none⟩) (Za _) _).trans (belowK_b (w:=w) (Za _) _ D _ _ (by omega) b9 rfl rfl)
 case stop=>
  rintro D c pre W hD _ h _;exact h.elim
attribute [local go_sem] Oper.semAt_some
def uz (ns:List ByteArray)(us:List Value):List (ByteArray×Value):=ns.zip us
theorem yI (h:ns.length=us.length):(uz ns us).length=us.length:=by simp[uz,h]
theorem BM (h:ns.length=us.length)(i:Fin (uz ns us).length):∃u s,us[i.val]?=some u/\ns[i.val]?=some s/\(uz ns us).get i= (s,u):=by
 have hi:i.val<us.length:=by have h1:=i.isLt;have h2:=yI h;omega
 have hj:i.val<ns.length:=by omega
 exact⟨us[i.val],ns[i.val],Zc hi,Zc hj,by
  show(uz ns us)[i.val]'i.isLt=_
  simp only[uz,List.getElem_zip]⟩
theorem zD (h:eD P w A us ns ks)
  (H:∀ (i:Nat) v k,us[i]?=some v->ks[i]?=some k->∀w1,Below w.heap.size w w1->Calls Tryz.prog 24 #[v] w1 fun e w'=>e =.returned (.bool false)/\Below w1.heap.size w1 w') :
  CallsIn Fence.wide 9 Tryz.prog 24 #[.iface 124 (.pointer A)] w fun e w'=>e =.returned (.bool false)/\Below w.heap.size w w':=by
 have k1:=jM;have Hh:=Qa h;have b1:=Qa (show ns.length=us.length by rw[h.names,h.len]);have HH:=Qa H;clear h H;refine callsIn_of_wp_marks Tryz.func24 rfl trivial ?_ rfl;simp only[Tryz.ntmps24,List.size_toArray,List.length_cons,List.length_nil,Nat.reduceAdd,Nat.reduceSub,Array.replicate_succ,Array.replicate_zero,List.push_toArray,List.append_toArray,List.nil_append,List.cons_append];have Hk:=Qa (Bx.new w 4 (.bool false));have a0:=Qa (show Below w.heap.size w (w.alloc (.cells #[.bool false] 4)) from(Zd _ _).alloc (Za _) _)
 gi_wp2_with fail
 obtain⟨W0,b7⟩:∃W0,w.alloc (.cells #[.bool false] 4)=W0:=⟨_,rfl⟩;have a6:W0.heap.size=w.heap.size+1:=by rw[<-b7];simp
 rw[b7] at Hk a0 ⊢;have a7:=Qa a6;clear b7 a6;refine⟨fun _ _=>trivial,?_⟩;go_invoke
 gi_wp2_with fail
 refine(callsIn_wide.2 gG).mono ?_;rintro e w1 ⟨rfl,c2⟩;have a5:=Qa c2;clear c2
 gi_wp2_with fail
 refine⟨trivial,?_⟩;refine(callsIn_wide.2 pI).mono ?_;rintro e w2 ⟨rfl,rfl⟩;have a3:W0.heap.size<=w1.heap.size:=a5.out.size;have a9:=ac w1 (.cells #[.iface 124 (.pointer A)] 113);have b3:=Ze w1 (.cells #[.iface 124 (.pointer A)] 113);obtain⟨W1,b6⟩:∃W1,w1.alloc (.cells #[.iface 124 (.pointer A)] 113)=W1:=⟨_,rfl⟩;have a2:W1.heap.size=w1.heap.size+1:=by rw[<-b6];simp
 rw[b6] at a9 b3 ⊢;clear b6;have c3:El w (uz ns us).length [] W1:=⟨(Hk.out.later a5.out).later a9,a0.out.trans ((a5.out.mono a0.out.size).trans (a9.mono (Zb a0.out.size a5.out.size)))⟩;have c6:=Qa c3;have b8:=Qa a2;have c7:=Qa b3;have a1:=Qa a3;clear a9 b3 c3 a2 a3 Hk a0 a5
 gi_wp2
 have b4:∀X,fQ w.heap.size (w.heap.size+1) W1 X->Gm w X:=fun X hX g cs t z hg=>hX g cs t z (.inl (ae hg)) ((c6.out.2.block g (ae hg)).trans hg)
 have c0:=Qa b4;have c5:=Qa (yI b1.out);have c8:=Qa Hh.out.bd;have a4:SeqStopsK Fence.wide (9 - 1) Tryz.prog 63 #[.pointer (some ⟨w1.heap.size,0,none⟩)] (fun x:Fin (uz ns us).length=> #[.string ((uz ns us).get x).1,((uz ns us).get x).2]) (fQ w.heap.size (w.heap.size+1)) (fun _=>True) (fun _=>True) (uz ns us).length W1:=by
  intro l J Jx W hW hJ d0 hY h0;refine AT (9 - 1) (by omega) l w1.heap.size A (uz ns us) (by rw[c5.out];exact c8.out) w.heap.size (w.heap.size+1) (fQ w.heap.size (w.heap.size+1) W1) (fun X Y h1 h2=>h1.t h2) (fun X hX=>?_) (fun X hX=>?_) (fun X k hX=>?_) J Jx W (fQ.of_below hW) hJ d0 hY h0
  ·exact aa (hX _ _ _ _ (.inr (by have:=a1.out;have:=a7.out;omega)) c7.out) (j:=0) rfl
  ·rw[c5.out];exact eJ (Hh.out.kp (c0.out X hX))
  ·obtain⟨u,s,hu,hs,he⟩:=BM b1.out k;rw[he];exact fj (Hh.out.kp (c0.out X hX)) k.val hu hs
 have b5:=Qa a4;clear b4 a4;have d1:w.heap.size+2<=W1.heap.size:=by have:=b8.out;have:=a1.out;have:=a7.out;omega
 refine wpIn_rangeFunc_ownF rfl (by omega) (gf:=63) (lb:= #[.pointer (some ⟨w1.heap.size,0,none⟩)]) (by simp[Act.eval]) trivial (enters_of Tryz.func63 (by kernel_rfl) rfl)
  b5.out
  (fun h k=>h.t k) (fun W l o o' _ h ho _=>fQ.b W l o o' h ho) (Zd _ _) (fun _=>rfl)
  (El w (uz ns us).length) (fun _ _ _=>False) ?hI ?hIx c6.out
  (fun x=>{tmps:= #[.iface 124 (.pointer A),undef,.pointer (some ⟨w.heap.size,0,none⟩),.iface 124 (.pointer A),.bool true,undef,((uz ns us).get x).2,.iface 124 (.pointer A),.int .i64 6,.bool false,.tuple #[.iface 124 (.pointer A),.bool true],.iface 124 (.pointer A),.tuple #[.iface 124 (.pointer A),.bool true],.iface 124 (.pointer A),.bool true,.bool true,.iface 124 (.pointer A),.func (.func 63) #[] #[.pointer (some ⟨w1.heap.size,0,none⟩)],.string ((uz ns us).get x).1,((uz ns us).get x).2,undef,undef],defers:= []}) ?assign ?body ?done ?stop
 case hI=>
  intro s A B row hs hg hr;exact⟨hs.1.kept hg (fun r e=>(hr r e).2),hs.2.grown hg hs.2.size (fun k e=>by have:=(hr k e).1;omega)⟩
 case hIx=>exact fun _ _ _ _ _ hs _ _=>hs
 case assign=>
  intro l x W K hK;generalize (uz ns us).get x=y at hK ⊢;obtain⟨y1,y2⟩:=y
  dsimp only at hK ⊢
  gi_wp2
  exact hK
 case body=>
  rintro l pre x W ⟨hk,hB⟩ hN;obtain⟨u,s,hu,hs,he⟩:=BM b1.out x;have d3:x.val<ks.length:=by rw[<-Hh.out.len];exact(List.getElem?_eq_some_iff.1 hu).1
  have Hc:=Qa (HH.out x.val u _ hu (Zc d3) W hB)
  try dsimp only
  rw[he];have d2:=Qa hk;have c1:=Qa hB;clear hk hB
  gi_wp2_with fail
  refine⟨trivial,?_⟩;refine(CallsIn.inRound l (callsIn_wide.2 Hc.out)).mono ?_;rintro e W2 ⟨rfl,c4⟩;have b0:=Qa c4;clear c4
  gi_wp2
  exact⟨mP b0.out,fQ.of_below b0.out,d2.out.later b0.out,c1.out.trans (b0.out.mono c1.out.size)⟩
 case done=>
  rintro D ys W hD - ⟨hk,hB⟩ hK;have b4:=hk.cell;have d4:=hk.frozen
  gi_wp2
  have hne:w.heap.size≠D:=by omega
  have b9:(W.setCell ⟨w.heap.size,0,none⟩ (.bool false)).heap[D]?=some (.deferred (some [])):=(Below.heap_setCell W _ _ D (fun e=>hne e.symm)).trans hK;have b2:=hk.set (.bool false);refine⟨by simp,.inl ⟨_,_,rfl,run_takeDeferred b9,?_⟩⟩;have c9:((W.setCell ⟨w.heap.size,0,none⟩ (.bool false)).putObj D (.deferred none)).cell? ⟨w.heap.size,0,none⟩=some (.bool false):=by
   rw[World.cell?_of_block (w:=W.setCell ⟨w.heap.size,0,none⟩ (.bool false)) (World.putObj_heap_other hne)];exact b2.cell
  refine⟨.bool false,?_,rfl,?_⟩
  ·simp[results,Tryz.results24,go_sem,c9]
  ·exact(hB.setCell (p:=⟨w.heap.size,0,none⟩) (Za _) _).trans (belowK_b (w:=w) (Za _) _ D _ _ (by omega) b9 rfl rfl)
 case stop=>
  rintro D c pre W hD _ h _;exact h.elim
theorem wt:Calls Tryz.prog 24 #[.iface 45 (.agg #[])] w fun e w'=>e =.returned (.bool false)/\Below w.heap.size w w':=by
 have k1:=iN;have a2:=Qa (show Below w.heap.size w (w.alloc (.cells #[.bool false] 4)) from(Zd _ _).alloc (Za _) _);have Hk:=Qa (Bx.new w 4 (.bool false));go_enter Tryz.func24,Tryz.ntmps24;go_wp2_with fail;(with_reducible refine gI.mono ?_);rintro e w1 ⟨rfl,a1⟩;have a5:=Qa (a2.out.trans (a1.mono a2.out.size));have a0:=Hk.out.later a1;have a7:=a0.cell;have a6:=a0.frozen;have a3:=Qa (a0.set (.bool false)).cell;clear a1 a0;go_wp2_with fail;refine Zg (v:=.bool false) ?_ rfl ⟨rfl,a5.out.setCell (p:=⟨w.heap.size,0,none⟩) (Za _) _⟩;have a4:=a3.out;simp[results,Tryz.results24,go_sem,a4]
theorem vW {b:Bool}:Calls Tryz.prog 24 #[.iface 54 (.bool b)] w fun e w'=>e =.returned (.bool false)/\Below w.heap.size w w':=by
 have k1:=mg;have a2:=Qa (show Below w.heap.size w (w.alloc (.cells #[.bool false] 4)) from(Zd _ _).alloc (Za _) _);have Hk:=Qa (Bx.new w 4 (.bool false));go_enter Tryz.func24,Tryz.ntmps24;go_wp2_with fail;(with_reducible refine gQ.mono ?_);rintro e w1 ⟨rfl,a1⟩;have a5:=Qa (a2.out.trans (a1.mono a2.out.size));have a0:=Hk.out.later a1;have a7:=a0.cell;have a6:=a0.frozen;have a3:=Qa (a0.set (.bool false)).cell;clear a1 a0;go_wp2_with fail;refine Zg (v:=.bool false) ?_ rfl ⟨rfl,a5.out.setCell (p:=⟨w.heap.size,0,none⟩) (Za _) _⟩;have a4:=a3.out;simp[results,Tryz.results24,go_sem,a4]
theorem zH:Calls Tryz.prog 24 #[.iface 128 (.agg cs)] w fun e w'=>e =.returned (.bool false)/\Below w.heap.size w w':=by
 have k1:=mT;have a2:=Qa (show Below w.heap.size w (w.alloc (.cells #[.bool false] 4)) from(Zd _ _).alloc (Za _) _);have Hk:=Qa (Bx.new w 4 (.bool false));go_enter Tryz.func24,Tryz.ntmps24;go_wp2_with fail;(with_reducible refine iZ.mono ?_);rintro e w1 ⟨rfl,a1⟩;have a5:=Qa (a2.out.trans (a1.mono a2.out.size));have a0:=Hk.out.later a1;have a7:=a0.cell;have a6:=a0.frozen;have a3:=Qa (a0.set (.bool false)).cell;clear a1 a0;go_wp2_with fail;refine Zg (v:=.bool false) ?_ rfl ⟨rfl,a5.out.setCell (p:=⟨w.heap.size,0,none⟩) (Za _) _⟩;have a4:=a3.out;simp[results,Tryz.results24,go_sem,a4]
theorem vY:Calls Tryz.prog 24 #[.iface 55 (.string s)] w fun e w'=>e =.returned (.bool false)/\Below w.heap.size w w':=by
 have k1:=lS;have a2:=Qa (show Below w.heap.size w (w.alloc (.cells #[.bool false] 4)) from(Zd _ _).alloc (Za _) _);have Hk:=Qa (Bx.new w 4 (.bool false));go_enter Tryz.func24,Tryz.ntmps24;go_wp2_with fail;(with_reducible refine gw.mono ?_);rintro e w1 ⟨rfl,a1⟩;have a5:=Qa (a2.out.trans (a1.mono a2.out.size));have a0:=Hk.out.later a1;have a7:=a0.cell;have a6:=a0.frozen;have a3:=Qa (a0.set (.bool false)).cell;clear a1 a0;go_wp2_with fail;refine Zg (v:=.bool false) ?_ rfl ⟨rfl,a5.out.setCell (p:=⟨w.heap.size,0,none⟩) (Za _) _⟩;have a4:=a3.out;simp[results,Tryz.results24,go_sem,a4]
theorem zR (h:VW P w v j)(hT:cW w):Tx j->∀w1,Below w.heap.size w w1->Calls Tryz.prog 24 #[v] w1 fun e w'=>e =.returned (.bool false)/\Below w1.heap.size w1 w':=by
 induction h with
 |null=>intro _ w1 _;exact wt
 |bool b=>intro _ w1 _;exact vW
 |num d=>intro _ w1 _;exact zH
 |text s=>intro _ w1 _;exact vY
 |hole=>intro tx;cases tx
 |bare=>
  intro tx w1 h1;refine callsIn_wide.1 (og (P:=P) (us:= []) (ks:= []) (.inl ⟨rfl,rfl,rfl⟩) (hT.below h1) fun i v k e1=>?_);simp at e1
 |list g A c us ks hp hg hr hl hks ih=>
  intro tx w1 h1;have hk:∀u∈ks,Tx u:=by cases tx;assumption
  have hL:da P w (some ⟨g,0,none⟩) us ks:=.inr ⟨g,A,c,rfl,hg,hr,hl⟩;exact callsIn_wide.1 (og (hL.below h1) (hT.below h1) fun i v k e1 e2 w2 h2=>ih i v k e1 e2 (hk k (Zk e2)) w2 (h1.trans (h2.mono h1.size)))
 |obj g A c us ns ks hp hg hr hl hn hks ih=>
  intro tx w1 h1;have hk:∀u∈ks,Tx u:=by cases tx;assumption
  have hL:eD P w (some ⟨g,0,none⟩) us ns ks:=⟨g,A,c,rfl,hg,hr,hl,hn⟩;exact callsIn_wide.1 (zD (hL.below h1) fun i v k e1 e2 w2 h2=>ih i v k e1 e2 (hk k (Zk e2)) w2 (h1.trans (h2.mono h1.size)))
theorem vJ (p q:Value)(w:World):CallsD Tryz.prog 25 #[p,q] .returning w fun e u' w'=>e =.returned (.tuple #[])/\u' =.returning/\w'=w:=by
 refine callsD_of_wpS Tryz.func25 rfl fun c₀ cs hu=>?_
 apply wpS_seq
 apply wpS_region
 simp[wpOpsS,go_sem,recoverD,hu,Tryz.ntmps25,Exit.thenS];apply wpS_seq;apply wpS_region;simp[wpOpsS,go_sem,Exit.thenS];refine wpS_cond (t:=false) (by simp[Act.eval,Array.replicate]) ?_;simp only[Bool.false_eq_true,if_false];refine wpS_of_wp (wp_skip ?_)
 cases c₀
 simp_all [bodyPostS,results,Tryz.results25]
theorem rr (h0:w2.heap[w.heap.size]?=some (.cells #[x0] t0 (0,0)))(h1:w2.heap[w.heap.size+1]?=some (.cells #[x1] t1 (0,0)))(hb:Below w.heap.size w w2)(y0 y1:Value) :
  Below w.heap.size w ((w2.setCell ⟨w.heap.size,0,none⟩ y0).setCell ⟨w.heap.size+1,0,none⟩ y1)/\((w2.setCell ⟨w.heap.size,0,none⟩ y0).setCell ⟨w.heap.size+1,0,none⟩ y1).cell? ⟨w.heap.size,0,none⟩=some y0/\
   ((w2.setCell ⟨w.heap.size,0,none⟩ y0).setCell ⟨w.heap.size+1,0,none⟩ y1).cell? ⟨w.heap.size+1,0,none⟩=some y1:=by
 have a0:=au h0 0 y0;have a1:=ar w2 (w.heap.size+1) w.heap.size 0 y0 _ _ (by omega) h1;have b0:=ar _ w.heap.size (w.heap.size+1) 0 y1 _ _ (by omega) a0;have b1:=au a1 0 y1;exact⟨(hb.setCell (p:=⟨w.heap.size,0,none⟩) (Za _) _).setCell (p:=⟨w.heap.size+1,0,none⟩) (Nat.le_succ _) _,aa b0 (j:=0) rfl,aa b1 (j:=0) rfl⟩
def BX (l:List UInt8)(w:World)(e:Ending)(w':World):Prop:= ∃v,e =.returned (.tuple #[v,.nilIface])/\aq w' w.heap.size v l/\Below w.heap.size w w'
theorem fc (h:VW P w v j)(hT:cW w)(hG:co w aU aE)(tx:Tx j)(sz:Sz j)(hl:(JV.txt j).length<=140737488355328):Calls Tryz.prog 10 #[v] w (BX (JV.txt j) w):=by
 have b2:∀ (fn:Fn) (first cap:Array Value) (w:World),(Instr.makeFunc fn first cap).run Tryz.prog w =.ok (.func fn first cap) w:=fun _ _ _ _=>rfl
 have a5:Below w.heap.size w ((w.alloc (.cells #[.slice none 0 0] 22)).alloc (.cells #[.nilIface] 36)):=((Zd _ _).alloc (Za _) _).alloc (by simp) _;have h0:((w.alloc (.cells #[.slice none 0 0] 22)).alloc (.cells #[.nilIface] 36)).heap[w.heap.size]?=some (.cells #[.slice none 0 0] 22 (0,0)):=(Below.heap_alloc _ _ _ (by simp)).trans (Ze w _);have h1:((w.alloc (.cells #[.slice none 0 0] 22)).alloc (.cells #[.nilIface] 36)).heap[w.heap.size+1]?=some (.cells #[.nilIface] 36 (0,0)):=by
  have:=Ze (w.alloc (.cells #[.slice none 0 0] 22)) (.cells #[.nilIface] 36)
  rwa[World.size_alloc] at this
 have hz:((w.alloc (.cells #[.slice none 0 0] 22)).alloc (.cells #[.nilIface] 36)).heap.size=w.heap.size+2:=by simp
 have a3:=Qa a5;have H0:=Qa h0;have H1:=Qa h1;have Hz:=Qa hz;have a6:=Qa (fun w1 (hw:Below w.heap.size w w1)=>zR h hT tx w1 hw);have a4:=Qa (fun w1 (hw:Below w.heap.size w w1)=>BQ (h.later hw) (hT.below hw) (hG.below hw) tx sz w1 (.slice none 0 0) [] (Zd _ _) (aq.nil _ _) (by simpa using hl));obtain⟨t1,x1,rfl⟩:=h.iface;clear a5 h0 h1 hz h hT hG tx sz hl;generalize JV.txt j=tl at *;go_enter_defers Tryz.func10,Tryz.ntmps10;go_wp2_with fail;generalize (w.alloc (.cells #[.slice none 0 0] 22)).alloc (.cells #[.nilIface] 36)=w1 at *;refine(a6.out w1 a3.out).mono ?_;rintro e w2 ⟨rfl,a0⟩;have a2:=Qa (a3.out.trans (a0.mono a3.out.size));have G0:=Qa (ai H0.out a0);have G1:=Qa (ai H1.out a0);have a7:=Qa (show w.heap.size+2<=w2.heap.size by have:=Hz.out;have:=a0.size;omega);clear a0;go_wp2_with fail;refine(a4.out w2 a2.out).mono ?_;rintro e w3 ⟨v,rfl,ho,a1⟩;rw[List.nil_append] at ho;have Ho:=Qa ho;have b0:=Qa (a2.out.trans (a1.mono a2.out.size));have g0:=ai G0.out a1;have g1:=ai G1.out a1;have G03:=Qa g0;have G13:=Qa g1;have c0:=aa g0 (j:=0) (u:=.slice none 0 0) rfl;have f0:=aj g0 0;have c1:=aa g1 (j:=0) (u:=.nilIface) rfl;have f1:=aj g1 0;obtain⟨A,q,rfl,-⟩:=ag ho;clear g0 g1 a1 ho;go_wp2_with fail;obtain⟨b1,d0,d1⟩:=rr G03.out G13.out b0.out (.slice A tl.length q) .nilIface;have a9:aq ((w3.setCell ⟨w.heap.size,0,none⟩ (.slice A tl.length q)).setCell ⟨w.heap.size+1,0,none⟩ .nilIface) w.heap.size (.slice A tl.length q) tl:=by
  have hz:=a7.out;have h1:=Ho.out.stayB (a8.set w.heap.size 0 (.slice A tl.length q)) (fun b hb e=>by have:=(aq.blk Ho.out hb).1;omega);have h2:=h1.stayB (a8.set (w.heap.size+1) 0 .nilIface) (fun b hb e=>by have:=(aq.blk h1 hb).1;omega);exact bZ h2 (by omega)
 clear c0 c1 f0 f1;generalize (w3.setCell ⟨w.heap.size,0,none⟩ (.slice A tl.length q)).setCell ⟨w.heap.size+1,0,none⟩ .nilIface=w4 at *;refine leaves_cons (f:=25) (args:= #[.pointer (some ⟨w.heap.size,0,none⟩),.pointer (some ⟨w.heap.size+1,0,none⟩)]) (by simp) (by simp[go_sem]) ?_;refine(vJ _ _ _).mono ?_;rintro e u' w'' ⟨rfl,rfl,rfl⟩;simp[Leaves,settle,results,Tryz.results10,go_sem,d0,d1];exact⟨_,rfl,a9,b1⟩
open Classical in
noncomputable def vo (a b:JV):Bool:=decide (a=b)
theorem dt {a b:JV}:vo a b=true↔a=b:=by unfold vo;simp
theorem k8 {a b:JV}:vo a b=false↔a≠b:=by unfold vo;simp
theorem lu {α:Type}{l m:List α}{x:α}(h:l.take i=m.take i)(h1:l[i]?=some x)(h2:m[i]?=some x):l.take (i+1)=m.take (i+1):=by
 rw[List.take_add_one,List.take_add_one,h,h1,h2]
def GV (W:World)(ks ks':List JV)(s17:Value)(wr:World):Prop:= ∃i:Nat,s17 =.int .i64 i/\i<=ks.length/\ks.take i=ks'.take i/\Below W.heap.size W wr
theorem qP {B:Option Addr}(ha:da P w A us ks)(hb:da Q w B us' ks')(hT:cW w)(hr:r=true↔ks=ks')
  (H:∀ (i:Nat) u u' k k',us[i]?=some u->ks[i]?=some k->us'[i]?=some u'->ks'[i]?=some k'->∀w1,Below w.heap.size w w1->Calls Tryz.prog 52 #[u,u'] w1 fun e w'=>e =.returned (.bool (vo k k'))/\Below w1.heap.size w1 w') :
  Calls Tryz.prog 74 #[.iface 52 (.pointer A),.iface 52 (.pointer B)] w fun e w'=>e =.returned (.bool r)/\Below w.heap.size w w':=by
 have la:=ha.len;have lb:=hb.len;have hl:=ha.bd;have c4:=hb.bd;unfold maxLen at hl c4;have Ha:=Qa ha;have Hb:=Qa hb;have HT:=Qa hT;have HH:=Qa H;have Hr:=Qa hr;clear ha hb hT H hr;have Hl:=Qa (dR Ha.out);have b4:=Qa (dR Hb.out);have b9:=Qa la;have b5:=Qa lb;generalize hn:us.length=n at *;generalize hn':us'.length=n' at *;have Hn:=Qa hn;have c0:=Qa hn';clear hn hn' la lb
 by_cases hne:n=n'
 ·subst hne;go_enter Tryz.func74,Tryz.ntmps74;go_wp2_with fail;(with_reducible refine Hl.out.mono ?_);rintro e w3 ⟨rfl,rfl⟩;go_wp2_with fail;(with_reducible refine b4.out.mono ?_);rintro e w3 ⟨rfl,rfl⟩;go_wp2_with fail;(with_reducible refine Hl.out.mono ?_);rintro e w3 ⟨rfl,rfl⟩;go_wp2_with fail;clear Hl b4
  go_loopw [17] (fun s17 wr=>GV w ks ks' s17 wr) (fun s17 _=>n - (intOf s17).toNat)
  case atStart=>exact⟨0,rfl,Zj _,rfl,Zd _ _⟩
  case round=>
   obtain⟨i,rfl,c1,he,a0⟩:=hrel;have a1:=Qa a0;have He:=Qa he;have Hi:=Qa c1;clear he c1;have c5:=Qa (Ha.out.below a0);have c3:=Qa (Hb.out.below a0);have c2:=Qa (HT.out.below a0);clear a0
   by_cases h:i<n
   ·have b7:i<us.length:=by have:=Hn.out;omega
    have b6:i<us'.length:=by have:=c0.out;omega
    have b0:i<ks.length:=by have:=b9.out;have:=Hn.out;omega
    have b2:i<ks'.length:=by have:=b5.out;have:=c0.out;omega
    obtain⟨u,hu⟩:∃u,us[i]?=some u:=⟨_,Zc b7⟩;obtain⟨u',a9⟩:∃u,us'[i]?=some u:=⟨_,Zc b6⟩;obtain⟨k,hk⟩:∃u,ks[i]?=some u:=⟨_,Zc b0⟩;obtain⟨k',a5⟩:∃u,ks'[i]?=some u:=⟨_,Zc b2⟩;have Hp:=Qa (et c5.out c2.out i hu);have Hq:=Qa (fun w5 (h:Below wr.heap.size wr w5)=>et (c3.out.below h) (c2.out.below h) i a9);have Hc:=Qa (HH.out i u u' k k' hu hk a9 a5);have Hk:=Qa b0;have h':(i:Int)<n:=by omega
    have w1:IntKind.i64.wrap ((i:Int)+1)= (i:Int)+1:=IntWalk.i64_in _ (by omega)
    by_cases hkk:k=k'
    ·have Hs:=Qa (lu He.out hk (hkk▸a5));rw[dt.2 hkk] at Hc;clear b7 b6 b0 b2 hu a9 hk a5 He hkk;go_wp2_with fail;(with_reducible refine Hp.out.mono ?_);rintro e w3 ⟨rfl,a3⟩;have a6:=Qa a3;have b3:=Qa (Hq.out w3 a3);clear a3;go_wp2_with fail;(with_reducible refine b3.out.mono ?_);rintro e w4 ⟨rfl,a7⟩;have a2:=Qa (a1.out.trans ((a6.out.trans (a7.mono a6.out.size)).mono a1.out.size));have b1:=Qa (Hc.out w4 a2.out);clear a7;go_wp2_with fail;(with_reducible refine b1.out.mono ?_);rintro e w5 ⟨rfl,a4⟩;have b8:=Qa (a2.out.trans (a4.mono a2.out.size));clear a4;go_wp2_with fail;refine⟨⟨i+1,rfl,Hk.out,Hs.out,b8.out⟩,?_⟩
     show n - ((i:Int)+1).toNat<n - ((i:Int)).toNat
     omega
    ·have Hs:Hid (r=false):=Qa (by
      rw[Bool.eq_false_iff];intro e;have:=Hr.out.1 e;rw[this,a5] at hk;exact hkk (Zh hk).symm)
     rw[k8.2 hkk] at Hc;clear b7 b6 b0 b2 hu a9 hk a5 He hkk;go_wp2_with fail;(with_reducible refine Hp.out.mono ?_);rintro e w3 ⟨rfl,a3⟩;have a6:=Qa a3;have b3:=Qa (Hq.out w3 a3);clear a3;go_wp2_with fail;(with_reducible refine b3.out.mono ?_);rintro e w4 ⟨rfl,a7⟩;have a2:=Qa (a1.out.trans ((a6.out.trans (a7.mono a6.out.size)).mono a1.out.size));have b1:=Qa (Hc.out w4 a2.out);clear a7;go_wp2_with fail;(with_reducible refine b1.out.mono ?_);rintro e w5 ⟨rfl,a4⟩;have b8:=Qa (a2.out.trans (a4.mono a2.out.size));clear a4;go_wp2_with fail;go_ret;rw[Hs.out];exact⟨rfl,b8.out⟩
   ·have h':¬ (i:Int)<n:=by omega
    have Hs:Hid (r=true):=Qa (Hr.out.2 (by
     have h1:=He.out;have h2:=b9.out;have h3:=b5.out;have h4:=Hi.out
     rwa[List.take_of_length_le (by omega),List.take_of_length_le (by omega)] at h1))
    clear He;go_wp2_with fail;go_ret;rw[Hs.out];exact⟨rfl,a1.out⟩
 ·have Hs:Hid (r=false):=Qa (by
   rw[Bool.eq_false_iff];intro e;have:=Hr.out.1 e;subst this;exact hne (b9.out.trans b5.out.symm))
  have c6:((n:Int)==n')=false:=by simp only[beq_eq_false_iff_ne];omega
  clear hne Ha Hb Hr;go_enter Tryz.func74,Tryz.ntmps74;go_wp2_with fail;(with_reducible refine Hl.out.mono ?_);rintro e w3 ⟨rfl,rfl⟩;go_wp2_with fail;(with_reducible refine b4.out.mono ?_);rintro e w3 ⟨rfl,rfl⟩;go_wp2_with fail;go_ret;rw[Hs.out];exact⟨rfl,Zd _ _⟩
def Fv (W:World)(ns ns':List ByteArray)(ks ks':List JV)(s17:Value)(wr:World):Prop:= ∃i:Nat,s17 =.int .i64 i/\i<=ks.length/\(ns.take i=ns'.take i/\ks.take i=ks'.take i)/\Below W.heap.size W wr
theorem tj {B:Option Addr}(ha:eD P w A us ns ks)(hb:eD Q w B us' ns' ks')(hr:r=true↔ns=ns'/\ks=ks')
  (H:∀ (i:Nat) u u' k k',us[i]?=some u->ks[i]?=some k->us'[i]?=some u'->ks'[i]?=some k'->∀w1,Below w.heap.size w w1->Calls Tryz.prog 52 #[u,u'] w1 fun e w'=>e =.returned (.bool (vo k k'))/\Below w1.heap.size w1 w') :
  Calls Tryz.prog 74 #[.iface 124 (.pointer A),.iface 124 (.pointer B)] w fun e w'=>e =.returned (.bool r)/\Below w.heap.size w w':=by
 have la:=ha.len;have lb:=hb.len;have c6:=Qa ha.names;have c5:=Qa hb.names;have hl:=ha.bd;have c9:=hb.bd;unfold maxLen at hl c9;have Ha:=Qa ha;have Hb:=Qa hb;have HH:=Qa H;have Hr:=Qa hr;clear ha hb H hr;have Hl:=Qa (eJ Ha.out);have b9:=Qa (eJ Hb.out);have c2:=Qa la;have c0:=Qa lb;generalize hn:us.length=n at *;generalize hn':us'.length=n' at *;have Hn:=Qa hn;have c3:=Qa hn';clear hn hn' la lb
 by_cases hne:n=n'
 ·subst hne;go_enter Tryz.func74,Tryz.ntmps74;go_wp2_with fail;(with_reducible refine Hl.out.mono ?_);rintro e w3 ⟨rfl,rfl⟩;go_wp2_with fail;(with_reducible refine b9.out.mono ?_);rintro e w3 ⟨rfl,rfl⟩;go_wp2_with fail;(with_reducible refine Hl.out.mono ?_);rintro e w3 ⟨rfl,rfl⟩;go_wp2_with fail;clear Hl b9
  go_loopw [17] (fun s17 wr=>Fv w ns ns' ks ks' s17 wr) (fun s17 _=>n - (intOf s17).toNat)
  case atStart=>exact⟨0,rfl,Zj _,⟨rfl,rfl⟩,Zd _ _⟩
  case round=>
   obtain⟨i,rfl,c4,he,a2⟩:=hrel;have a0:=Qa a2;have He:=Qa he;have Hi:=Qa c4;clear he c4;have d0:=Qa (Ha.out.below a2);have c7:=Qa (Hb.out.below a2);clear a2
   by_cases h:i<n
   ·have b5:i<us.length:=by have:=Hn.out;omega
    have b4:i<us'.length:=by have:=c3.out;omega
    have b2:i<ks.length:=by have:=c2.out;have:=Hn.out;omega
    have b3:i<ks'.length:=by have:=c0.out;have:=c3.out;omega
    obtain⟨u,hu⟩:∃u,us[i]?=some u:=⟨_,Zc b5⟩;obtain⟨u',b0⟩:∃u,us'[i]?=some u:=⟨_,Zc b4⟩;obtain⟨k,hk⟩:∃u,ks[i]?=some u:=⟨_,Zc b2⟩;obtain⟨k',a6⟩:∃u,ks'[i]?=some u:=⟨_,Zc b3⟩;have b6:i<ns.length:=by have:=c6.out;omega
    have b7:i<ns'.length:=by have:=c5.out;omega
    obtain⟨s,hs⟩:∃u,ns[i]?=some u:=⟨_,Zc b6⟩;obtain⟨s',a7⟩:∃u,ns'[i]?=some u:=⟨_,Zc b7⟩;have Hp:=Qa (fj d0.out i hu hs);have Hq:=Qa (fun w5 (h:Below wr.heap.size wr w5)=>fj (c7.out.below h) i b0 a7);have Hc:=Qa (HH.out i u u' k k' hu hk b0 a6);have Hk:=Qa b2;have h':(i:Int)<n:=by omega
    have w1:IntKind.i64.wrap ((i:Int)+1)= (i:Int)+1:=IntWalk.i64_in _ (by omega)
    by_cases hss:s=s'
    ·subst hss
     by_cases hkk:k=k'
     ·have Hs:=Qa (And.intro (lu He.out.1 hs a7) (lu He.out.2 hk (hkk▸a6)));rw[dt.2 hkk] at Hc;clear b5 b4 b2 b3 hu b0 hk a6 hs a7 b6 b7 He hkk;go_wp2_with fail;(with_reducible refine Hp.out.mono ?_);rintro e w3 ⟨rfl,a1⟩;have a4:=Qa a1;have b1:=Qa (Hq.out w3 a1);clear a1;go_wp2_with fail;(with_reducible refine b1.out.mono ?_);rintro e w4 ⟨rfl,a5⟩;have a3:=Qa (a0.out.trans ((a4.out.trans (a5.mono a4.out.size)).mono a0.out.size));have b8:=Qa (Hc.out w4 a3.out);clear a5;go_wp2_with fail;(with_reducible refine b8.out.mono ?_);rintro e w5 ⟨rfl,a9⟩;have c1:=Qa (a3.out.trans (a9.mono a3.out.size));clear a9;go_wp2_with fail;refine⟨⟨i+1,rfl,Hk.out,Hs.out,c1.out⟩,?_⟩
      show n - ((i:Int)+1).toNat<n - ((i:Int)).toNat
      omega
     ·have Hs:Hid (r=false):=Qa (by
       rw[Bool.eq_false_iff];intro e;have:=Hr.out.1 e;rw[this.2,a6] at hk;exact hkk (Zh hk).symm)
      rw[k8.2 hkk] at Hc;clear b5 b4 b2 b3 hu b0 hk a6 hs a7 b6 b7 He hkk;go_wp2_with fail;(with_reducible refine Hp.out.mono ?_);rintro e w3 ⟨rfl,a1⟩;have a4:=Qa a1;have b1:=Qa (Hq.out w3 a1);clear a1;go_wp2_with fail;(with_reducible refine b1.out.mono ?_);rintro e w4 ⟨rfl,a5⟩;have a3:=Qa (a0.out.trans ((a4.out.trans (a5.mono a4.out.size)).mono a0.out.size));have b8:=Qa (Hc.out w4 a3.out);clear a5;go_wp2_with fail;(with_reducible refine b8.out.mono ?_);rintro e w5 ⟨rfl,a9⟩;have c1:=Qa (a3.out.trans (a9.mono a3.out.size));clear a9;go_wp2_with fail;go_ret;rw[Hs.out];exact⟨rfl,c1.out⟩
    ·have Hs:Hid (r=false):=Qa (by
      rw[Bool.eq_false_iff];intro e;have:=Hr.out.1 e;rw[this.1,a7] at hs;exact hss (Zh hs).symm)
     have c8:(s.toList==s'.toList)=false:=by
      simp only[beq_eq_false_iff_ne,ByteArray.toList_eq];intro e;apply hss
      cases s with|mk a=>cases s' with|mk b=>simp only at e;rw[Array.toList_inj.1 e]
     clear b5 b4 b2 b3 hu b0 hk a6 hs a7 b6 b7 He hss;go_wp2_with fail;(with_reducible refine Hp.out.mono ?_);rintro e w3 ⟨rfl,a1⟩;have a4:=Qa a1;have b1:=Qa (Hq.out w3 a1);clear a1;go_wp2_with fail;(with_reducible refine b1.out.mono ?_);rintro e w4 ⟨rfl,a5⟩;have a3:=Qa (a0.out.trans ((a4.out.trans (a5.mono a4.out.size)).mono a0.out.size));clear a5;go_wp2_with fail;go_ret;rw[Hs.out];exact⟨rfl,a3.out⟩
   ·have h':¬ (i:Int)<n:=by omega
    have Hs:Hid (r=true):=Qa (Hr.out.2 (by
     have h1:=He.out;have h2:=c2.out;have h3:=c0.out;have h4:=Hi.out;have h5:=c6.out;have h6:=c5.out
     rwa[List.take_of_length_le (by omega),List.take_of_length_le (by omega),List.take_of_length_le (by omega),List.take_of_length_le (by omega)] at h1))
    clear He;go_wp2_with fail;go_ret;rw[Hs.out];exact⟨rfl,a0.out⟩
 ·have Hs:Hid (r=false):=Qa (by
   rw[Bool.eq_false_iff];intro e;have:=(Hr.out.1 e).2;subst this;exact hne (c2.out.trans c0.out.symm))
  have c8:((n:Int)==n')=false:=by simp only[beq_eq_false_iff_ne];omega
  clear hne Ha Hb Hr;go_enter Tryz.func74,Tryz.ntmps74;go_wp2_with fail;(with_reducible refine Hl.out.mono ?_);rintro e w3 ⟨rfl,rfl⟩;go_wp2_with fail;(with_reducible refine b9.out.mono ?_);rintro e w3 ⟨rfl,rfl⟩;go_wp2_with fail;go_ret;rw[Hs.out];exact⟨rfl,Zd _ _⟩
