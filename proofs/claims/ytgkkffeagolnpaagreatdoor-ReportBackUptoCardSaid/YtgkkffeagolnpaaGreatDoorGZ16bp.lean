import Derived.Test.YtgkkffeagolnpaaGreatDoorGZ16bo
set_option linter.unusedVariables false
set_option linter.unusedSimpArgs false
set_option maxHeartbeats 64000000
set_option maxRecDepth 100000
namespace Go.Proofs.YtgkkffeagolnpaaGreatDoor
open Go.RowKit Go.Shelf
variable {aE aU:Addr}{j:JV}{ns:List ByteArray}{ks:List JV}{xs:List UInt8}{us:List Value}{L:Nat}{P:Nat->Prop}{t2 t3 t4:TypeId}{v x z z2 z3 z4:Value}{W w w' w1:World}
def Je (w:World)(e:Ending)(w':World):Prop:= ∃t x,e =.returned (.tuple #[.nilIface,.agg #[.int .i64 0,.int .i64 0,.int .i64 0,.int .i64 0],.iface t x])/\Below w.heap.size w w'
theorem xW (hE:lg w aU aE)(hM:iE w)(hT:gY w)(hb:Bs w v xs)(h0:0<xs.length)(hl:xs.length<=1000000000)(hp:dB xs=none) :
  Calls Tryz.prog 78 #[v,cX] w (Je w):=by
 have b9:∀ (fn:Fn) (first cap:Array Value) (w:World),(Instr.makeFunc fn first cap).run Tryz.prog w =.ok (.func fn first cap) w:=fun _ _ _ _=>rfl
 have a4:Below w.heap.size w ((w.alloc (.cells jO 155)).alloc (.cells #[.int .i64 0,.int .i64 0,.int .i64 0,.int .i64 0] 151)):=aj (aa _ _) (aa _ _);have g0:((w.alloc (.cells jO 155)).alloc (.cells #[.int .i64 0,.int .i64 0,.int .i64 0,.int .i64 0] 151)).heap[w.heap.size]?=some (.cells jO 155 (0,0)):=(Below.heap_alloc _ _ _ (by simp)).trans (Zf w _);have g1:((w.alloc (.cells jO 155)).alloc (.cells #[.int .i64 0,.int .i64 0,.int .i64 0,.int .i64 0] 151)).heap[w.heap.size+1]?=some (.cells #[.int .i64 0,.int .i64 0,.int .i64 0,.int .i64 0] 151 (0,0)):=by
  have:=Zf (w.alloc (.cells jO 155)) (.cells #[.int .i64 0,.int .i64 0,.int .i64 0,.int .i64 0] 151)
  rwa[World.size_alloc] at this
 have hz:((w.alloc (.cells jO 155)).alloc (.cells #[.int .i64 0,.int .i64 0,.int .i64 0,.int .i64 0] 151)).heap.size=w.heap.size+1+1:=by simp
 unfold jO at a4 g0 g1 hz;have H2:=Qa a4;have G0:=Qa g0;have G1:=Qa g1;have Hz:=Qa hz;have HE:=Qa (hE.below a4);have HM:=Qa (hM.below a4);have Hb:=Qa (hb.below a4);have H0:=Qa h0;have Hl:=Qa hl;have Hp:=Qa hp;have HT:=Qa (hT.below a4);have b4:=hE;unfold cX;clear a4 g0 g1 hz hE hM hb h0 hl hp b4 hT;go_enter Tryz.func78,Tryz.ntmps78;go_wp2_with fail;generalize ((w.alloc (.cells #[.int .i64 1073741824,.int .i64 1073741824,.int .i64 1073741824,.int .i64 1073741824,.int .i64 1073741824,.int .i64 4611686018427387903] 155)).alloc (.cells #[.int .i64 0,.int .i64 0,.int .i64 0,.int .i64 0] 151))=w1 at *;rw[<-Hz.out];have a3:=aa w1 (.cells #[.slice none 0 0,.nilIface] 200);have a1:=Zf w1 (.cells #[.slice none 0 0,.nilIface] 200);have a9:d8 w1.heap.size (w1.alloc (.cells #[.slice none 0 0,.nilIface] 200)) w1.heap.size [] none []:=⟨.slice none 0 0,.nilIface, [],a1,Zb _,⟨rfl,.inl ⟨rfl,rfl⟩⟩,ch.nil _,rfl,List.nodup_nil,rfl⟩;have b1:=Qa (zq HE.out HM.out HT.out a3 (Hb.out.below a3) H0.out Hl.out a9 Hp.out);unfold cX at b1;clear a3 a1 a9;refine Za b1 ?_;rintro e w3 ⟨t,x,rfl,b0⟩;have b3:w3.heap[w.heap.size+1]?=some (.cells #[.int .i64 0,.int .i64 0,.int .i64 0,.int .i64 0] 151 (0,0)):=(b0.block _ (ak G1.out)).trans G1.out;have a2:=aa w3 (.cells #[.int .i64 0,.int .i64 0,.int .i64 0,.int .i64 0] 151);have a0:=Qa (ah b3 a2);have b8:=Qa (show Below w1.heap.size w1 (w3.alloc (.cells #[.int .i64 0,.int .i64 0,.int .i64 0,.int .i64 0] 151)) from b0.trans (a2.mono b0.size));have y0:=ac a0.out (j:=0) (u:=.int .i64 0) rfl;have y1:=ac a0.out (j:=1) (u:=.int .i64 0) rfl;have y2:=ac a0.out (j:=2) (u:=.int .i64 0) rfl;have y3:=ac a0.out (j:=3) (u:=.int .i64 0) rfl;have z0:=al a0.out 0;have z1:=al a0.out 1;have z2:=al a0.out 2;have z3:=al a0.out 3;clear b0 a2 b3 b1;go_wp2_with fail;generalize w3.alloc (.cells #[.int .i64 0,.int .i64 0,.int .i64 0,.int .i64 0] 151)=w4 at *;obtain⟨W,hW⟩:∃W,(((w4.setCell ⟨w.heap.size+1,0,none⟩ (.int .i64 0)).setCell ⟨w.heap.size+1,1,none⟩ (.int .i64 0)).setCell ⟨w.heap.size+1,2,none⟩ (.int .i64 0)).setCell ⟨w.heap.size+1,3,none⟩ (.int .i64 0)=W:=⟨_,rfl⟩;rw[hW];have g:=ar (ar (ar (ar a0.out 0 (.int .i64 0)) 1 (.int .i64 0)) 2 (.int .i64 0)) 3 (.int .i64 0);rw[hW] at g;have b5:aP (fun k=>k=w.heap.size+1) w4 W:=by
  rw[<-hW];exact((((aP.set _ 0 _).trans (aP.set _ 1 _) fun i h=>.inl h).trans (aP.set _ 2 _) fun i h=>.inl h).trans (aP.set _ 3 _) fun i h=>.inl h)
 have d0:=ac g (j:=0) (u:=.int .i64 0) rfl;have d1:=ac g (j:=1) (u:=.int .i64 0) rfl;have d2:=ac g (j:=2) (u:=.int .i64 0) rfl;have d3:=ac g (j:=3) (u:=.int .i64 0) rfl;have a5:=H2.out.trans (b8.out.mono H2.out.size);have b2:Below w.heap.size w W:=a5.trans (b5.below a5.size fun i hi=>by rw[hi];omega);refine Zh (v:=.tuple #[.nilIface,.agg #[.int .i64 0,.int .i64 0,.int .i64 0,.int .i64 0],.iface t x]) ?_ rfl ⟨_,_,rfl,b2⟩;simp[results,Tryz.results78,go_sem,d0,d1,d2,d3]
def GU (w:World)(e:Ending)(w':World):Prop:= ∃t x,e =.returned (.tuple #[.nilIface,.iface t x])/\Below w.heap.size w w'
theorem zk (hE:lg w aU aE)(hM:iE w)(hT:gY w)(hb:Bs w v xs)(h0:0<xs.length)(hl:xs.length<=1000000000)(hp:dB xs=none) :
  Calls Tryz.prog 48 #[v] w (GU w):=by
 have Hf:=Qa (th w);have H:=Qa (fun (w1:World) (h:Below w.heap.size w w1)=>xW (hE.below h) (hM.below h) (hT.below h) (hb.below h) h0 hl hp);clear hE hM hb h0 hl hp hT;go_enter Tryz.func48,Tryz.ntmps48;go_wp2_with fail;refine Za Hf ?_;rintro e w1 ⟨rfl,a0⟩;have a2:=Qa a0;have Hp:=Qa (H.out w1 a0);clear a0;go_wp2_with fail;refine Za Hp ?_;rintro e w2 ⟨t,x,rfl,a1⟩;have HB:=Qa (aj (aj a2.out a1) (aa w2 (.cells #[.int .i64 0,.int .i64 0,.int .i64 0,.int .i64 0] 151)));clear a1 Hp;go_wp2_with fail;go_ret2;exact⟨_,_,rfl,HB.out⟩
attribute [local go_sem] Oper.semAt_some
theorem CX (h:VO w v):Calls Tryz.prog 52 #[v] w fun e w'=>(∃s,v =.iface 78 (.string s)/\e =.returned (.tuple #[.string s,.nilIface])/\Below w.heap.size w w')\/mP (.string ⟨#[]⟩) w e w':=by
 rcases h with rfl|⟨P,j,h⟩
 ·exact(pm (.inl rfl) Am).mono fun e w' h=>.inr h
 ·by_cases hk:j.kindOf=4
  ·obtain⟨s,-,rfl⟩:=h.asText4 hk;exact(FB (.string s) w).mono fun e w' h=>.inl ⟨s,rfl,h⟩
  ·exact(pm (.inr ⟨P,j,h⟩) (wF h hk)).mono fun e w' h=>.inr h
theorem ip {W2:World}(b2:Bx W w.heap.size t2 z2)(b3:Bx W (w.heap.size+1) t3 z3)(b4:Bx W (w.heap.size+2) t4 z4)(hb:Below w.heap.size w W){y:Value}(hW:(((W.setCell ⟨w.heap.size,0,none⟩ x).setCell ⟨w.heap.size+1,0,none⟩ y).setCell ⟨w.heap.size+1+1,0,none⟩ z)=W2) :
  W2.cell? ⟨w.heap.size,0,none⟩=some x/\W2.cell? ⟨w.heap.size+1,0,none⟩=some y/\W2.cell? ⟨w.heap.size+1+1,0,none⟩=some z/\Below w.heap.size w W2:=by
 have k2:Bx W2 w.heap.size t2 x:=hW▸((b2.set x).far (p:=⟨w.heap.size+1,0,none⟩) (by simp) y).far (p:=⟨w.heap.size+1+1,0,none⟩) (by show w.heap.size≠w.heap.size+1+1;omega) z;have k3:Bx W2 (w.heap.size+1) t3 y:=hW▸((b3.far (p:=⟨w.heap.size,0,none⟩) (by simp) x).set y).far (p:=⟨w.heap.size+1+1,0,none⟩) (by simp) z;have k4:Bx W2 (w.heap.size+1+1) t4 z:=hW▸((b4.far (p:=⟨w.heap.size,0,none⟩) (by simp) x).far (p:=⟨w.heap.size+1,0,none⟩) (by simp) y).set z;exact⟨k2.cell,k3.cell,k4.cell,hW▸((hb.setCell (p:=⟨w.heap.size,0,none⟩) (Zb _) x).setCell (p:=⟨w.heap.size+1,0,none⟩) (by simp) y).setCell (p:=⟨w.heap.size+1+1,0,none⟩) (by show w.heap.size<=w.heap.size+1+1;omega) z⟩
theorem CT (hA:jt w)(hT:gY w)(hv:Bs w v xs)(h0:0<xs.length)(hl:xs.length<=1000000000)(hp:dB xs=none) :
  Calls Tryz.prog 24 #[v] w fun e w'=>e =.returned (.tuple #[.int .i64 0,.slice none 0 0,.bool false])/\Below w.heap.size w w':=by
 obtain⟨aU,aE,hE⟩:=hA.env;have a0:=Qa (fun W (hb:Below w.heap.size w W)=>zk (hE.below hb) (hA.may.below hb) (hT.below hb) (hv.below hb) h0 hl hp);clear hE h0 hA hv hl hp hT;refine(callsIn_wide (n:=9)).1 ?_;refine callsIn_of_wp_marks Tryz.func24 rfl trivial ?_ rfl;simp only[Tryz.ntmps24,List.size_toArray,List.length_cons,List.length_nil,Nat.reduceAdd,Nat.reduceSub,Array.replicate_succ,Array.replicate_zero,List.push_toArray,List.append_toArray,List.nil_append,List.cons_append];have a2:=Qa (show Below w.heap.size w (((w.alloc (.cells #[.int .i64 0] 3)).alloc (.cells #[.slice none 0 0] 22)).alloc (.cells #[.bool false] 4)) from aj (aj (aa _ _) (aa _ _)) (aa _ _));have a9:=Qa ((((Bx.new w 3 (.int .i64 0)).alloc (.cells #[.slice none 0 0] 22)).alloc (.cells #[.bool false] 4)));have a4:=Qa (show Bx (((w.alloc (.cells #[.int .i64 0] 3)).alloc (.cells #[.slice none 0 0] 22)).alloc (.cells #[.bool false] 4)) (w.heap.size+1) 22 (.slice none 0 0) from by
  have:=(Bx.new (w.alloc (.cells #[.int .i64 0] 3)) 22 (.slice none 0 0)).alloc (.cells #[.bool false] 4)
  rwa[World.size_alloc] at this)
 have a3:=Qa (show Bx (((w.alloc (.cells #[.int .i64 0] 3)).alloc (.cells #[.slice none 0 0] 22)).alloc (.cells #[.bool false] 4)) (w.heap.size+2) 4 (.bool false) from by
  have:=(Bx.new ((w.alloc (.cells #[.int .i64 0] 3)).alloc (.cells #[.slice none 0 0] 22)) 4 (.bool false))
  rwa[World.size_alloc,World.size_alloc] at this)
 gi_wp2_with fail
 generalize (((w.alloc (.cells #[.int .i64 0] 3)).alloc (.cells #[.slice none 0 0] 22)).alloc (.cells #[.bool false] 4))=w0 at *;refine⟨trivial,?_⟩;refine(callsIn_wide.2 (a0.out w0 a2.out)).mono ?_;rintro e w1 ⟨t,x,rfl,a1⟩;have B2:=Qa (a9.out.later a1);have B3:=Qa (a4.out.later a1);have B4:=Qa (a3.out.later a1);have q2:=B2.out.cell;have q3:=B3.out.cell;have q4:w1.cell? ⟨w.heap.size+1+1,0,none⟩=some (.bool false):=B4.out.cell;have f2:=B2.out.frozen;have f3:=B3.out.frozen;have f4:w1.frozen? ⟨w.heap.size+1+1,0,none⟩=false:=B4.out.frozen;have a5:=Qa (aj a2.out a1);clear a1
 gi_wp2_with fail
 obtain⟨W,hW⟩:∃W,((w1.setCell ⟨w.heap.size,0,none⟩ (.int .i64 0)).setCell ⟨w.heap.size+1,0,none⟩ (.slice none 0 0)).setCell ⟨w.heap.size+1+1,0,none⟩ (.bool false)=W:=⟨_,rfl⟩;rw[hW];obtain⟨g2,g3,g4,hb⟩:=ip B2.out B3.out B4.out a5.out hW;refine⟨.tuple #[.int .i64 0,.slice none 0 0,.bool false],?_,rfl,hb⟩;simp[results,Tryz.results24,go_sem,g2,g3,g4]
def Fz (L:Nat)(e:En):Prop:=e.eAt.size<=L/\e.eSch.size<=L
def Cz (L:Nat)(w:World)(e:Ending)(w':World):Prop:=(∃ (oc:Nat) (u:Value) (l:List En),1<=oc/\oc<6/\e =.returned (.tuple #[.int .i64 oc,u,.bool true])/\bG w' w.heap.size u l/\l.length<=L/\(∀e∈l,Fz L e)/\Below w.heap.size w w')\/(e =.returned (.tuple #[.int .i64 0,.slice none 0 0,.bool false])/\Below w.heap.size w w')
theorem CQ {t:ByteArray}{e:Ending}(h:Jj ns us t w e w')(hk:jL P w1 us ks)(a1:∀u∈ks,Sm L u)(hl:us.length=ks.length)(hb:Below w1.heap.size w1 w):∃xv okb,e =.returned (.tuple #[xv,.bool okb])/\(xv =.nilIface\/∃k,VW P w' xv k/\Sm L k)/\Below w.heap.size w w':=by
 rcases h with ⟨i,u,-,hu,rfl,a0⟩|⟨rfl,-,a0⟩
 ·have hi:=(List.getElem?_eq_some_iff.1 hu).1;exact⟨u,true,rfl,.inr ⟨ks[i],(hk i u _ hu (Zd (by omega))).later (aj hb a0),a1 _ (List.getElem_mem _)⟩,a0⟩
 ·exact⟨_,false,rfl,.inl rfl,a0⟩
theorem Gb (h:v =.nilIface\/∃k,VW P w v k/\Sm L k):VO w v:=by
 rcases h with h|⟨k,h,-⟩
 ·exact .inl h
 ·exact .inr ⟨P,k,h⟩
def J8 (L:Nat)(w6:World)(n:Nat)(pre:List (Fin n))(W:World):Prop:=(∃v l,Bx W w6.heap.size 22 v/\bG W (w6.heap.size+2) v l/\l.length=pre.length/\∀e∈l,Fz L e)/\Below w6.heap.size w6 W/\w6.heap.size+2<=W.heap.size
def Kc (w:World)(c:Code)(W:World):Prop:=c =.ret/\Bx W w.heap.size 3 (.int .i64 0)/\Bx W (w.heap.size+1) 22 (.slice none 0 0)/\Bx W (w.heap.size+2) 4 (.bool false)/\Below w.heap.size w W
theorem CF (hA:jt w)(hv:Bs w v xs)(h0:0<xs.length)(hl:xs.length<=1000000000)(hp:dB xs=some j)(h6:Sm L j)(hL:L<=1000000) :
  Calls Tryz.prog 24 #[v] w (Cz L w):=by
 obtain⟨aU,aE,hE⟩:=hA.env;have c5:=Qa (fun W (hb:Below w.heap.size w W)=>ou (hE.below hb) (hA.may.below hb) (hv.below hb) h0 hl hp);have HA:=Qa hA;have HL:=Qa hL;have r1:=Qa h6;clear hE h0 hA hv hl hp h6 hL;refine(callsIn_wide (n:=9)).1 ?_;refine callsIn_of_wp_marks Tryz.func24 rfl trivial ?_ rfl;simp only[Tryz.ntmps24,List.size_toArray,List.length_cons,List.length_nil,Nat.reduceAdd,Nat.reduceSub,Array.replicate_succ,Array.replicate_zero,List.push_toArray,List.append_toArray,List.nil_append,List.cons_append];have b8:=Qa (show Below w.heap.size w (((w.alloc (.cells #[.int .i64 0] 3)).alloc (.cells #[.slice none 0 0] 22)).alloc (.cells #[.bool false] 4)) from aj (aj (aa _ _) (aa _ _)) (aa _ _));have d1:=Qa ((((Bx.new w 3 (.int .i64 0)).alloc (.cells #[.slice none 0 0] 22)).alloc (.cells #[.bool false] 4)));have d6:=Qa (show Bx (((w.alloc (.cells #[.int .i64 0] 3)).alloc (.cells #[.slice none 0 0] 22)).alloc (.cells #[.bool false] 4)) (w.heap.size+1) 22 (.slice none 0 0) from by
  have:=(Bx.new (w.alloc (.cells #[.int .i64 0] 3)) 22 (.slice none 0 0)).alloc (.cells #[.bool false] 4)
  rwa[World.size_alloc] at this)
 have c9:=Qa (show Bx (((w.alloc (.cells #[.int .i64 0] 3)).alloc (.cells #[.slice none 0 0] 22)).alloc (.cells #[.bool false] 4)) (w.heap.size+2) 4 (.bool false) from by
  have:=(Bx.new ((w.alloc (.cells #[.int .i64 0] 3)).alloc (.cells #[.slice none 0 0] 22)) 4 (.bool false))
  rwa[World.size_alloc,World.size_alloc] at this)
 have Hz:=Qa (show(((w.alloc (.cells #[.int .i64 0] 3)).alloc (.cells #[.slice none 0 0] 22)).alloc (.cells #[.bool false] 4)).heap.size=w.heap.size+3 by simp)
 gi_wp2_with fail
 generalize (((w.alloc (.cells #[.int .i64 0] 3)).alloc (.cells #[.slice none 0 0] 22)).alloc (.cells #[.bool false] 4))=w0 at *;refine⟨trivial,?_⟩;refine(callsIn_wide.2 (c5.out w0 b8.out)).mono ?_;rintro e w1 ⟨u,rfl,p2,e0⟩;have a2:=Qa p2;clear p2 c5
 by_cases hk:j.kindOf=6
 rotate_left
 ·have k1:=Qa (xd (.inr ⟨_,j,e0⟩) (xz e0 hk));obtain⟨T,y,rfl⟩:=e0.iface;clear e0 hk
  gi_wp2_with fail
  refine⟨trivial,?_⟩;refine(callsIn_wide.2 k1.out).mono ?_;rintro e w2 ⟨t,x,rfl,b1⟩;have a3:=Qa (aj a2.out b1);clear b1;have B2:=Qa (d1.out.later a3.out);have B3:=Qa (d6.out.later a3.out);have B4:=Qa (c9.out.later a3.out);have c2:=Qa (aj b8.out a3.out);have q2:=B2.out.cell;have q3:=B3.out.cell;have q4:w2.cell? ⟨w.heap.size+1+1,0,none⟩=some (.bool false):=B4.out.cell;have f2:=B2.out.frozen;have f3:=B3.out.frozen;have f4:w2.frozen? ⟨w.heap.size+1+1,0,none⟩=false:=B4.out.frozen
  gi_wp2_with (refine⟨trivial,?_⟩)
  obtain⟨W,hW⟩:∃W,((w2.setCell ⟨w.heap.size,0,none⟩ (.int .i64 0)).setCell ⟨w.heap.size+1,0,none⟩ (.slice none 0 0)).setCell ⟨w.heap.size+1+1,0,none⟩ (.bool false)=W:=⟨_,rfl⟩;rw[hW];obtain⟨g2,g3,g4,hb⟩:=ip B2.out B3.out B4.out c2.out hW;refine⟨.tuple #[.int .i64 0,.slice none 0 0,.bool false],?_,.inr ⟨rfl,hb⟩⟩;simp[results,Tryz.results24,go_sem,g2,g3,g4]
 obtain⟨k,t,s,d,ns,ks⟩:=j;obtain rfl:k=6:=hk;have h6:=r1.out
 cases h6 with
 |mk _ _ _ _ _ _ s1 s2 s3 s4 s5=>
 obtain⟨A,us,rfl,ho,i9⟩:=e0.asObj;have l2:us.length=ks.length:=by obtain⟨g,R,c,-,-,-,h1,-⟩:=id ho;exact h1
 have n6:=Qa ho;have c6:=Qa (fun W (hb:Below w1.heap.size w1 W) t (ht:dd t)=>xa (ho.below hb) (i9.iface l2) s4 s5 ht (by have:=HL.out;omega));have m2:=Qa i9;have f0:=Qa (And.intro s3 l2);clear e0 ho i9 s1 s2 s3 s4 s5 r1
 gi_wp2_with fail
 refine⟨trivial,?_⟩;refine(callsIn_wide.2 (CK (.pointer A) w1)).mono ?_;rintro e w2 ⟨rfl,b1⟩;have a3:=Qa b1;clear b1
 gi_wp2_with fail
 refine⟨trivial,?_⟩;refine(callsIn_wide.2 (eF (n6.out.below a3.out))).mono ?_;rintro e w' ⟨rfl,rfl⟩
 by_cases hl2:us.length=2
 rotate_left
 ·have hne:((us.length:Int)==2)=false:=by rw[beq_eq_false_iff_ne];omega
  have u6:((us.length:Int) !=2)=true:=by simp[bne,hne]
  clear hl2;have B2:=Qa (d1.out.later (aj a2.out a3.out));have B3:=Qa (d6.out.later (aj a2.out a3.out));have B4:=Qa (c9.out.later (aj a2.out a3.out));have c2:=Qa (aj b8.out (aj a2.out a3.out));have q2:=B2.out.cell;have q3:=B3.out.cell;have q4:w2.cell? ⟨w.heap.size+1+1,0,none⟩=some (.bool false):=B4.out.cell;have f2:=B2.out.frozen;have f3:=B3.out.frozen;have f4:w2.frozen? ⟨w.heap.size+1+1,0,none⟩=false:=B4.out.frozen
  gi_wp2_with (refine⟨trivial,?_⟩)
  obtain⟨W,hW⟩:∃W,((w2.setCell ⟨w.heap.size,0,none⟩ (.int .i64 0)).setCell ⟨w.heap.size+1,0,none⟩ (.slice none 0 0)).setCell ⟨w.heap.size+1+1,0,none⟩ (.bool false)=W:=⟨_,rfl⟩;rw[hW];obtain⟨g2,g3,g4,hb⟩:=ip B2.out B3.out B4.out c2.out hW;refine⟨.tuple #[.int .i64 0,.slice none 0 0,.bool false],?_,.inr ⟨rfl,hb⟩⟩;simp[results,Tryz.results24,go_sem,g2,g3,g4]
 have hne:((us.length:Int) !=2)=false:=by rw[hl2];rfl
 clear hl2 l2
 gi_wp2_with fail
 refine⟨trivial,?_⟩;refine(callsIn_wide.2 (c6.out w2 a3.out lH mn.2.2.2.2)).mono ?_;intro e w3 e4;obtain⟨xv,okb,rfl,b9,b0⟩:=CQ e4 m2.out f0.out.1 f0.out.2 a3.out;have e1:=Qa (aj a3.out b0);have n4:=Qa (CX (Gb b9));obtain⟨o2⟩:Nonempty (xv =.nilIface\/∃T y,xv =.iface T y):=⟨by
  rcases b9 with h|⟨k,h,-⟩
  ·exact .inl h
  ·exact .inr h.iface⟩
 clear b0 e4 b9
 gi_wp2_with fail
 refine⟨trivial,?_⟩;refine(callsIn_wide.2 n4.out).mono ?_;intro e w4 r4;obtain⟨wd,er,rfl,s8,q1⟩:∃wd er,e =.returned (.tuple #[.string wd,er])/\(er =.nilIface\/∃t y,er =.iface t y)/\Below w3.heap.size w3 w4:=by
  rcases r4 with ⟨s,-,h1,h2⟩|⟨t,y,h1,h2⟩
  ·exact⟨s,_,h1,.inl rfl,h2⟩
  ·exact⟨_,_,h1,.inr ⟨t,y,rfl⟩,h2⟩
 have a4:=Qa (aj e1.out q1);have q9:=Qa ((HA.out.below (aj b8.out (aj a2.out a4.out))).lr);have m4:=Qa (show Calls Tryz.prog 53 #[.slice (some ⟨2,0,none⟩) 6 6,.string wd] w4 fun e w'=>Gt cH wd w4 e w' from iu (l:=cH) (by decide) (fun i a ha=>⟨_,0,rfl,by rw[Nat.zero_add];exact q9.out.words i a ha⟩));clear q1 r4 n4 o2 q9;rcases s8 with rfl|⟨t,y,rfl⟩
 rotate_left
 ·gi_wp2_with fail
  refine⟨trivial,?_⟩;refine(callsIn_wide.2 m4.out).mono ?_;rintro e w' ⟨rfl,z,rfl,-⟩;have B2:=Qa (d1.out.later (aj a2.out a4.out));have B3:=Qa (d6.out.later (aj a2.out a4.out));have B4:=Qa (c9.out.later (aj a2.out a4.out));have c2:=Qa (aj b8.out (aj a2.out a4.out));have q2:=B2.out.cell;have q3:=B3.out.cell;have q4:w4.cell? ⟨w.heap.size+1+1,0,none⟩=some (.bool false):=B4.out.cell;have f2:=B2.out.frozen;have f3:=B3.out.frozen;have f4:w4.frozen? ⟨w.heap.size+1+1,0,none⟩=false:=B4.out.frozen
  gi_wp2_with (refine⟨trivial,?_⟩)
  obtain⟨W,hW⟩:∃W,((w4.setCell ⟨w.heap.size,0,none⟩ (.int .i64 0)).setCell ⟨w.heap.size+1,0,none⟩ (.slice none 0 0)).setCell ⟨w.heap.size+1+1,0,none⟩ (.bool false)=W:=⟨_,rfl⟩;rw[hW];obtain⟨g2,g3,g4,hb⟩:=ip B2.out B3.out B4.out c2.out hW;refine⟨.tuple #[.int .i64 0,.slice none 0 0,.bool false],?_,.inr ⟨rfl,hb⟩⟩;simp[results,Tryz.results24,go_sem,g2,g3,g4]
 gi_wp2_with fail
 refine⟨trivial,?_⟩;refine(callsIn_wide.2 m4.out).mono ?_;rintro e w' ⟨rfl,z,rfl,hz⟩
 by_cases hz1:z<1
 ·clear hz;have B2:=Qa (d1.out.later (aj a2.out a4.out));have B3:=Qa (d6.out.later (aj a2.out a4.out));have B4:=Qa (c9.out.later (aj a2.out a4.out));have c2:=Qa (aj b8.out (aj a2.out a4.out));have q2:=B2.out.cell;have q3:=B3.out.cell;have q4:w4.cell? ⟨w.heap.size+1+1,0,none⟩=some (.bool false):=B4.out.cell;have f2:=B2.out.frozen;have f3:=B3.out.frozen;have f4:w4.frozen? ⟨w.heap.size+1+1,0,none⟩=false:=B4.out.frozen
  gi_wp2_with (refine⟨trivial,?_⟩)
  obtain⟨W,hW⟩:∃W,((w4.setCell ⟨w.heap.size,0,none⟩ (.int .i64 0)).setCell ⟨w.heap.size+1,0,none⟩ (.slice none 0 0)).setCell ⟨w.heap.size+1+1,0,none⟩ (.bool false)=W:=⟨_,rfl⟩;rw[hW];obtain⟨g2,g3,g4,hb⟩:=ip B2.out B3.out B4.out c2.out hW;refine⟨.tuple #[.int .i64 0,.slice none 0 0,.bool false],?_,.inr ⟨rfl,hb⟩⟩;simp[results,Tryz.results24,go_sem,g2,g3,g4]
 obtain⟨oc,rfl,p3,p1⟩:∃oc:Nat,z=oc/\1<=oc/\oc<6:=by
  rcases hz with ⟨i,rfl,h1,-⟩|⟨rfl,-⟩
  ·have:=(List.getElem?_eq_some_iff.1 h1).1;exact⟨i,rfl,by omega,this⟩
  ·omega
 have q8:=Qa (And.intro p3 p1);clear hz p3 p1 m4
 gi_wp2_with fail
 refine⟨trivial,?_⟩;refine(callsIn_wide.2 (c6.out w4 a4.out lU mn.2.2.2.1)).mono ?_;intro e w5 e4;obtain⟨xv,okb,rfl,b9,r2⟩:=CQ e4 m2.out f0.out.1 f0.out.2 a4.out;have k5:=Qa (aj a4.out r2);clear r2 e4 c6
 by_cases hkl:∃k,VW (w0.heap.size<= ·) w5 xv k/\Sm L k/\k.kindOf=5
 rotate_left
 ·have k1:=Qa (Ew (Gb b9) (by
   rcases b9 with rfl|⟨k,h1,h2⟩
   ·exact Dh
   ·exact Ek h1 fun e=>hkl ⟨k,h1,h2,e⟩))
  obtain⟨o2⟩:Nonempty (xv =.nilIface\/∃T y,xv =.iface T y):=⟨by
   rcases b9 with h|⟨k,h,-⟩
   ·exact .inl h
   ·exact .inr h.iface⟩
  clear b9 hkl
  gi_wp2_with fail
  refine⟨trivial,?_⟩;refine(callsIn_wide.2 k1.out).mono ?_;rintro e w6 ⟨t,x,rfl,d0⟩;have a9:=Qa (aj a2.out (aj k5.out d0));clear d0;have B2:=Qa (d1.out.later a9.out);have B3:=Qa (d6.out.later a9.out);have B4:=Qa (c9.out.later a9.out);have c2:=Qa (aj b8.out a9.out);have q2:=B2.out.cell;have q3:=B3.out.cell;have q4:w6.cell? ⟨w.heap.size+1+1,0,none⟩=some (.bool false):=B4.out.cell;have f2:=B2.out.frozen;have f3:=B3.out.frozen;have f4:w6.frozen? ⟨w.heap.size+1+1,0,none⟩=false:=B4.out.frozen
  gi_wp2_with (refine⟨trivial,?_⟩)
  obtain⟨W,hW⟩:∃W,((w6.setCell ⟨w.heap.size,0,none⟩ (.int .i64 0)).setCell ⟨w.heap.size+1,0,none⟩ (.slice none 0 0)).setCell ⟨w.heap.size+1+1,0,none⟩ (.bool false)=W:=⟨_,rfl⟩;rw[hW];obtain⟨g2,g3,g4,hb⟩:=ip B2.out B3.out B4.out c2.out hW;refine⟨.tuple #[.int .i64 0,.slice none 0 0,.bool false],?_,.inr ⟨rfl,hb⟩⟩;simp[results,Tryz.results24,go_sem,g2,g3,g4]
 obtain⟨k,o0,g8,s7⟩:=hkl;obtain⟨k,t2,s2,d2,ns2,ks2⟩:=k;obtain rfl:k=5:=s7
 cases g8 with
 |mk _ _ _ _ _ _ s1 s2' s3 s4 s5=>
 obtain⟨A2,vs,rfl,m0,hkl⟩:=o0.asList;have u7:=m0.len;have q0:vs.length<=L:=by omega
 gi_wp2_with fail
 refine⟨trivial,?_⟩;refine(callsIn_wide.2 (I1 (.pointer A2) w5)).mono ?_;rintro e w6 ⟨rfl,d0⟩;have a9:=Qa (aj k5.out d0);have k6:=Qa (fun W (hb:Below w6.heap.size w6 W) (i:Nat) (u:Value) (h1:vs[i]?=some u)=>show ∃k,VW (w0.heap.size<= ·) W u k/\Sm L k from by
  have hi:=(List.getElem?_eq_some_iff.1 h1).1;exact⟨ks2[i],(hkl i u _ h1 (Zd (by omega))).later (aj d0 hb),s3 _ (List.getElem_mem _)⟩)
 have f5:=Qa (m0.below d0);have r3:=Qa q0;clear d0 b9 o0 hkl s1 s2' s3 s4 s5 m0 u7 q0
 gi_wp2_with fail
 have l1:=Qa ((HA.out.below (aj b8.out (aj a2.out a9.out))).lw.pow);have c1:=Qa (aj b8.out (aj a2.out a9.out));have p0:w.heap.size+3<=w6.heap.size:=by have h1:=Hz.out;have h2:=(aj a2.out a9.out).size;omega
 have i0:=Qa (d1.out.later (aj a2.out a9.out));have h9:=Qa (d6.out.later (aj a2.out a9.out));have g7:=Qa (c9.out.later (aj a2.out a9.out));have n0:=Qa p0;clear d1 d6 c9 b8 a2 a3 e1 a4 k5 a9 m2 f0 n6 HA Hz p0;refine⟨trivial,?_⟩;refine(callsIn_wide.2 ij).mono ?_;rintro e w8 ⟨rfl,rfl⟩;have i8:=aa w6 (.cells #[.slice none 0 0] 22);have k0:=Bx.new w6 22 (.slice none 0 0);obtain⟨wA,k8⟩:∃wA,w6.alloc (.cells #[.slice none 0 0] 22)=wA:=⟨_,rfl⟩;have f1:wA.heap.size=w6.heap.size+1:=by rw[<-k8];simp
 rw[k8] at i8 k0 ⊢;clear k8;have h7:=aa wA (.cells #[.iface 104 (.pointer A2)] 168);have l3:=Zf wA (.cells #[.iface 104 (.pointer A2)] 168);obtain⟨W1,m1⟩:∃W1,wA.alloc (.cells #[.iface 104 (.pointer A2)] 168)=W1:=⟨_,rfl⟩;have e6:W1.heap.size=wA.heap.size+1:=by rw[<-m1];simp
 rw[m1] at h7 l3 ⊢;clear m1;have i3:=Qa (show J8 L w6 (fa vs).length [] W1 from⟨⟨_, [],k0.later h7,by
  show bG W1 (w6.heap.size+2) (.slice none 0 0) []
  exact bG.nil _ _,rfl,by simp⟩,aj i8 h7,by omega⟩)
 have c3:=Qa e6;have a5:=Qa f1;have u1:=Qa l3;have u5:=Qa f5.out.bd;clear i8 k0 h7 l3 e6 f1
 gi_wp2
 have d3:∀X,iw (w6.heap.size+2) w6.heap.size W1 X->Ig w6 X:=fun X hX g cs t z hg=>hX g cs t z (by have:=ak hg;omega) (by have:=ak hg;omega) ((i3.out.2.1.block g (ak hg)).trans hg)
 have f9:SeqStopsK Fence.wide (9 - 1) Tryz.prog 90 #[.pointer (some ⟨wA.heap.size,0,none⟩)] (fun x:Fin (fa vs).length=> #[.string ((fa vs).get x).1,((fa vs).get x).2]) (iw (w6.heap.size+2) w6.heap.size) (fun ys=>ys=List.finRange (fa vs).length) (fun _=>True) (fa vs).length W1:=by
  intro l J Jx W hW hJ t4 hY h0;refine mV (9 - 1) (by omega) l wA.heap.size A2 (fa vs) (by rw[dL];exact u5.out) (iw (w6.heap.size+2) w6.heap.size) (fun _ _ h=>iw.of_below h) (iw (w6.heap.size+2) w6.heap.size W1) (fun X Y h1 h2=>h1.t h2) (fun X hX=>?_) (fun X hX=>?_) (fun X k hX=>?_) J Jx W (iw.of_below hW) hJ t4 hY h0
  ·exact ac (hX _ _ _ _ (by have:=a5.out;omega) (by have:=a5.out;omega) u1.out) (j:=0) rfl
  ·rw[dL];exact im (f5.out.kp (d3 X hX))
  ·obtain⟨u,hu,he⟩:=j5 vs k;rw[he];exact fM (f5.out.kp (d3 X hX)) (l1.out.kp (d3 X hX)) k.val hu
 have c8:=Qa f9;clear d3 f9;refine wpIn_rangeFunc_ownF rfl (by omega) (gf:=90) (lb:= #[.pointer (some ⟨wA.heap.size,0,none⟩)]) (by simp[Act.eval]) trivial (enters_of Tryz.func90 (by kernel_rfl) rfl)
  c8.out
  (fun h k=>h.t k) (fun W l o o' _ h ho _=>iw.b W l o o' h ho) (Ze _ _) (fun _=>rfl)
  (J8 L w6 (fa vs).length) (fun c _ W=>Kc w c W) ?hI ?hIx i3.out ?a1 ?assign ?body ?done ?stop
 case assign=>
  intro l x W K hK
  gi_wp2
  exact hK
 case hI=>
  intro s A B row hs hg hr;obtain⟨⟨v,l,h1,h2,h5⟩,h3,h4⟩:=hs;exact⟨⟨v,l,h1.kept hg (fun r e=>(hr r e).2),h2.kept hg (fun r e=>(hr r e).2),h5⟩,h3.grown hg h3.size (fun k e=>by have:=(hr k e).1;have:=c3.out;have:=a5.out;omega),Zc h4 hg.size⟩
 case hIx=>
  intro c s A B row hs hg hr;obtain⟨h1,h2,h3,h4,h5⟩:=hs;exact⟨h1,h2.kept hg (fun r e=>(hr r e).2),h3.kept hg (fun r e=>(hr r e).2),h4.kept hg (fun r e=>(hr r e).2),h5.grown hg h5.size (fun k e=>by have:=(hr k e).1;have:=c3.out;have:=a5.out;have:=n0.out;omega)⟩
 case stop=>
  rintro D c pre W hD - ⟨rfl,b2,b3,b4,hb⟩ hK;have d5:w6.heap.size<D:=by have:=c3.out;have:=a5.out;omega
  have hz:=n0.out;have hg:=grownBy_putObj' W D (.deferred none);have hr:∀r,some D=some r->∃o:Obj,W.heap[r]?=some o/\o.isCells=false:=fun r e=>by cases e;exact⟨_,hK,rfl⟩
  have g2:=(b2.kept hg hr).cell;have g3:=(b3.kept hg hr).cell;have g4:(W.putObj D (.deferred none)).cell? ⟨w.heap.size+1+1,0,none⟩=some (.bool false):=(b4.kept hg hr).cell;have c0:Cz L w (.returned (.tuple #[.int .i64 0,.slice none 0 0,.bool false])) (W.putObj D (.deferred none)):=.inr ⟨rfl,hb.grown hg hb.size (fun k e=>by cases e;omega)⟩;have HG:=Qa (And.intro g2 (And.intro g3 (And.intro g4 (And.intro c0 hK))));clear b2 b3 b4 hb d5 hz hg hr g2 g3 g4 c0 hK i0 h9 g7 k6 f5 l1 c8 i3 hD
  gi_wp2
  obtain⟨g2,g3,g4,c0,hK⟩:=HG.out;refine⟨by simp,.inl ⟨_,_,rfl,run_takeDeferred hK,?_⟩⟩;refine⟨.tuple #[.int .i64 0,.slice none 0 0,.bool false],?_,c0⟩;simp[results,Tryz.results24,go_sem,g2,g3,g4]
 case done=>
  rintro D ys W hD rfl ⟨⟨v,l,hk,hE,n7,g0⟩,hB,-⟩ hK;obtain⟨Av,qv,rfl,-⟩:=ag hE;have hz:=n0.out;have d5:w6.heap.size<D:=by have:=c3.out;have:=a5.out;omega
  have b2:=i0.out.later hB;have b3:=h9.out.later hB;have b4:=g7.out.later hB;have u4:=Qa (show l.length<=L by rw[n7,List.length_finRange,dL];exact r3.out);have k3:=Qa g0;have e5:=c1.out.trans (hB.mono c1.out.size);have f6:=Qa (And.intro hk (And.intro hE (And.intro hB (And.intro hK (And.intro hz (And.intro d5 (And.intro b2 (And.intro b3 (And.intro b4 e5)))))))));have q2:=b2.cell;have q3:=b3.cell;have q4:W.cell? ⟨w.heap.size+1+1,0,none⟩=some (.bool false):=b4.cell;have f2:=b2.frozen;have f3:=b3.frozen;have f4:W.frozen? ⟨w.heap.size+1+1,0,none⟩=false:=b4.frozen;have d3:=hk.cell;have n1:w6.heap.size≠w.heap.size:=by omega
  have n2:w6.heap.size≠w.heap.size+1:=by omega
  have n3:w6.heap.size≠w.heap.size+2:=by omega
  clear n7 g0 hk hE hB hK hz d5 b2 b3 b4 e5 i0 h9 g7 k6 f5 l1 c8 i3 hD
  gi_wp2_with fail
  refine wpIn_wide.2 ?_;refine bF (fun w'=>w'.cell? ⟨w6.heap.size,0,none⟩=some (.slice Av l.length qv)) (d3) fun a0=>?_
  refine tH 0 a0 ?_;refine tH 1 a0 ?_
  try simp only[Act.put,jP,jQ,jR]
  refine rH 2 fun K hK=>?_
  go_simp;refine hK.out _ _ ((World.cell?_of_block (Below.heap_setCell _ ⟨w.heap.size,0,none⟩ _ w6.heap.size n1)).trans a0) (fun a0=>?_);clear hK K
  try simp only[Act.put,jP,jQ,jR]
  refine rH 3 fun K hK=>?_
  go_simp;refine hK.out _ _ ((World.cell?_of_block (Below.heap_setCell _ ⟨w.heap.size+1,0,none⟩ _ w6.heap.size n2)).trans a0) (fun a0=>?_);clear hK K
  try simp only[Act.put,jP,jQ,jR]
  refine rH 4 fun K hK=>?_
  go_simp;refine hK.out _ _ ((World.cell?_of_block (Below.heap_setCell _ ⟨w.heap.size+2,0,none⟩ _ w6.heap.size n3)).trans a0) (fun a0=>?_);clear hK K
  try simp only[Act.put,jP,jQ,jR]
  refine wpAnyH_done (by kernel_rfl) (NoPanic.normal ?_) _;obtain⟨hk,hE,hB,hK,hz,d5,b2,b3,b4,e5⟩:=f6.out;obtain⟨g1,g2,g3,g4,g5,g6⟩:=ro hE hB hK hz d5 b2 b3 b4 e5 (x:=.int .i64 oc) (y:=.slice Av l.length qv) (z:=.bool true) rfl;have G:=Qa (And.intro g1 (And.intro g2 (And.intro g3 (And.intro g4 (And.intro g5 g6)))));clear hk hE hB hK hz d5 b2 b3 b4 e5 g1 g2 g3 g4 g5 g6 q2 q3 q4 f2 f3 f4 d3 n1 n2 n3 f6
  gi_wp2
  generalize (((W.setCell ⟨w.heap.size,0,none⟩ (.int .i64 oc)).setCell ⟨w.heap.size+1,0,none⟩ (.slice Av l.length qv)).setCell ⟨w.heap.size+1+1,0,none⟩ (.bool true)).drew=W2 at *;obtain⟨g1,g2,g3,g4,g5,g6⟩:=G.out;refine⟨by simp,.inl ⟨_,_,rfl,run_takeDeferred g1,?_⟩⟩;refine⟨.tuple #[.int .i64 oc,.slice Av l.length qv,.bool true],?_,.inl ⟨oc,_,l,q8.out.1,q8.out.2,rfl,g5,u4.out,k3.out,g6⟩⟩;simp[results,Tryz.results24,go_sem,g2,g3,g4]
 case body=>
  rintro lp pre x W ⟨⟨v,l,hk,hE,u8,g0⟩,hB,hN⟩ u3;obtain⟨u,hu,he⟩:=j5 vs x;have n9:(fa vs)[x.val]'x.isLt= (⟨(Lib.itoa x.val).toArray⟩,u):=he;obtain⟨kk,m5,g8⟩:=k6.out W hB x.val u hu;have e3:=aa W (.cells #[.string ia,.string gR,.string gq] 9);have h8:=Zf W (.cells #[.string ia,.string gR,.string gq] 9);have c4:=yE (nv:=.slice (some ⟨W.heap.size,0,none⟩) 3 3) (ts:= [ia,gR,gq]) (m5.later e3) g8 HL.out ⟨by decide,_,3,rfl,by decide,fun i a ha=>by
   match i,ha with
   |0,ha=>(obtain rfl:=Zi ha;exact⟨W.heap.size,0,rfl,ac h8 (j:=0) rfl⟩)
   |1,ha=>(obtain rfl:=Zi ha;exact⟨W.heap.size,0,rfl,ac h8 (j:=1) rfl⟩)
   |2,ha=>(obtain rfl:=Zi ha;exact⟨W.heap.size,0,rfl,ac h8 (j:=2) rfl⟩)⟩ (fun t ht=>by
   simp only[List.mem_cons,List.mem_nil_iff,or_false] at ht;rcases ht with rfl|rfl|rfl
   ·exact mn.1
   ·exact mn.2.2.1
   ·exact mn.2.1)
  obtain⟨Tu,yu,rfl⟩:=m5.iface;have b5:=Qa c4;have i4:=Qa (And.intro hk (And.intro hE (And.intro hB hN)));have m3:=Qa (show l.length<=1000000/\l.length=pre.length by
   have h1:=r3.out;have h2:=HL.out;have h3:=dL vs;omega)
  have k3:=Qa g0;clear u3 u8 g0 g8;rw[n9];clear hu he n9 m5 h8 c4 hk hE hB hN
  gi_wp2_with fail
  refine⟨trivial,?_⟩;refine(CallsIn.inRound lp (callsIn_wide.2 b5.out)).mono ?_;rintro e2 W2 (⟨vt,ls,rfl,d9,s0,l0,b1⟩|⟨rfl,b1⟩)
  rotate_left
  ·obtain⟨hk,hE,hB,hN⟩:=i4.out;have b0:=aj e3 b1;have f8:=hB.trans (b0.mono hB.size);have C2:=Qa (i0.out.later f8);have C3:=Qa (h9.out.later f8);have C4:=Qa (g7.out.later f8);have q2:=C2.out.cell;have q3:=C3.out.cell;have q4:W2.cell? ⟨w.heap.size+1+1,0,none⟩=some (.bool false):=C4.out.cell;have f2:=C2.out.frozen;have f3:=C3.out.frozen;have f4:W2.frozen? ⟨w.heap.size+1+1,0,none⟩=false:=C4.out.frozen;have t9:=Qa (c1.out.trans (f8.mono c1.out.size));have u0:=Qa (fB b0);clear hk hE hB hN b1 b0 f8 e3 b5
   gi_wp2_with fail
   refine⟨u0.out.trans ((KeepsOthers.setCell _ _ _).trans ((KeepsOthers.setCell _ _ _).trans (KeepsOthers.setCell ..))),rfl,?_,?_,?_,?_⟩
   ·exact((C2.out.set (.int .i64 0)).far (p:=⟨w.heap.size+1,0,none⟩) (by simp) (.slice none 0 0)).far (p:=⟨w.heap.size+1+1,0,none⟩) (by show w.heap.size≠w.heap.size+1+1;omega) (.bool false)
   ·exact((C3.out.far (p:=⟨w.heap.size,0,none⟩) (by simp) (.int .i64 0)).set (.slice none 0 0)).far (p:=⟨w.heap.size+1+1,0,none⟩) (by simp) (.bool false)
   ·exact((C4.out.far (p:=⟨w.heap.size,0,none⟩) (by simp) (.int .i64 0)).far (p:=⟨w.heap.size+1,0,none⟩) (by simp) (.slice none 0 0)).set (.bool false)
   ·exact((t9.out.setCell (p:=⟨w.heap.size,0,none⟩) (Zb _) _).setCell (p:=⟨w.heap.size+1,0,none⟩) (by simp) _).setCell (p:=⟨w.heap.size+1+1,0,none⟩) (by show w.heap.size<=w.heap.size+1+1;omega) _
  match ls,s0 with
  | [z0,z1,z2],_=>
  obtain⟨en,r5⟩:∃en:En,en= ⟨z0,z1,z2⟩:=⟨_,rfl⟩;obtain⟨rfl,rfl,rfl⟩:z0=en.eAt/\z1=en.eSch/\z2=en.eKw:=by rw[r5];exact⟨rfl,rfl,rfl⟩
  have r7:=Qa (show Fz L en from⟨l0 _ (by simp),l0 _ (by simp)⟩);clear l0 r5;obtain⟨A3,q3,rfl,-,-,q5⟩:=ag d9;obtain⟨b3,rfl⟩:=q5 (by simp);have t0:W2.cell? ⟨b3,0,none⟩=some (.string en.eAt):=(aH d9 rfl 0 (by simp)).trans rfl;have t1:W2.cell? ⟨b3,1,none⟩=some (.string en.eSch):=(aH d9 rfl 1 (by simp)).trans rfl;have t2:W2.cell? ⟨b3,2,none⟩=some (.string en.eKw):=(aH d9 rfl 2 (by simp)).trans rfl;obtain⟨hk,hE,hB,hN⟩:=i4.out;have b0:=aj e3 b1;have i2:=hk.later b0;have p4:bG W2 (w6.heap.size+2) v l:=ai hE b0 (Zb _);have u9:w6.heap.size<W2.heap.size:=i2.lt;have r6:=i2.alloc (.cells #[.string en.eAt,.string en.eSch,.string en.eKw] 45);have n5:bG (W2.alloc (.cells #[.string en.eAt,.string en.eSch,.string en.eKw] 45)).drew (w6.heap.size+2) v l:=ai p4 (aa _ _).drew (Zb _);have r0:w6.heap.size+2<=W2.heap.size:=Zc hN b0.size;have hS:W2.cell? ⟨w6.heap.size,0,none⟩=some v/\W2.cell? ⟨b3,0,none⟩=some (.string en.eAt)/\W2.cell? ⟨b3,1,none⟩=some (.string en.eSch)/\W2.cell? ⟨b3,2,none⟩=some (.string en.eKw):=⟨i2.cell,t0,t1,t2⟩;have HS:=Qa hS;have m9:=Qa n5;have e1:=Qa b0;have v0:=Qa r0;have t3:=Qa (show ∀ (j:Nat) u,(dW en)[j]?=some u->(W2.alloc (.cells #[.string en.eAt,.string en.eSch,.string en.eKw] 45)).drew.cell? ⟨W2.heap.size,j,none⟩=some u from av W2 (dW en) 45);have d4:=Qa (show w6.heap.size+2<=(W2.alloc (.cells #[.string en.eAt,.string en.eSch,.string en.eKw] 45)).drew.heap.size by simp;omega);have k4:=Qa (show ∀r,v.ownBlock=some r->r≠b3 from fun r e h=>by
   have h1:=(World.ownsRow.lt hE r e).2;have h2:=(ao d9 (g:=b3) rfl).1;simp at h2;omega)
  have j0:=Qa (show(W2.alloc (.cells #[.string en.eAt,.string en.eSch,.string en.eKw] 45)).drew.cell? ⟨b3,0,none⟩=some (.string en.eAt)/\(W2.alloc (.cells #[.string en.eAt,.string en.eSch,.string en.eKw] 45)).drew.cell? ⟨b3,1,none⟩=some (.string en.eSch)/\(W2.alloc (.cells #[.string en.eAt,.string en.eSch,.string en.eKw] 45)).drew.cell? ⟨b3,2,none⟩=some (.string en.eKw) from⟨Zg (aa _ _).drew t0,Zg (aa _ _).drew t1,Zg (aa _ _).drew t2⟩);have t5:=Qa (show Bx (W2.alloc (.cells #[.string en.eAt,.string en.eSch,.string en.eKw] 45)).drew w6.heap.size 22 v from r6);clear d9 q5 t0 t1 t2 hk hE hB hN i2 p4 u9 r6 n5 b1 e3 b0 hS r0 b5
  gi_wp2_with fail
  refine F7 (S:=fun w'=>w'.cell? ⟨w6.heap.size,0,none⟩=some v/\w'.cell? ⟨b3,0,none⟩=some (.string en.eAt)/\w'.cell? ⟨b3,1,none⟩=some (.string en.eSch)/\w'.cell? ⟨b3,2,none⟩=some (.string en.eKw)) (by kernel_rfl) (by kernel_rfl) 13 (HS.out) (fun a0=>?_);refine tZ 0 a0 ?_;refine tZ 1 a0 ?_;refine tZ 2 a0 ?_;refine tZ 3 a0 ?_;refine tZ 4 a0 ?_;refine tZ 5 a0 ?_
  try simp only[Act.put,jP,jQ,jR]
  refine tZ 6 a0 ?_;refine tZ 7 a0 ?_;refine tZ 8 a0 ?_;refine tZ 9 a0 ?_;refine tZ 10 a0 ?_
  try simp only[Act.put,jP,jQ,jR]
  refine rZ 11 fun K hK=>?_
  go_simp;have q6:=(show Below W2.heap.size W2 (W2.alloc (.cells #[.string en.eAt,.string en.eSch,.string en.eKw] 45)) from aa _ _);have q7:=(And.intro (Zg q6 HS.out.1) (And.intro (Zg q6 HS.out.2.1) (And.intro (Zg q6 HS.out.2.2.1) (Zg q6 HS.out.2.2.2))));clear q6;refine hK.out _ _ (fun _=>q7) (fun a0=>?_);clear hK K;have a0:=a0 (by decide)
  try simp only[Act.put,jP,jQ,jR]
  refine rZ 12 fun K hK=>?_
  refine xV tz m9.out t3.out d4.out ?_ (h1:=(by simp[dW,Value.oneCell'])) (hlen:=by have:=m3.out.1;unfold maxLen;omega) (hby:=by have:=m3.out.1;omega);intro v7 w7 h1 h2 h3;obtain⟨A7,q7,rfl,-⟩:=ag h1;have i5:=aF (Ze _ _) m9.out d4.out h2;have k7:=t5.out.below i5 (by omega);have S7:=And.intro k7.cell (And.intro (h2.cell j0.out.1 (fun e=>k4.out _ e.symm rfl)) (And.intro (h2.cell j0.out.2.1 (fun e=>k4.out _ e.symm rfl)) (h2.cell j0.out.2.2 (fun e=>k4.out _ e.symm rfl))));have s6:=Qa h1;have u2:=Qa h2;have k9:=Qa i5;have s9:=Qa k7;have c7:=k7.cell;have f7:=k7.frozen;clear h1 h2 h3 i5 k7;refine hK.out _ _ (fun _=>S7) (fun a0=>?_);clear hK K;have a0:=a0 (by decide)
  try simp only[Act.put,jP,jQ,jR]
  refine rZ 13 fun K hK=>?_
  go_simp;refine hK.out _ _ (fun h=>absurd rfl h) (fun _=>?_);clear hK K
  try simp only[Act.put,jP,jQ,jR]
  refine aK (by kernel_rfl) (NoPanic.normal ?_) _;obtain⟨-,-,hB,-⟩:=i4.out;refine⟨rfl,?_,?_,⟨_,l ++ [en],s9.out.set _,?_,?_,?_⟩,?_,?_⟩
  ·exact(fB e1.out).trans ((KeepsOthers.alloc _ _).trans ((KeepsOthers.drew _).trans ((KeepsOthers.of_grownBy u2.out (fun j o e ho=>by
    obtain⟨-,cur,k2⟩:=ao m9.out e;rw[k2] at ho
    cases ho
    rfl)).trans (KeepsOthers.setCell ..))))
  ·exact(iw.of_below e1.out).t ((iw.of_below (aa _ _).drew).t ((iw.of_low k9.out).t (iw.set _ _)))
  ·unfold bG;rw[<-de,List.length_append];exact ownsRow_setCell_below s6.out (a:=⟨w6.heap.size,0,none⟩) (by show w6.heap.size<w6.heap.size+2;omega) _
  ·rw[List.length_append,List.length_append,m3.out.2];rfl
  ·intro a ha;rcases List.mem_append.1 ha with ha|ha
   ·exact k3.out a ha
   ·rw[List.mem_singleton.1 ha];exact r7.out
  ·have h1:=hB.trans (e1.out.mono hB.size);have h2:=h1.trans (((aa W2 (.cells #[.string en.eAt,.string en.eSch,.string en.eKw] 45)).drew).mono h1.size);exact(h2.trans (k9.out.mono (Nat.le_add_right _ _))).setCell (p:=⟨w6.heap.size,0,none⟩) (Zb _) _
  ·rw[World.size_setCell];exact Zc d4.out k9.out.size
