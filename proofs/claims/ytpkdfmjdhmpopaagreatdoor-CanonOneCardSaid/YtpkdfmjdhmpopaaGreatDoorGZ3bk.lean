import Derived.Test.YtpkdfmjdhmpopaaGreatDoorGZ3bj
set_option linter.unusedVariables false
set_option linter.unusedSimpArgs false
set_option maxHeartbeats 64000000
set_option maxRecDepth 100000
namespace Go.Proofs.YtpkdfmjdhmpopaaGreatDoor
open Go.RowKit Go.Maps
variable {f : Fr} {lv : Int} {fs : List Fr} {bs : List Nat} {B xb : Nat} {F : Nat -> Prop} {T : TypeId -> Prop} {w w' : World}
structure jN (B:Nat) (w:World) (rb lb xb:Nat) (v:Value) (xs:List UInt8) (ofr nfr:List Fr) (want k:Nat) (nd:Nat) (fin:Bool) (by_ dp ex:Int) (ov nv:Value) (maps:List Nat):Prop where
 row:w.heap[rb]?=some (.cells (dH lb xb by_ dp nd ex ov nv want fin) 183 (0,0))
 low:B<=rb
 lex:oQ w lb v xs k
 llow:B<=lb
 own:au w B v xs
 opens:w.ownsRow B 3 1 ov ofr.length (ofr.reverse.map fE)
 names:w.ownsRow B 283 1 nv maps.length (maps.reverse.map rX)
 seen:bB (jT B w) maps (nfr.filter (·.obj))
 nodup:maps.Nodup
 le:k<=xs.length
section
variable {B rb lb xb want k nd : Nat} {w w' w5 : World} {v : Value} {xs : List UInt8} {frs ofr nfr : List Fr} {fin : Bool} {by_ dp ex : Int} {ov nv : Value} {maps : List Nat}
theorem iz.b (h:iz B w rb lb xb v xs frs want k nd fin by_ dp ex ov nv maps):jN B w rb lb xb v xs frs frs want k nd fin by_ dp ex ov nv maps:=⟨h.row,h.low,h.lex,h.llow,h.own,h.opens,h.names,h.seen,h.nodup,h.le⟩
theorem jN.a (h:jN B w rb lb xb v xs frs frs want k nd fin by_ dp ex ov nv maps):iz B w rb lb xb v xs frs want k nd fin by_ dp ex ov nv maps:=⟨h.row,h.low,h.lex,h.llow,h.own,h.opens,h.names,h.seen,h.nodup,h.le⟩
theorem jN.below (h:jN B w rb lb xb v xs ofr nfr want k nd fin by_ dp ex ov nv maps)(hb:Below w.heap.size w w'):jN B w' rb lb xb v xs ofr nfr want k nd fin by_ dp ex ov nv maps:=by
 obtain⟨h1,h2,h3,h4,h5,h6,h7,h8,h9,a1⟩:=h;have a0:au w' B v xs:=ap h5 hb (Za _);refine⟨ai h1 hb,h2,h3.below hb,h4,a0,ap h6 hb (Za _),ap h7 hb (Za _),h8.mono fun a b h=> ?_,h9,a1⟩;obtain⟨q1,l,n,q2,q3,q4⟩:=h;exact⟨q1,l,n,q2.kp (Kp.of_below (fun _=>False) hb),q3,q4⟩
theorem jN.stay (h:jN B w rb lb xb v xs ofr nfr want k nd fin by_ dp ex ov nv maps)(a0:bl F w w')(hF:∀g,F g->g<w.heap.size->∃cs e z,w.heap[g]?=some (.cells cs e z)/\lZ e):Kp lZ w w':=Kp.of_chg a0 hF
theorem jN.seens (h:bB (jT B w) maps (nfr.filter (·.obj)))(hk:Kp T w w'):bB (jT B w') maps (nfr.filter (·.obj)):=h.mono fun a b h=>by
 obtain⟨q1,l,n,q2,q3,q4⟩:=h;exact⟨q1,l,n,q2.kp hk,q3,q4⟩
theorem jN.setOpen (h:jN B w rb lb xb v xs ofr nfr want k nd fin by_ dp ex ov nv maps)(hB:B<=w.heap.size)(a2:bl F w w5)(hF:∀g,F g->ov.ownBlock=some g){ov':Value}{ofr':List Fr}(hp:w5.ownsRow B 3 1 ov' ofr'.length (ofr'.reverse.map fE)) :
  Below B w (w5.setCell ⟨rb,12,none⟩ ov')/\Kp lZ w (w5.setCell ⟨rb,12,none⟩ ov')/\jN B (w5.setCell ⟨rb,12,none⟩ ov') rb lb xb v xs ofr' nfr want k nd fin by_ dp ex ov' nv maps:=by
 obtain⟨h1,h2,h3,h4,h5,h6,h7,h8,h9,a5⟩:=h;have a1:bl (fun g=>F g\/g=rb) w (w5.setCell ⟨rb,12,none⟩ ov'):=(a2.mono fun _ h=> .inl h).trans (bl.set rb 12 ov') fun i hi=> .inl (.inr hi)
 have a4:∀g,(F g\/g=rb)->g<w.heap.size->∃cs e z,w.heap[g]?=some (.cells cs e z)/\(e=3\/e=183):=fun g hg _=>by
  rcases hg with hg | rfl
  ·obtain⟨_,cur,hh⟩:=ak h6 (hF g hg)
   exact⟨_,_,_,hh, .inl rfl⟩
  ·exact⟨_,_,_,h1, .inr rfl⟩
 have hk:Kp (fun e=>e=3\/e=183) w (w5.setCell ⟨rb,12,none⟩ ov'):=Kp.of_chg a1 a4;have a0:au (w5.setCell ⟨rb,12,none⟩ ov') B v xs:=al h5 hk.keeps (by decide);have hrb:rb<w.heap.size:=ae h1;have a3:w5.heap[rb]?=some (.cells (dH lb xb by_ dp nd ex ov nv want fin) 183 (0,0)):=(a2.block rb hrb fun hf=>aR h6 h1 (by decide) (hF rb hf)).trans h1;have hne:=aR hp a3 (by decide);refine⟨a1.below hB (fun i hi=>hi.elim (fun h=>(ak h6 (hF i h)).1) fun e=>by rw [e];exact h2),hk.imp fun e he=>he.elim (fun h=> .inr (.inr (.inl h))) fun h=> .inl h,ay a3 12 ov',h2,⟨hk.heap h3.1 (by decide),au.bs a0⟩,h4,a0,bC hp fun b hb=>(bl.set rb 12 ov').block b (ae (ak hp hb).2.choose_spec) fun e=>hne (by rw [hb,e]),al h7 hk.keeps (by decide),jN.seens h8 hk,h9,a5⟩
theorem jN.setNames (h:jN B w rb lb xb v xs ofr nfr want k nd fin by_ dp ex ov nv maps)(hB:B<=w.heap.size)(a3:bl F w w5)(hF:∀g,F g->nv.ownBlock=some g){nv':Value}{maps':List Nat}{nfr':List Fr}(hp:w5.ownsRow B 283 1 nv' maps'.length (maps'.reverse.map rX))(a7:maps'.Nodup)
  (a4:∀w9,Kp (fun e=>e=283\/e=183) w w9->Kp (fun e=>e=183) w5 w9->bB (jT B w9) maps' (nfr'.filter (·.obj))) :
  Below B w (w5.setCell ⟨rb,13,none⟩ nv')/\Kp lZ w (w5.setCell ⟨rb,13,none⟩ nv')/\jN B (w5.setCell ⟨rb,13,none⟩ nv') rb lb xb v xs ofr nfr' want k nd fin by_ dp ex ov nv' maps':=by
 obtain⟨h1,h2,h3,h4,h5,h6,h7,h8,h9,a6⟩:=h;have a1:bl (fun g=>F g\/g=rb) w (w5.setCell ⟨rb,13,none⟩ nv'):=(a3.mono fun _ h=> .inl h).trans (bl.set rb 13 nv') fun i hi=> .inl (.inr hi)
 have a5:∀g,(F g\/g=rb)->g<w.heap.size->∃cs e z,w.heap[g]?=some (.cells cs e z)/\(e=283\/e=183):=fun g hg _=>by
  rcases hg with hg | rfl
  ·obtain⟨_,cur,hh⟩:=ak h7 (hF g hg)
   exact⟨_,_,_,hh, .inl rfl⟩
  ·exact⟨_,_,_,h1, .inr rfl⟩
 have hk:Kp (fun e=>e=283\/e=183) w (w5.setCell ⟨rb,13,none⟩ nv'):=Kp.of_chg a1 a5;have a0:au (w5.setCell ⟨rb,13,none⟩ nv') B v xs:=al h5 hk.keeps (by decide);have hrb:rb<w.heap.size:=ae h1;have a2:w5.heap[rb]?=some (.cells (dH lb xb by_ dp nd ex ov nv want fin) 183 (0,0)):=(a3.block rb hrb fun hf=>aR h7 h1 (by decide) (hF rb hf)).trans h1;have hne:=aR hp a2 (by decide);have a9:Kp (fun e=>e=183) w5 (w5.setCell ⟨rb,13,none⟩ nv'):=Kp.of_chg (bl.set rb 13 nv') fun g e _=>by subst e;exact⟨_,_,_,a2,rfl⟩
 refine⟨a1.below hB (fun i hi=>hi.elim (fun h=>(ak h7 (hF i h)).1) fun e=>by rw [e];exact h2),hk.imp fun e he=>he.elim (fun h=> .inr (.inr (.inr h))) fun h=> .inl h,ay a2 13 nv',h2,⟨hk.heap h3.1 (by decide),au.bs a0⟩,h4,a0,al h6 hk.keeps (by decide),bC hp fun b hb=>(bl.set rb 13 nv').block b (ae (ak hp hb).2.choose_spec) fun e=>hne (by rw [hb,e]),a4 _ hk a9,a7,a6⟩
theorem jN.setWant (h:jN B w rb lb xb v xs ofr nfr want k nd fin by_ dp ex ov nv maps)(hB:B<=w.heap.size)(n:Nat){z:Int}(hz:z=n):Below B w (w.setCell ⟨rb,14,none⟩ (.int .i64 z))/\Kp lZ w (w.setCell ⟨rb,14,none⟩ (.int .i64 z))/\jN B (w.setCell ⟨rb,14,none⟩ (.int .i64 z)) rb lb xb v xs ofr nfr n k nd fin by_ dp ex ov nv maps:=by
 subst hz;obtain⟨h1,h2,h3,h4,h5,h6,h7,h8,h9,a2⟩:=h;have a1:=bl.set (w:=w) rb 14 (.int .i64 n);have hk:Kp (fun e=>e=183) w (w.setCell ⟨rb,14,none⟩ (.int .i64 n)):=Kp.of_chg a1 fun g e _=>by subst e;exact⟨_,_,_,h1,rfl⟩
 have a0:au (w.setCell ⟨rb,14,none⟩ (.int .i64 n)) B v xs:=al h5 hk.keeps (by decide);exact⟨a1.below hB (fun i e=>by rw [e];exact h2),hk.imp fun e he=> .inl he,ay h1 14 _,h2,⟨hk.heap h3.1 (by decide),au.bs a0⟩,h4,a0,al h6 hk.keeps (by decide),al h7 hk.keeps (by decide),jN.seens h8 hk,h9,a2⟩
end
def y8:Nat->List UInt8
 | 0=> [91,123]
 | 1=> [91,123,93]
 | 3=> [125]
 | 4=> [58]
 | 5=> [44,93]
 | 6=> [44,125]
 | _=> []
theorem Fw (want:Nat)(c:UInt8):wE want c= (y8 want).contains c:=by
 rcases want with _ | _ | _ | _ | _ | _ | _ | n <;> rfl
def jZ (w:World):Prop:= ∀i,i<8->w.cell? ⟨7,i,none⟩=some (.string ⟨(y8 i).toArray⟩)
theorem jZ.below (h:jZ w)(hb:Below w.heap.size w w'):jZ w':=fun i hi=>Zf hb (h i hi)
theorem nJ (a3:lv= (fs.length+1:Nat))(h:eW B w xb (f::fs) none bs)(ho:f.obj=false)(a4:f.name=none)(a1:f.ok jU)(hi:f.items.length<=4294967296)(a2:f.mems.length<=4294967296)(a6:jz fs)(hB:B<=w.heap.size):Calls Tryz.prog 58 #[.pointer (some ⟨xb,0,none⟩), .iface 196 (.agg #[.int .i64 lv, .int .i64 5])] w fun e w'=>mn B xb (cC fs (dK f)) w e w':=by
 have a0:=ac w (.cells #[.int .i64 lv, .int .i64 5] 196);have Hc:=Qa (u9 a3 (h.below a0) ho a4 a1 hi a2 a6 (Zb hB a0.size));have a5:=Qa a0;have HB:=Qa hB;have q1:=rI;have q2:=jK;have q3:=jS;have q4:=jO;clear h a0 hB a3 ho a4 a1 hi a2 a6;go_enter Tryz.func58,Tryz.ntmps58;go_wp2_with fail;(with_reducible refine Hc.out.mono ?_);rintro e w' ⟨rfl,h1,h2,h3⟩;have R:=Qa (And.intro h1 (And.intro h2 h3));clear h1 h2 h3;go_wp2_with fail;go_end0;exact⟨rfl,(a5.out.mono HB.out).trans R.out.1,(Kp.of_below TB a5.out).trans R.out.2.1,R.out.2.2⟩
theorem oI (a3:lv= (fs.length+1:Nat))(h:eW B w xb (f::fs) none bs)(ho:f.obj=true)(a4:f.name=none)(a1:f.ok jU)(hi:f.items.length<=4294967296)(a2:f.mems.length<=4294967296)(a6:jz fs)(hB:B<=w.heap.size):Calls Tryz.prog 58 #[.pointer (some ⟨xb,0,none⟩), .iface 196 (.agg #[.int .i64 lv, .int .i64 6])] w fun e w'=>mn B xb (cC fs (dK f)) w e w':=by
 have a0:=ac w (.cells #[.int .i64 lv, .int .i64 6] 196);have Hc:=Qa (yg a3 (h.below a0) ho a4 a1 hi a2 a6 (Zb hB a0.size));have a5:=Qa a0;have HB:=Qa hB;have q1:=rI;have q2:=jK;have q3:=jS;have q4:=jO;clear h a0 hB a3 ho a4 a1 hi a2 a6;go_enter Tryz.func58,Tryz.ntmps58;go_wp2_with fail;(with_reducible refine Hc.out.mono ?_);rintro e w' ⟨rfl,h1,h2,h3⟩;have R:=Qa (And.intro h1 (And.intro h2 h3));clear h1 h2 h3;go_wp2_with fail;go_end0;exact⟨rfl,(a5.out.mono HB.out).trans R.out.1,(Kp.of_below TB a5.out).trans R.out.2.1,R.out.2.2⟩
