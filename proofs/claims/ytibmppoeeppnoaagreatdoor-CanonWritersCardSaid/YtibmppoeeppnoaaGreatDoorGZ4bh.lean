import Derived.Test.YtibmppoeeppnoaaGreatDoorGZ4bg
import Derived.Handy
import Derived.Stop.Asserts
set_option linter.unusedVariables false
set_option linter.unusedSimpArgs false
set_option maxHeartbeats 64000000
set_option maxRecDepth 100000
namespace Go.Proofs.YtibmppoeeppnoaaGreatDoor
open Go.RowKit
variable {fin:Bool}{s:ByteArray}{f f':Fr}{j:JV}{frs fs:List Fr}{bs:List Nat}{xs:List UInt8}{B b k lb nd rb want xb:Nat}{T U:TypeId->Prop}{u v:Value}{w w':World}
section
variable {B rb lb xb want k nd:Nat}{w w':World}{v:Value}{xs:List UInt8}{frs:List Fr}{fin:Bool}{by_ dp ex:Int}{ov nv:Value}{maps:List Nat}
theorem ir.setWant (h:ir B w rb lb xb v xs frs want k nd fin by_ dp ex ov nv maps)(hB:B<=w.heap.size)(n:Nat){z:Int}(hz:z=n):Below B w (w.setCell ⟨rb,14,none⟩ (.int .i64 z))/\Kp lG w (w.setCell ⟨rb,14,none⟩ (.int .i64 z))/\ir B (w.setCell ⟨rb,14,none⟩ (.int .i64 z)) rb lb xb v xs frs n k nd fin by_ dp ex ov nv maps:=by
 subst hz;obtain⟨h1,h2,h3,h4⟩:=h.setR hB 14 (.int .i64 n);obtain⟨q1,q2,q3,q4,q5⟩:=h4 _ h3;exact⟨h1,h2,h3,h.low,q1,h.llow,q2,q3,q4,q5,h.nodup,h.le⟩
theorem ir.setNodes (h:ir B w rb lb xb v xs frs want k nd fin by_ dp ex ov nv maps)(hB:B<=w.heap.size)(n:Nat){z:Int}(hz:z=n):Below B w (w.setCell ⟨rb,9,none⟩ (.int .i64 z))/\Kp lG w (w.setCell ⟨rb,9,none⟩ (.int .i64 z))/\ir B (w.setCell ⟨rb,9,none⟩ (.int .i64 z)) rb lb xb v xs frs want k n fin by_ dp ex ov nv maps:=by
 subst hz;obtain⟨h1,h2,h3,h4⟩:=h.setR hB 9 (.int .i64 n);obtain⟨q1,q2,q3,q4,q5⟩:=h4 _ h3;exact⟨h1,h2,h3,h.low,q1,h.llow,q2,q3,q4,q5,h.nodup,h.le⟩
theorem ir.setDepth (h:ir B w rb lb xb v xs frs want k nd fin by_ dp ex ov nv maps)(hB:B<=w.heap.size)(z:Int):Below B w (w.setCell ⟨rb,8,none⟩ (.int .i64 z))/\Kp lG w (w.setCell ⟨rb,8,none⟩ (.int .i64 z))/\ir B (w.setCell ⟨rb,8,none⟩ (.int .i64 z)) rb lb xb v xs frs want k nd fin by_ z ex ov nv maps:=by
 obtain⟨h1,h2,h3,h4⟩:=h.setR hB 8 (.int .i64 z);obtain⟨q1,q2,q3,q4,q5⟩:=h4 _ h3;exact⟨h1,h2,h3,h.low,q1,h.llow,q2,q3,q4,q5,h.nodup,h.le⟩
theorem ir.setExpo (h:ir B w rb lb xb v xs frs want k nd fin by_ dp ex ov nv maps)(hB:B<=w.heap.size)(z:Int):Below B w (w.setCell ⟨rb,10,none⟩ (.int .i64 z))/\Kp lG w (w.setCell ⟨rb,10,none⟩ (.int .i64 z))/\ir B (w.setCell ⟨rb,10,none⟩ (.int .i64 z)) rb lb xb v xs frs want k nd fin by_ dp z ov nv maps:=by
 obtain⟨h1,h2,h3,h4⟩:=h.setR hB 10 (.int .i64 z);obtain⟨q1,q2,q3,q4,q5⟩:=h4 _ h3;exact⟨h1,h2,h3,h.low,q1,h.llow,q2,q3,q4,q5,h.nodup,h.le⟩
theorem ir.setDone (h:ir B w rb lb xb v xs frs want k nd fin by_ dp ex ov nv maps)(hB:B<=w.heap.size)(b:Bool):Below B w (w.setCell ⟨rb,15,none⟩ (.bool b))/\Kp lG w (w.setCell ⟨rb,15,none⟩ (.bool b))/\ir B (w.setCell ⟨rb,15,none⟩ (.bool b)) rb lb xb v xs frs want k nd b by_ dp ex ov nv maps:=by
 obtain⟨h1,h2,h3,h4⟩:=h.setR hB 15 (.bool b);obtain⟨q1,q2,q3,q4,q5⟩:=h4 _ h3;exact⟨h1,h2,h3,h.low,q1,h.llow,q2,q3,q4,q5,h.nodup,h.le⟩
end
theorem dQ (h:jL B w rb lb xb v xs frs want k nd fin)(hl:frs.length<=4294967296):Calls Tryz.prog 172 #[.pointer (some ⟨rb,0,none⟩)] w fun e w'=>e =.returned (.int .i64 ((frs.length:Int)+1))/\w=w':=by
 obtain⟨by_,dp,ex,ov,nv,maps,h⟩:=h;obtain⟨A,q,rfl,-⟩:=ag h.opens;have c12:=aa h.row (j:=12) (u:=.slice A frs.length q) rfl;have s1:IntKind.i64.wrap ((frs.length:Int)+1)= (frs.length:Int)+1:=IntWalk.i64_in _ (by omega);clear h;go_enter Tryz.func172,Tryz.ntmps172;go_wp2_with fail;go_ret;exact⟨rfl,rfl⟩
theorem qU (h:jL B w rb lb xb v xs frs want k nd fin){m x:Int}(hm:m=1\/m=2\/m=3\/m=5)(hx:x<=1073741824):Calls Tryz.prog 175 #[.pointer (some ⟨rb,0,none⟩),.int .i64 m,.int .i64 x] w fun e w'=>e =.returned (.tuple #[])/\Below w.heap.size w w':=by
 obtain⟨by_,dp,ex,ov,nv,maps,h⟩:=h;have c1:=aa h.row (j:=1) (u:=.int .i64 1073741824) rfl;have c2:=aa h.row (j:=2) (u:=.int .i64 1073741824) rfl;have c3:=aa h.row (j:=3) (u:=.int .i64 1073741824) rfl;have c4:=aa h.row (j:=4) (u:=.int .i64 1073741824) rfl;have c5:=aa h.row (j:=5) (u:=.int .i64 1073741824) rfl;have c6:=aa h.row (j:=6) (u:=.int .i64 4611686018427387903) rfl;have H:=Qa (fun w=>sT hm hx w);unfold eQ at H;clear h hm hx;go_enter Tryz.func175,Tryz.ntmps175;go_wp2_with fail;(with_reducible refine(H.out _).mono ?_);rintro e w1 ⟨rfl,hb⟩;have Hb:=Qa hb;clear hb c1 c2 c3 c4 c5 c6;go_wp2_with fail;go_end0;exact⟨rfl,Hb.out⟩
def HF (B rb lb xb:Nat)(v:Value)(xs:List UInt8)(frs:List Fr)(want k nd:Nat)(fin:Bool)(w:World)(e:Ending)(w':World):Prop:=e =.returned (.tuple #[])/\Below B w w'/\Kp lG w w'/\jL B w' rb lb xb v xs frs want k nd fin
theorem fV (h:jL B w rb lb xb v xs frs want k nd fin)(hl:frs.length<=1000000000)(hn:nd<=1000000000)(hB:B<=w.heap.size):Calls Tryz.prog 171 #[.pointer (some ⟨rb,0,none⟩)] w (HF B rb lb xb v xs frs want k (nd+1) fin w):=by
 have b5:=Qa (fun (w:World) (h:jL B w rb lb xb v xs frs want k (nd+1) fin)=>dQ h (by omega));have b1:=Qa (dQ h (by omega));have b4:=Qa (qU h (m:=2) (x:=(frs.length:Int)+1) (by omega) (by omega));have H:=Qa h;have HB:=Qa hB;have Hl:=Qa hl;have s1:IntKind.i64.wrap ((nd:Int)+1)= (nd:Int)+1:=IntWalk.i64_in _ (by omega);clear h hB hl;go_enter Tryz.func171,Tryz.ntmps171;go_wp2_with fail;(with_reducible refine b1.out.mono ?_);rintro e w' ⟨rfl,rfl⟩;go_wp2_with fail;(with_reducible refine b4.out.mono ?_);rintro e w1 ⟨rfl,a9⟩;have H1:=H.out.below a9;have b3:=Qa (qU H1 (m:=3) (x:=(nd:Int)+1) (by omega) (by omega));obtain⟨by_,dp,ex,ov,nv,maps,hA⟩:=id H1;have c9:=aa hA.row (j:=9) (u:=.int .i64 nd) rfl;have H1:=Qa H1;have HA:=Qa hA;have b2:=Qa a9;clear hA a9 b4 b1;go_wp2_with fail;(with_reducible refine b3.out.mono ?_);rintro e w2 ⟨rfl,a4⟩;have a3:=HA.out.below a4;have a2:B<=w2.heap.size:=by have:=HB.out;have:=b2.out.size;have:=a4.size;omega
 have a1:=Qa (a3.setNodes a2 (nd+1) (z:=(nd:Int)+1) (by omega));have d9:=aa a3.row (j:=9) (u:=.int .i64 nd) rfl;have f9:=aj a3.row 9;have b0:=Qa (bt b2.out a4);clear a3 a4 b3 c9 a2;go_wp2_with fail;generalize w2.setCell ⟨rb,9,none⟩ (.int .i64 ((nd:Int)+1))=w3 at *;clear d9 f9;obtain⟨wr,a5⟩:∃wr,w3.drew=wr:=⟨_,rfl⟩;have a6:Below w3.heap.size w3 wr:=by rw[<-a5];exact(Zd _ _).drew
 have HR:=Qa (a1.out.2.2.below a6);have c8:=aa HR.out.row (j:=8) (u:=.int .i64 dp) rfl;have f8:=aj HR.out.row 8;have C8:=Qa c8;have a7:=Qa a6;clear a6;refine cP (fun w2=>w2.cell? ⟨rb,8,none⟩=some (.int .i64 dp)) 12 ((by rw[a5];exact C8.out)) fun a0=>?_
 rw[a5] at a0 ⊢;clear a5;refine tZ 0 a0 ?_;refine tZ 1 a0 ?_;refine tZ 2 a0 ?_;refine tZ 3 a0 ?_;refine tZ 4 a0 ?_;refine tZ 5 a0 ?_
 try simp only[Act.put,jP,jQ,jR]
 refine tZ 6 a0 ?_
 try simp only[Act.put,jP,jQ,jR]
 refine rZ 7 fun K hK=>?_
 go_simp;(with_reducible refine(b5.out _ HR.out.s).mono ?_);rintro e w' ⟨rfl,rfl⟩;go_wp2_with fail;refine hK.out _ _ (fun _=>a0) (fun a0=>?_);clear hK K;have a0:=a0 (by decide)
 try simp only[Act.put,jP,jQ,jR]
 refine tZ 8 a0 ?_
 try simp only[Act.put,jP,jQ,jR]
 refine rZ 9 fun K hK=>?_
 go_simp;refine hK.out _ _ (fun _=>a0) (fun a0=>?_);clear hK K;have a0:=a0 (by decide)
 try simp only[Act.put,jP,jQ,jR]
 refine rZ 10 fun K hK=>?_
 go_simp;refine hK.out _ _ (fun _=>a0) (fun a0=>?_);clear hK K;have a0:=a0 (by decide)
 try simp only[Act.put,jP,jQ,jR]
 refine tZ 11 a0 ?_
 try simp only[Act.put,jP,jQ,jR]
 refine rZ 12 fun K hK=>?_
 go_simp;refine hK.out _ _ (fun h=>absurd rfl h) (fun _=>?_);clear hK K
 try simp only[Act.put,jP,jQ,jR]
 refine aV (by kernel_rfl) (NoPanic.normal ?_) _;go_end0;obtain⟨r1,r2,r3⟩:=a1.out;have a2:B<=w2.heap.size:=by have:=HB.out;have:=b0.out.size;omega
 have b6:B<=wr.heap.size:=by have:=r2.1;have:=a7.out.size;omega
 obtain⟨q1,q2,q3⟩:=HR.out.setDepth b6 (max dp ((frs.length:Int)+1));exact⟨rfl,((b0.out.mono HB.out).trans r1).trans ((a7.out.mono (Zb a2 r2.1)).trans q1),((Kp.of_below _ b0.out).trans r2).trans ((Kp.of_below _ a7.out).trans q2),q3.s⟩
theorem zo (h:jL B w rb lb xb v xs [] want k nd fin)(hB:B<=w.heap.size):Calls Tryz.prog 173 #[.pointer (some ⟨rb,0,none⟩)] w fun e w'=>HF B rb lb xb v xs [] 7 k nd fin w e w':=by
 obtain⟨by_,dp,ex,ov,nv,maps,h⟩:=h;obtain⟨A,q,rfl,-⟩:=ag h.opens;have c12:=aa h.row (j:=12) (u:=.slice A 0 q) rfl;have c14:=aa h.row (j:=14) (u:=.int .i64 want) rfl;have f14:=aj h.row 14;have Hs:=Qa (h.setWant hB 7 (z:=7) rfl);clear h hB;go_enter Tryz.func173,Tryz.ntmps173;go_wp2_with fail;go_end0;exact⟨rfl,Hs.out.1,Hs.out.2.1,Hs.out.2.2.s⟩
theorem xV (h:jL B w rb lb xb v xs (f::fs) want k nd fin)(hB:B<=w.heap.size)(hl:fs.length<=4294967296):Calls Tryz.prog 173 #[.pointer (some ⟨rb,0,none⟩)] w fun e w'=>HF B rb lb xb v xs (f::fs) (if f.obj then 6 else 5) k nd fin w e w':=by
 obtain⟨by_,dp,ex,ov,nv,maps,h⟩:=h;obtain⟨m,hm⟩:∃m,fs.length=m:=⟨_,rfl⟩;have ho:=h.opens;rw[List.length_cons,hm] at ho;obtain⟨A,q,rfl,-,-,hA⟩:=ag ho;obtain⟨g,rfl⟩:=hA (by omega);have cg:=World.ownsRow.cellAt ho m (by omega);rw[List.reverse_cons,List.map_append,List.getElem?_append_right (by simp;omega),List.length_map,List.length_reverse,hm,Nat.sub_self] at cg;have c12:=aa h.row (j:=12) (u:=.slice (some ⟨g,0,none⟩) (m+1) q) rfl;have c14:=aa h.row (j:=14) (u:=.int .i64 want) rfl;have f14:=aj h.row 14;have s1:IntKind.i64.wrap (m:Int)= (m:Int):=IntWalk.i64_in _ (by omega);have a4:(m:Int)< (m:Int)+1:=by omega
 have a5:(((m:Int)+1)==0)=false:=by simp only[beq_eq_false_iff_ne];omega
 have HA:=Qa h;have HB:=Qa hB;clear h hB ho hA hm
 by_cases hob:f.obj=true
 ·rw[if_pos hob];replace cg:w.cell? ⟨g,m,none⟩=some (.int .i64 6):=by rw[cg];simp[gp,hob]
  go_enter Tryz.func173,Tryz.ntmps173;go_wp2_with fail;go_quiet (fail);obtain⟨wd,a2⟩:∃wd,w.drewN nq=wd:=⟨_,rfl⟩;have a1:Below w.heap.size w wd:=by rw[<-a2];exact av (Zd _ _) nq
  have a0:=HA.out.below a1;have d14:=aa a0.row (j:=14) (u:=.int .i64 want) rfl;have g14:=aj a0.row 14;have Hs:=Qa (a0.setWant (Zb HB.out a1.size) 6 (z:=6) rfl);have a3:=Qa a1;rw[a2];clear a2 a0 a1 c12 c14 f14 cg;go_wp2_with fail;go_end0;exact⟨rfl,(a3.out.mono HB.out).trans Hs.out.1,(Kp.of_below _ a3.out).trans Hs.out.2.1,Hs.out.2.2.s⟩
 ·rw[if_neg hob];replace cg:w.cell? ⟨g,m,none⟩=some (.int .i64 5):=by rw[cg];simp[gp,hob]
  go_enter Tryz.func173,Tryz.ntmps173;go_wp2_with fail;go_quiet (fail);obtain⟨wd,a2⟩:∃wd,w.drewN nq=wd:=⟨_,rfl⟩;have a1:Below w.heap.size w wd:=by rw[<-a2];exact av (Zd _ _) nq
  have a0:=HA.out.below a1;have d14:=aa a0.row (j:=14) (u:=.int .i64 want) rfl;have g14:=aj a0.row 14;have Hs:=Qa (a0.setWant (Zb HB.out a1.size) 5 (z:=5) rfl);have a3:=Qa a1;rw[a2];clear a2 a0 a1 c12 c14 f14 cg;go_wp2_with fail;go_end0;exact⟨rfl,(a3.out.mono HB.out).trans Hs.out.1,(Kp.of_below _ a3.out).trans Hs.out.2.1,Hs.out.2.2.s⟩
theorem Fi (x:Value)(W:World):(Instr.typeAssert (.iface 340 x) 262 340 true).run Tryz.prog W =.ok (.tuple #[x,.bool true]) W:=by kernel_rfl
theorem wV (x:Value)(W:World):(Instr.typeAssert (.iface 272 x) 262 272 true).run Tryz.prog W =.ok (.tuple #[x,.bool true]) W:=by kernel_rfl
theorem FF (x:Value)(W:World):(Instr.typeAssert (.iface 267 x) 262 267 true).run Tryz.prog W =.ok (.tuple #[x,.bool true]) W:=by kernel_rfl
theorem Dt (x:Value)(W:World):(Instr.typeAssert (.iface 269 x) 262 269 true).run Tryz.prog W =.ok (.tuple #[x,.bool true]) W:=by kernel_rfl
theorem xK (x:Value)(W:World):(Instr.typeAssert (.iface 272 x) 262 340 true).run Tryz.prog W =.ok (.tuple #[.agg #[.int .i64 0,.bool false,.string ⟨#[]⟩,.int .i64 0],.bool false]) W:=by kernel_rfl
theorem l7 (x:Value)(W:World):(Instr.typeAssert (.iface 333 x) 262 340 true).run Tryz.prog W =.ok (.tuple #[.agg #[.int .i64 0,.bool false,.string ⟨#[]⟩,.int .i64 0],.bool false]) W:=by kernel_rfl
theorem fO (x:Value)(W:World):(Instr.typeAssert (.iface 333 x) 262 272 true).run Tryz.prog W =.ok (.tuple #[.agg #[.int .i64 0,.string ⟨#[]⟩],.bool false]) W:=by kernel_rfl
theorem sK (x:Value)(W:World):(Instr.typeAssert (.iface 269 x) 262 267 true).run Tryz.prog W =.ok (.tuple #[.agg #[.int .i64 0],.bool false]) W:=by kernel_rfl
theorem mY (x:Value)(W:World):(Instr.typeAssert (.iface 272 x) 262 267 true).run Tryz.prog W =.ok (.tuple #[.agg #[.int .i64 0],.bool false]) W:=by kernel_rfl
theorem lI (x:Value)(W:World):(Instr.typeAssert (.iface 272 x) 262 269 true).run Tryz.prog W =.ok (.tuple #[.agg #[.int .i64 0,.int .u8 0],.bool false]) W:=by kernel_rfl
theorem wS (x:Value)(W:World):(Instr.typeAssert (.iface 340 x) 262 267 true).run Tryz.prog W =.ok (.tuple #[.agg #[.int .i64 0],.bool false]) W:=by kernel_rfl
theorem ua (x:Value)(W:World):(Instr.typeAssert (.iface 340 x) 262 269 true).run Tryz.prog W =.ok (.tuple #[.agg #[.int .i64 0,.int .u8 0],.bool false]) W:=by kernel_rfl
theorem xN (x:Value)(W:World):(Instr.typeAssert (.iface 340 x) 262 272 true).run Tryz.prog W =.ok (.tuple #[.agg #[.int .i64 0,.string ⟨#[]⟩],.bool false]) W:=by kernel_rfl
theorem lQ (x:Value)(W:World):(Instr.typeAssert (.iface 333 x) 262 267 true).run Tryz.prog W =.ok (.tuple #[.agg #[.int .i64 0],.bool false]) W:=by kernel_rfl
theorem kP (x:Value)(W:World):(Instr.typeAssert (.iface 333 x) 262 269 true).run Tryz.prog W =.ok (.tuple #[.agg #[.int .i64 0,.int .u8 0],.bool false]) W:=by kernel_rfl
theorem iI (x:Value)(W:World):(Instr.typeAssert (.iface 333 x) 262 342 true).run Tryz.prog W =.ok (.tuple #[.iface 333 x,.bool true]) W:=run_typeAssert_hasB Tryz.underlying342 (by kernel_rfl) x _ W
inductive sL:JV->Prop
 |null:sL jA
 |bool (b:Bool):sL (fB b)
 |num (d:Dc): -1000000000<=d.exp/\d.exp<=1000000000->sL (dT d)
theorem lA (k:Int){x:Bool}(hs:(s.toList == [110,117,108,108])=x)(w:World):Calls Tryz.prog 310 #[.agg #[.int .i64 k,.string s]] w fun e w'=>e =.returned (.int .i64 (if x then 1 else 2))/\Below w.heap.size w w':=by
 have a0:=ac w (.cells #[.int .i64 k,.string s] 333)
 cases x
 all_goals
  go_enter Tryz.func310,Tryz.ntmps310;go_wp2_with fail;go_ret;exact⟨rfl,a0⟩
theorem pi (k:Int)(w:World):Calls Tryz.prog 311 #[.agg #[.int .i64 k,.string s]] w fun e w'=>e =.returned (.int .i64 k)/\Below w.heap.size w w':=by
 have a0:=ac w (.cells #[.int .i64 k,.string s] 333);go_enter Tryz.func311,Tryz.ntmps311;go_wp2_with fail;go_ret;exact⟨rfl,a0⟩
theorem vB (k:Int)(d:Dc)(w:World):Calls Tryz.prog 174 #[.iface 340 (.agg #[.int .i64 k,.bool d.neg,.string d.digits,.int .i64 d.exp])] w fun e w'=>e =.returned (.iface 128 (.agg #[.bool d.neg,.string d.digits,.int .i64 d.exp]))/\Below w.heap.size w w':=by
 have a0:=ac w (.cells #[.int .i64 k,.bool d.neg,.string d.digits,.int .i64 d.exp] 340);have q1:=Fi;go_enter Tryz.func174,Tryz.ntmps174;go_wp2_with fail;go_ret;exact⟨rfl,a0⟩
theorem xO (k:Int)(s:ByteArray)(w:World):Calls Tryz.prog 174 #[.iface 272 (.agg #[.int .i64 k,.string s])] w fun e w'=>e =.returned (.iface 55 (.string s))/\Below w.heap.size w w':=by
 have a0:=ac w (.cells #[.int .i64 k,.string s] 272);have q1:=wV;have q2:=xK;go_enter Tryz.func174,Tryz.ntmps174;go_wp2_with fail;go_ret;exact⟨rfl,a0⟩
theorem tO (k:Int)(w:World):Calls Tryz.prog 174 #[.iface 333 (.agg #[.int .i64 k,.string ⟨#[110,117,108,108]⟩])] w fun e w'=>e =.returned (.iface 45 (.agg #[]))/\Below w.heap.size w w':=by
 have q1:=l7;have q2:=fO;have q3:=iI;have Hk:=Qa (fun w=>lA k (s:=⟨#[110,117,108,108]⟩) (x:=true) (by decide +kernel) w);go_enter Tryz.func174,Tryz.ntmps174;go_wp2_with fail;(with_reducible refine(Hk.out _).mono ?_);rintro e w1 ⟨rfl,hb⟩;have Hb:=Qa hb;clear hb;go_wp2_with fail;go_ret;exact⟨rfl,Hb.out⟩
theorem AK (d:Nat)(k:Int)(s t:ByteArray)(W:World):(Op.equalIn (d+3) 333 (.agg #[.int .i64 k,.string s]) (.agg #[.int .i64 k,.string t])).run Tryz.prog W =.ok (s.toList==t.toList) W:=by
 rw[run_equalIn_agg W (d+2) 333 _ _ (by kernel_rfl) (by kernel_rfl)];have hf:((Tryz.prog.fieldsOf 333).toList.map fun f=>(decide (f.name = "_"),f.type,f.offset)) = [(false,3,0),(false,9,1)]:=by kernel_rfl
 obtain⟨f1,f2,h1,h2,h3,h4,h5,h6,h7⟩:∃f1 f2,(Tryz.prog.fieldsOf 333).toList = [f1,f2]/\¬f1.name = "_" /\¬f2.name = "_" /\f1.type=3/\f2.type=9/\f1.offset=0/\f2.offset=1:=by
  generalize (Tryz.prog.fieldsOf 333).toList=fs at hf
  cases fs with
  |nil=>simp at hf
  |cons f1 r=>cases r with
   |nil=>simp at hf
   |cons f2 r2=>cases r2 with
    |cons f3 r3=>simp at hf
    |nil=>
     simp only[List.map_cons,List.map_nil,List.cons.injEq,Prod.mk.injEq,decide_eq_false_iff_not,and_true] at hf;exact⟨f1,f2,rfl,hf.1.1,hf.2.1,hf.1.2.1,hf.2.2.1,hf.1.2.2,hf.2.2.2⟩
 have p1:∀ (a b:Value) (w:World),(part 3 #[a,b] 0).run Tryz.prog w =.ok a w:=fun a b w=>by kernel_rfl
 have p2:∀ (a b:Value) (w:World),(part 9 #[a,b] 1).run Tryz.prog w =.ok b w:=fun a b w=>by kernel_rfl
 rw[h1];have hs:=run_equalIn_string W (d+1) 9 s t Tryz.underlying9;generalize (s.toList==t.toList)=x at hs ⊢
 cases x <;> simp[Op.eqFields,h2,h3,h4,h5,h6,h7,p1,p2,run_equalIn_int W (d+1) 3 .i64 .i64 k k Tryz.underlying3,hs]
theorem yj (k:Int)(s t:ByteArray)(W:World):(binOp .eql 342 (.iface 333 (.agg #[.int .i64 k,.string s])) (.iface 333 (.agg #[.int .i64 k,.string t]))).run Tryz.prog W =.ok (.bool (s.toList==t.toList)) W:=by
 have hc:(Tryz.prog.info? 333).map (·.comparable)=some true:=by kernel_rfl
 cases hi:Tryz.prog.info? 333 with
 |none=>rw[hi] at hc;cases hc
 |some i=>
  have hcc:i.comparable=true:=by rw[hi] at hc;simpa using hc
  have h:(Op.equalIn (9996+4) 342 (.iface 333 (.agg #[.int .i64 k,.string s])) (.iface 333 (.agg #[.int .i64 k,.string t]))).run Tryz.prog W =.ok (s.toList==t.toList) W:=by
   rw[Op.equalIn];simp only[Sem.run_bind,run_underlying Tryz.underlying342,Result.andThen_ok];simp[typeInfo,hi,hcc,AK 9996 k s t W]
  simp only[binOp];simp[Op.equal,Op.maxDepth,h]
theorem rW (k:Int)(b:Bool)(w:World):Calls Tryz.prog 174 #[.iface 333 (.agg #[.int .i64 k,.string ⟨(j8 (fB b)).toArray⟩])] w fun e w'=>e =.returned (.iface 54 (.bool b))/\Below w.heap.size w w':=by
 have q1:=l7;have q2:=fO;have q3:=iI;have hw:j8 (fB b)=if b then [116,114,117,101] else [102,97,108,115,101]:=by cases b <;> rfl
 rw[hw];clear hw
 cases b
 ·have Hk:=Qa (fun w=>lA k (s:=⟨#[102,97,108,115,101]⟩) (x:=false) (by decide +kernel) w);have Hp:=Qa (fun w=>pi k (s:=⟨#[102,97,108,115,101]⟩) w);go_enter Tryz.func174,Tryz.ntmps174;go_wp2_with fail;(with_reducible refine(Hk.out _).mono ?_);rintro e w1 ⟨rfl,hb⟩;have Hb:=Qa hb;clear hb;go_wp2_with fail;(with_reducible refine(Hp.out _).mono ?_);rintro e w2 ⟨rfl,hb⟩;have a0:=Qa (bt Hb.out hb);clear hb;have q4:∀W,(binOp .eql 342 (.iface 333 (.agg #[.int .i64 k,.string ⟨#[102,97,108,115,101]⟩])) (.iface 333 (.agg #[.int .i64 k,.string ⟨#[116,114,117,101]⟩]))).run Tryz.prog W =.ok (.bool false) W:=fun W=>by
   rw[yj];exact congrArg (fun x=>Result.ok (Value.bool x) W) (by decide +kernel)
  go_wp2_with fail;go_ret;exact⟨rfl,a0.out⟩
 ·have Hk:=Qa (fun w=>lA k (s:=⟨#[116,114,117,101]⟩) (x:=false) (by decide +kernel) w);have Hp:=Qa (fun w=>pi k (s:=⟨#[116,114,117,101]⟩) w);go_enter Tryz.func174,Tryz.ntmps174;go_wp2_with fail;(with_reducible refine(Hk.out _).mono ?_);rintro e w1 ⟨rfl,hb⟩;have Hb:=Qa hb;clear hb;go_wp2_with fail;(with_reducible refine(Hp.out _).mono ?_);rintro e w2 ⟨rfl,hb⟩;have a0:=Qa (bt Hb.out hb);clear hb;have q4:∀W,(binOp .eql 342 (.iface 333 (.agg #[.int .i64 k,.string ⟨#[116,114,117,101]⟩])) (.iface 333 (.agg #[.int .i64 k,.string ⟨#[116,114,117,101]⟩]))).run Tryz.prog W =.ok (.bool true) W:=fun W=>by
   rw[yj];exact congrArg (fun x=>Result.ok (Value.bool x) W) (by decide +kernel)
  go_wp2_with fail;go_ret;exact⟨rfl,a0.out⟩
def DV:List Fr->Nat
 | []=>7
 |f::_=>if f.obj then 6 else 5
theorem jn (frs:List Fr)(j:JV):(bX frs j).want=DV (bX frs j).frs:=by
 cases frs with
 |nil=>rfl
 |cons f fs=>
  by_cases ho:f.obj=true
  ·rw[gP ho];simp[DV,ho]
  ·rw[ff (by simpa using ho)];simp[DV,ho]
theorem jj (h:jL B w rb lb xb v xs frs want k nd fin)(hB:B<=w.heap.size)(hl:frs.length<=4294967296):Calls Tryz.prog 173 #[.pointer (some ⟨rb,0,none⟩)] w (HF B rb lb xb v xs frs (DV frs) k nd fin w):=by
 cases frs with
 |nil=>exact zo h hB
 |cons f fs=>exact xV h hB (by rw[List.length_cons] at hl;omega)
theorem jx.mono (h:jx B w b f)(hn:∀s,s∈iQ f↔s∈iQ f')(hl:f.mems.length+f.name.toList.length<=f'.mems.length+f'.name.toList.length):jx B w b f':=by
 obtain⟨h1,l,n,h2,h3,h4⟩:=h;exact⟨h1,l,n,h2,by omega,fun s=>(h4 s).trans (hn s)⟩
theorem jL.put (h:jL B w rb lb xb v xs frs want k nd fin)(hw:∀f fs,frs=f::fs->bY f=false)(j:JV):jL B w rb lb xb v xs (bX frs j).frs want k nd fin:=by
 cases frs with
 |nil=>exact h
 |cons f fs=>
  obtain⟨by_,dp,ex,ov,nv,maps,h1,h2,h3,h4,h5,h6,h7,h8,h9,a0⟩:=h;have hf:=hw f fs rfl
  by_cases ho:f.obj=true
  ·rw[gP ho];have hs:∃s,f.name=some s:=by
    simp only[bY,ho,Bool.true_and] at hf
    cases hn:f.name with
    |none=>rw[hn] at hf;cases hf
    |some s=>exact⟨s,rfl⟩
   obtain⟨s,hs⟩:=hs;refine⟨by_,dp,ex,ov,nv,maps,h1,h2,h3,h4,h5,?_,h7,?_,h9,a0⟩
   ·simpa [gp] using h6
   ·simp only[List.filter_cons,ho,if_true] at h8 ⊢
    cases maps with
    |nil=>have:=h8.1;simp at this
    |cons b maps=>
     refine⟨by simpa using h8.1,fun i x y q1 q2=>?_⟩
     cases i with
     |zero=>
      simp at q1 q2;subst q1 q2;refine(h8.2 0 b f rfl rfl).mono (fun t=>?_) (by simp[hs]);simp only[iQ,hs,Option.toList_some,Option.toList_none,Option.getD_some,List.map_append,List.map_cons,List.map_nil,List.mem_append,List.mem_singleton,List.nil_append];exact Or.comm
     |succ i=>exact h8.2 (i+1) x y (by simpa using q1) (by simpa using q2)
  ·rw[ff (by simpa using ho)];refine⟨by_,dp,ex,ov,nv,maps,h1,h2,h3,h4,h5,?_,h7,?_,h9,a0⟩
   ·simpa [gp] using h6
   ·have e:∀g:Fr,g.obj=f.obj->List.filter (·.obj) (g::fs)=List.filter (·.obj) (f::fs):=fun g hg=>by
     have hb:f.obj=false:=by simpa using ho
     rw[List.filter_cons,List.filter_cons,hg,hb];simp
    show br (jx B w) maps (List.filter (·.obj) ({f with items:=f.items ++ [j]}::fs))
    rw[e {f with items:=f.items ++ [j]} rfl];exact h8
theorem kg (frs:List Fr)(j:JV):(bX frs j).frs.length=frs.length:=by
 cases frs with
 |nil=>rfl
 |cons f fs=>
  by_cases ho:f.obj=true
  ·rw[gP ho];rfl
  ·rw[ff (by simpa using ho)];rfl
def PS (B rb lb xb:Nat)(v:Value)(xs:List UInt8)(c:de)(k nd:Nat)(fin:Bool)(w:World):Prop:=jL B w rb lb xb v xs c.frs c.want k nd fin/\∃bs,fd B w xb c.frs c.done bs
def TA (e:TypeId):Prop:=TB e\/lG e
structure cK (B:Nat) (w w':World):Prop where
 b:Below B w w'
 k:aG TA w w'
theorem aG.imp (h:aG T w w')(hT:∀e,T e->U e):aG U w w':=⟨h.1,fun g cs e z hg he=>h.2 g cs e z hg (fun ht=>he (hT e ht))⟩
theorem cK.trans {a b c:World}(h:cK B a b)(k:cK B b c):cK B a c:=⟨h.b.trans k.b,h.k.trans k.k⟩
theorem cK.new (hb:Below w.heap.size w w')(hB:B<=w.heap.size):cK B w w':=⟨hb.mono hB,aG.of_below TA hb⟩
theorem cK.rd (hb:Below B w w')(hk:Kp lG w w'):cK B w w':=⟨hb,hk.keeps.imp fun _ h=>.inr h⟩
theorem cK.tb (hb:Below B w w')(hk:Kp TB w w'):cK B w w':=⟨hb,hk.keeps.imp fun _ h=>.inl h⟩
def Ge (B rb lb xb:Nat)(v:Value)(xs:List UInt8)(c:de)(k nd:Nat)(fin:Bool)(w:World)(e:Ending)(w':World):Prop:=e =.returned (.tuple #[])/\cK B w w'/\PS B rb lb xb v xs c k nd fin w'
theorem kc {t:Value}{tt:TypeId}{tx:Value}(hw:want=0\/want=1)(hR:jL B w rb lb xb v xs frs want k nd false)(c6:fd B w xb frs none bs)(hT:kG frs)(hl:frs.length<=1000000000)(hn:nd<=1000000000)(hB:B<=w.heap.size)
  (c0:∀w,Calls Tryz.prog 174 #[t] w fun e w'=>e =.returned u/\Below w.heap.size w w') (b9:∀ (P:Nat->Prop) w,VW P w u j) (hu:u =.iface tt tx) (a3:∀W,(Instr.typeAssert (.iface tt tx) 120 128 true).run Tryz.prog W =.ok (.tuple #[.agg #[.bool false,.string ⟨#[]⟩,.int .i64 0],.bool false]) W):Calls Tryz.prog 136 #[.pointer (some ⟨rb,0,none⟩),t] w (Ge B rb lb xb v xs (bX frs j) k (nd+1) false w):=by
 have b0:=hR;obtain⟨by_,dp,ex,ov,nv,maps,hA⟩:=b0;have c14:=aa hA.row (j:=14) (u:=.int .i64 (want:Nat)) rfl;have c1:=Qa (fV hR hl hn hB);have c8:=Qa c6;have HT:=Qa hT;have Hl:=Qa hl;have HB:=Qa hB;have c7:=Qa c0;have c9:=Qa b9;subst hu;clear hR c6 hT hl hB c0 b9 hA;rcases hw with hw|hw
 all_goals
  rw[hw] at c14;simp only[Int.cast_ofNat_Int] at c14;clear hw;go_enter Tryz.func136,Tryz.ntmps136;go_wp2_with fail;(with_reducible refine c1.out.mono ?_);rintro e w1 ⟨rfl,b7,b2,c2⟩;have a2:=c8.out.kp b2 bO;have R1:=Qa (And.intro (cK.rd b7 b2) (And.intro c2 a2));clear b7 b2 c2 a2 c14 c1;go_wp2_with fail;(with_reducible refine(c7.out _).mono ?_);rintro e w2 ⟨rfl,a6⟩;obtain⟨r1,r2,r3⟩:=R1.out;have b4:B<=w1.heap.size:=Zb HB.out r1.b.size;have R2:=Qa (And.intro (r1.trans (cK.new a6 b4)) (And.intro (r2.below a6) (r3.below a6)));clear a6 r1 r2 r3 b4 R1;go_wp2_with fail;obtain⟨w3,b1⟩:∃w3,w2.alloc (.cells #[.bool false,.string ⟨#[]⟩,.int .i64 0] 128)=w3:=⟨_,rfl⟩;have R3:=Qa (show cK B w w3/\jL B w3 rb lb xb v xs frs want k (nd+1) false/\fd B w3 xb frs none bs by
   have a4:=ac w2 (.cells #[.bool false,.string ⟨#[]⟩,.int .i64 0] 128);rw[b1] at a4;obtain⟨r1,r2,r3⟩:=R2.out;exact⟨r1.trans (cK.new a4 (Zb HB.out r1.b.size)),r2.below a4,r3.below a4⟩)
  rw[b1];clear b1 R2 a3;obtain⟨x1,x2,x3⟩:=R3.out;have b3:B<=w3.heap.size:=Zb HB.out x1.b.size;obtain⟨wr,a7⟩:∃wr,w3.drew=wr:=⟨_,rfl⟩;have a1:Below w3.heap.size w3 wr:=by rw[<-a7];exact(Zd _ _).drew
  have a9:=x2.below a1;have c5:=x3.below a1;have c3:=Qa (dQ a9 (by have:=Hl.out;omega));have b8:=Qa (pL (lv:=(frs.length:Int)+1) (by omega) c5 HT.out (c9.out (Pb B bs) wr) (Zb b3 a1.size));obtain⟨by2,dp2,ex2,ov2,nv2,maps2,b5⟩:=id a9;have C11:=Qa (aa b5.row (j:=11) (u:=.func (.func 73) #[.pointer (some ⟨xb,0,none⟩)] #[]) rfl);have a5:=Qa (And.intro (x1.trans (cK.new a1 b3)) a9);clear a1 a9 c5 b5 x1 x2 x3 b3 R3;refine cP (fun w2=>w2.cell? ⟨rb,11,none⟩=some (.func (.func 73) #[.pointer (some ⟨xb,0,none⟩)] #[])) 9 ((by rw[a7];exact C11.out)) fun a0=>?_
  rw[a7] at a0 ⊢;clear a7;refine tR 0 a0 ?_;refine tR 1 a0 ?_;refine tR 2 a0 ?_;refine tR 3 a0 ?_;refine tR 4 a0 ?_;refine tR 6 a0 ?_
  try simp only[Act.put,jP,jQ,jR]
  refine rZ 5 fun K hK=>?_
  go_simp;(with_reducible refine c3.out.mono ?_);rintro e w' ⟨rfl,rfl⟩;go_wp2_with fail;refine hK.out _ _ (fun _=>a0) (fun a0=>?_);clear hK K;have a0:=a0 (by decide)
  try simp only[Act.put,jP,jQ,jR]
  refine tR 7 a0 ?_;refine tR 8 a0 ?_
  try simp only[Act.put,jP,jQ,jR]
  refine rZ 9 fun K hK=>?_
  go_simp;(with_reducible refine b8.out.mono ?_);rintro e w4 ⟨rfl,h1,h2,h3⟩;have R:=Qa (And.intro h1 (And.intro h2 h3));clear h1 h2 h3;go_wp2_with fail;refine hK.out _ _ (fun h=>absurd rfl h) (fun _=>?_);clear hK K
  try simp only[Act.put,jP,jQ,jR]
  refine aV (by kernel_rfl) (NoPanic.normal ?_) _;obtain⟨y1,y2,bs2,y3⟩:=R.out;have c4:=(a5.out.2.tb y2).put (fun f fs e=>(HT.out.2 f fs e).1) j;have b6:B<=w4.heap.size:=Zb (Zb HB.out a5.out.1.b.size) y1.size;have d0:=Qa (jj c4 b6 (by rw[kg];have:=Hl.out;omega));have R4:=Qa (And.intro (a5.out.1.trans (cK.tb y1 y2)) y3);clear y1 y2 y3 c4 b6 R a5 c3 b8 C11;go_wp2_with fail;(with_reducible refine d0.out.mono ?_);rintro e w5 ⟨rfl,h1,h2,h3⟩;have R5:=Qa (And.intro h1 (And.intro h2 h3));clear h1 h2 h3;go_wp2_with fail;go_end0;refine⟨rfl,R4.out.1.trans (cK.rd R5.out.1 R5.out.2.1),?_,bs2,R4.out.2.kp R5.out.2.1 bO⟩;rw[jn];exact R5.out.2.2
theorem BW {t:Value}(hw:want=0\/want=1)(hR:jL B w rb lb xb v xs frs want k nd false)(c9:fd B w xb frs none bs)(hT:kG frs)(hl:frs.length<=1000000000)(hn:nd<=1000000000)(hB:B<=w.heap.size)
  (c3:∀w,Calls Tryz.prog 174 #[t] w fun e w'=>e =.returned u/\Below w.heap.size w w') (c1:∀ (P:Nat->Prop) w,VW P w u j) (d:Dc) (hu:u =.iface 128 (.agg #[.bool d.neg,.string d.digits,.int .i64 d.exp])) (hd: -1000000000<=d.exp/\d.exp<=1000000000):Calls Tryz.prog 136 #[.pointer (some ⟨rb,0,none⟩),t] w (Ge B rb lb xb v xs (bX frs j) k (nd+1) false w):=by
 have b2:=hR;obtain⟨by_,dp,ex,ov,nv,maps,hA⟩:=b2;have c14:=aa hA.row (j:=14) (u:=.int .i64 (want:Nat)) rfl;have c4:=Qa (fV hR hl hn hB);have d2:=Qa c9;have HT:=Qa hT;have Hl:=Qa hl;have HB:=Qa hB;have d1:=Qa c3;have d3:=Qa c1;subst hu;have d0:∀W,(Instr.typeAssert (.iface 128 (.agg #[.bool d.neg,.string d.digits,.int .i64 d.exp])) 120 128 true).run Tryz.prog W =.ok (.tuple #[.agg #[.bool d.neg,.string d.digits,.int .i64 d.exp],.bool true]) W:=fun W=>by kernel_rfl
 have sneg:IntKind.i64.wrap (-d.exp) = -d.exp:=IntWalk.i64_in _ (by omega);have Hd:=Qa hd;clear hR c9 hT hl hB c3 c1 hA hd;rcases hw with hw|hw
 all_goals
  rw[hw] at c14;simp only[Int.cast_ofNat_Int] at c14;clear hw;go_enter Tryz.func136,Tryz.ntmps136;go_wp2_with fail;(with_reducible refine c4.out.mono ?_);rintro e w1 ⟨rfl,b9,b4,c5⟩;have a4:=d2.out.kp b4 bO;have R1:=Qa (And.intro (cK.rd b9 b4) (And.intro c5 a4));clear b9 b4 c5 a4 c14 c4;go_wp2_with fail;(with_reducible refine(d1.out _).mono ?_);rintro e w2 ⟨rfl,a9⟩;obtain⟨r1,r2,r3⟩:=R1.out;have b6:B<=w1.heap.size:=Zb HB.out r1.b.size;have R2:=Qa (And.intro (r1.trans (cK.new a9 b6)) (And.intro (r2.below a9) (r3.below a9)));clear a9 r1 r2 r3 b6 R1;have c2:=Qa (qU (R2.out.2.1.below (ac w2 (.cells #[.bool d.neg,.string d.digits,.int .i64 d.exp] 128))) (m:=5) (x:=max d.exp (-d.exp)) (by omega) (by have:=Hd.out;omega));go_wp2_with fail
  try rw[sneg]
  (with_reducible refine c2.out.mono ?_);rintro e w3 ⟨rfl,a1⟩;have a1:=bt (ac w2 (.cells #[.bool d.neg,.string d.digits,.int .i64 d.exp] 128)) a1;obtain⟨r1,r2,r3⟩:=R2.out;have b3:B<=w2.heap.size:=Zb HB.out r1.b.size;obtain⟨by9,dp9,ex9,ov9,nv9,maps9,a7⟩:=r2.below a1;have c10:=aa a7.row (j:=10) (u:=.int .i64 ex9) rfl;have f10:=aj a7.row 10;have a2:=Qa (a7.setExpo (Zb b3 a1.size) (max ex9 (max d.exp (-d.exp))));have R2b:=Qa (And.intro (r1.trans (cK.new a1 b3)) (r3.below a1));clear a1 r1 r2 r3 b3 a7 R2 c2;go_wp2_with fail;obtain⟨w3b,a5⟩:∃w3b,w3.setCell ⟨rb,10,none⟩ (.int .i64 (max ex9 (max d.exp (-d.exp))))=w3b:=⟨_,rfl⟩;rw[a5] at a2 ⊢;have R3:=Qa (show cK B w w3b/\jL B w3b rb lb xb v xs frs want k (nd+1) false/\fd B w3b xb frs none bs from⟨R2b.out.1.trans (cK.rd a2.out.1 a2.out.2.1),a2.out.2.2.s,R2b.out.2.kp a2.out.2.1 bO⟩);clear a5 c10 f10 a2 R2b;obtain⟨w3,rfl⟩:∃w3,w3=w3b:=⟨_,rfl⟩;obtain⟨x1,x2,x3⟩:=R3.out;have b5:B<=w3.heap.size:=Zb HB.out x1.b.size;obtain⟨wr,b0⟩:∃wr,w3.drew=wr:=⟨_,rfl⟩;have a3:Below w3.heap.size w3 wr:=by rw[<-b0];exact(Zd _ _).drew
  have b1:=x2.below a3;have c8:=x3.below a3;have c6:=Qa (dQ b1 (by have:=Hl.out;omega));have c0:=Qa (pL (lv:=(frs.length:Int)+1) (by omega) c8 HT.out (d3.out (Pb B bs) wr) (Zb b5 a3.size));obtain⟨by2,dp2,ex2,ov2,nv2,maps2,b7⟩:=id b1;have C11:=Qa (aa b7.row (j:=11) (u:=.func (.func 73) #[.pointer (some ⟨xb,0,none⟩)] #[]) rfl);have a6:=Qa (And.intro (x1.trans (cK.new a3 b5)) b1);clear a3 b1 c8 b7 x1 x2 x3 b5 R3;refine cP (fun w2=>w2.cell? ⟨rb,11,none⟩=some (.func (.func 73) #[.pointer (some ⟨xb,0,none⟩)] #[])) 9 ((by rw[b0];exact C11.out)) fun a0=>?_
  rw[b0] at a0 ⊢;clear b0;refine tR 0 a0 ?_;refine tR 1 a0 ?_;refine tR 2 a0 ?_;refine tR 3 a0 ?_;refine tR 4 a0 ?_;refine tR 6 a0 ?_
  try simp only[Act.put,jP,jQ,jR]
  refine rZ 5 fun K hK=>?_
  go_simp;(with_reducible refine c6.out.mono ?_);rintro e w' ⟨rfl,rfl⟩;go_wp2_with fail;refine hK.out _ _ (fun _=>a0) (fun a0=>?_);clear hK K;have a0:=a0 (by decide)
  try simp only[Act.put,jP,jQ,jR]
  refine tR 7 a0 ?_;refine tR 8 a0 ?_
  try simp only[Act.put,jP,jQ,jR]
  refine rZ 9 fun K hK=>?_
  go_simp;(with_reducible refine c0.out.mono ?_);rintro e w4 ⟨rfl,h1,h2,h3⟩;have R:=Qa (And.intro h1 (And.intro h2 h3));clear h1 h2 h3;go_wp2_with fail;refine hK.out _ _ (fun h=>absurd rfl h) (fun _=>?_);clear hK K
  try simp only[Act.put,jP,jQ,jR]
  refine aV (by kernel_rfl) (NoPanic.normal ?_) _;obtain⟨y1,y2,bs2,y3⟩:=R.out;have c7:=(a6.out.2.tb y2).put (fun f fs e=>(HT.out.2 f fs e).1) j;have b8:B<=w4.heap.size:=Zb (Zb HB.out a6.out.1.b.size) y1.size;have d4:=Qa (jj c7 b8 (by rw[kg];have:=Hl.out;omega));have R4:=Qa (And.intro (a6.out.1.trans (cK.tb y1 y2)) y3);clear y1 y2 y3 c7 b8 R a6 c6 c0 C11;go_wp2_with fail;(with_reducible refine d4.out.mono ?_);rintro e w5 ⟨rfl,h1,h2,h3⟩;have R5:=Qa (And.intro h1 (And.intro h2 h3));clear h1 h2 h3;go_wp2_with fail;go_end0;refine⟨rfl,R4.out.1.trans (cK.rd R5.out.1 R5.out.2.1),?_,bs2,R4.out.2.kp R5.out.2.1 bO⟩;rw[jn];exact R5.out.2.2
