import Derived.Test.YtpkdfmjdhmpopaaGreatDoorGZ3bh
import Derived.Handy
import Derived.Stop.Asserts
set_option linter.unusedVariables false
set_option linter.unusedSimpArgs false
set_option maxHeartbeats 64000000
set_option maxRecDepth 100000
namespace Go.Proofs.YtpkdfmjdhmpopaaGreatDoor
open Go.RowKit
variable {fin : Bool} {s : ByteArray} {f : Fr} {frs fs : List Fr} {xs : List UInt8} {B k lb nd rb want xb : Nat} {v : Value} {w : World}
section
variable {B rb lb xb want k nd : Nat} {w w' : World} {v : Value} {xs : List UInt8} {frs : List Fr} {fin : Bool} {by_ dp ex : Int} {ov nv : Value} {maps : List Nat}
theorem iz.setWant (h:iz B w rb lb xb v xs frs want k nd fin by_ dp ex ov nv maps)(hB:B<=w.heap.size)(n:Nat){z:Int}(hz:z=n):Below B w (w.setCell ⟨rb,14,none⟩ (.int .i64 z))/\Kp lZ w (w.setCell ⟨rb,14,none⟩ (.int .i64 z))/\iz B (w.setCell ⟨rb,14,none⟩ (.int .i64 z)) rb lb xb v xs frs n k nd fin by_ dp ex ov nv maps:=by
 subst hz;obtain⟨h1,h2,h3,h4⟩:=h.setR hB 14 (.int .i64 n);obtain⟨q1,q2,q3,q4,q5⟩:=h4 _ h3;exact⟨h1,h2,h3,h.low,q1,h.llow,q2,q3,q4,q5,h.nodup,h.le⟩
theorem iz.setNodes (h:iz B w rb lb xb v xs frs want k nd fin by_ dp ex ov nv maps)(hB:B<=w.heap.size)(n:Nat){z:Int}(hz:z=n):Below B w (w.setCell ⟨rb,9,none⟩ (.int .i64 z))/\Kp lZ w (w.setCell ⟨rb,9,none⟩ (.int .i64 z))/\iz B (w.setCell ⟨rb,9,none⟩ (.int .i64 z)) rb lb xb v xs frs want k n fin by_ dp ex ov nv maps:=by
 subst hz;obtain⟨h1,h2,h3,h4⟩:=h.setR hB 9 (.int .i64 n);obtain⟨q1,q2,q3,q4,q5⟩:=h4 _ h3;exact⟨h1,h2,h3,h.low,q1,h.llow,q2,q3,q4,q5,h.nodup,h.le⟩
theorem iz.setDepth (h:iz B w rb lb xb v xs frs want k nd fin by_ dp ex ov nv maps)(hB:B<=w.heap.size)(z:Int):Below B w (w.setCell ⟨rb,8,none⟩ (.int .i64 z))/\Kp lZ w (w.setCell ⟨rb,8,none⟩ (.int .i64 z))/\iz B (w.setCell ⟨rb,8,none⟩ (.int .i64 z)) rb lb xb v xs frs want k nd fin by_ z ex ov nv maps:=by
 obtain⟨h1,h2,h3,h4⟩:=h.setR hB 8 (.int .i64 z);obtain⟨q1,q2,q3,q4,q5⟩:=h4 _ h3;exact⟨h1,h2,h3,h.low,q1,h.llow,q2,q3,q4,q5,h.nodup,h.le⟩
theorem iz.setExpo (h:iz B w rb lb xb v xs frs want k nd fin by_ dp ex ov nv maps)(hB:B<=w.heap.size)(z:Int):Below B w (w.setCell ⟨rb,10,none⟩ (.int .i64 z))/\Kp lZ w (w.setCell ⟨rb,10,none⟩ (.int .i64 z))/\iz B (w.setCell ⟨rb,10,none⟩ (.int .i64 z)) rb lb xb v xs frs want k nd fin by_ dp z ov nv maps:=by
 obtain⟨h1,h2,h3,h4⟩:=h.setR hB 10 (.int .i64 z);obtain⟨q1,q2,q3,q4,q5⟩:=h4 _ h3;exact⟨h1,h2,h3,h.low,q1,h.llow,q2,q3,q4,q5,h.nodup,h.le⟩
theorem iz.setDone (h:iz B w rb lb xb v xs frs want k nd fin by_ dp ex ov nv maps)(hB:B<=w.heap.size)(b:Bool):Below B w (w.setCell ⟨rb,15,none⟩ (.bool b))/\Kp lZ w (w.setCell ⟨rb,15,none⟩ (.bool b))/\iz B (w.setCell ⟨rb,15,none⟩ (.bool b)) rb lb xb v xs frs want k nd b by_ dp ex ov nv maps:=by
 obtain⟨h1,h2,h3,h4⟩:=h.setR hB 15 (.bool b);obtain⟨q1,q2,q3,q4,q5⟩:=h4 _ h3;exact⟨h1,h2,h3,h.low,q1,h.llow,q2,q3,q4,q5,h.nodup,h.le⟩
end
theorem cZ (h:iC B w rb lb xb v xs frs want k nd fin)(hl:frs.length<=4294967296):Calls Tryz.prog 147 #[.pointer (some ⟨rb,0,none⟩)] w fun e w'=>e = .returned (.int .i64 ((frs.length:Int)+1))/\w=w':=by
 obtain⟨by_,dp,ex,ov,nv,maps,h⟩:=h;obtain⟨A,q,rfl, -⟩:=ag h.opens;have c12:=aa h.row (j:=12) (u:= .slice A frs.length q) rfl;have s1:IntKind.i64.wrap ((frs.length:Int)+1)= (frs.length:Int)+1:=IntWalk.i64_in _ (by omega);clear h;go_enter Tryz.func147,Tryz.ntmps147;go_wp2_with fail;go_ret;exact⟨rfl,rfl⟩
theorem my (h:iC B w rb lb xb v xs frs want k nd fin){m x:Int}(hm:m=1\/m=2\/m=3\/m=5)(hx:x<=1073741824):Calls Tryz.prog 150 #[.pointer (some ⟨rb,0,none⟩), .int .i64 m, .int .i64 x] w fun e w'=>e = .returned (.tuple #[])/\Below w.heap.size w w':=by
 obtain⟨by_,dp,ex,ov,nv,maps,h⟩:=h;have c1:=aa h.row (j:=1) (u:= .int .i64 1073741824) rfl;have c2:=aa h.row (j:=2) (u:= .int .i64 1073741824) rfl;have c3:=aa h.row (j:=3) (u:= .int .i64 1073741824) rfl;have c4:=aa h.row (j:=4) (u:= .int .i64 1073741824) rfl;have c5:=aa h.row (j:=5) (u:= .int .i64 1073741824) rfl;have c6:=aa h.row (j:=6) (u:= .int .i64 4611686018427387903) rfl;have H:=Qa (fun w=>sI hm hx w);unfold ea at H;clear h hm hx;go_enter Tryz.func150,Tryz.ntmps150;go_wp2_with fail;(with_reducible refine(H.out _).mono ?_);rintro e w1 ⟨rfl,hb⟩;have Hb:=Qa hb;clear hb c1 c2 c3 c4 c5 c6;go_wp2_with fail;go_end0;exact⟨rfl,Hb.out⟩
def GR (B rb lb xb:Nat)(v:Value)(xs:List UInt8)(frs:List Fr)(want k nd:Nat)(fin:Bool)(w:World)(e:Ending)(w':World):Prop:=e = .returned (.tuple #[])/\Below B w w'/\Kp lZ w w'/\iC B w' rb lb xb v xs frs want k nd fin
theorem dX (h:iC B w rb lb xb v xs frs want k nd fin)(hl:frs.length<=1000000000)(hn:nd<=1000000000)(hB:B<=w.heap.size):Calls Tryz.prog 146 #[.pointer (some ⟨rb,0,none⟩)] w (GR B rb lb xb v xs frs want k (nd+1) fin w):=by
 have b6:=Qa (fun (w:World) (h:iC B w rb lb xb v xs frs want k (nd+1) fin)=>cZ h (by omega));have b1:=Qa (cZ h (by omega));have b4:=Qa (my h (m:=2) (x:=(frs.length:Int)+1) (by omega) (by omega));have H:=Qa h;have HB:=Qa hB;have Hl:=Qa hl;have s1:IntKind.i64.wrap ((nd:Int)+1)= (nd:Int)+1:=IntWalk.i64_in _ (by omega);clear h hB hl;go_enter Tryz.func146,Tryz.ntmps146;go_wp2_with fail;(with_reducible refine b1.out.mono ?_);rintro e w' ⟨rfl,rfl⟩;go_wp2_with fail;(with_reducible refine b4.out.mono ?_);rintro e w1 ⟨rfl,a9⟩;have H1:=H.out.below a9;have b2:=Qa (my H1 (m:=3) (x:=(nd:Int)+1) (by omega) (by omega));obtain⟨by_,dp,ex,ov,nv,maps,hA⟩:=id H1;have c9:=aa hA.row (j:=9) (u:= .int .i64 nd) rfl;have H1:=Qa H1;have HA:=Qa hA;have b3:=Qa a9;clear hA a9 b4 b1;go_wp2_with fail;(with_reducible refine b2.out.mono ?_);rintro e w2 ⟨rfl,a2⟩;have a4:=HA.out.below a2;have a5:B<=w2.heap.size:=by have:=HB.out;have:=b3.out.size;have:=a2.size;omega
 have a1:=Qa (a4.setNodes a5 (nd+1) (z:=(nd:Int)+1) (by omega));have d9:=aa a4.row (j:=9) (u:= .int .i64 nd) rfl;have f9:=aj a4.row 9;have a6:=Qa (bo b3.out a2);clear a4 a2 b2 c9 a5;go_wp2_with fail;generalize w2.setCell ⟨rb,9,none⟩ (.int .i64 ((nd:Int)+1))=w3 at *;clear d9 f9;obtain⟨wr,a3⟩:∃wr,w3.drew=wr:=⟨_,rfl⟩;have b0:Below w3.heap.size w3 wr:=by rw [<- a3];exact(Zd _ _).drew
 have HR:=Qa (a1.out.2.2.below b0);have c8:=aa HR.out.row (j:=8) (u:= .int .i64 dp) rfl;have f8:=aj HR.out.row 8;have C8:=Qa c8;have a7:=Qa b0;clear b0;refine cJ (fun w2=>w2.cell? ⟨rb,8,none⟩=some (.int .i64 dp)) 12 ((by rw [a3];exact C8.out)) fun a0=> ?_
 rw [a3] at a0 ⊢;clear a3;refine tZ 0 a0 ?_;refine tZ 1 a0 ?_;refine tZ 2 a0 ?_;refine tZ 3 a0 ?_;refine tZ 4 a0 ?_;refine tZ 5 a0 ?_
 try simp only [Act.put,jP,jQ,jR]
 refine tZ 6 a0 ?_
 try simp only [Act.put,jP,jQ,jR]
 refine rZ 7 fun K hK=> ?_
 go_simp;(with_reducible refine(b6.out _ HR.out.s).mono ?_);rintro e w' ⟨rfl,rfl⟩;go_wp2_with fail;refine hK.out _ _ (fun _=>a0) (fun a0=> ?_);clear hK K;have a0:=a0 (by decide)
 try simp only [Act.put,jP,jQ,jR]
 refine tZ 8 a0 ?_
 try simp only [Act.put,jP,jQ,jR]
 refine rZ 9 fun K hK=> ?_
 go_simp;refine hK.out _ _ (fun _=>a0) (fun a0=> ?_);clear hK K;have a0:=a0 (by decide)
 try simp only [Act.put,jP,jQ,jR]
 refine rZ 10 fun K hK=> ?_
 go_simp;refine hK.out _ _ (fun _=>a0) (fun a0=> ?_);clear hK K;have a0:=a0 (by decide)
 try simp only [Act.put,jP,jQ,jR]
 refine tZ 11 a0 ?_
 try simp only [Act.put,jP,jQ,jR]
 refine rZ 12 fun K hK=> ?_
 go_simp;refine hK.out _ _ (fun h=>absurd rfl h) (fun _=> ?_);clear hK K
 try simp only [Act.put,jP,jQ,jR]
 refine a8 (by kernel_rfl) (NoPanic.normal ?_) _;go_end0;obtain⟨r1,r2,r3⟩:=a1.out;have a5:B<=w2.heap.size:=by have:=HB.out;have:=a6.out.size;omega
 have b5:B<=wr.heap.size:=by have:=r2.1;have:=a7.out.size;omega
 obtain⟨q1,q2,q3⟩:=HR.out.setDepth b5 (max dp ((frs.length:Int)+1));exact⟨rfl,((a6.out.mono HB.out).trans r1).trans ((a7.out.mono (Zb a5 r2.1)).trans q1),((Kp.of_below _ a6.out).trans r2).trans ((Kp.of_below _ a7.out).trans q2),q3.s⟩
theorem zx (h:iC B w rb lb xb v xs [] want k nd fin)(hB:B<=w.heap.size):Calls Tryz.prog 148 #[.pointer (some ⟨rb,0,none⟩)] w fun e w'=>GR B rb lb xb v xs [] 7 k nd fin w e w':=by
 obtain⟨by_,dp,ex,ov,nv,maps,h⟩:=h;obtain⟨A,q,rfl, -⟩:=ag h.opens;have c12:=aa h.row (j:=12) (u:= .slice A 0 q) rfl;have c14:=aa h.row (j:=14) (u:= .int .i64 want) rfl;have f14:=aj h.row 14;have Hs:=Qa (h.setWant hB 7 (z:=7) rfl);clear h hB;go_enter Tryz.func148,Tryz.ntmps148;go_wp2_with fail;go_end0;exact⟨rfl,Hs.out.1,Hs.out.2.1,Hs.out.2.2.s⟩
theorem wX (h:iC B w rb lb xb v xs (f::fs) want k nd fin)(hB:B<=w.heap.size)(hl:fs.length<=4294967296):Calls Tryz.prog 148 #[.pointer (some ⟨rb,0,none⟩)] w fun e w'=>GR B rb lb xb v xs (f::fs) (if f.obj then 6 else 5) k nd fin w e w':=by
 obtain⟨by_,dp,ex,ov,nv,maps,h⟩:=h;obtain⟨m,hm⟩:∃m,fs.length=m:=⟨_,rfl⟩;have ho:=h.opens;rw [List.length_cons,hm] at ho;obtain⟨A,q,rfl, -, -,hA⟩:=ag ho;obtain⟨g,rfl⟩:=hA (by omega);have cg:=World.ownsRow.cellAt ho m (by omega);rw [List.reverse_cons,List.map_append,List.getElem?_append_right (by simp;omega),List.length_map,List.length_reverse,hm,Nat.sub_self] at cg;have c12:=aa h.row (j:=12) (u:= .slice (some ⟨g,0,none⟩) (m+1) q) rfl;have c14:=aa h.row (j:=14) (u:= .int .i64 want) rfl;have f14:=aj h.row 14;have s1:IntKind.i64.wrap (m:Int)= (m:Int):=IntWalk.i64_in _ (by omega);have a5: (m:Int)< (m:Int)+1:=by omega
 have a4: (((m:Int)+1)==0)=false:=by simp only [beq_eq_false_iff_ne];omega
 have HA:=Qa h;have HB:=Qa hB;clear h hB ho hA hm
 by_cases hob:f.obj=true
 ·rw [if_pos hob]
  replace cg:w.cell? ⟨g,m,none⟩=some (.int .i64 6):=by rw [cg];simp [fE,hob]
  go_enter Tryz.func148,Tryz.ntmps148;go_wp2_with fail;go_quiet (fail);obtain⟨wd,a2⟩:∃wd,w.drewN nq=wd:=⟨_,rfl⟩;have a0:Below w.heap.size w wd:=by rw [<- a2];exact aD (Zd _ _) nq
  have a1:=HA.out.below a0;have d14:=aa a1.row (j:=14) (u:= .int .i64 want) rfl;have g14:=aj a1.row 14;have Hs:=Qa (a1.setWant (Zb HB.out a0.size) 6 (z:=6) rfl);have a3:=Qa a0;rw [a2];clear a2 a1 a0 c12 c14 f14 cg;go_wp2_with fail;go_end0;exact⟨rfl,(a3.out.mono HB.out).trans Hs.out.1,(Kp.of_below _ a3.out).trans Hs.out.2.1,Hs.out.2.2.s⟩
 ·rw [if_neg hob]
  replace cg:w.cell? ⟨g,m,none⟩=some (.int .i64 5):=by rw [cg];simp [fE,hob]
  go_enter Tryz.func148,Tryz.ntmps148;go_wp2_with fail;go_quiet (fail);obtain⟨wd,a2⟩:∃wd,w.drewN nq=wd:=⟨_,rfl⟩;have a0:Below w.heap.size w wd:=by rw [<- a2];exact aD (Zd _ _) nq
  have a1:=HA.out.below a0;have d14:=aa a1.row (j:=14) (u:= .int .i64 want) rfl;have g14:=aj a1.row 14;have Hs:=Qa (a1.setWant (Zb HB.out a0.size) 5 (z:=5) rfl);have a3:=Qa a0;rw [a2];clear a2 a1 a0 c12 c14 f14 cg;go_wp2_with fail;go_end0;exact⟨rfl,(a3.out.mono HB.out).trans Hs.out.1,(Kp.of_below _ a3.out).trans Hs.out.2.1,Hs.out.2.2.s⟩
theorem FC (x:Value)(W:World): (Instr.typeAssert (.iface 325 x) 229 325 true).run Tryz.prog W = .ok (.tuple #[x, .bool true]) W:=by kernel_rfl
theorem vB (x:Value)(W:World): (Instr.typeAssert (.iface 242 x) 229 242 true).run Tryz.prog W = .ok (.tuple #[x, .bool true]) W:=by kernel_rfl
theorem F0 (x:Value)(W:World): (Instr.typeAssert (.iface 234 x) 229 234 true).run Tryz.prog W = .ok (.tuple #[x, .bool true]) W:=by kernel_rfl
theorem CX (x:Value)(W:World): (Instr.typeAssert (.iface 239 x) 229 239 true).run Tryz.prog W = .ok (.tuple #[x, .bool true]) W:=by kernel_rfl
theorem vQ (x:Value)(W:World): (Instr.typeAssert (.iface 242 x) 229 325 true).run Tryz.prog W = .ok (.tuple #[.agg #[.int .i64 0, .bool false, .string ⟨#[]⟩, .int .i64 0], .bool false]) W:=by kernel_rfl
theorem lW (x:Value)(W:World): (Instr.typeAssert (.iface 318 x) 229 325 true).run Tryz.prog W = .ok (.tuple #[.agg #[.int .i64 0, .bool false, .string ⟨#[]⟩, .int .i64 0], .bool false]) W:=by kernel_rfl
theorem fV (x:Value)(W:World): (Instr.typeAssert (.iface 318 x) 229 242 true).run Tryz.prog W = .ok (.tuple #[.agg #[.int .i64 0, .string ⟨#[]⟩], .bool false]) W:=by kernel_rfl
theorem rS (x:Value)(W:World): (Instr.typeAssert (.iface 239 x) 229 234 true).run Tryz.prog W = .ok (.tuple #[.agg #[.int .i64 0], .bool false]) W:=by kernel_rfl
theorem nf (x:Value)(W:World): (Instr.typeAssert (.iface 242 x) 229 234 true).run Tryz.prog W = .ok (.tuple #[.agg #[.int .i64 0], .bool false]) W:=by kernel_rfl
theorem lL (x:Value)(W:World): (Instr.typeAssert (.iface 242 x) 229 239 true).run Tryz.prog W = .ok (.tuple #[.agg #[.int .i64 0, .int .u8 0], .bool false]) W:=by kernel_rfl
theorem vU (x:Value)(W:World): (Instr.typeAssert (.iface 325 x) 229 234 true).run Tryz.prog W = .ok (.tuple #[.agg #[.int .i64 0], .bool false]) W:=by kernel_rfl
theorem rL (x:Value)(W:World): (Instr.typeAssert (.iface 325 x) 229 239 true).run Tryz.prog W = .ok (.tuple #[.agg #[.int .i64 0, .int .u8 0], .bool false]) W:=by kernel_rfl
theorem wV (x:Value)(W:World): (Instr.typeAssert (.iface 325 x) 229 242 true).run Tryz.prog W = .ok (.tuple #[.agg #[.int .i64 0, .string ⟨#[]⟩], .bool false]) W:=by kernel_rfl
theorem lX (x:Value)(W:World): (Instr.typeAssert (.iface 318 x) 229 234 true).run Tryz.prog W = .ok (.tuple #[.agg #[.int .i64 0], .bool false]) W:=by kernel_rfl
theorem kQ (x:Value)(W:World): (Instr.typeAssert (.iface 318 x) 229 239 true).run Tryz.prog W = .ok (.tuple #[.agg #[.int .i64 0, .int .u8 0], .bool false]) W:=by kernel_rfl
theorem iQ (x:Value)(W:World): (Instr.typeAssert (.iface 318 x) 229 327 true).run Tryz.prog W = .ok (.tuple #[.iface 318 x, .bool true]) W:=run_typeAssert_hasB Tryz.underlying327 (by kernel_rfl) x _ W
inductive tM:JV->Prop
 | null:tM iM
 | bool (b:Bool):tM (eI b)
 | num (d:Dc): -1000000000<=d.exp/\d.exp<=1000000000->tM (cY d)
theorem lz (k:Int){x:Bool}(hs: (s.toList == [110,117,108,108])=x)(w:World):Calls Tryz.prog 311 #[.agg #[.int .i64 k, .string s]] w fun e w'=>e = .returned (.int .i64 (if x then 1 else 2))/\Below w.heap.size w w':=by
 have a0:=ac w (.cells #[.int .i64 k, .string s] 318)
 cases x
 all_goals
  go_enter Tryz.func311,Tryz.ntmps311;go_wp2_with fail;go_ret;exact⟨rfl,a0⟩
theorem pd (k:Int)(w:World):Calls Tryz.prog 312 #[.agg #[.int .i64 k, .string s]] w fun e w'=>e = .returned (.int .i64 k)/\Below w.heap.size w w':=by
 have a0:=ac w (.cells #[.int .i64 k, .string s] 318);go_enter Tryz.func312,Tryz.ntmps312;go_wp2_with fail;go_ret;exact⟨rfl,a0⟩
theorem xn (k:Int)(d:Dc)(w:World):Calls Tryz.prog 149 #[.iface 325 (.agg #[.int .i64 k, .bool d.neg, .string d.digits, .int .i64 d.exp])] w fun e w'=>e = .returned (.iface 50 (.agg #[.bool d.neg, .string d.digits, .int .i64 d.exp]))/\Below w.heap.size w w':=by
 have a0:=ac w (.cells #[.int .i64 k, .bool d.neg, .string d.digits, .int .i64 d.exp] 325);have q1:=FC;go_enter Tryz.func149,Tryz.ntmps149;go_wp2_with fail;go_ret;exact⟨rfl,a0⟩
theorem vG (k:Int)(s:ByteArray)(w:World):Calls Tryz.prog 149 #[.iface 242 (.agg #[.int .i64 k, .string s])] w fun e w'=>e = .returned (.iface 60 (.string s))/\Below w.heap.size w w':=by
 have a0:=ac w (.cells #[.int .i64 k, .string s] 242);have q1:=vB;have q2:=vQ;go_enter Tryz.func149,Tryz.ntmps149;go_wp2_with fail;go_ret;exact⟨rfl,a0⟩
theorem sh (k:Int)(w:World):Calls Tryz.prog 149 #[.iface 318 (.agg #[.int .i64 k, .string ⟨#[110,117,108,108]⟩])] w fun e w'=>e = .returned (.iface 58 (.agg #[]))/\Below w.heap.size w w':=by
 have q1:=lW;have q2:=fV;have q3:=iQ;have Hk:=Qa (fun w=>lz k (s:=⟨#[110,117,108,108]⟩) (x:=true) (by decide +kernel) w);go_enter Tryz.func149,Tryz.ntmps149;go_wp2_with fail;(with_reducible refine(Hk.out _).mono ?_);rintro e w1 ⟨rfl,hb⟩;have Hb:=Qa hb;clear hb;go_wp2_with fail;go_ret;exact⟨rfl,Hb.out⟩
theorem zC (d:Nat)(k:Int)(s t:ByteArray)(W:World): (Op.equalIn (d+3) 318 (.agg #[.int .i64 k, .string s]) (.agg #[.int .i64 k, .string t])).run Tryz.prog W = .ok (s.toList==t.toList) W:=by
 rw [run_equalIn_agg W (d+2) 318 _ _ (by kernel_rfl) (by kernel_rfl)];have hf: ((Tryz.prog.fieldsOf 318).toList.map fun f=>(decide (f.name = "_"),f.type,f.offset)) = [(false,3,0),(false,9,1)]:=by kernel_rfl
 obtain⟨f1,f2,h1,h2,h3,h4,h5,h6,h7⟩:∃f1 f2,(Tryz.prog.fieldsOf 318).toList = [f1,f2]/\¬f1.name = "_" /\¬f2.name = "_" /\f1.type=3/\f2.type=9/\f1.offset=0/\f2.offset=1:=by
  generalize (Tryz.prog.fieldsOf 318).toList=fs at hf
  cases fs with
  | nil=>simp at hf
  | cons f1 r=>cases r with
   | nil=>simp at hf
   | cons f2 r2=>cases r2 with
    | cons f3 r3=>simp at hf
    | nil=>
     simp only [List.map_cons,List.map_nil,List.cons.injEq,Prod.mk.injEq,decide_eq_false_iff_not,and_true] at hf;exact⟨f1,f2,rfl,hf.1.1,hf.2.1,hf.1.2.1,hf.2.2.1,hf.1.2.2,hf.2.2.2⟩
 have p1:∀ (a b:Value) (w:World),(part 3 #[a,b] 0).run Tryz.prog w = .ok a w:=fun a b w=>by kernel_rfl
 have p2:∀ (a b:Value) (w:World),(part 9 #[a,b] 1).run Tryz.prog w = .ok b w:=fun a b w=>by kernel_rfl
 rw [h1];have hs:=run_equalIn_string W (d+1) 9 s t Tryz.underlying9;generalize (s.toList==t.toList)=x at hs ⊢
 cases x <;> simp [Op.eqFields,h2,h3,h4,h5,h6,h7,p1,p2,run_equalIn_int W (d+1) 3 .i64 .i64 k k Tryz.underlying3,hs]
theorem xL (k:Int)(s t:ByteArray)(W:World): (binOp .eql 327 (.iface 318 (.agg #[.int .i64 k, .string s])) (.iface 318 (.agg #[.int .i64 k, .string t]))).run Tryz.prog W = .ok (.bool (s.toList==t.toList)) W:=by
 have hc: (Tryz.prog.info? 318).map (·.comparable)=some true:=by kernel_rfl
 cases hi:Tryz.prog.info? 318 with
 | none=>rw [hi] at hc;cases hc
 | some i=>
  have hcc:i.comparable=true:=by rw [hi] at hc;simpa using hc
  have h: (Op.equalIn (9996+4) 327 (.iface 318 (.agg #[.int .i64 k, .string s])) (.iface 318 (.agg #[.int .i64 k, .string t]))).run Tryz.prog W = .ok (s.toList==t.toList) W:=by
   rw [Op.equalIn];simp only [Sem.run_bind,run_underlying Tryz.underlying327,Result.andThen_ok];simp [typeInfo,hi,hcc,zC 9996 k s t W]
  simp only [binOp];simp [Op.equal,Op.maxDepth,h]
theorem sK (k:Int)(b:Bool)(w:World):Calls Tryz.prog 149 #[.iface 318 (.agg #[.int .i64 k, .string ⟨(j7 (eI b)).toArray⟩])] w fun e w'=>e = .returned (.iface 59 (.bool b))/\Below w.heap.size w w':=by
 have q1:=lW;have q2:=fV;have q3:=iQ;have hw:j7 (eI b)=if b then [116,114,117,101] else [102,97,108,115,101]:=by cases b <;> rfl
 rw [hw];clear hw
 cases b
 ·have Hk:=Qa (fun w=>lz k (s:=⟨#[102,97,108,115,101]⟩) (x:=false) (by decide +kernel) w)
  have Hp:=Qa (fun w=>pd k (s:=⟨#[102,97,108,115,101]⟩) w);go_enter Tryz.func149,Tryz.ntmps149;go_wp2_with fail;(with_reducible refine(Hk.out _).mono ?_);rintro e w1 ⟨rfl,hb⟩;have Hb:=Qa hb;clear hb;go_wp2_with fail;(with_reducible refine(Hp.out _).mono ?_);rintro e w2 ⟨rfl,hb⟩;have a0:=Qa (bo Hb.out hb);clear hb;have q4:∀W,(binOp .eql 327 (.iface 318 (.agg #[.int .i64 k, .string ⟨#[102,97,108,115,101]⟩])) (.iface 318 (.agg #[.int .i64 k, .string ⟨#[116,114,117,101]⟩]))).run Tryz.prog W = .ok (.bool false) W:=fun W=>by
   rw [xL];exact congrArg (fun x=>Result.ok (Value.bool x) W) (by decide +kernel)
  go_wp2_with fail;go_ret;exact⟨rfl,a0.out⟩
 ·have Hk:=Qa (fun w=>lz k (s:=⟨#[116,114,117,101]⟩) (x:=false) (by decide +kernel) w)
  have Hp:=Qa (fun w=>pd k (s:=⟨#[116,114,117,101]⟩) w);go_enter Tryz.func149,Tryz.ntmps149;go_wp2_with fail;(with_reducible refine(Hk.out _).mono ?_);rintro e w1 ⟨rfl,hb⟩;have Hb:=Qa hb;clear hb;go_wp2_with fail;(with_reducible refine(Hp.out _).mono ?_);rintro e w2 ⟨rfl,hb⟩;have a0:=Qa (bo Hb.out hb);clear hb;have q4:∀W,(binOp .eql 327 (.iface 318 (.agg #[.int .i64 k, .string ⟨#[116,114,117,101]⟩])) (.iface 318 (.agg #[.int .i64 k, .string ⟨#[116,114,117,101]⟩]))).run Tryz.prog W = .ok (.bool true) W:=fun W=>by
   rw [xL];exact congrArg (fun x=>Result.ok (Value.bool x) W) (by decide +kernel)
  go_wp2_with fail;go_ret;exact⟨rfl,a0.out⟩
