import Derived.Test.YtgkkffeagolnpaaGreatDoorGZ16ay
set_option linter.unusedVariables false
set_option linter.unusedSimpArgs false
set_option maxHeartbeats 64000000
set_option maxRecDepth 100000
namespace Go.Proofs.YtgkkffeagolnpaaGreatDoor
open Go.RowKit
variable {fin:Bool}{f f':Fr}{j:JV}{frs fs:List Fr}{xs:List UInt8}{B lb nd rb want xb:Nat}{T U:TypeId->Prop}{u v:Value}{w w':World}
section
variable {B rb lb xb want k nd:Nat}{w w':World}{v:Value}{xs:List UInt8}{frs:List Fr}{fin:Bool}{by_ dp ex:Int}{ov nv:Value}{maps:List Nat}
theorem fW.setWant (h:fW B w rb lb xb v xs frs want k nd fin by_ dp ex ov nv maps)(hB:B<=w.heap.size)(n:Nat){z:Int}(hz:z=n):Below B w (w.setCell ⟨rb,14,none⟩ (.int .i64 z))/\Kp js w (w.setCell ⟨rb,14,none⟩ (.int .i64 z))/\fW B (w.setCell ⟨rb,14,none⟩ (.int .i64 z)) rb lb xb v xs frs n k nd fin by_ dp ex ov nv maps:=by
 subst hz;obtain⟨h1,h2,h3,h4⟩:=h.setR hB 14 (.int .i64 n);obtain⟨q1,q2,q3,q4,q5⟩:=h4 _ h3;exact⟨h1,h2,h3,h.low,q1,h.llow,q2,q3,q4,q5,h.nodup,h.le⟩
theorem fW.setNodes (h:fW B w rb lb xb v xs frs want k nd fin by_ dp ex ov nv maps)(hB:B<=w.heap.size)(n:Nat){z:Int}(hz:z=n):Below B w (w.setCell ⟨rb,9,none⟩ (.int .i64 z))/\Kp js w (w.setCell ⟨rb,9,none⟩ (.int .i64 z))/\fW B (w.setCell ⟨rb,9,none⟩ (.int .i64 z)) rb lb xb v xs frs want k n fin by_ dp ex ov nv maps:=by
 subst hz;obtain⟨h1,h2,h3,h4⟩:=h.setR hB 9 (.int .i64 n);obtain⟨q1,q2,q3,q4,q5⟩:=h4 _ h3;exact⟨h1,h2,h3,h.low,q1,h.llow,q2,q3,q4,q5,h.nodup,h.le⟩
theorem fW.setDepth (h:fW B w rb lb xb v xs frs want k nd fin by_ dp ex ov nv maps)(hB:B<=w.heap.size)(z:Int):Below B w (w.setCell ⟨rb,8,none⟩ (.int .i64 z))/\Kp js w (w.setCell ⟨rb,8,none⟩ (.int .i64 z))/\fW B (w.setCell ⟨rb,8,none⟩ (.int .i64 z)) rb lb xb v xs frs want k nd fin by_ z ex ov nv maps:=by
 obtain⟨h1,h2,h3,h4⟩:=h.setR hB 8 (.int .i64 z);obtain⟨q1,q2,q3,q4,q5⟩:=h4 _ h3;exact⟨h1,h2,h3,h.low,q1,h.llow,q2,q3,q4,q5,h.nodup,h.le⟩
theorem fW.setExpo (h:fW B w rb lb xb v xs frs want k nd fin by_ dp ex ov nv maps)(hB:B<=w.heap.size)(z:Int):Below B w (w.setCell ⟨rb,10,none⟩ (.int .i64 z))/\Kp js w (w.setCell ⟨rb,10,none⟩ (.int .i64 z))/\fW B (w.setCell ⟨rb,10,none⟩ (.int .i64 z)) rb lb xb v xs frs want k nd fin by_ dp z ov nv maps:=by
 obtain⟨h1,h2,h3,h4⟩:=h.setR hB 10 (.int .i64 z);obtain⟨q1,q2,q3,q4,q5⟩:=h4 _ h3;exact⟨h1,h2,h3,h.low,q1,h.llow,q2,q3,q4,q5,h.nodup,h.le⟩
theorem fW.setDone (h:fW B w rb lb xb v xs frs want k nd fin by_ dp ex ov nv maps)(hB:B<=w.heap.size)(b:Bool):Below B w (w.setCell ⟨rb,15,none⟩ (.bool b))/\Kp js w (w.setCell ⟨rb,15,none⟩ (.bool b))/\fW B (w.setCell ⟨rb,15,none⟩ (.bool b)) rb lb xb v xs frs want k nd b by_ dp ex ov nv maps:=by
 obtain⟨h1,h2,h3,h4⟩:=h.setR hB 15 (.bool b);obtain⟨q1,q2,q3,q4,q5⟩:=h4 _ h3;exact⟨h1,h2,h3,h.low,q1,h.llow,q2,q3,q4,q5,h.nodup,h.le⟩
end
theorem dj {k:Nat}(h:gK B w rb lb xb v xs frs want k nd fin)(hl:frs.length<=4294967296):Calls Tryz.prog 186 #[.pointer (some ⟨rb,0,none⟩)] w fun e w'=>e =.returned (.int .i64 ((frs.length:Int)+1))/\w=w':=by
 obtain⟨by_,dp,ex,ov,nv,maps,h⟩:=h;obtain⟨A,q,rfl,-⟩:=ag h.opens;have c12:=ac h.row (j:=12) (u:=.slice A frs.length q) rfl;have s1:IntKind.i64.wrap ((frs.length:Int)+1)= (frs.length:Int)+1:=IntWalk.i64_in _ (by omega);clear h;go_enter Tryz.func186,Tryz.ntmps186;go_wp2_with fail;go_ret;exact⟨rfl,rfl⟩
theorem qu {k:Nat}(h:gK B w rb lb xb v xs frs want k nd fin){m x:Int}(hm:m=1\/m=2\/m=3\/m=5)(hx:x<=1073741824):Calls Tryz.prog 189 #[.pointer (some ⟨rb,0,none⟩),.int .i64 m,.int .i64 x] w fun e w'=>e =.returned (.tuple #[])/\Below w.heap.size w w':=by
 obtain⟨by_,dp,ex,ov,nv,maps,h⟩:=h;have c1:=ac h.row (j:=1) (u:=.int .i64 1073741824) rfl;have c2:=ac h.row (j:=2) (u:=.int .i64 1073741824) rfl;have c3:=ac h.row (j:=3) (u:=.int .i64 1073741824) rfl;have c4:=ac h.row (j:=4) (u:=.int .i64 1073741824) rfl;have c5:=ac h.row (j:=5) (u:=.int .i64 1073741824) rfl;have c6:=ac h.row (j:=6) (u:=.int .i64 4611686018427387903) rfl;have H:=Qa (fun w=>mW hm hx w);unfold cX at H;clear h hm hx;go_enter Tryz.func189,Tryz.ntmps189;go_wp2_with fail;refine(H.out _).mono ?_;rintro e w1 ⟨rfl,hb⟩;have Hb:=Qa hb;clear hb c1 c2 c3 c4 c5 c6;go_wp2_with fail;go_end0;exact⟨rfl,Hb.out⟩
def Jl (B rb lb xb:Nat)(v:Value)(xs:List UInt8)(frs:List Fr)(want k nd:Nat)(fin:Bool)(w:World)(e:Ending)(w':World):Prop:=e =.returned (.tuple #[])/\Below B w w'/\Kp js w w'/\gK B w' rb lb xb v xs frs want k nd fin
theorem eN {k:Nat}(h:gK B w rb lb xb v xs frs want k nd fin)(hl:frs.length<=1000000000)(hn:nd<=1000000000)(hB:B<=w.heap.size):Calls Tryz.prog 185 #[.pointer (some ⟨rb,0,none⟩)] w (Jl B rb lb xb v xs frs want k (nd+1) fin w):=by
 have b9:=Qa (fun (w:World) (h:gK B w rb lb xb v xs frs want k (nd+1) fin)=>dj h (by omega));have b3:=Qa (dj h (by omega));have b4:=Qa (qu h (m:=2) (x:=(frs.length:Int)+1) (by omega) (by omega));have H:=Qa h;have HB:=Qa hB;have Hl:=Qa hl;have s1:IntKind.i64.wrap ((nd:Int)+1)= (nd:Int)+1:=IntWalk.i64_in _ (by omega);clear h hB hl;go_enter Tryz.func185,Tryz.ntmps185;go_wp2_with fail;refine Za b3 ?_;rintro e w' ⟨rfl,rfl⟩;go_wp2_with fail;refine Za b4 ?_;rintro e w1 ⟨rfl,b0⟩;have H1:=H.out.below b0;have b5:=Qa (qu H1 (m:=3) (x:=(nd:Int)+1) (by omega) (by omega));obtain⟨by_,dp,ex,ov,nv,maps,hA⟩:=id H1;have c9:=ac hA.row (j:=9) (u:=.int .i64 nd) rfl;have H1:=Qa H1;have HA:=Qa hA;have b8:=Qa b0;clear hA b0 b4 b3;go_wp2_with fail;refine Za b5 ?_;rintro e w2 ⟨rfl,a3⟩;have a5:=HA.out.below a3;have a2:B<=w2.heap.size:=by have:=HB.out;have:=b8.out.size;have:=a3.size;omega
 have a1:=Qa (a5.setNodes a2 (nd+1) (z:=(nd:Int)+1) (by omega));have d9:=ac a5.row (j:=9) (u:=.int .i64 nd) rfl;have f9:=al a5.row 9;have a9:=Qa (aj b8.out a3);clear a5 a3 b5 c9 a2;go_wp2_with fail;generalize w2.setCell ⟨rb,9,none⟩ (.int .i64 ((nd:Int)+1))=w3 at *;clear d9 f9;obtain⟨wr,a4⟩:∃wr,w3.drew=wr:=⟨_,rfl⟩;have b1:Below w3.heap.size w3 wr:=by rw[<-a4];exact(Ze _ _).drew
 have HR:=Qa (a1.out.2.2.below b1);have c8:=ac HR.out.row (j:=8) (u:=.int .i64 dp) rfl;have f8:=al HR.out.row 8;have C8:=Qa c8;have b2:=Qa b1;clear b1;refine cC (fun w2=>w2.cell? ⟨rb,8,none⟩=some (.int .i64 dp)) 12 ((by rw[a4];exact C8.out)) fun a0=>?_
 rw[a4] at a0 ⊢;clear a4;refine tZ 0 a0 ?_;refine tZ 1 a0 ?_;refine tZ 2 a0 ?_;refine tZ 3 a0 ?_;refine tZ 4 a0 ?_;refine tZ 5 a0 ?_
 try simp only[Act.put,jP,jQ,jR]
 refine tZ 6 a0 ?_
 try simp only[Act.put,jP,jQ,jR]
 refine rZ 7 fun K hK=>?_
 go_simp;refine(b9.out _ HR.out.s).mono ?_;rintro e w' ⟨rfl,rfl⟩;go_wp2_with fail;refine hK.out _ _ (fun _=>a0) (fun a0=>?_);clear hK K;have a0:=a0 (by decide)
 try simp only[Act.put,jP,jQ,jR]
 refine tZ 8 a0 ?_
 try simp only[Act.put,jP,jQ,jR]
 refine rZ 9 fun K hK=>?_
 go_simp;refine hK.out _ _ (fun _=>a0) (fun a0=>?_);clear hK K;have a0:=a0 (by decide)
 try simp only[Act.put,jP,jQ,jR]
 refine rZ 10 fun K hK=>?_
 go_simp;refine hK.out _ _ (fun _=>a0) (fun a0=>?_);clear hK K;have a0:=a0 (by decide)
 try simp only[Act.put,jP,jQ,jR]
 refine tZ 11 a0 ?_
 try simp only[Act.put,jP,jQ,jR]
 refine rZ 12 fun K hK=>?_
 go_simp;refine hK.out _ _ (fun h=>absurd rfl h) (fun _=>?_);clear hK K
 try simp only[Act.put,jP,jQ,jR]
 refine aK (by kernel_rfl) (NoPanic.normal ?_) _;go_end0;obtain⟨r1,r2,r3⟩:=a1.out;have a2:B<=w2.heap.size:=by have:=HB.out;have:=a9.out.size;omega
 have c0:B<=wr.heap.size:=by have:=r2.1;have:=b2.out.size;omega
 obtain⟨q1,q2,q3⟩:=HR.out.setDepth c0 (max dp ((frs.length:Int)+1));exact⟨rfl,((a9.out.mono HB.out).trans r1).trans ((b2.out.mono (Zc a2 r2.1)).trans q1),((Kp.of_below _ a9.out).trans r2).trans ((Kp.of_below _ b2.out).trans q2),q3.s⟩
theorem xH {k:Nat}(h:gK B w rb lb xb v xs [] want k nd fin)(hB:B<=w.heap.size):Calls Tryz.prog 187 #[.pointer (some ⟨rb,0,none⟩)] w fun e w'=>Jl B rb lb xb v xs [] 7 k nd fin w e w':=by
 obtain⟨by_,dp,ex,ov,nv,maps,h⟩:=h;obtain⟨A,q,rfl,-⟩:=ag h.opens;have c12:=ac h.row (j:=12) (u:=.slice A 0 q) rfl;have c14:=ac h.row (j:=14) (u:=.int .i64 want) rfl;have f14:=al h.row 14;have Hs:=Qa (h.setWant hB 7 (z:=7) rfl);clear h hB;go_enter Tryz.func187,Tryz.ntmps187;go_wp2_with fail;go_end0;exact⟨rfl,Hs.out.1,Hs.out.2.1,Hs.out.2.2.s⟩
theorem wC {k:Nat}(h:gK B w rb lb xb v xs (f::fs) want k nd fin)(hB:B<=w.heap.size)(hl:fs.length<=4294967296):Calls Tryz.prog 187 #[.pointer (some ⟨rb,0,none⟩)] w fun e w'=>Jl B rb lb xb v xs (f::fs) (if f.obj then 6 else 5) k nd fin w e w':=by
 obtain⟨by_,dp,ex,ov,nv,maps,h⟩:=h;obtain⟨m,hm⟩:∃m,fs.length=m:=⟨_,rfl⟩;have ho:=h.opens;rw[List.length_cons,hm] at ho;obtain⟨A,q,rfl,-,-,hA⟩:=ag ho;obtain⟨g,rfl⟩:=hA (by omega);have cg:=World.ownsRow.cellAt ho m (by omega);rw[List.reverse_cons,List.map_append,List.getElem?_append_right (by simp;omega),List.length_map,List.length_reverse,hm,Nat.sub_self] at cg;have c12:=ac h.row (j:=12) (u:=.slice (some ⟨g,0,none⟩) (m+1) q) rfl;have c14:=ac h.row (j:=14) (u:=.int .i64 want) rfl;have f14:=al h.row 14;have s1:IntKind.i64.wrap (m:Int)= (m:Int):=IntWalk.i64_in _ (by omega);have a4:(m:Int)< (m:Int)+1:=by omega
 have a3:(((m:Int)+1)==0)=false:=by simp only[beq_eq_false_iff_ne];omega
 have HA:=Qa h;have HB:=Qa hB;clear h hB ho hA hm
 by_cases hob:f.obj=true
 ·rw[if_pos hob];replace cg:w.cell? ⟨g,m,none⟩=some (.int .i64 6):=by rw[cg];simp[fD,hob]
  go_enter Tryz.func187,Tryz.ntmps187;go_wp2_with fail;go_quiet (fail);obtain⟨wd,hwd⟩:∃wd,w.drewN nq=wd:=⟨_,rfl⟩;have a0:Below w.heap.size w wd:=by rw[<-hwd];exact ap (Ze _ _) nq
  have a1:=HA.out.below a0;have d14:=ac a1.row (j:=14) (u:=.int .i64 want) rfl;have g14:=al a1.row 14;have Hs:=Qa (a1.setWant (Zc HB.out a0.size) 6 (z:=6) rfl);have a2:=Qa a0;rw[hwd];clear hwd a1 a0 c12 c14 f14 cg;go_wp2_with fail;go_end0;exact⟨rfl,(a2.out.mono HB.out).trans Hs.out.1,(Kp.of_below _ a2.out).trans Hs.out.2.1,Hs.out.2.2.s⟩
 ·rw[if_neg hob];replace cg:w.cell? ⟨g,m,none⟩=some (.int .i64 5):=by rw[cg];simp[fD,hob]
  go_enter Tryz.func187,Tryz.ntmps187;go_wp2_with fail;go_quiet (fail);obtain⟨wd,hwd⟩:∃wd,w.drewN nq=wd:=⟨_,rfl⟩;have a0:Below w.heap.size w wd:=by rw[<-hwd];exact ap (Ze _ _) nq
  have a1:=HA.out.below a0;have d14:=ac a1.row (j:=14) (u:=.int .i64 want) rfl;have g14:=al a1.row 14;have Hs:=Qa (a1.setWant (Zc HB.out a0.size) 5 (z:=5) rfl);have a2:=Qa a0;rw[hwd];clear hwd a1 a0 c12 c14 f14 cg;go_wp2_with fail;go_end0;exact⟨rfl,(a2.out.mono HB.out).trans Hs.out.1,(Kp.of_below _ a2.out).trans Hs.out.2.1,Hs.out.2.2.s⟩
theorem GQ (x:Value)(W:World):(Instr.typeAssert (.iface 338 x) 287 338 true).run Tryz.prog W =.ok (.tuple #[x,.bool true]) W:=by kernel_rfl
theorem mE (x:Value)(W:World):(Instr.typeAssert (.iface 296 x) 287 296 true).run Tryz.prog W =.ok (.tuple #[x,.bool true]) W:=by kernel_rfl
theorem Bp (x:Value)(W:World):(Instr.typeAssert (.iface 291 x) 287 291 true).run Tryz.prog W =.ok (.tuple #[x,.bool true]) W:=by kernel_rfl
theorem wT (x:Value)(W:World):(Instr.typeAssert (.iface 293 x) 287 293 true).run Tryz.prog W =.ok (.tuple #[x,.bool true]) W:=by kernel_rfl
theorem uY (x:Value)(W:World):(Instr.typeAssert (.iface 296 x) 287 338 true).run Tryz.prog W =.ok (.tuple #[.agg #[.int .i64 0,.bool false,.string ⟨#[]⟩,.int .i64 0],.bool false]) W:=by kernel_rfl
theorem lf (x:Value)(W:World):(Instr.typeAssert (.iface 331 x) 287 338 true).run Tryz.prog W =.ok (.tuple #[.agg #[.int .i64 0,.bool false,.string ⟨#[]⟩,.int .i64 0],.bool false]) W:=by kernel_rfl
theorem dh (x:Value)(W:World):(Instr.typeAssert (.iface 331 x) 287 296 true).run Tryz.prog W =.ok (.tuple #[.agg #[.int .i64 0,.string ⟨#[]⟩],.bool false]) W:=by kernel_rfl
theorem kT (x:Value)(W:World):(Instr.typeAssert (.iface 293 x) 287 291 true).run Tryz.prog W =.ok (.tuple #[.agg #[.int .i64 0],.bool false]) W:=by kernel_rfl
theorem fT (x:Value)(W:World):(Instr.typeAssert (.iface 296 x) 287 291 true).run Tryz.prog W =.ok (.tuple #[.agg #[.int .i64 0],.bool false]) W:=by kernel_rfl
theorem eT (x:Value)(W:World):(Instr.typeAssert (.iface 296 x) 287 293 true).run Tryz.prog W =.ok (.tuple #[.agg #[.int .i64 0,.int .u8 0],.bool false]) W:=by kernel_rfl
theorem mF (x:Value)(W:World):(Instr.typeAssert (.iface 338 x) 287 291 true).run Tryz.prog W =.ok (.tuple #[.agg #[.int .i64 0],.bool false]) W:=by kernel_rfl
theorem kO (x:Value)(W:World):(Instr.typeAssert (.iface 338 x) 287 293 true).run Tryz.prog W =.ok (.tuple #[.agg #[.int .i64 0,.int .u8 0],.bool false]) W:=by kernel_rfl
theorem mC (x:Value)(W:World):(Instr.typeAssert (.iface 338 x) 287 296 true).run Tryz.prog W =.ok (.tuple #[.agg #[.int .i64 0,.string ⟨#[]⟩],.bool false]) W:=by kernel_rfl
theorem eU (x:Value)(W:World):(Instr.typeAssert (.iface 331 x) 287 291 true).run Tryz.prog W =.ok (.tuple #[.agg #[.int .i64 0],.bool false]) W:=by kernel_rfl
theorem eh (x:Value)(W:World):(Instr.typeAssert (.iface 331 x) 287 293 true).run Tryz.prog W =.ok (.tuple #[.agg #[.int .i64 0,.int .u8 0],.bool false]) W:=by kernel_rfl
theorem gE (x:Value)(W:World):(Instr.typeAssert (.iface 331 x) 287 340 true).run Tryz.prog W =.ok (.tuple #[.iface 331 x,.bool true]) W:=run_typeAssert_hasB Tryz.underlying340 (by kernel_rfl) x _ W
inductive sm:JV->Prop
 |null:sm oM
 |bool (b:Bool):sm (iH b)
 |num (d:Dc): -1000000000<=d.exp/\d.exp<=1000000000->sm (lA d)
theorem kt (k:Int){s:ByteArray}{x:Bool}(hs:(s.toList == [110,117,108,108])=x)(w:World):Calls Tryz.prog 321 #[.agg #[.int .i64 k,.string s]] w fun e w'=>e =.returned (.int .i64 (if x then 1 else 2))/\Below w.heap.size w w':=by
 have a0:=aa w (.cells #[.int .i64 k,.string s] 331)
 cases x
 all_goals
  go_enter Tryz.func321,Tryz.ntmps321;go_wp2_with fail;go_ret;exact⟨rfl,a0⟩
theorem j4 (k:Int){s:ByteArray}(w:World):Calls Tryz.prog 322 #[.agg #[.int .i64 k,.string s]] w fun e w'=>e =.returned (.int .i64 k)/\Below w.heap.size w w':=by
 have a0:=aa w (.cells #[.int .i64 k,.string s] 331);go_enter Tryz.func322,Tryz.ntmps322;go_wp2_with fail;go_ret;exact⟨rfl,a0⟩
theorem vc (k:Int)(d:Dc)(w:World):Calls Tryz.prog 188 #[.iface 338 (.agg #[.int .i64 k,.bool d.neg,.string d.digits,.int .i64 d.exp])] w fun e w'=>e =.returned (.iface 313 (.agg #[.bool d.neg,.string d.digits,.int .i64 d.exp]))/\Below w.heap.size w w':=by
 have a0:=aa w (.cells #[.int .i64 k,.bool d.neg,.string d.digits,.int .i64 d.exp] 338);have q1:=GQ;go_enter Tryz.func188,Tryz.ntmps188;go_wp2_with fail;go_ret;exact⟨rfl,a0⟩
theorem vM (k:Int)(s:ByteArray)(w:World):Calls Tryz.prog 188 #[.iface 296 (.agg #[.int .i64 k,.string s])] w fun e w'=>e =.returned (.iface 78 (.string s))/\Below w.heap.size w w':=by
 have a0:=aa w (.cells #[.int .i64 k,.string s] 296);have q1:=mE;have q2:=uY;go_enter Tryz.func188,Tryz.ntmps188;go_wp2_with fail;go_ret;exact⟨rfl,a0⟩
theorem rQ (k:Int)(w:World):Calls Tryz.prog 188 #[.iface 331 (.agg #[.int .i64 k,.string ⟨#[110,117,108,108]⟩])] w fun e w'=>e =.returned (.iface 343 (.agg #[]))/\Below w.heap.size w w':=by
 have q1:=lf;have q2:=dh;have q3:=gE;have Hk:=Qa (fun w=>kt k (s:=⟨#[110,117,108,108]⟩) (x:=true) (by decide +kernel) w);go_enter Tryz.func188,Tryz.ntmps188;go_wp2_with fail;refine(Hk.out _).mono ?_;rintro e w1 ⟨rfl,hb⟩;have Hb:=Qa hb;clear hb;go_wp2_with fail;go_ret;exact⟨rfl,Hb.out⟩
theorem DI (d:Nat)(k:Int)(s t:ByteArray)(W:World):(Op.equalIn (d+3) 331 (.agg #[.int .i64 k,.string s]) (.agg #[.int .i64 k,.string t])).run Tryz.prog W =.ok (s.toList==t.toList) W:=by
 rw[run_equalIn_agg W (d+2) 331 _ _ (by kernel_rfl) (by kernel_rfl)];have hf:((Tryz.prog.fieldsOf 331).toList.map fun f=>(decide (f.name = "_"),f.type,f.offset)) = [(false,3,0),(false,9,1)]:=by kernel_rfl
 obtain⟨f1,f2,h1,h2,h3,h4,h5,h6,h7⟩:∃f1 f2,(Tryz.prog.fieldsOf 331).toList = [f1,f2]/\¬f1.name = "_" /\¬f2.name = "_" /\f1.type=3/\f2.type=9/\f1.offset=0/\f2.offset=1:=by
  generalize (Tryz.prog.fieldsOf 331).toList=fs at hf
  cases fs with
  |nil=>simp at hf
  |cons f1 r=>cases r with
   |nil=>simp at hf
   |cons f2 r2=>cases r2 with
    |cons f3 r3=>simp at hf
    |nil=>
     simp only[List.map_cons,List.map_nil,List.cons.injEq,Prod.mk.injEq,decide_eq_false_iff_not,and_true] at hf;exact⟨f1,f2,rfl,hf.1.1,hf.2.1,hf.1.2.1,hf.2.2.1,hf.1.2.2,hf.2.2.2⟩
 have p1:∀ (a b:Value) (w:World),(part 3 #[a,b] 0).run Tryz.prog w =.ok a w:=fun a b w=>by kernel_rfl
 have p2:∀ (a b:Value) (w:World),(part 9 #[a,b] 1).run Tryz.prog w =.ok b w:=fun a b w=>by kernel_rfl
 rw[h1];have hs:=run_equalIn_string W (d+1) 9 s t Tryz.underlying9;generalize (s.toList==t.toList)=x at hs ⊢
 cases x <;> simp[Op.eqFields,h2,h3,h4,h5,h6,h7,p1,p2,run_equalIn_int W (d+1) 3 .i64 .i64 k k Tryz.underlying3,hs]
theorem xo (k:Int)(s t:ByteArray)(W:World):(binOp .eql 340 (.iface 331 (.agg #[.int .i64 k,.string s])) (.iface 331 (.agg #[.int .i64 k,.string t]))).run Tryz.prog W =.ok (.bool (s.toList==t.toList)) W:=by
 have hc:(Tryz.prog.info? 331).map (·.comparable)=some true:=by kernel_rfl
 cases hi:Tryz.prog.info? 331 with
 |none=>rw[hi] at hc;cases hc
 |some i=>
  have a0:i.comparable=true:=by rw[hi] at hc;simpa using hc
  have h:(Op.equalIn (9996+4) 340 (.iface 331 (.agg #[.int .i64 k,.string s])) (.iface 331 (.agg #[.int .i64 k,.string t]))).run Tryz.prog W =.ok (s.toList==t.toList) W:=by
   rw[Op.equalIn];simp only[Sem.run_bind,run_underlying Tryz.underlying340,Result.andThen_ok];simp[typeInfo,hi,a0,DI 9996 k s t W]
  simp only[binOp];simp[Op.equal,Op.maxDepth,h]
theorem sI (k:Int)(b:Bool)(w:World):Calls Tryz.prog 188 #[.iface 331 (.agg #[.int .i64 k,.string ⟨(jd (iH b)).toArray⟩])] w fun e w'=>e =.returned (.iface 341 (.bool b))/\Below w.heap.size w w':=by
 have q1:=lf;have q2:=dh;have q3:=gE;have hw:jd (iH b)=if b then [116,114,117,101] else [102,97,108,115,101]:=by cases b <;> rfl
 rw[hw];clear hw
 cases b
 ·have Hk:=Qa (fun w=>kt k (s:=⟨#[102,97,108,115,101]⟩) (x:=false) (by decide +kernel) w);have Hp:=Qa (fun w=>j4 k (s:=⟨#[102,97,108,115,101]⟩) w);go_enter Tryz.func188,Tryz.ntmps188;go_wp2_with fail;refine(Hk.out _).mono ?_;rintro e w1 ⟨rfl,hb⟩;have Hb:=Qa hb;clear hb;go_wp2_with fail;refine(Hp.out _).mono ?_;rintro e w2 ⟨rfl,hb⟩;have a0:=Qa (aj Hb.out hb);clear hb;have q4:∀W,(binOp .eql 340 (.iface 331 (.agg #[.int .i64 k,.string ⟨#[102,97,108,115,101]⟩])) (.iface 331 (.agg #[.int .i64 k,.string ⟨#[116,114,117,101]⟩]))).run Tryz.prog W =.ok (.bool false) W:=fun W=>by
   rw[xo];exact congrArg (fun x=>Result.ok (Value.bool x) W) (by decide +kernel)
  go_wp2_with fail;go_ret;exact⟨rfl,a0.out⟩
 ·have Hk:=Qa (fun w=>kt k (s:=⟨#[116,114,117,101]⟩) (x:=false) (by decide +kernel) w);have Hp:=Qa (fun w=>j4 k (s:=⟨#[116,114,117,101]⟩) w);go_enter Tryz.func188,Tryz.ntmps188;go_wp2_with fail;refine(Hk.out _).mono ?_;rintro e w1 ⟨rfl,hb⟩;have Hb:=Qa hb;clear hb;go_wp2_with fail;refine(Hp.out _).mono ?_;rintro e w2 ⟨rfl,hb⟩;have a0:=Qa (aj Hb.out hb);clear hb;have q4:∀W,(binOp .eql 340 (.iface 331 (.agg #[.int .i64 k,.string ⟨#[116,114,117,101]⟩])) (.iface 331 (.agg #[.int .i64 k,.string ⟨#[116,114,117,101]⟩]))).run Tryz.prog W =.ok (.bool true) W:=fun W=>by
   rw[xo];exact congrArg (fun x=>Result.ok (Value.bool x) W) (by decide +kernel)
  go_wp2_with fail;go_ret;exact⟨rfl,a0.out⟩
def Fh:List Fr->Nat
 | []=>7
 |f::_=>if f.obj then 6 else 5
theorem ie (frs:List Fr)(j:JV):(bD frs j).want=Fh (bD frs j).frs:=by
 cases frs with
 |nil=>rfl
 |cons f fs=>
  by_cases ho:f.obj=true
  ·rw[eK ho];simp[Fh,ho]
  ·rw[dI (by simpa using ho)];simp[Fh,ho]
theorem iB {k:Nat}(h:gK B w rb lb xb v xs frs want k nd fin)(hB:B<=w.heap.size)(hl:frs.length<=4294967296):Calls Tryz.prog 187 #[.pointer (some ⟨rb,0,none⟩)] w (Jl B rb lb xb v xs frs (Fh frs) k nd fin w):=by
 cases frs with
 |nil=>exact xH h hB
 |cons f fs=>exact wC h hB (by rw[List.length_cons] at hl;omega)
theorem iL.mono {b:Nat}(h:iL B w b f)(hn:∀s,s∈fJ f↔s∈fJ f')(hl:f.mems.length+f.name.toList.length<=f'.mems.length+f'.name.toList.length):iL B w b f':=by
 obtain⟨h1,l,n,h2,h3,h4⟩:=h;exact⟨h1,l,n,h2,by omega,fun s=>(h4 s).trans (hn s)⟩
theorem gK.put {k:Nat}(h:gK B w rb lb xb v xs frs want k nd fin)(hw:∀f fs,frs=f::fs->bS f=false)(j:JV):gK B w rb lb xb v xs (bD frs j).frs want k nd fin:=by
 cases frs with
 |nil=>exact h
 |cons f fs=>
  obtain⟨by_,dp,ex,ov,nv,maps,h1,h2,h3,h4,h5,h6,h7,h8,h9,a0⟩:=h;have hf:=hw f fs rfl
  by_cases ho:f.obj=true
  ·rw[eK ho];have hs:∃s,f.name=some s:=by
    simp only[bS,ho,Bool.true_and] at hf
    cases hn:f.name with
    |none=>rw[hn] at hf;cases hf
    |some s=>exact⟨s,rfl⟩
   obtain⟨s,hs⟩:=hs;refine⟨by_,dp,ex,ov,nv,maps,h1,h2,h3,h4,h5,?_,h7,?_,h9,a0⟩
   ·simpa [fD] using h6
   ·simp only[List.filter_cons,ho,if_true] at h8 ⊢
    cases maps with
    |nil=>have:=h8.1;simp at this
    |cons b maps=>
     refine⟨by simpa using h8.1,fun i x y q1 q2=>?_⟩
     cases i with
     |zero=>
      simp at q1 q2;subst q1 q2;refine(h8.2 0 b f rfl rfl).mono (fun t=>?_) (by simp[hs]);simp only[fJ,hs,Option.toList_some,Option.toList_none,Option.getD_some,List.map_append,List.map_cons,List.map_nil,List.mem_append,List.mem_singleton,List.nil_append];exact Or.comm
     |succ i=>exact h8.2 (i+1) x y (by simpa using q1) (by simpa using q2)
  ·rw[dI (by simpa using ho)];refine⟨by_,dp,ex,ov,nv,maps,h1,h2,h3,h4,h5,?_,h7,?_,h9,a0⟩
   ·simpa [fD] using h6
   ·have e:∀g:Fr,g.obj=f.obj->List.filter (·.obj) (g::fs)=List.filter (·.obj) (f::fs):=fun g hg=>by
     have hb:f.obj=false:=by simpa using ho
     rw[List.filter_cons,List.filter_cons,hg,hb];simp
    show ch (iL B w) maps (List.filter (·.obj) ({f with items:=f.items ++ [j]}::fs))
    rw[e {f with items:=f.items ++ [j]} rfl];exact h8
theorem jX (frs:List Fr)(j:JV):(bD frs j).frs.length=frs.length:=by
 cases frs with
 |nil=>rfl
 |cons f fs=>
  by_cases ho:f.obj=true
  ·rw[eK ho];rfl
  ·rw[dI (by simpa using ho)];rfl
def PS (B rb lb xb:Nat)(v:Value)(xs:List UInt8)(c:bR)(k nd:Nat)(fin:Bool)(w:World):Prop:=gK B w rb lb xb v xs c.frs c.want k nd fin/\∃bs,d8 B w xb c.frs c.done bs
def TA (e:TypeId):Prop:=TB e\/js e
structure bQ (B:Nat) (w w':World):Prop where
 b:Below B w w'
 k:bL TA w w'
theorem bL.imp (h:bL T w w')(hT:∀e,T e->U e):bL U w w':=⟨h.1,fun g cs e z hg he=>h.2 g cs e z hg (fun ht=>he (hT e ht))⟩
theorem bQ.trans {a b c:World}(h:bQ B a b)(k:bQ B b c):bQ B a c:=⟨h.b.trans k.b,h.k.trans k.k⟩
theorem bQ.new (hb:Below w.heap.size w w')(hB:B<=w.heap.size):bQ B w w':=⟨hb.mono hB,bL.of_below TA hb⟩
theorem bQ.rd (hb:Below B w w')(hk:Kp js w w'):bQ B w w':=⟨hb,hk.keeps.imp fun _ h=>.inr h⟩
theorem bQ.tb (hb:Below B w w')(hk:Kp TB w w'):bQ B w w':=⟨hb,hk.keeps.imp fun _ h=>.inl h⟩
def It (B rb lb xb:Nat)(v:Value)(xs:List UInt8)(c:bR)(k nd:Nat)(fin:Bool)(w:World)(e:Ending)(w':World):Prop:=e =.returned (.tuple #[])/\bQ B w w'/\PS B rb lb xb v xs c k nd fin w'
theorem ja {k:Nat}{t:Value}{tt:TypeId}{tx:Value}{bs:List Nat}(hw:want=0\/want=1)(hR:gK B w rb lb xb v xs frs want k nd false)(c6:d8 B w xb frs none bs)(hT:jy frs)(hl:frs.length<=1000000000)(hn:nd<=1000000000)(hB:B<=w.heap.size)
  (c9:∀w,Calls Tryz.prog 188 #[t] w fun e w'=>e =.returned u/\Below w.heap.size w w') (c7:∀ (P:Nat->Prop) w,VW P w u j) (hu:u =.iface tt tx) (a2:∀W,(Instr.typeAssert (.iface tt tx) 220 313 true).run Tryz.prog W =.ok (.tuple #[.agg #[.bool false,.string ⟨#[]⟩,.int .i64 0],.bool false]) W):Calls Tryz.prog 170 #[.pointer (some ⟨rb,0,none⟩),t] w (It B rb lb xb v xs (bD frs j) k (nd+1) false w):=by
 have b5:=hR;obtain⟨by_,dp,ex,ov,nv,maps,hA⟩:=b5;have c14:=ac hA.row (j:=14) (u:=.int .i64 (want:Nat)) rfl;have b9:=Qa (eN hR hl hn hB);have d4:=Qa c6;have HT:=Qa hT;have Hl:=Qa hl;have HB:=Qa hB;have d1:=Qa c9;have d3:=Qa c7;subst hu;clear hR c6 hT hl hB c9 c7 hA;rcases hw with hw|hw
 all_goals
  rw[hw] at c14;simp only[Int.cast_ofNat_Int] at c14;clear hw;go_enter Tryz.func170,Tryz.ntmps170;go_wp2_with fail;refine Za b9 ?_;rintro e w1 ⟨rfl,c3,b2,b8⟩;have a1:=d4.out.kp b2 bE;have R1:=Qa (And.intro (bQ.rd c3 b2) (And.intro b8 a1));clear c3 b2 b8 a1 c14 b9;go_wp2_with fail;refine(d1.out _).mono ?_;rintro e w2 ⟨rfl,a4⟩;obtain⟨r1,r2,r3⟩:=R1.out;have c1:B<=w1.heap.size:=Zc HB.out r1.b.size;have R2:=Qa (And.intro (r1.trans (bQ.new a4 c1)) (And.intro (r2.below a4) (r3.below a4)));clear a4 r1 r2 r3 c1 R1;go_wp2_with fail;obtain⟨w3,b4⟩:∃w3,w2.alloc (.cells #[.bool false,.string ⟨#[]⟩,.int .i64 0] 313)=w3:=⟨_,rfl⟩;have R3:=Qa (show bQ B w w3/\gK B w3 rb lb xb v xs frs want k (nd+1) false/\d8 B w3 xb frs none bs by
   have a9:=aa w2 (.cells #[.bool false,.string ⟨#[]⟩,.int .i64 0] 313);rw[b4] at a9;obtain⟨r1,r2,r3⟩:=R2.out;exact⟨r1.trans (bQ.new a9 (Zc HB.out r1.b.size)),r2.below a9,r3.below a9⟩)
  rw[b4];clear b4 R2 a2;obtain⟨x1,x2,x3⟩:=R3.out;have b3:B<=w3.heap.size:=Zc HB.out x1.b.size;obtain⟨wr,b0⟩:∃wr,w3.drew=wr:=⟨_,rfl⟩;have a3:Below w3.heap.size w3 wr:=by rw[<-b0];exact(Ze _ _).drew
  have a5:=x2.below a3;have d0:=x3.below a3;have c5:=Qa (dj a5 (by have:=Hl.out;omega));have c2:=Qa (om (lv:=(frs.length:Int)+1) (by omega) d0 HT.out (d3.out (Pb B bs) wr) (Zc b3 a3.size));obtain⟨by2,dp2,ex2,ov2,nv2,maps2,c8⟩:=id a5;have C11:=Qa (ac c8.row (j:=11) (u:=.func (.func 114) #[.pointer (some ⟨xb,0,none⟩)] #[]) rfl);have b1:=Qa (And.intro (x1.trans (bQ.new a3 b3)) a5);clear a3 a5 d0 c8 x1 x2 x3 b3 R3;refine cC (fun w2=>w2.cell? ⟨rb,11,none⟩=some (.func (.func 114) #[.pointer (some ⟨xb,0,none⟩)] #[])) 9 ((by rw[b0];exact C11.out)) fun a0=>?_
  rw[b0] at a0 ⊢;clear b0;refine tR 0 a0 ?_;refine tR 1 a0 ?_;refine tR 2 a0 ?_;refine tR 3 a0 ?_;refine tR 4 a0 ?_;refine tR 6 a0 ?_
  try simp only[Act.put,jP,jQ,jR]
  refine rZ 5 fun K hK=>?_
  go_simp;refine Za c5 ?_;rintro e w' ⟨rfl,rfl⟩;go_wp2_with fail;refine hK.out _ _ (fun _=>a0) (fun a0=>?_);clear hK K;have a0:=a0 (by decide)
  try simp only[Act.put,jP,jQ,jR]
  refine tR 7 a0 ?_;refine tR 8 a0 ?_
  try simp only[Act.put,jP,jQ,jR]
  refine rZ 9 fun K hK=>?_
  go_simp;refine Za c2 ?_;rintro e w4 ⟨rfl,h1,h2,h3⟩;have R:=Qa (And.intro h1 (And.intro h2 h3));clear h1 h2 h3;go_wp2_with fail;refine hK.out _ _ (fun h=>absurd rfl h) (fun _=>?_);clear hK K
  try simp only[Act.put,jP,jQ,jR]
  refine aK (by kernel_rfl) (NoPanic.normal ?_) _;obtain⟨y1,y2,bs2,y3⟩:=R.out;have c0:=(b1.out.2.tb y2).put (fun f fs e=>(HT.out.2 f fs e).1) j;have c4:B<=w4.heap.size:=Zc (Zc HB.out b1.out.1.b.size) y1.size;have d2:=Qa (iB c0 c4 (by rw[jX];have:=Hl.out;omega));have R4:=Qa (And.intro (b1.out.1.trans (bQ.tb y1 y2)) y3);clear y1 y2 y3 c0 c4 R b1 c5 c2 C11;go_wp2_with fail;refine Za d2 ?_;rintro e w5 ⟨rfl,h1,h2,h3⟩;have R5:=Qa (And.intro h1 (And.intro h2 h3));clear h1 h2 h3;go_wp2_with fail;go_end0;refine⟨rfl,R4.out.1.trans (bQ.rd R5.out.1 R5.out.2.1),?_,bs2,R4.out.2.kp R5.out.2.1 bE⟩;rw[ie];exact R5.out.2.2
theorem DB {k:Nat}{t:Value}{bs:List Nat}(hw:want=0\/want=1)(hR:gK B w rb lb xb v xs frs want k nd false)(c9:d8 B w xb frs none bs)(hT:jy frs)(hl:frs.length<=1000000000)(hn:nd<=1000000000)(hB:B<=w.heap.size)
  (d2:∀w,Calls Tryz.prog 188 #[t] w fun e w'=>e =.returned u/\Below w.heap.size w w') (d0:∀ (P:Nat->Prop) w,VW P w u j) (d:Dc) (hu:u =.iface 313 (.agg #[.bool d.neg,.string d.digits,.int .i64 d.exp])) (hd: -1000000000<=d.exp/\d.exp<=1000000000):Calls Tryz.prog 170 #[.pointer (some ⟨rb,0,none⟩),t] w (It B rb lb xb v xs (bD frs j) k (nd+1) false w):=by
 have b9:=hR;obtain⟨by_,dp,ex,ov,nv,maps,hA⟩:=b9;have c14:=ac hA.row (j:=14) (u:=.int .i64 (want:Nat)) rfl;have c1:=Qa (eN hR hl hn hB);have d9:=Qa c9;have HT:=Qa hT;have Hl:=Qa hl;have HB:=Qa hB;have d4:=Qa d2;have d6:=Qa d0;subst hu;have e0:∀W,(Instr.typeAssert (.iface 313 (.agg #[.bool d.neg,.string d.digits,.int .i64 d.exp])) 220 313 true).run Tryz.prog W =.ok (.tuple #[.agg #[.bool d.neg,.string d.digits,.int .i64 d.exp],.bool true]) W:=fun W=>by kernel_rfl
 have sneg:IntKind.i64.wrap (-d.exp) = -d.exp:=IntWalk.i64_in _ (by omega);have Hd:=Qa hd;clear hR c9 hT hl hB d2 d0 hA hd;rcases hw with hw|hw
 all_goals
  rw[hw] at c14;simp only[Int.cast_ofNat_Int] at c14;clear hw;go_enter Tryz.func170,Tryz.ntmps170;go_wp2_with fail;refine Za c1 ?_;rintro e w1 ⟨rfl,c6,b4,c0⟩;have a3:=d9.out.kp b4 bE;have R1:=Qa (And.intro (bQ.rd c6 b4) (And.intro c0 a3));clear c6 b4 c0 a3 c14 c1;go_wp2_with fail;refine(d4.out _).mono ?_;rintro e w2 ⟨rfl,a9⟩;obtain⟨r1,r2,r3⟩:=R1.out;have c4:B<=w1.heap.size:=Zc HB.out r1.b.size;have R2:=Qa (And.intro (r1.trans (bQ.new a9 c4)) (And.intro (r2.below a9) (r3.below a9)));clear a9 r1 r2 r3 c4 R1;have c2:=Qa (qu (R2.out.2.1.below (aa w2 (.cells #[.bool d.neg,.string d.digits,.int .i64 d.exp] 313))) (m:=5) (x:=max d.exp (-d.exp)) (by omega) (by have:=Hd.out;omega));go_wp2_with fail
  try rw[sneg]
  refine Za c2 ?_;rintro e w3 ⟨rfl,a1⟩;have a1:=aj (aa w2 (.cells #[.bool d.neg,.string d.digits,.int .i64 d.exp] 313)) a1;obtain⟨r1,r2,r3⟩:=R2.out;have b5:B<=w2.heap.size:=Zc HB.out r1.b.size;obtain⟨by9,dp9,ex9,ov9,nv9,maps9,b2⟩:=r2.below a1;have c10:=ac b2.row (j:=10) (u:=.int .i64 ex9) rfl;have f10:=al b2.row 10;have a2:=Qa (b2.setExpo (Zc b5 a1.size) (max ex9 (max d.exp (-d.exp))));have R2b:=Qa (And.intro (r1.trans (bQ.new a1 b5)) (r3.below a1));clear a1 r1 r2 r3 b5 b2 R2 c2;go_wp2_with fail;obtain⟨w3b,a4⟩:∃w3b,w3.setCell ⟨rb,10,none⟩ (.int .i64 (max ex9 (max d.exp (-d.exp))))=w3b:=⟨_,rfl⟩;rw[a4] at a2 ⊢;have R3:=Qa (show bQ B w w3b/\gK B w3b rb lb xb v xs frs want k (nd+1) false/\d8 B w3b xb frs none bs from⟨R2b.out.1.trans (bQ.rd a2.out.1 a2.out.2.1),a2.out.2.2.s,R2b.out.2.kp a2.out.2.1 bE⟩);clear a4 c10 f10 a2 R2b;obtain⟨w3,rfl⟩:∃w3,w3=w3b:=⟨_,rfl⟩;obtain⟨x1,x2,x3⟩:=R3.out;have b8:B<=w3.heap.size:=Zc HB.out x1.b.size;obtain⟨wr,b1⟩:∃wr,w3.drew=wr:=⟨_,rfl⟩;have a5:Below w3.heap.size w3 wr:=by rw[<-b1];exact(Ze _ _).drew
  have b0:=x2.below a5;have d3:=x3.below a5;have c8:=Qa (dj b0 (by have:=Hl.out;omega));have c5:=Qa (om (lv:=(frs.length:Int)+1) (by omega) d3 HT.out (d6.out (Pb B bs) wr) (Zc b8 a5.size));obtain⟨by2,dp2,ex2,ov2,nv2,maps2,d1⟩:=id b0;have C11:=Qa (ac d1.row (j:=11) (u:=.func (.func 114) #[.pointer (some ⟨xb,0,none⟩)] #[]) rfl);have b3:=Qa (And.intro (x1.trans (bQ.new a5 b8)) b0);clear a5 b0 d3 d1 x1 x2 x3 b8 R3;refine cC (fun w2=>w2.cell? ⟨rb,11,none⟩=some (.func (.func 114) #[.pointer (some ⟨xb,0,none⟩)] #[])) 9 ((by rw[b1];exact C11.out)) fun a0=>?_
  rw[b1] at a0 ⊢;clear b1;refine tR 0 a0 ?_;refine tR 1 a0 ?_;refine tR 2 a0 ?_;refine tR 3 a0 ?_;refine tR 4 a0 ?_;refine tR 6 a0 ?_
  try simp only[Act.put,jP,jQ,jR]
  refine rZ 5 fun K hK=>?_
  go_simp;refine Za c8 ?_;rintro e w' ⟨rfl,rfl⟩;go_wp2_with fail;refine hK.out _ _ (fun _=>a0) (fun a0=>?_);clear hK K;have a0:=a0 (by decide)
  try simp only[Act.put,jP,jQ,jR]
  refine tR 7 a0 ?_;refine tR 8 a0 ?_
  try simp only[Act.put,jP,jQ,jR]
  refine rZ 9 fun K hK=>?_
  go_simp;refine Za c5 ?_;rintro e w4 ⟨rfl,h1,h2,h3⟩;have R:=Qa (And.intro h1 (And.intro h2 h3));clear h1 h2 h3;go_wp2_with fail;refine hK.out _ _ (fun h=>absurd rfl h) (fun _=>?_);clear hK K
  try simp only[Act.put,jP,jQ,jR]
  refine aK (by kernel_rfl) (NoPanic.normal ?_) _;obtain⟨y1,y2,bs2,y3⟩:=R.out;have c3:=(b3.out.2.tb y2).put (fun f fs e=>(HT.out.2 f fs e).1) j;have c7:B<=w4.heap.size:=Zc (Zc HB.out b3.out.1.b.size) y1.size;have d5:=Qa (iB c3 c7 (by rw[jX];have:=Hl.out;omega));have R4:=Qa (And.intro (b3.out.1.trans (bQ.tb y1 y2)) y3);clear y1 y2 y3 c3 c7 R b3 c8 c5 C11;go_wp2_with fail;refine Za d5 ?_;rintro e w5 ⟨rfl,h1,h2,h3⟩;have R5:=Qa (And.intro h1 (And.intro h2 h3));clear h1 h2 h3;go_wp2_with fail;go_end0;refine⟨rfl,R4.out.1.trans (bQ.rd R5.out.1 R5.out.2.1),?_,bs2,R4.out.2.kp R5.out.2.1 bE⟩;rw[ie];exact R5.out.2.2
