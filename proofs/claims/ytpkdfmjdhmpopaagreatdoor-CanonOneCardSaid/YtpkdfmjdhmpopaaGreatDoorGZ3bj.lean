import Derived.Test.YtpkdfmjdhmpopaaGreatDoorGZ3bi
set_option linter.unusedVariables false
set_option linter.unusedSimpArgs false
set_option maxHeartbeats 64000000
set_option maxRecDepth 100000
namespace Go.Proofs.YtpkdfmjdhmpopaaGreatDoor
open Go.RowKit
variable {fin : Bool} {s : ByteArray} {f f' : Fr} {by_ dp ex : Int} {j : JV} {names : List ByteArray} {frs fs : List Fr} {bs maps top : List Nat} {xs : List UInt8} {B b c k lb n nd rb want xb : Nat} {tt : TypeId} {T U : TypeId -> Prop} {nv ov tx u v : Value} {w w' : World}
def DJ:List Fr->Nat
 | []=>7
 | f::_=>if f.obj then 6 else 5
theorem fj (frs:List Fr)(j:JV): (cC frs j).want=DJ (cC frs j).frs:=by
 cases frs with
 | nil=>rfl
 | cons f fs=>
  by_cases ho:f.obj=true
  ·rw [gW ho];simp [DJ,ho]
  ·rw [fo (by simpa using ho)];simp [DJ,ho]
theorem fv (h:iC B w rb lb xb v xs frs want k nd fin)(hB:B<=w.heap.size)(hl:frs.length<=4294967296):Calls Tryz.prog 148 #[.pointer (some ⟨rb,0,none⟩)] w (GR B rb lb xb v xs frs (DJ frs) k nd fin w):=by
 cases frs with
 | nil=>exact zx h hB
 | cons f fs=>exact wX h hB (by rw [List.length_cons] at hl;omega)
theorem jT.mono (h:jT B w b f)(hn:∀s,s∈jc f↔s∈jc f')(hl:f.mems.length+f.name.toList.length<=f'.mems.length+f'.name.toList.length):jT B w b f':=by
 obtain⟨h1,l,n,h2,h3,h4⟩:=h;exact⟨h1,l,n,h2,by omega,fun s=>(h4 s).trans (hn s)⟩
theorem iC.put (h:iC B w rb lb xb v xs frs want k nd fin)(hw:∀f fs,frs=f::fs->bZ f=false)(j:JV):iC B w rb lb xb v xs (cC frs j).frs want k nd fin:=by
 cases frs with
 | nil=>exact h
 | cons f fs=>
  obtain⟨by_,dp,ex,ov,nv,maps,h1,h2,h3,h4,h5,h6,h7,h8,h9,a0⟩:=h;have hf:=hw f fs rfl
  by_cases ho:f.obj=true
  ·rw [gW ho]
   have hs:∃s,f.name=some s:=by
    simp only [bZ,ho,Bool.true_and] at hf
    cases hn:f.name with
    | none=>rw [hn] at hf;cases hf
    | some s=>exact⟨s,rfl⟩
   obtain⟨s,hs⟩:=hs;refine⟨by_,dp,ex,ov,nv,maps,h1,h2,h3,h4,h5, ?_,h7, ?_,h9,a0⟩
   ·simpa [fE] using h6
   ·simp only [List.filter_cons,ho,if_true] at h8 ⊢
    cases maps with
    | nil=>have:=h8.1;simp at this
    | cons b maps=>
     refine⟨by simpa using h8.1,fun i x y q1 q2=> ?_⟩
     cases i with
     | zero=>
      simp at q1 q2;subst q1 q2;refine(h8.2 0 b f rfl rfl).mono (fun t=> ?_) (by simp [hs]);simp only [jc,hs,Option.toList_some,Option.toList_none,Option.getD_some,List.map_append,List.map_cons,List.map_nil,List.mem_append,List.mem_singleton,List.nil_append];exact Or.comm
     | succ i=>exact h8.2 (i+1) x y (by simpa using q1) (by simpa using q2)
  ·rw [fo (by simpa using ho)]
   refine⟨by_,dp,ex,ov,nv,maps,h1,h2,h3,h4,h5, ?_,h7, ?_,h9,a0⟩
   ·simpa [fE] using h6
   ·have e:∀g:Fr,g.obj=f.obj->List.filter (·.obj) (g::fs)=List.filter (·.obj) (f::fs):=fun g hg=>by
     have hb:f.obj=false:=by simpa using ho
     rw [List.filter_cons,List.filter_cons,hg,hb];simp
    show bB (jT B w) maps (List.filter (·.obj) ({f with items:=f.items ++ [j]}::fs))
    rw [e {f with items:=f.items ++ [j]} rfl];exact h8
theorem gE (frs:List Fr)(j:JV): (cC frs j).frs.length=frs.length:=by
 cases frs with
 | nil=>rfl
 | cons f fs=>
  by_cases ho:f.obj=true
  ·rw [gW ho];rfl
  ·rw [fo (by simpa using ho)];rfl
def PS (B rb lb xb:Nat)(v:Value)(xs:List UInt8)(c:de)(k nd:Nat)(fin:Bool)(w:World):Prop:=iC B w rb lb xb v xs c.frs c.want k nd fin/\∃bs,eW B w xb c.frs c.done bs
def TA (e:TypeId):Prop:=TB e\/lZ e
structure bW (B:Nat) (w w':World):Prop where
 b:Below B w w'
 k:aP TA w w'
theorem aP.imp (h:aP T w w')(hT:∀e,T e->U e):aP U w w':=⟨h.1,fun g cs e z hg he=>h.2 g cs e z hg (fun ht=>he (hT e ht))⟩
theorem bW.trans {a b c:World}(h:bW B a b)(k:bW B b c):bW B a c:=⟨h.b.trans k.b,h.k.trans k.k⟩
theorem bW.new (hb:Below w.heap.size w w')(hB:B<=w.heap.size):bW B w w':=⟨hb.mono hB,aP.of_below TA hb⟩
theorem bW.rd (hb:Below B w w')(hk:Kp lZ w w'):bW B w w':=⟨hb,hk.keeps.imp fun _ h=> .inr h⟩
theorem bW.tb (hb:Below B w w')(hk:Kp TB w w'):bW B w w':=⟨hb,hk.keeps.imp fun _ h=> .inl h⟩
def EI (B rb lb xb:Nat)(v:Value)(xs:List UInt8)(c:de)(k nd:Nat)(fin:Bool)(w:World)(e:Ending)(w':World):Prop:=e = .returned (.tuple #[])/\bW B w w'/\PS B rb lb xb v xs c k nd fin w'
theorem iK {t:Value}(hR:iC B w rb lb xb v xs frs 0 k nd false)(b6:eW B w xb frs none bs)(hT:jz frs)(hl:frs.length<=1000000000)(hn:nd<=1000000000)(hB:B<=w.heap.size)
  (c3:∀w,Calls Tryz.prog 149 #[t] w fun e w'=>e = .returned u/\Below w.heap.size w w') (b9:∀ (P:Nat->Prop) w,VW P w u j) (hu:u = .iface tt tx) (a1:∀W,(Instr.typeAssert (.iface tt tx) 131 50 true).run Tryz.prog W = .ok (.tuple #[.agg #[.bool false, .string ⟨#[]⟩, .int .i64 0], .bool false]) W):Calls Tryz.prog 111 #[.pointer (some ⟨rb,0,none⟩),t] w (EI B rb lb xb v xs (cC frs j) k (nd+1) false w):=by
 have b0:=hR;obtain⟨by_,dp,ex,ov,nv,maps,hA⟩:=b0;have c14:=aa hA.row (j:=14) (u:= .int .i64 0) rfl;have c5:=Qa (dX hR hl hn hB);have c7:=Qa b6;have HT:=Qa hT;have Hl:=Qa hl;have HB:=Qa hB;have d0:=Qa c3;have c9:=Qa b9;subst hu;clear hR b6 hT hl hB c3 b9 hA;go_enter Tryz.func111,Tryz.ntmps111;go_wp2_with fail;(with_reducible refine c5.out.mono ?_);rintro e w1 ⟨rfl,c1,b3,b4⟩;have a3:=c7.out.kp b3 bI;have R1:=Qa (And.intro (bW.rd c1 b3) (And.intro b4 a3));clear c1 b3 b4 a3 c14 c5;go_wp2_with fail;(with_reducible refine(d0.out _).mono ?_);rintro e w2 ⟨rfl,a4⟩;obtain⟨r1,r2,r3⟩:=R1.out;have c2:B<=w1.heap.size:=Zb HB.out r1.b.size;have R2:=Qa (And.intro (r1.trans (bW.new a4 c2)) (And.intro (r2.below a4) (r3.below a4)));clear a4 r1 r2 r3 c2 R1;go_wp2_with fail;obtain⟨w3,b2⟩:∃w3,w2.alloc (.cells #[.bool false, .string ⟨#[]⟩, .int .i64 0] 50)=w3:=⟨_,rfl⟩;have R3:=Qa (show bW B w w3/\iC B w3 rb lb xb v xs frs 0 k (nd+1) false/\eW B w3 xb frs none bs by
  have a9:=ac w2 (.cells #[.bool false, .string ⟨#[]⟩, .int .i64 0] 50);rw [b2] at a9;obtain⟨r1,r2,r3⟩:=R2.out;exact⟨r1.trans (bW.new a9 (Zb HB.out r1.b.size)),r2.below a9,r3.below a9⟩)
 rw [b2];clear b2 R2 a1;obtain⟨x1,x2,x3⟩:=R3.out;have b1:B<=w3.heap.size:=Zb HB.out x1.b.size;obtain⟨wr,a5⟩:∃wr,w3.drew=wr:=⟨_,rfl⟩;have a2:Below w3.heap.size w3 wr:=by rw [<- a5];exact(Zd _ _).drew
 have a7:=x2.below a2;have b5:=x3.below a2;have c6:=Qa (cZ a7 (by have:=Hl.out;omega));have c0:=Qa (ji (lv:=(frs.length:Int)+1) (by omega) b5 HT.out (c9.out (Pb B bs) wr) (Zb b1 a2.size));obtain⟨by2,dp2,ex2,ov2,nv2,maps2,b7⟩:=id a7;have C11:=Qa (aa b7.row (j:=11) (u:= .func (.func 58) #[.pointer (some ⟨xb,0,none⟩)] #[]) rfl);have a6:=Qa (And.intro (x1.trans (bW.new a2 b1)) a7);clear a2 a7 b5 b7 x1 x2 x3 b1 R3;refine cJ (fun w2=>w2.cell? ⟨rb,11,none⟩=some (.func (.func 58) #[.pointer (some ⟨xb,0,none⟩)] #[])) 9 ((by rw [a5];exact C11.out)) fun a0=> ?_
 rw [a5] at a0 ⊢;clear a5;refine tR 0 a0 ?_;refine tR 1 a0 ?_;refine tR 2 a0 ?_;refine tR 3 a0 ?_;refine tR 4 a0 ?_;refine tR 6 a0 ?_
 try simp only [Act.put,jP,jQ,jR]
 refine rZ 5 fun K hK=> ?_
 go_simp;(with_reducible refine c6.out.mono ?_);rintro e w' ⟨rfl,rfl⟩;go_wp2_with fail;refine hK.out _ _ (fun _=>a0) (fun a0=> ?_);clear hK K;have a0:=a0 (by decide)
 try simp only [Act.put,jP,jQ,jR]
 refine tR 7 a0 ?_;refine tR 8 a0 ?_
 try simp only [Act.put,jP,jQ,jR]
 refine rZ 9 fun K hK=> ?_
 go_simp;(with_reducible refine c0.out.mono ?_);rintro e w4 ⟨rfl,h1,h2,h3⟩;have R:=Qa (And.intro h1 (And.intro h2 h3));clear h1 h2 h3;go_wp2_with fail;refine hK.out _ _ (fun h=>absurd rfl h) (fun _=> ?_);clear hK K
 try simp only [Act.put,jP,jQ,jR]
 refine a8 (by kernel_rfl) (NoPanic.normal ?_) _;obtain⟨y1,y2,bs2,y3⟩:=R.out;have b8:=(a6.out.2.tb y2).put (fun f fs e=>(HT.out.2 f fs e).1) j;have c4:B<=w4.heap.size:=Zb (Zb HB.out a6.out.1.b.size) y1.size;have c8:=Qa (fv b8 c4 (by rw [gE];have:=Hl.out;omega));have R4:=Qa (And.intro (a6.out.1.trans (bW.tb y1 y2)) y3);clear y1 y2 y3 b8 c4 R a6 c6 c0 C11;go_wp2_with fail;(with_reducible refine c8.out.mono ?_);rintro e w5 ⟨rfl,h1,h2,h3⟩;have R5:=Qa (And.intro h1 (And.intro h2 h3));clear h1 h2 h3;go_wp2_with fail;go_end0;refine⟨rfl,R4.out.1.trans (bW.rd R5.out.1 R5.out.2.1), ?_,bs2,R4.out.2.kp R5.out.2.1 bI⟩;rw [fj];exact R5.out.2.2
theorem iD {t:Value}(hR:iC B w rb lb xb v xs frs 1 k nd false)(b6:eW B w xb frs none bs)(hT:jz frs)(hl:frs.length<=1000000000)(hn:nd<=1000000000)(hB:B<=w.heap.size)
  (c3:∀w,Calls Tryz.prog 149 #[t] w fun e w'=>e = .returned u/\Below w.heap.size w w') (b9:∀ (P:Nat->Prop) w,VW P w u j) (hu:u = .iface tt tx) (a1:∀W,(Instr.typeAssert (.iface tt tx) 131 50 true).run Tryz.prog W = .ok (.tuple #[.agg #[.bool false, .string ⟨#[]⟩, .int .i64 0], .bool false]) W):Calls Tryz.prog 111 #[.pointer (some ⟨rb,0,none⟩),t] w (EI B rb lb xb v xs (cC frs j) k (nd+1) false w):=by
 have b0:=hR;obtain⟨by_,dp,ex,ov,nv,maps,hA⟩:=b0;have c14:=aa hA.row (j:=14) (u:= .int .i64 1) rfl;have c5:=Qa (dX hR hl hn hB);have c7:=Qa b6;have HT:=Qa hT;have Hl:=Qa hl;have HB:=Qa hB;have d0:=Qa c3;have c9:=Qa b9;subst hu;clear hR b6 hT hl hB c3 b9 hA;go_enter Tryz.func111,Tryz.ntmps111;go_wp2_with fail;(with_reducible refine c5.out.mono ?_);rintro e w1 ⟨rfl,c1,b3,b4⟩;have a3:=c7.out.kp b3 bI;have R1:=Qa (And.intro (bW.rd c1 b3) (And.intro b4 a3));clear c1 b3 b4 a3 c14 c5;go_wp2_with fail;(with_reducible refine(d0.out _).mono ?_);rintro e w2 ⟨rfl,a4⟩;obtain⟨r1,r2,r3⟩:=R1.out;have c2:B<=w1.heap.size:=Zb HB.out r1.b.size;have R2:=Qa (And.intro (r1.trans (bW.new a4 c2)) (And.intro (r2.below a4) (r3.below a4)));clear a4 r1 r2 r3 c2 R1;go_wp2_with fail;obtain⟨w3,b2⟩:∃w3,w2.alloc (.cells #[.bool false, .string ⟨#[]⟩, .int .i64 0] 50)=w3:=⟨_,rfl⟩;have R3:=Qa (show bW B w w3/\iC B w3 rb lb xb v xs frs 1 k (nd+1) false/\eW B w3 xb frs none bs by
  have a9:=ac w2 (.cells #[.bool false, .string ⟨#[]⟩, .int .i64 0] 50);rw [b2] at a9;obtain⟨r1,r2,r3⟩:=R2.out;exact⟨r1.trans (bW.new a9 (Zb HB.out r1.b.size)),r2.below a9,r3.below a9⟩)
 rw [b2];clear b2 R2 a1;obtain⟨x1,x2,x3⟩:=R3.out;have b1:B<=w3.heap.size:=Zb HB.out x1.b.size;obtain⟨wr,a5⟩:∃wr,w3.drew=wr:=⟨_,rfl⟩;have a2:Below w3.heap.size w3 wr:=by rw [<- a5];exact(Zd _ _).drew
 have a7:=x2.below a2;have b5:=x3.below a2;have c6:=Qa (cZ a7 (by have:=Hl.out;omega));have c0:=Qa (ji (lv:=(frs.length:Int)+1) (by omega) b5 HT.out (c9.out (Pb B bs) wr) (Zb b1 a2.size));obtain⟨by2,dp2,ex2,ov2,nv2,maps2,b7⟩:=id a7;have C11:=Qa (aa b7.row (j:=11) (u:= .func (.func 58) #[.pointer (some ⟨xb,0,none⟩)] #[]) rfl);have a6:=Qa (And.intro (x1.trans (bW.new a2 b1)) a7);clear a2 a7 b5 b7 x1 x2 x3 b1 R3;refine cJ (fun w2=>w2.cell? ⟨rb,11,none⟩=some (.func (.func 58) #[.pointer (some ⟨xb,0,none⟩)] #[])) 9 ((by rw [a5];exact C11.out)) fun a0=> ?_
 rw [a5] at a0 ⊢;clear a5;refine tR 0 a0 ?_;refine tR 1 a0 ?_;refine tR 2 a0 ?_;refine tR 3 a0 ?_;refine tR 4 a0 ?_;refine tR 6 a0 ?_
 try simp only [Act.put,jP,jQ,jR]
 refine rZ 5 fun K hK=> ?_
 go_simp;(with_reducible refine c6.out.mono ?_);rintro e w' ⟨rfl,rfl⟩;go_wp2_with fail;refine hK.out _ _ (fun _=>a0) (fun a0=> ?_);clear hK K;have a0:=a0 (by decide)
 try simp only [Act.put,jP,jQ,jR]
 refine tR 7 a0 ?_;refine tR 8 a0 ?_
 try simp only [Act.put,jP,jQ,jR]
 refine rZ 9 fun K hK=> ?_
 go_simp;(with_reducible refine c0.out.mono ?_);rintro e w4 ⟨rfl,h1,h2,h3⟩;have R:=Qa (And.intro h1 (And.intro h2 h3));clear h1 h2 h3;go_wp2_with fail;refine hK.out _ _ (fun h=>absurd rfl h) (fun _=> ?_);clear hK K
 try simp only [Act.put,jP,jQ,jR]
 refine a8 (by kernel_rfl) (NoPanic.normal ?_) _;obtain⟨y1,y2,bs2,y3⟩:=R.out;have b8:=(a6.out.2.tb y2).put (fun f fs e=>(HT.out.2 f fs e).1) j;have c4:B<=w4.heap.size:=Zb (Zb HB.out a6.out.1.b.size) y1.size;have c8:=Qa (fv b8 c4 (by rw [gE];have:=Hl.out;omega));have R4:=Qa (And.intro (a6.out.1.trans (bW.tb y1 y2)) y3);clear y1 y2 y3 b8 c4 R a6 c6 c0 C11;go_wp2_with fail;(with_reducible refine c8.out.mono ?_);rintro e w5 ⟨rfl,h1,h2,h3⟩;have R5:=Qa (And.intro h1 (And.intro h2 h3));clear h1 h2 h3;go_wp2_with fail;go_end0;refine⟨rfl,R4.out.1.trans (bW.rd R5.out.1 R5.out.2.1), ?_,bs2,R4.out.2.kp R5.out.2.1 bI⟩;rw [fj];exact R5.out.2.2
theorem zl {t:Value}(hR:iC B w rb lb xb v xs frs 0 k nd false)(b8:eW B w xb frs none bs)(hT:jz frs)(hl:frs.length<=1000000000)(hn:nd<=1000000000)(hB:B<=w.heap.size)
  (c6:∀w,Calls Tryz.prog 149 #[t] w fun e w'=>e = .returned u/\Below w.heap.size w w') (c1:∀ (P:Nat->Prop) w,VW P w u j) (d:Dc) (hu:u = .iface 50 (.agg #[.bool d.neg, .string d.digits, .int .i64 d.exp])) (hd: -1000000000<=d.exp/\d.exp<=1000000000):Calls Tryz.prog 111 #[.pointer (some ⟨rb,0,none⟩),t] w (EI B rb lb xb v xs (cC frs j) k (nd+1) false w):=by
 have b2:=hR;obtain⟨by_,dp,ex,ov,nv,maps,hA⟩:=b2;have c14:=aa hA.row (j:=14) (u:= .int .i64 0) rfl;have c8:=Qa (dX hR hl hn hB);have d0:=Qa b8;have HT:=Qa hT;have Hl:=Qa hl;have HB:=Qa hB;have d4:=Qa c6;have d3:=Qa c1;subst hu;have d2:∀W,(Instr.typeAssert (.iface 50 (.agg #[.bool d.neg, .string d.digits, .int .i64 d.exp])) 131 50 true).run Tryz.prog W = .ok (.tuple #[.agg #[.bool d.neg, .string d.digits, .int .i64 d.exp], .bool true]) W:=fun W=>by kernel_rfl
 have sneg:IntKind.i64.wrap (-d.exp) = -d.exp:=IntWalk.i64_in _ (by omega);have Hd:=Qa hd;clear hR b8 hT hl hB c6 c1 hA hd;go_enter Tryz.func111,Tryz.ntmps111;go_wp2_with fail;(with_reducible refine c8.out.mono ?_);rintro e w1 ⟨rfl,c3,b5,b6⟩;have a5:=d0.out.kp b5 bI;have R1:=Qa (And.intro (bW.rd c3 b5) (And.intro b6 a5));clear c3 b5 b6 a5 c14 c8;go_wp2_with fail;(with_reducible refine(d4.out _).mono ?_);rintro e w2 ⟨rfl,a6⟩;obtain⟨r1,r2,r3⟩:=R1.out;have c4:B<=w1.heap.size:=Zb HB.out r1.b.size;have R2:=Qa (And.intro (r1.trans (bW.new a6 c4)) (And.intro (r2.below a6) (r3.below a6)));clear a6 r1 r2 r3 c4 R1;have c5:=Qa (my (R2.out.2.1.below (ac w2 (.cells #[.bool d.neg, .string d.digits, .int .i64 d.exp] 50))) (m:=5) (x:=max d.exp (-d.exp)) (by omega) (by have:=Hd.out;omega));go_wp2_with fail
 try rw [sneg]
 (with_reducible refine c5.out.mono ?_);rintro e w3 ⟨rfl,a1⟩;have a1:=bo (ac w2 (.cells #[.bool d.neg, .string d.digits, .int .i64 d.exp] 50)) a1;obtain⟨r1,r2,r3⟩:=R2.out;have b4:B<=w2.heap.size:=Zb HB.out r1.b.size;obtain⟨by9,dp9,ex9,ov9,nv9,maps9,b1⟩:=r2.below a1;have c10:=aa b1.row (j:=10) (u:= .int .i64 ex9) rfl;have f10:=aj b1.row 10;have a2:=Qa (b1.setExpo (Zb b4 a1.size) (max ex9 (max d.exp (-d.exp))));have R2b:=Qa (And.intro (r1.trans (bW.new a1 b4)) (r3.below a1));clear a1 r1 r2 r3 b4 b1 R2 c5;go_wp2_with fail;obtain⟨w3b,a3⟩:∃w3b,w3.setCell ⟨rb,10,none⟩ (.int .i64 (max ex9 (max d.exp (-d.exp))))=w3b:=⟨_,rfl⟩;rw [a3] at a2 ⊢;have R3:=Qa (show bW B w w3b/\iC B w3b rb lb xb v xs frs 0 k (nd+1) false/\eW B w3b xb frs none bs from⟨R2b.out.1.trans (bW.rd a2.out.1 a2.out.2.1),a2.out.2.2.s,R2b.out.2.kp a2.out.2.1 bI⟩);clear a3 c10 f10 a2 R2b;obtain⟨w3,rfl⟩:∃w3,w3=w3b:=⟨_,rfl⟩;obtain⟨x1,x2,x3⟩:=R3.out;have b3:B<=w3.heap.size:=Zb HB.out x1.b.size;obtain⟨wr,a7⟩:∃wr,w3.drew=wr:=⟨_,rfl⟩;have a4:Below w3.heap.size w3 wr:=by rw [<- a7];exact(Zd _ _).drew
 have b0:=x2.below a4;have b7:=x3.below a4;have c9:=Qa (cZ b0 (by have:=Hl.out;omega));have c2:=Qa (ji (lv:=(frs.length:Int)+1) (by omega) b7 HT.out (d3.out (Pb B bs) wr) (Zb b3 a4.size));obtain⟨by2,dp2,ex2,ov2,nv2,maps2,b9⟩:=id b0;have C11:=Qa (aa b9.row (j:=11) (u:= .func (.func 58) #[.pointer (some ⟨xb,0,none⟩)] #[]) rfl);have a9:=Qa (And.intro (x1.trans (bW.new a4 b3)) b0);clear a4 b0 b7 b9 x1 x2 x3 b3 R3;refine cJ (fun w2=>w2.cell? ⟨rb,11,none⟩=some (.func (.func 58) #[.pointer (some ⟨xb,0,none⟩)] #[])) 9 ((by rw [a7];exact C11.out)) fun a0=> ?_
 rw [a7] at a0 ⊢;clear a7;refine tR 0 a0 ?_;refine tR 1 a0 ?_;refine tR 2 a0 ?_;refine tR 3 a0 ?_;refine tR 4 a0 ?_;refine tR 6 a0 ?_
 try simp only [Act.put,jP,jQ,jR]
 refine rZ 5 fun K hK=> ?_
 go_simp;(with_reducible refine c9.out.mono ?_);rintro e w' ⟨rfl,rfl⟩;go_wp2_with fail;refine hK.out _ _ (fun _=>a0) (fun a0=> ?_);clear hK K;have a0:=a0 (by decide)
 try simp only [Act.put,jP,jQ,jR]
 refine tR 7 a0 ?_;refine tR 8 a0 ?_
 try simp only [Act.put,jP,jQ,jR]
 refine rZ 9 fun K hK=> ?_
 go_simp;(with_reducible refine c2.out.mono ?_);rintro e w4 ⟨rfl,h1,h2,h3⟩;have R:=Qa (And.intro h1 (And.intro h2 h3));clear h1 h2 h3;go_wp2_with fail;refine hK.out _ _ (fun h=>absurd rfl h) (fun _=> ?_);clear hK K
 try simp only [Act.put,jP,jQ,jR]
 refine a8 (by kernel_rfl) (NoPanic.normal ?_) _;obtain⟨y1,y2,bs2,y3⟩:=R.out;have c0:=(a9.out.2.tb y2).put (fun f fs e=>(HT.out.2 f fs e).1) j;have c7:B<=w4.heap.size:=Zb (Zb HB.out a9.out.1.b.size) y1.size;have d1:=Qa (fv c0 c7 (by rw [gE];have:=Hl.out;omega));have R4:=Qa (And.intro (a9.out.1.trans (bW.tb y1 y2)) y3);clear y1 y2 y3 c0 c7 R a9 c9 c2 C11;go_wp2_with fail;(with_reducible refine d1.out.mono ?_);rintro e w5 ⟨rfl,h1,h2,h3⟩;have R5:=Qa (And.intro h1 (And.intro h2 h3));clear h1 h2 h3;go_wp2_with fail;go_end0;refine⟨rfl,R4.out.1.trans (bW.rd R5.out.1 R5.out.2.1), ?_,bs2,R4.out.2.kp R5.out.2.1 bI⟩;rw [fj];exact R5.out.2.2
theorem yr {t:Value}(hR:iC B w rb lb xb v xs frs 1 k nd false)(b8:eW B w xb frs none bs)(hT:jz frs)(hl:frs.length<=1000000000)(hn:nd<=1000000000)(hB:B<=w.heap.size)
  (c6:∀w,Calls Tryz.prog 149 #[t] w fun e w'=>e = .returned u/\Below w.heap.size w w') (c1:∀ (P:Nat->Prop) w,VW P w u j) (d:Dc) (hu:u = .iface 50 (.agg #[.bool d.neg, .string d.digits, .int .i64 d.exp])) (hd: -1000000000<=d.exp/\d.exp<=1000000000):Calls Tryz.prog 111 #[.pointer (some ⟨rb,0,none⟩),t] w (EI B rb lb xb v xs (cC frs j) k (nd+1) false w):=by
 have b2:=hR;obtain⟨by_,dp,ex,ov,nv,maps,hA⟩:=b2;have c14:=aa hA.row (j:=14) (u:= .int .i64 1) rfl;have c8:=Qa (dX hR hl hn hB);have d0:=Qa b8;have HT:=Qa hT;have Hl:=Qa hl;have HB:=Qa hB;have d4:=Qa c6;have d3:=Qa c1;subst hu;have d2:∀W,(Instr.typeAssert (.iface 50 (.agg #[.bool d.neg, .string d.digits, .int .i64 d.exp])) 131 50 true).run Tryz.prog W = .ok (.tuple #[.agg #[.bool d.neg, .string d.digits, .int .i64 d.exp], .bool true]) W:=fun W=>by kernel_rfl
 have sneg:IntKind.i64.wrap (-d.exp) = -d.exp:=IntWalk.i64_in _ (by omega);have Hd:=Qa hd;clear hR b8 hT hl hB c6 c1 hA hd;go_enter Tryz.func111,Tryz.ntmps111;go_wp2_with fail;(with_reducible refine c8.out.mono ?_);rintro e w1 ⟨rfl,c3,b5,b6⟩;have a5:=d0.out.kp b5 bI;have R1:=Qa (And.intro (bW.rd c3 b5) (And.intro b6 a5));clear c3 b5 b6 a5 c14 c8;go_wp2_with fail;(with_reducible refine(d4.out _).mono ?_);rintro e w2 ⟨rfl,a6⟩;obtain⟨r1,r2,r3⟩:=R1.out;have c4:B<=w1.heap.size:=Zb HB.out r1.b.size;have R2:=Qa (And.intro (r1.trans (bW.new a6 c4)) (And.intro (r2.below a6) (r3.below a6)));clear a6 r1 r2 r3 c4 R1;have c5:=Qa (my (R2.out.2.1.below (ac w2 (.cells #[.bool d.neg, .string d.digits, .int .i64 d.exp] 50))) (m:=5) (x:=max d.exp (-d.exp)) (by omega) (by have:=Hd.out;omega));go_wp2_with fail
 try rw [sneg]
 (with_reducible refine c5.out.mono ?_);rintro e w3 ⟨rfl,a1⟩;have a1:=bo (ac w2 (.cells #[.bool d.neg, .string d.digits, .int .i64 d.exp] 50)) a1;obtain⟨r1,r2,r3⟩:=R2.out;have b4:B<=w2.heap.size:=Zb HB.out r1.b.size;obtain⟨by9,dp9,ex9,ov9,nv9,maps9,b1⟩:=r2.below a1;have c10:=aa b1.row (j:=10) (u:= .int .i64 ex9) rfl;have f10:=aj b1.row 10;have a2:=Qa (b1.setExpo (Zb b4 a1.size) (max ex9 (max d.exp (-d.exp))));have R2b:=Qa (And.intro (r1.trans (bW.new a1 b4)) (r3.below a1));clear a1 r1 r2 r3 b4 b1 R2 c5;go_wp2_with fail;obtain⟨w3b,a3⟩:∃w3b,w3.setCell ⟨rb,10,none⟩ (.int .i64 (max ex9 (max d.exp (-d.exp))))=w3b:=⟨_,rfl⟩;rw [a3] at a2 ⊢;have R3:=Qa (show bW B w w3b/\iC B w3b rb lb xb v xs frs 1 k (nd+1) false/\eW B w3b xb frs none bs from⟨R2b.out.1.trans (bW.rd a2.out.1 a2.out.2.1),a2.out.2.2.s,R2b.out.2.kp a2.out.2.1 bI⟩);clear a3 c10 f10 a2 R2b;obtain⟨w3,rfl⟩:∃w3,w3=w3b:=⟨_,rfl⟩;obtain⟨x1,x2,x3⟩:=R3.out;have b3:B<=w3.heap.size:=Zb HB.out x1.b.size;obtain⟨wr,a7⟩:∃wr,w3.drew=wr:=⟨_,rfl⟩;have a4:Below w3.heap.size w3 wr:=by rw [<- a7];exact(Zd _ _).drew
 have b0:=x2.below a4;have b7:=x3.below a4;have c9:=Qa (cZ b0 (by have:=Hl.out;omega));have c2:=Qa (ji (lv:=(frs.length:Int)+1) (by omega) b7 HT.out (d3.out (Pb B bs) wr) (Zb b3 a4.size));obtain⟨by2,dp2,ex2,ov2,nv2,maps2,b9⟩:=id b0;have C11:=Qa (aa b9.row (j:=11) (u:= .func (.func 58) #[.pointer (some ⟨xb,0,none⟩)] #[]) rfl);have a9:=Qa (And.intro (x1.trans (bW.new a4 b3)) b0);clear a4 b0 b7 b9 x1 x2 x3 b3 R3;refine cJ (fun w2=>w2.cell? ⟨rb,11,none⟩=some (.func (.func 58) #[.pointer (some ⟨xb,0,none⟩)] #[])) 9 ((by rw [a7];exact C11.out)) fun a0=> ?_
 rw [a7] at a0 ⊢;clear a7;refine tR 0 a0 ?_;refine tR 1 a0 ?_;refine tR 2 a0 ?_;refine tR 3 a0 ?_;refine tR 4 a0 ?_;refine tR 6 a0 ?_
 try simp only [Act.put,jP,jQ,jR]
 refine rZ 5 fun K hK=> ?_
 go_simp;(with_reducible refine c9.out.mono ?_);rintro e w' ⟨rfl,rfl⟩;go_wp2_with fail;refine hK.out _ _ (fun _=>a0) (fun a0=> ?_);clear hK K;have a0:=a0 (by decide)
 try simp only [Act.put,jP,jQ,jR]
 refine tR 7 a0 ?_;refine tR 8 a0 ?_
 try simp only [Act.put,jP,jQ,jR]
 refine rZ 9 fun K hK=> ?_
 go_simp;(with_reducible refine c2.out.mono ?_);rintro e w4 ⟨rfl,h1,h2,h3⟩;have R:=Qa (And.intro h1 (And.intro h2 h3));clear h1 h2 h3;go_wp2_with fail;refine hK.out _ _ (fun h=>absurd rfl h) (fun _=> ?_);clear hK K
 try simp only [Act.put,jP,jQ,jR]
 refine a8 (by kernel_rfl) (NoPanic.normal ?_) _;obtain⟨y1,y2,bs2,y3⟩:=R.out;have c0:=(a9.out.2.tb y2).put (fun f fs e=>(HT.out.2 f fs e).1) j;have c7:B<=w4.heap.size:=Zb (Zb HB.out a9.out.1.b.size) y1.size;have d1:=Qa (fv c0 c7 (by rw [gE];have:=Hl.out;omega));have R4:=Qa (And.intro (a9.out.1.trans (bW.tb y1 y2)) y3);clear y1 y2 y3 c0 c7 R a9 c9 c2 C11;go_wp2_with fail;(with_reducible refine d1.out.mono ?_);rintro e w5 ⟨rfl,h1,h2,h3⟩;have R5:=Qa (And.intro h1 (And.intro h2 h3));clear h1 h2 h3;go_wp2_with fail;go_end0;refine⟨rfl,R4.out.1.trans (bW.rd R5.out.1 R5.out.2.1), ?_,bs2,R4.out.2.kp R5.out.2.1 bI⟩;rw [fj];exact R5.out.2.2
open Go.Maps
theorem Mv.of_keeps (h:aP T w w')(hT:∀e,TV e->¬T e):Mv top w w':=⟨h.1,fun g cs e z hg he _=>h.2 g cs e z hg (hT e he)⟩
theorem eW.keeps {done:Option JV}(h:eW B w xb frs done bs)(hk:aP T w w')(hT:∀e,TB e->¬T e):eW B w' xb frs done bs:=by
 obtain⟨pv,dv,us,h1,h2,h3,h4,h5,h6,h7⟩:=h;have hm:Mv [] w w':=Mv.of_keeps hk (fun e he=>hT e (.inl he));have a0:∀g∈bs,g∈bs\/w.heap.size<=g:=fun g h=> .inl h
 exact⟨pv,dv,us,hk.2 _ _ _ _ h1 (hT _ (.inr (.inl rfl))),h2,al h3 hk (hT _ (.inr (.inr rfl))),h4.mono fun _ _ h=>h.move hm (by simp) a0 (by simp),h5,h6,h7.move hm (by simp) a0⟩
theorem pQ {es:Array MapEntry}(hg:w.grownBy w' (some b))(hb:w.heap[b]?=some (.map es c)):aP (fun _=>False) w w':=
 aP.of_grown hg fun g e cs t z hh=>by
  obtain rfl:=Zh e;rw [hb] at hh
  cases hh
theorem dV.map (h:dV w b names n):∃es c,w.heap[b]?=some (.map es c):=by
 obtain⟨D,⟨es,c,hh, -⟩, -⟩:=h;exact⟨es,c,hh⟩
theorem iz.named {l:List ByteArray}(h:iz B w rb lb xb v xs (f::fs) want k nd fin by_ dp ex ov nv (b::maps))(ho:f.obj=true)(hn:f.name=none)(hl:∀t,t∈l↔t∈jc f)(hnl:n<=f.mems.length)
  (hs:dV w' b (s::l) (n+1)) (hg:w.grownBy w' (some b)):iz B w' rb lb xb v xs ({f with name:=some s}::fs) want k nd fin by_ dp ex ov nv (b::maps):=by
 obtain⟨h1,h2,h3,h4,h5,h6,h7,h8,h9,a2⟩:=h;simp only [List.filter_cons,ho,if_true] at h8;obtain⟨a1,l0,n0,a3, -⟩:=h8.2 0 b f rfl rfl;obtain⟨es,c,hh⟩:=a3.map;have hk:=pQ hg hh;have a0:au w' B v xs:=al h5 hk (fun h=>h);refine⟨hk.2 _ _ _ _ h1 (fun h=>h),h2,⟨hk.2 _ _ _ _ h3.1 (fun h=>h),au.bs a0⟩,h4,a0, ?_,al h7 hk (fun h=>h), ?_,h9,a2⟩
 ·have:=al h6 hk (fun h=>h)
  simpa [fE] using this
 ·simp only [List.filter_cons,ho,if_true]
  refine⟨by simpa using h8.1,fun i x y q1 q2=> ?_⟩
  cases i with
  | zero=>
   simp at q1 q2;subst q1 q2;refine⟨a1,s::l,n+1,hs,by simp;omega,fun t=> ?_⟩;have:=hl t;simp only [jc,hn,Option.toList_none,List.nil_append,Option.toList_some,List.cons_append,List.mem_cons] at this ⊢;rw [this]
  | succ i=>
   obtain⟨z1,z2,z3,z4,z5⟩:=h8.2 (i+1) x y (by simpa using q1) (by simpa using q2);refine⟨z1,z2,z3,z4.grown hg fun e=> ?_,z5⟩;obtain rfl:=Zh e;exact(List.nodup_cons.1 h9).1 (Zk (by simpa using q1))
theorem BB {p:Int}(hR:iC B w rb lb xb v xs (f::fs) want k nd false)(d1:eW B w xb (f::fs) none bs)(ho:f.obj=true)(b5:f.name=none)(d6:s∉f.mems.map Prod.fst)(hs:s.size<=4294967296)(hl:fs.length<=1000000000)(hm:f.mems.length<=1000000000)(hB:B<=w.heap.size):Calls Tryz.prog 110 #[.pointer (some ⟨rb,0,none⟩), .agg #[.int .i64 p, .string s]] w (EI B rb lb xb v xs ⟨{f with name:=some s}::fs,4,none⟩ k nd false w):=by
 have b1:=ac w (.cells #[.int .i64 p, .string s] 242);obtain⟨w1,c1⟩:∃w1,w.alloc (.cells #[.int .i64 p, .string s] 242)=w1:=⟨_,rfl⟩;have c4:=Qa (Ze w (.cells #[.int .i64 p, .string s] 242));rw [c1] at b1 c4;obtain⟨by_,dp,ex,ov,nv,maps,hA⟩:=hR.below b1;have a1:=hA.seen;simp only [List.filter_cons,ho,if_true] at a1
 cases maps with
 | nil=>have:=a1.1;simp at this
 | cons b maps=>
 obtain⟨f6,l,n,e5,hn,c6⟩:=a1.2 0 b f rfl rfl;have hnl:n<=f.mems.length:=by simpa [b5] using hn
 have d0:l.any (fun t=>decide (t=s))=false:=by
  rw [List.any_eq_false];intro t ht;have h1:=(c6 t).1 ht;simp only [jc,b5,Option.toList_none,List.nil_append] at h1;simp only [decide_eq_true_eq];rintro rfl;exact d6 h1
 have b6:=hA.names;obtain⟨A,q,rfl, -, -,d9⟩:=ag b6;obtain⟨g,rfl⟩:=d9 (by simp);obtain⟨m,b4⟩:∃m,maps.length=m:=⟨_,rfl⟩;rw [List.length_cons,b4] at b6;have cg:=World.ownsRow.cellAt b6 m (by omega);rw [List.reverse_cons,List.map_append,List.getElem?_append_right (by simp;omega),List.length_map,List.length_reverse,b4,Nat.sub_self] at cg;replace cg:w1.cell? ⟨g,m,none⟩=some (.map (some b)):=cg;have g0:m<=fs.length:=by
  have h1:=a1.1;have h2:=List.length_filter_le (fun g:Fr=>g.obj) fs;simp at h1;omega
 have c13:=aa hA.row (j:=13) (u:= .slice (some ⟨g,0,none⟩) (m+1) q) (by rw [<- b4];rfl);have e1:=aa c4.out (j:=1) (u:= .string s) rfl;have s1:IntKind.i64.wrap (m:Int)= (m:Int):=IntWalk.i64_in _ (by omega);have f5: (m:Int)< (m:Int)+1:=by omega
 have HA:=Qa hA;have e8:=Qa (d1.below b1);have HB:=Qa hB;have g4:=Qa b1;have f9:=Qa e5;have f2:=Qa c6;have f8:=Qa d0;have d5:=Qa (show s.size<=maxLen by unfold maxLen;omega);have g2:=Qa (show n<maxLen by unfold maxLen;omega);have f3:=Qa hnl;have Hl:=Qa hl;have g5:=Qa hm;clear hR hA a1 e5 hn c6 hnl d0 b6 d9 b4 g0 hB b1 hs d1 f6 d6 hm hl;go_enter Tryz.func110,Tryz.ntmps110;go_wp2_with fail
 try rw [c1]
 go_quiet (fail);obtain⟨wd,c2⟩:∃wd,w1.drewN nq=wd:=⟨_,rfl⟩;have a2:Below w1.heap.size w1 wd:=by rw [<- c2];exact aD (Zd _ _) nq
 have d2:=Qa (HA.out.below a2);have b9:=Qa (e8.out.below a2);have c8:=Qa (ai c4.out a2);have e2:=Zf a2 e1;have a3:=Qa (f9.out.kp (Kp.of_below (fun _=>False) a2));have a9:=a3.out.look d5.out;rw [f8.out] at a9;have b8:=Qa (bo g4.out a2);rw [c2];clear c13 cg e1 a2 c2 c1;go_wp2_with (at_mapUpdate;refine uI a3.out d5.out g2.out rfl (.tmp 28) (.tmp 30) _ rfl (by simp [Act.eval]) (by simp [Act.eval]) (by simp [Act.eval]) ?_;intro w5 p1 p2;have b2:=d2.out.named ho b5 f2.out f3.out p1 p2.grown;obtain⟨es5,cl5,e4⟩:=a3.out.map;have b7:=pQ p2.grown e4;have c14:=aa b2.row (j:=14) (u:= .int .i64 want) rfl;have f14:=aj b2.row 14;have e6:=Qa b2;have c5:=Qa (b9.out.keeps b7 (fun _ _ h=>h));have c9:=Qa (b7.2 _ _ _ _ c8.out (fun h=>h));have f0:=Qa p2.grown;have f4:=Qa b7;clear p1 p2 b2 e4 b7);have e3:B<=b:=by
  have a1:=d2.out.seen;simp only [List.filter_cons,ho,if_true] at a1;exact(a1.2 0 b f rfl rfl).1
 have c0:Below B w w5:=(b8.out.mono HB.out).trans ((bl.grown f0.out).below (Zb HB.out b8.out.size) fun i e=>by
  obtain rfl:=Zh e;exact e3)
 have a7:B<=w5.heap.size:=Zb HB.out c0.size;have a4:=Qa (e6.out.setWant a7 4 (z:=4) rfl);have g1:w5.heap.size= (w5.setCell ⟨rb,14,none⟩ (.int .i64 4)).heap.size:=by simp
 obtain⟨w6,e0⟩:∃w6,w5.setCell ⟨rb,14,none⟩ (.int .i64 4)=w6:=⟨_,rfl⟩;rw [e0] at a4 ⊢;have c3:=Qa (show bW B w w6 from(⟨c0,(aP.of_below TA b8.out).trans (f4.out.imp fun _ h=>h.elim)⟩:bW B w w5).trans (bW.rd a4.out.1 a4.out.2.1));have c7:=Qa (c5.out.kp a4.out.2.1 bI);have a6:w6.heap[w.heap.size]?=some (.cells #[.int .i64 p, .string s] 242 (0,0)):=a4.out.2.1.heap c9.out (by simp only [lZ];decide);have d3:=a4.out.2.2;obtain⟨wr,b3⟩:∃wr,w6.drew=wr:=⟨_,rfl⟩;have a5:Below w6.heap.size w6 wr:=by rw [<- b3];exact(Zd _ _).drew
 have b0:=d3.below a5;obtain⟨A12,q12,f1, -⟩:=ag b0.opens;subst f1;obtain⟨m9,d4⟩:∃m9,fs.length=m9:=⟨_,rfl⟩;have C11:=Qa (aa b0.row (j:=11) (u:= .func (.func 58) #[.pointer (some ⟨xb,0,none⟩)] #[]) rfl);have C12:=Qa (aa b0.row (j:=12) (u:= .slice A12 (m9+1) q12) (by rw [<- d4];rfl));have E1:=Qa (aa (ai a6 a5) (j:=1) (u:= .string s) rfl);have g3:=Qa (yx (lv:=(m9:Int)+1) (s:=s) (by omega) (c7.out.below a5) ho b5 (by have:=Hl.out;omega) (Zb (Zb HB.out c3.out.b.size) a5.size));have Hr:=Qa (And.intro (c3.out.trans (bW.new a5 (Zb HB.out c3.out.b.size))) b0);clear c14 f14 a5 b0 a6 d3 e0 g1 a7 c0 e3 d4;refine cJ (fun w2=>w2.cell? ⟨rb,11,none⟩=some (.func (.func 58) #[.pointer (some ⟨xb,0,none⟩)] #[])/\w2.cell? ⟨rb,12,none⟩=some (.slice A12 (m9+1) q12)/\w2.cell? ⟨w.heap.size,1,none⟩=some (.string s)) 13 ((by rw [b3];exact⟨C11.out,C12.out,E1.out⟩)) fun a0=> ?_
 rw [b3] at a0 ⊢;clear b3;refine tR 0 a0 ?_;refine tR 1 a0 ?_;refine tR 2 a0 ?_;refine tR 3 a0 ?_;refine tR 4 a0 ?_;refine tR 5 a0 ?_
 try simp only [Act.put,jP,jQ,jR]
 refine tR 6 a0 ?_;refine tR 7 a0 ?_;refine tR 8 a0 ?_;refine tR 9 a0 ?_;refine tR 10 a0 ?_;refine tR 11 a0 ?_
 try simp only [Act.put,jP,jQ,jR]
 refine tR 12 a0 ?_
 try simp only [Act.put,jP,jQ,jR]
 refine rZ 13 fun K hK=> ?_
 go_simp;(with_reducible refine g3.out.mono ?_);rintro e w4 ⟨rfl,h1,h2,h3⟩;have R:=Qa (And.intro h1 (And.intro h2 h3));clear h1 h2 h3;go_wp2_with fail;refine hK.out _ _ (fun h=>absurd rfl h) (fun _=> ?_);clear hK K
 try simp only [Act.put,jP,jQ,jR]
 refine a8 (by kernel_rfl) (NoPanic.normal ?_) _;go_end0;obtain⟨y1,y2,y3⟩:=R.out;exact⟨rfl,Hr.out.1.trans (bW.tb y1 y2),Hr.out.2.s.tb y2,y3⟩
