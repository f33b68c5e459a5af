import Derived.Test.YtpkdfmjdhmpopaaGreatDoorGZ3bk
set_option linter.unusedVariables false
set_option linter.unusedSimpArgs false
set_option maxHeartbeats 64000000
set_option maxRecDepth 100000
namespace Go.Proofs.YtpkdfmjdhmpopaaGreatDoor
open Go.RowKit
variable {fin : Bool} {f : Fr} {by_ dp ex : Int} {frs fs nfr : List Fr} {bs maps : List Nat} {xs : List UInt8} {B i k lb n nd nd' q rb want xb : Nat} {A : Option Addr} {e : TypeId} {nv ov v x : Value} {w : World}
theorem oV {L:List UInt8}{y c:UInt8}(h:L[i]?=some y): (L.take (i+1)).contains c= ((L.take i).contains c||c==y):=by
 rw [List.take_add_one,h];rw [Bool.eq_iff_iff];simp [List.contains_eq_mem]
theorem BZ:dM 23 3 (.int .i64 0) 1 8:=⟨Tryz.underlying23,by kernel_rfl,rfl,by decide⟩
theorem FD:dM 181 283 (.map none) 1 8:=⟨Tryz.underlying181,by kernel_rfl,rfl,by decide⟩
theorem jN.pushName {ofr:List Fr}(h:jN B w rb lb xb v xs ofr nfr want k nd fin by_ dp ex ov nv maps)(hB:B<=w.heap.size){z:Nat}(hz:w.heap.size=z){W8:World}(hW: ((w.alloc (.map #[] 0)).alloc (.cells #[.map (some z)] 283))=W8) :
  W8.ownsRow B 283 1 nv maps.length (maps.reverse.map rX)/\Below w.heap.size w W8/\(∀j u, [Value.map (some z)][j]?=some u->W8.cell? ⟨z+1,j,none⟩=some u)/\∀w9 nv',W8.grownBy w9 nv.ownBlock->w9.ownsRow B 283 1 nv' (maps.length+1) (maps.reverse.map rX ++ [.map (some z)])->
   w9.heap[rb]?=some (.cells (dH lb xb by_ dp nd ex ov nv want fin) 183 (0,0))/\Below B W8 (w9.setCell ⟨rb,13,none⟩ nv')/\Kp lZ W8 (w9.setCell ⟨rb,13,none⟩ nv')/\jN B (w9.setCell ⟨rb,13,none⟩ nv') rb lb xb v xs ofr (⟨true, [], [],none⟩::nfr) want k nd fin by_ dp ex ov nv' (z::maps):=by
 subst hz;have a2:=ac w (.map #[] 0);have a0:=ac (w.alloc (.map #[] 0)) (.cells #[.map (some w.heap.size)] 283);rw [hW] at a0;have hb:=bo a2 a0;have h8:=h.below hb;have a1:dV W8 w.heap.size [] 0:=(dV.made w).kp (Kp.of_below (fun _=>False) a0);have hlt:∀b∈maps,b<w.heap.size:=fun b hb=>by
  obtain⟨i,hi,rfl⟩:=List.getElem_of_mem hb;have hl:=h.seen.1;obtain⟨-,l,n,hs, -⟩:=h.seen.2 i maps[i] ((nfr.filter (·.obj))[i]'(by omega)) (Zc hi) (Zc _);exact hs.lt
 have hcn:=av (w.alloc (.map #[] 0)) [.map (some w.heap.size)] 283;rw [World.size_alloc] at hcn;refine⟨h8.names,hb,by rw [<- hW];exact hcn,fun w9 nv' hg hp=> ?_⟩;have a3:=aJ h8.row hg (aR h8.names h8.row (by decide));have hs:=h8.setNames (Zb hB hb.size) (bl.grown hg) (fun g h=>h) (nv':=nv') (maps':=w.heap.size::maps) (nfr':=⟨true, [], [],none⟩::nfr) (by rw [List.length_cons,List.reverse_cons,List.map_append];exact hp) (List.nodup_cons.2 ⟨fun hm=>Nat.lt_irrefl _ (hlt _ hm),h8.nodup⟩) (fun w10 hk _=>by
  simp only [List.filter_cons,if_true];refine bB.cons ⟨hB, [],0,a1.kp hk,Zj _,fun s=>by simp [jc]⟩ (jN.seens h8.seen hk))
 exact⟨a3,hs⟩
theorem qh {xs:List Value}(h:w.ownsRow B e 1 (.slice A (n+1) q) (n+1) (xs ++ [x]))(hx:xs.length=n):w.ownsRow B e 1 (.slice A n q) n xs:=kf h (by rw [hx,Nat.mul_one])
theorem jN.topOpen (h:jN B w rb lb xb v xs (f::fs) nfr want k nd fin by_ dp ex ov nv maps):∃g q,ov = .slice (some ⟨g,0,none⟩) (fs.length+1) q/\w.cell? ⟨g,fs.length,none⟩=some (.int .i64 (if f.obj then 6 else 5))/\fs.length+1<=q:=by
 have ho:=h.opens;rw [List.length_cons] at ho;obtain⟨A,q,rfl,hq, -,hA⟩:=ag ho;obtain⟨g,rfl⟩:=hA (by omega);have cg:=World.ownsRow.cellAt ho fs.length (by omega);rw [List.reverse_cons,List.map_append,List.getElem?_append_right (by simp),List.length_map,List.length_reverse,Nat.sub_self] at cg;exact⟨g,q,rfl,cg,hq⟩
theorem iz.topKind (h:iz B w rb lb xb v xs (f::fs) want k nd fin by_ dp ex ov nv maps):∃g q,ov = .slice (some ⟨g,0,none⟩) (fs.length+1) q/\w.cell? ⟨g,fs.length,none⟩=some (.int .i64 (if f.obj then 6 else 5))/\fs.length+1<=q:=by
 have ho:=h.opens;rw [List.length_cons] at ho;obtain⟨A,q,rfl,hq, -,hA⟩:=ag ho;obtain⟨g,rfl⟩:=hA (by omega);have cg:=World.ownsRow.cellAt ho fs.length (by omega);rw [List.reverse_cons,List.map_append,List.getElem?_append_right (by simp),List.length_map,List.length_reverse,Nat.sub_self] at cg;exact⟨g,q,rfl,cg,hq⟩
inductive jD (nd:Nat):Int->UInt8->List Fr->de->Nat->Prop
 | colon (frs:List Fr):jD nd 58 58 frs ⟨frs,0,none⟩ nd
 | comma5 (f:Fr) (fs:List Fr) (ho:f.obj=false) (hl:fs.length<=4294967296):jD nd 44 44 (f::fs) ⟨f::fs,0,none⟩ nd
 | comma6 (f:Fr) (fs:List Fr) (ho:f.obj=true) (hl:fs.length<=4294967296):jD nd 44 44 (f::fs) ⟨f::fs,2,none⟩ nd
 | open5 (frs:List Fr) (hl:frs.length<=1000000000) (hn:nd<=1000000000) (hlk:∀f fs,frs=f::fs->bZ f=false):jD nd 91 91 frs ⟨⟨false, [], [],none⟩::frs,1,none⟩ (nd+1)
 | open6 (frs:List Fr) (hl:frs.length<=1000000000) (hn:nd<=1000000000) (hlk:∀f fs,frs=f::fs->bZ f=false):jD nd 123 123 frs ⟨⟨true, [], [],none⟩::frs,3,none⟩ (nd+1)
 | close5 (f:Fr) (fs:List Fr) (ho:f.obj=false) (hnn:f.name=none) (hfo:f.ok jU) (hi:f.items.length<=4294967296) (hmi:f.mems.length<=4294967296) (hTB:jz fs) (hl:fs.length<=1000000000):jD nd 93 93 (f::fs) (cC fs (dK f)) nd
 | close6 (f:Fr) (fs:List Fr) (ho:f.obj=true) (hnn:f.name=none) (hfo:f.ok jU) (hi:f.items.length<=4294967296) (hmi:f.mems.length<=4294967296) (hTB:jz fs) (hl:fs.length<=1000000000):jD nd 125 125 (f::fs) (cC fs (dK f)) nd
theorem jD.eq {z:Int}{c:UInt8}{C:de}(h:jD nd z c frs C nd'):z=c.toNat:=by cases h <;> rfl
theorem fy {p z:Int}{c:UInt8}{C:de}(hM:jZ w)(hw:want<8)(c2:wE want c=true)(hR:iC B w rb lb xb v xs frs want k nd false)(n2:eW B w xb frs none bs)(hB:B<=w.heap.size)(hc:jD nd z c frs C nd'):Calls Tryz.prog 109 #[.pointer (some ⟨rb,0,none⟩), .agg #[.int .i64 p, .int .u8 z]] w (EI B rb lb xb v xs C k nd' false w):=by
 have f8:=ac w (.cells #[.int .i64 p, .int .u8 z] 239);obtain⟨w1,n6⟩:∃w1,w.alloc (.cells #[.int .i64 p, .int .u8 z] 239)=w1:=⟨_,rfl⟩;have j3:=Qa (Ze w (.cells #[.int .i64 p, .int .u8 z] 239));rw [n6] at f8 j3;have HR:=Qa (hR.below f8);have n1:=Qa (n2.below f8);have HM:=Qa (hM.below f8);have HB:=Qa hB;have q7:=Qa f8;have Hz:=Qa hc.eq;have m9:=Qa hc;obtain⟨by_,dp,ex,ov,nv,maps,hA⟩:=HR.out;have HA:=Qa hA;have c14:=aa hA.row (j:=14) (u:= .int .i64 want) rfl;have m0:=HM.out want hw;rw [Fw] at c2;obtain⟨L,hL⟩:∃L,y8 want=L:=⟨_,rfl⟩;have q4:L.length<=3:=by rw [<- hL];have:∀i,i<8->(y8 i).length<=3:=(by decide);exact this want hw
 rw [hL] at m0 c2;have m5:=Qa c2;have m4:=Qa (show((⟨L.toArray⟩:ByteArray)).size=L.length by simp [ByteArray.size]);have n8: (want:Int)<8:=by omega
 clear hM hR n2 hB f8 hA hL c2 hw hc;go_enter Tryz.func109,Tryz.ntmps109;go_wp2_with fail;have HX:=Qa (True.intro)
 go_loopg [4,14] L.length (fun m s4 s14 wr=> ∃i:Nat,m+i=L.length/\s14 = .int .i64 i/\s4 = .bool ((L.take i).contains c)/\Below w1.heap.size w1 wr)
 case atStart=>exact⟨0,rfl,rfl,rfl,Zd _ _⟩
 case round=>
  obtain⟨i,c7,rfl,rfl,hb⟩:=hrel;have Hb:=Qa hb;have Hmi:=Qa c7;have d14:=Zf hb c14;have n0:=Zf hb m0;have o2:=m4.out
  by_cases hlt:i<L.length
  ·obtain⟨y,hy⟩:∃y,L[i]?=some y:=⟨_,Zc hlt⟩
   have m3: (i:Int)<L.length:=by omega
   have e1:=Zf hb (aa j3.out (j:=1) (u:= .int .u8 z) rfl);have q8:∀w',(Instr.index 9 (.string ⟨L.toArray⟩) (.int .i64 (i:Int))).run Tryz.prog w' = .ok (.int .u8 y.toNat) w':=fun w'=>py (s:=⟨L.toArray⟩) (by simpa using hy) w'
   have Htk:=Qa (oV (c:=c) hy);have hyc: ((y.toNat:Int)==z)= (c==y):=by
    rw [Hz.out,Bool.eq_iff_iff];simp only [beq_iff_eq];exact⟨fun h=>UInt8.toNat_inj.1 (by omega),fun h=>by rw [h]⟩
   have f3:0+0=0:=rfl;clear hb c7 hlt hy c14 m0
   cases hok: (L.take i).contains c
   all_goals
    go_wp2_with fail;go_quiet (fail);go_wp2_with fail;go_roundg (L.length - (i+1))
    case measure=>have:=Hmi.out;omega
    case rel=>exact⟨i+1,by have:=Hmi.out;omega,by go_num,by rw [Htk.out,hok];simp [hyc],aD Hb.out _⟩
  ·obtain rfl:i=L.length:=by omega
   have m3:¬ (L.length:Int)<L.length:=by omega
   have hok: (L.take L.length).contains c=true:=by rw [List.take_length];exact m5.out
   rw [hok];have e1:=Zf hb (aa j3.out (j:=1) (u:= .int .u8 z) rfl);have a5:=Qa (HA.out.below hb);have a9:=Qa (n1.out.below hb);have d2:=Qa (bW.new (bo q7.out hb) HB.out);have b1:B<=wr.heap.size:=Zb HB.out d2.out.b.size;have q6:=m9.out;clear hb c7 hlt c14 m0 d14 n0 o2 hok n8 q4 m9 Hz HX m5 m4 HM HR HA n1 j3;rcases q6 with ⟨frs⟩ | ⟨f,fs,ho,hl⟩ | ⟨f,fs,ho,hl⟩ | ⟨frs,hl,hn,i4⟩ | ⟨frs,hl,hn,i4⟩ | ⟨f,fs,ho,f3,h9,hi,c7,g0,hl⟩ | ⟨f,fs,ho,f3,h9,hi,c7,g0,hl⟩
   ·have d14:=aa a5.out.row (j:=14) (u:= .int .i64 want) rfl
    have f14:=aj a5.out.row 14;have Hs:=Qa (a5.out.setWant b1 0 (z:=0) rfl);go_wp2_with fail;go_end0;exact⟨rfl,d2.out.trans (bW.rd Hs.out.1 Hs.out.2.1),Hs.out.2.2.s,_,a9.out.kp Hs.out.2.1 bI⟩
   ·have d14:=aa a5.out.row (j:=14) (u:= .int .i64 want) rfl
    have f14:=aj a5.out.row 14;have Hs:=Qa (a5.out.setWant b1 0 (z:=0) rfl);obtain⟨w6,g7⟩:∃w6,wr.setCell ⟨rb,14,none⟩ (.int .i64 0)=w6:=⟨_,rfl⟩;rw [g7] at Hs;obtain⟨g,q,a7,cg,hq⟩:=Hs.out.2.2.topKind;rw [ho] at cg;simp only [Bool.false_eq_true,if_false,if_true] at cg;subst a7;obtain⟨m,hm⟩:∃m,fs.length=m:=⟨_,rfl⟩;rw [hm] at cg hq hl;have c12:=aa Hs.out.2.2.row (j:=12) (u:= .slice (some ⟨g,0,none⟩) (m+1) q) (by rw [<- hm];rfl);have s1:IntKind.i64.wrap (m:Int)= (m:Int):=IntWalk.i64_in _ (by omega);have e4: (m:Int)< (m:Int)+1:=by omega
    have l2:=Qa g7;clear hm hq hl;go_wp2_with fail
    try rw [l2.out]
    go_quiet (fail);go_wp2_with fail;go_end0;have a1:=aD (Zd w6.heap.size w6) nq;exact⟨rfl,(d2.out.trans (bW.rd Hs.out.1 Hs.out.2.1)).trans (bW.new a1 (Zb b1 Hs.out.2.1.1)),(Hs.out.2.2.below a1).s,_,(a9.out.kp Hs.out.2.1 bI).below a1⟩
   ·have d14:=aa a5.out.row (j:=14) (u:= .int .i64 want) rfl
    have f14:=aj a5.out.row 14;have Hs:=Qa (a5.out.setWant b1 0 (z:=0) rfl);obtain⟨w6,g7⟩:∃w6,wr.setCell ⟨rb,14,none⟩ (.int .i64 0)=w6:=⟨_,rfl⟩;rw [g7] at Hs;obtain⟨g,q,a7,cg,hq⟩:=Hs.out.2.2.topKind;rw [ho] at cg;simp only [Bool.false_eq_true,if_false,if_true] at cg;subst a7;obtain⟨m,hm⟩:∃m,fs.length=m:=⟨_,rfl⟩;rw [hm] at cg hq hl;have c12:=aa Hs.out.2.2.row (j:=12) (u:= .slice (some ⟨g,0,none⟩) (m+1) q) (by rw [<- hm];rfl);have s1:IntKind.i64.wrap (m:Int)= (m:Int):=IntWalk.i64_in _ (by omega);have e4: (m:Int)< (m:Int)+1:=by omega
    have l2:=Qa g7;clear hm hq hl;go_wp2_with fail
    try rw [l2.out]
    go_quiet (fail);have a1:=aD (Zd w6.heap.size w6) nq;have g5:=Hs.out.2.2.below a1;obtain⟨w7,n3⟩:∃w7,w6.drewN nq=w7:=⟨_,rfl⟩;rw [n3] at a1 g5 ⊢;have g14:=aa g5.row (j:=14) (u:= .int .i64 0) rfl;have f14':=aj g5.row 14;have n4:=Zb (Zb b1 Hs.out.2.1.1) a1.size;have j2:=Qa (g5.setWant n4 2 (z:=2) rfl);have a4:=Qa a1;clear g5 a1 n3 c12 cg d14 f14;go_wp2_with fail;go_end0;exact⟨rfl,((d2.out.trans (bW.rd Hs.out.1 Hs.out.2.1)).trans (bW.new a4.out (Zb b1 Hs.out.2.1.1))).trans (bW.rd j2.out.1 j2.out.2.1),j2.out.2.2.s,_,((a9.out.kp Hs.out.2.1 bI).below a4.out).kp j2.out.2.1 bI⟩
   ·have Hl:=Qa hl
    have Hn:=Qa hn;have l0:=Qa i4;clear hl hn i4;have g8:=Qa (dX a5.out.s Hl.out Hn.out b1);go_wp2_with fail;(with_reducible refine g8.out.mono ?_);rintro e w2 ⟨rfl,g6,c6,h5⟩;have b4:=a9.out.kp c6 bI;have b7:=Zb b1 c6.1;have c0:=Qa (d2.out.trans (bW.rd g6 c6));clear g8 c6 g6;obtain⟨wq,hwq⟩:∃wq,w2.drew=wq:=⟨_,rfl⟩;have a1:Below w2.heap.size w2 wq:=by rw [<- hwq];exact(Zd _ _).drew
    have a6:=h5.below a1;have b5:=b4.below a1;have c4:=Qa (cZ a6 (by have:=Hl.out;omega));have Htk:=Qa (xm (lv:=(frs.length:Int)+1) (by omega) b5 l0.out (by have:=Hl.out;omega) (Zb b7 a1.size));obtain⟨by2,dp2,ex2,ov2,nv2,maps2,i3⟩:=id a6;have C11:=Qa (aa i3.row (j:=11) (u:= .func (.func 58) #[.pointer (some ⟨xb,0,none⟩)] #[]) rfl);have a4:=Qa (And.intro (c0.out.trans (bW.new a1 b7)) a6);clear a1 a6 b5 i3 b4 h5 b7;go_wp2_with fail;refine cJ (fun w9=>w9.cell? ⟨rb,11,none⟩=some (.func (.func 58) #[.pointer (some ⟨xb,0,none⟩)] #[])) 8 ((by rw [hwq];exact C11.out)) fun a0=> ?_
    rw [hwq] at a0 ⊢;clear hwq;refine tR 0 a0 ?_;refine tR 1 a0 ?_;refine tR 2 a0 ?_;refine tR 3 a0 ?_;refine tR 4 a0 ?_
    try simp only [Act.put,jP,jQ,jR]
    refine rZ 5 fun K hK=> ?_
    go_simp;(with_reducible refine c4.out.mono ?_);rintro e w' ⟨rfl,rfl⟩;go_wp2_with fail;refine hK.out _ _ (fun _=>a0) (fun a0=> ?_);clear hK K;have a0:=a0 (by decide)
    try simp only [Act.put,jP,jQ,jR]
    refine tR 6 a0 ?_;refine tR 7 a0 ?_
    try simp only [Act.put,jP,jQ,jR]
    refine rZ 8 fun K hK=> ?_
    go_simp;(with_reducible refine Htk.out.mono ?_);rintro e w4 ⟨rfl,h1,h2,h3⟩;have R:=Qa (And.intro h1 (And.intro h2 h3));clear h1 h2 h3;go_wp2_with fail;refine hK.out _ _ (fun h=>absurd rfl h) (fun _=> ?_);clear hK K
    try simp only [Act.put,jP,jQ,jR]
    refine a8 (by kernel_rfl) (NoPanic.normal ?_) _;obtain⟨y1,y2,bs2,y3⟩:=R.out;obtain⟨by4,dp4,ex4,ov4,nv4,maps4,a2⟩:=a4.out.2.tb y2;have c3:=Qa (a4.out.1.trans (bW.tb y1 y2));have e2:B<=w4.heap.size:=Zb HB.out c3.out.b.size;obtain⟨A12,q12,a7, -⟩:=ag a2.opens;subst a7;obtain⟨m,hm⟩:∃m,frs.length=m:=⟨_,rfl⟩;have c12:=aa a2.row (j:=12) (u:= .slice A12 m q12) (by rw [<- hm];rfl);have a3:=ac w4 (.cells #[.int .i64 5] 3);have l3:=Qa (av w4 [.int .i64 5] 3);have e8:=a2.below a3;have h4:=Qa (show(w4.alloc (.cells #[.int .i64 5] 3)).ownsRow B 3 1 (.slice A12 m q12) m (frs.reverse.map fE) by have:=e8.opens;rwa [hm] at this);have d6:=Qa e8;have m2:=Qa y3;have l5:=Qa (show bW B w (w4.alloc (.cells #[.int .i64 5] 3)) from c3.out.trans (bW.new a3 e2));have k4:m<=1000000000:=by rw [<- hm];exact Hl.out
    have Hm:=Qa hm;have c5:=Qa (show B<=(w4.alloc (.cells #[.int .i64 5] 3)).heap.size from Zb e2 a3.size);have f0:=Qa a3;clear y1 y2 y3 a2 e2 a3 e8 R a4 hm;go_wp2_with ((at_builtin;refine ar BZ rfl (.tmp 56) (.tmp 57) rfl B (.slice A12 m q12) m w4.heap.size 1 1 (frs.reverse.map fE) [.int .i64 5] (by simp [Act.eval]) h4.out (by simp [Act.eval]) rfl l3.out (by simp [Value.oneCell']) (by unfold maxLen;omega) (by omega) c5.out ?_;intro v' w5 p1 p2 p3;obtain⟨A5,q5,rfl, -, -, -⟩:=ag p1;have f1:=aJ d6.out.row p2 (aR h4.out d6.out.row (by decide));have c12':=aa f1 (j:=12) (u:= .slice A12 m q12) (by rw [<- Hm.out];rfl);have f12':=aj f1 12;have hs:=d6.out.b.setOpen c5.out (bl.grown p2) (fun g h=>by rw [Hm.out];exact h) (ofr':=⟨false, [], [],none⟩::frs) (ov':= .slice A5 (m+1) q5) (by rw [List.length_cons,Hm.out,List.reverse_cons,List.map_append];exact p1);have c14':=aa hs.2.2.row (j:=14) (u:= .int .i64 want) rfl;have f14':=aj hs.2.2.row 14;have Hs:=Qa hs;have p4:=Qa p2;clear p1 p2 p3 f1 hs));go_end0;obtain⟨s1,s2,s3⟩:=Hs.out;obtain⟨z1,z2,z3⟩:=s3.setWant (Zb c5.out s2.1) 1 (z:=1) rfl;refine⟨rfl,(l5.out.trans (bW.rd s1 s2)).trans (bW.rd z1 z2),⟨by4,dp4,ex4,_,nv4,maps4,z3.row,z3.low,z3.lex,z3.llow,z3.own,z3.opens,z3.names, ?_,z3.nodup,z3.le⟩,bs2,((m2.out.below f0.out).kp s2 bI).kp z2 bI⟩;have:=z3.seen;simpa [List.filter_cons] using this
   ·have Hl:=Qa hl
    have Hn:=Qa hn;have l0:=Qa i4;clear hl hn i4;have g8:=Qa (dX a5.out.s Hl.out Hn.out b1);go_wp2_with fail;(with_reducible refine g8.out.mono ?_);rintro e w2 ⟨rfl,g6,c6,h5⟩;have b4:=a9.out.kp c6 bI;have b7:=Zb b1 c6.1;have c0:=Qa (d2.out.trans (bW.rd g6 c6));clear g8 c6 g6;obtain⟨wq,hwq⟩:∃wq,w2.drew=wq:=⟨_,rfl⟩;have a1:Below w2.heap.size w2 wq:=by rw [<- hwq];exact(Zd _ _).drew
    have a6:=h5.below a1;have b5:=b4.below a1;have c4:=Qa (cZ a6 (by have:=Hl.out;omega));have Htk:=Qa (vT (lv:=(frs.length:Int)+1) (by omega) b5 l0.out (by have:=Hl.out;omega) (Zb b7 a1.size));obtain⟨by2,dp2,ex2,ov2,nv2,maps2,i3⟩:=id a6;have C11:=Qa (aa i3.row (j:=11) (u:= .func (.func 58) #[.pointer (some ⟨xb,0,none⟩)] #[]) rfl);have a4:=Qa (And.intro (c0.out.trans (bW.new a1 b7)) a6);clear a1 a6 b5 i3 b4 h5 b7;go_wp2_with fail;refine cJ (fun w9=>w9.cell? ⟨rb,11,none⟩=some (.func (.func 58) #[.pointer (some ⟨xb,0,none⟩)] #[])) 8 ((by rw [hwq];exact C11.out)) fun a0=> ?_
    rw [hwq] at a0 ⊢;clear hwq;refine tR 0 a0 ?_;refine tR 1 a0 ?_;refine tR 2 a0 ?_;refine tR 3 a0 ?_;refine tR 4 a0 ?_
    try simp only [Act.put,jP,jQ,jR]
    refine rZ 5 fun K hK=> ?_
    go_simp;(with_reducible refine c4.out.mono ?_);rintro e w' ⟨rfl,rfl⟩;go_wp2_with fail;refine hK.out _ _ (fun _=>a0) (fun a0=> ?_);clear hK K;have a0:=a0 (by decide)
    try simp only [Act.put,jP,jQ,jR]
    refine tR 6 a0 ?_;refine tR 7 a0 ?_
    try simp only [Act.put,jP,jQ,jR]
    refine rZ 8 fun K hK=> ?_
    go_simp;(with_reducible refine Htk.out.mono ?_);rintro e w4 ⟨rfl,h1,h2,h3⟩;have R:=Qa (And.intro h1 (And.intro h2 h3));clear h1 h2 h3;go_wp2_with fail;refine hK.out _ _ (fun h=>absurd rfl h) (fun _=> ?_);clear hK K
    try simp only [Act.put,jP,jQ,jR]
    refine a8 (by kernel_rfl) (NoPanic.normal ?_) _;obtain⟨y1,y2,bs2,y3⟩:=R.out;obtain⟨by4,dp4,ex4,ov4,nv4,maps4,a2⟩:=a4.out.2.tb y2;have c3:=Qa (a4.out.1.trans (bW.tb y1 y2));have e2:B<=w4.heap.size:=Zb HB.out c3.out.b.size;obtain⟨A12,q12,a7, -⟩:=ag a2.opens;subst a7;obtain⟨m,hm⟩:∃m,frs.length=m:=⟨_,rfl⟩;have c12:=aa a2.row (j:=12) (u:= .slice A12 m q12) (by rw [<- hm];rfl);have a3:=ac w4 (.cells #[.int .i64 6] 3);have l3:=Qa (av w4 [.int .i64 6] 3);have e8:=a2.below a3;have h4:=Qa (show(w4.alloc (.cells #[.int .i64 6] 3)).ownsRow B 3 1 (.slice A12 m q12) m (frs.reverse.map fE) by have:=e8.opens;rwa [hm] at this);have d6:=Qa e8;have m2:=Qa y3;have l5:=Qa (show bW B w (w4.alloc (.cells #[.int .i64 6] 3)) from c3.out.trans (bW.new a3 e2));have k4:m<=1000000000:=by rw [<- hm];exact Hl.out
    have Hm:=Qa hm;have c5:=Qa (show B<=(w4.alloc (.cells #[.int .i64 6] 3)).heap.size from Zb e2 a3.size);have f0:=Qa a3;have h0:maps4.length<=1000000000:=by
     have h1:=a2.seen.1;have h2:=List.length_filter_le (fun g:Fr=>g.obj) frs;have:=Hl.out;omega
    have h7:=Qa h0;clear h0;obtain⟨A13,q13,k5, -⟩:=ag a2.names;subst k5;have r4:= @run_makeMap Tryz.prog;clear y1 y2 y3 a2 e2 a3 e8 R a4 hm;go_wp2_with (first | (at_builtin;refine ar BZ rfl (.tmp 81) (.tmp 82) rfl B (.slice A12 m q12) m w4.heap.size 1 1 (frs.reverse.map fE) [.int .i64 6] (by simp [Act.eval]) h4.out (by simp [Act.eval]) rfl l3.out (by simp [Value.oneCell']) (by unfold maxLen;omega) (by omega) c5.out ?_;intro v' w5 p1 p2 p3;obtain⟨A5,q5,rfl, -, -, -⟩:=ag p1;have f1:=aJ d6.out.row p2 (aR h4.out d6.out.row (by decide));have c12':=aa f1 (j:=12) (u:= .slice A12 m q12) (by rw [<- Hm.out];rfl);have f12':=aj f1 12;have hs:=d6.out.b.setOpen c5.out (bl.grown p2) (fun g h=>by rw [Hm.out];exact h) (ofr':=⟨true, [], [],none⟩::frs) (ov':= .slice A5 (m+1) q5) (by rw [List.length_cons,Hm.out,List.reverse_cons,List.map_append];exact p1);have c14':=aa hs.2.2.row (j:=14) (u:= .int .i64 want) rfl;have f14':=aj hs.2.2.row 14;have Hs:=Qa hs;have p4:=Qa p2;have c13':=aa hs.2.2.row (j:=13) (u:= .slice A13 maps4.length q13) rfl;have i8:=Qa (hs.2.2.pushName (Zb c5.out hs.2.1.1) (z:=w5.heap.size) (by simp) rfl);clear p1 p2 p3 f1 hs) | (at_builtin;refine ar FD rfl (.tmp 90) (.tmp 92) rfl B (.slice A13 maps4.length q13) maps4.length (w5.heap.size+1) 1 1 (maps4.reverse.map rX) [.map (some w5.heap.size)] (by simp [Act.eval]) i8.out.1 (by simp [Act.eval]) rfl i8.out.2.2.1 (by simp [Value.oneCell']) (by unfold maxLen;have:=h7.out;omega) (by have:=h7.out;omega) (by have:=Hs.out.2.1.1;have:=c5.out;have:=i8.out.2.1.size;omega) ?_;intro v9 w9 p1 p2 p3;obtain⟨A9,q9,rfl, -, -, -⟩:=ag p1;have f5:=i8.out.2.2.2 w9 _ p2 p1;have c13q:=aa f5.1 (j:=13) (u:= .slice A13 maps4.length q13) rfl;have f13q:=aj f5.1 13;have c14q:=aa f5.2.2.2.row (j:=14) (u:= .int .i64 want) rfl;have f14q:=aj f5.2.2.2.row 14;have p0:=Qa f5;clear p1 p2 p3 f5));go_end0;obtain⟨s1,s2,s3⟩:=Hs.out;obtain⟨t1,t2,t3,t4⟩:=i8.out;obtain⟨r0,r1,r2,r3⟩:=p0.out;have d1:=Zb c5.out s2.1;have q0:=Zb d1 t2.size;obtain⟨z1,z2,z3⟩:=r3.setWant (Zb q0 r2.1) 3 (z:=3) rfl;exact⟨rfl,(((l5.out.trans (bW.rd s1 s2)).trans (bW.new t2 d1)).trans (bW.rd r1 r2)).trans (bW.rd z1 z2),⟨by4,dp4,ex4,_,_,_,z3.a⟩,bs2,((((m2.out.below f0.out).kp s2 bI).below t2).kp r2 bI).kp z2 bI⟩
   ·have Ho:=Qa ho
    have m1:=Qa f3;have k9:=Qa h9;have Hi:=Qa hi;have e3:=Qa c7;have g9:=Qa g0;have Hl:=Qa hl;clear ho f3 h9 hi c7 g0 hl;have d14:=aa a5.out.row (j:=14) (u:= .int .i64 want) rfl;obtain⟨g,q,a7,cg,hq⟩:=a5.out.topKind;rw [Ho.out] at cg;simp only [Bool.false_eq_true,if_false,if_true] at cg;subst a7;obtain⟨m,hm⟩:∃m,fs.length=m:=⟨_,rfl⟩;rw [hm] at cg hq;have k4:m<=1000000000:=by rw [<- hm];exact Hl.out
    have c12:=aa a5.out.row (j:=12) (u:= .slice (some ⟨g,0,none⟩) (m+1) q) (by rw [<- hm];rfl);have s1:IntKind.i64.wrap (m:Int)= (m:Int):=IntWalk.i64_in _ (by omega);have e4: (m:Int)< (m:Int)+1:=by omega
    have Hm:=Qa hm;have Hq:=Qa hq;clear hm d14 hq;go_wp2_with fail;go_quiet (fail);have a1:=aD (Zd wr.heap.size wr) nq;obtain⟨w2,h6⟩:∃w2,wr.drewN nq=w2:=⟨_,rfl⟩;rw [h6] at a1 ⊢;have c9:=Qa (a5.out.below a1);have b3:=Qa (a9.out.below a1);have c0:=Qa (d2.out.trans (bW.new a1 b1));clear a1 h6 c12 cg e1;go_wp2_with fail;have j0:=Qa (show ∃by_ dp ex ov nv maps,jN B w2 rb lb xb v xs (f::fs) (f::fs) want k nd false by_ dp ex ov nv maps from⟨_,_,_,_,_,_,c9.out.b⟩);obtain⟨w3,i2⟩:∃w3,w3=w2:=⟨_,rfl⟩;have c1:=b3;have f6:=c0;rw [<- i2] at j0 c1 f6 ⊢;clear c9 b3 c0 i2;obtain⟨by3,dp3,ex3,ov3,nv3,maps3,d5⟩:=j0.out;obtain⟨g3,q3,a7, -,l4⟩:=d5.topOpen;subst a7;have d4:=Zb HB.out f6.out.b.size;obtain⟨w4,c8⟩:∃w4,w3.drew=w4:=⟨_,rfl⟩;have b2:Below w3.heap.size w3 w4:=by rw [<- c8];exact(Zd _ _).drew
    have a2:=d5.below b2;have C12:=Qa (aa a2.row (j:=12) (u:= .slice (some ⟨g3,0,none⟩) (m+1) q3) (by rw [<- Hm.out];rfl));have f12:=aj a2.row 12;have k3: (m:Int)<=q3:=by have:=Hm.out;omega
    have b8:w4.ownsRow B 3 1 (.slice (some ⟨g3,0,none⟩) m q3) fs.length (fs.reverse.map fE):=by
     have:=a2.opens;rw [List.length_cons,List.reverse_cons,List.map_append] at this;rw [<- Hm.out];exact qh this (by simp)
    have b6:=Qa (a2.setOpen (Zb d4 b2.size) (bl.refl (fun _=>False) w4) (fun _ h=>h.elim) (ofr':=fs) (ov':= .slice (some ⟨g3,0,none⟩) m q3) b8);have d9:=Qa (c1.out.below b2);have c3:=Qa (f6.out.trans (bW.new b2 d4));have c12s:=C12.out;clear d5 a2 b8 b2 d4 l4;refine cJ (fun w9=>w9.cell? ⟨rb,12,none⟩=some (.slice (some ⟨g3,0,none⟩) (m+1) q3)) 14 ((by rw [c8];exact C12.out)) fun a0=> ?_
    rw [c8] at a0 ⊢;clear c8;refine tR 0 a0 ?_;refine tR 1 a0 ?_;refine tR 2 a0 ?_;refine tR 3 a0 ?_;refine tR 4 a0 ?_;refine tR 5 a0 ?_
    try simp only [Act.put,jP,jQ,jR]
    refine tR 6 a0 ?_;refine tR 7 a0 ?_;refine tR 8 a0 ?_;refine tR 9 a0 ?_;refine tR 10 a0 ?_;refine tR 11 a0 ?_
    try simp only [Act.put,jP,jQ,jR]
    refine tR 12 a0 ?_;refine tR 13 a0 ?_
    try simp only [Act.put,jP,jQ,jR]
    refine rZ 14 fun K hK=> ?_
    go_simp;refine hK.out _ _ (fun h=>absurd rfl h) (fun _=> ?_);clear hK K
    try simp only [Act.put,jP,jQ,jR]
    refine a8 (by kernel_rfl) (NoPanic.normal ?_) _;clear a0 c12s f12;obtain⟨w5,g2⟩:∃w5,w4.setCell ⟨rb,12,none⟩ (.slice (some ⟨g3,0,none⟩) m q3)=w5:=⟨_,rfl⟩;rw [g2] at b6 ⊢;have f9:=jN.a (frs:=fs) (by have h:=b6.out.2.2;exact⟨h.row,h.low,h.lex,h.llow,h.own,h.opens,h.names,(by have:=h.seen;rw [List.filter_cons,Ho.out] at this;simpa using this),h.nodup,h.le⟩);have e0:=Qa (d9.out.kp b6.out.2.1 bI);have h8:=Qa (c3.out.trans (bW.rd b6.out.1 b6.out.2.1));clear g2;go_wp2_with fail;obtain⟨wq,hwq⟩:∃wq,w5.drew=wq:=⟨_,rfl⟩;have a1:Below w5.heap.size w5 wq:=by rw [<- hwq];exact(Zd _ _).drew
    have e6:=Zb HB.out h8.out.b.size;have a6:=f9.s.below a1;have c4:=Qa (cZ a6 (by have:=Hl.out;omega));have Htk:=Qa (nJ (lv:=(fs.length:Int)+1) (by omega) (e0.out.below a1) Ho.out m1.out k9.out Hi.out e3.out g9.out (Zb e6 a1.size));obtain⟨by2,dp2,ex2,ov2,nv2,maps2,b9⟩:=id a6;have C11:=Qa (aa b9.row (j:=11) (u:= .func (.func 58) #[.pointer (some ⟨xb,0,none⟩)] #[]) rfl);have a4:=Qa (And.intro (h8.out.trans (bW.new a1 e6)) a6);clear a1 a6 b9 f9 e6;refine cJ (fun w9=>w9.cell? ⟨rb,11,none⟩=some (.func (.func 58) #[.pointer (some ⟨xb,0,none⟩)] #[])) 9 ((by rw [hwq];exact C11.out)) fun a0=> ?_
    rw [hwq] at a0 ⊢;clear hwq;refine tR 0 a0 ?_;refine tR 1 a0 ?_;refine tR 2 a0 ?_;refine tR 3 a0 ?_;refine tR 4 a0 ?_;refine tR 6 a0 ?_
    try simp only [Act.put,jP,jQ,jR]
    refine rZ 5 fun K hK=> ?_
    go_simp;(with_reducible refine c4.out.mono ?_);rintro e w' ⟨rfl,rfl⟩;go_wp2_with fail;refine hK.out _ _ (fun _=>a0) (fun a0=> ?_);clear hK K;have a0:=a0 (by decide)
    try simp only [Act.put,jP,jQ,jR]
    refine tR 7 a0 ?_;refine tR 8 a0 ?_
    try simp only [Act.put,jP,jQ,jR]
    refine rZ 9 fun K hK=> ?_
    go_simp;(with_reducible refine Htk.out.mono ?_);rintro e w6 ⟨rfl,h1,h2,h3⟩;have R:=Qa (And.intro h1 (And.intro h2 h3));clear h1 h2 h3;go_wp2_with fail;refine hK.out _ _ (fun h=>absurd rfl h) (fun _=> ?_);clear hK K
    try simp only [Act.put,jP,jQ,jR]
    refine a8 (by kernel_rfl) (NoPanic.normal ?_) _;obtain⟨y1,y2,bs2,y3⟩:=R.out;have g4:=(a4.out.2.tb y2).put (fun f fs e=>(g9.out.2 f fs e).1) (dK f);have d1:B<=w6.heap.size:=Zb (Zb HB.out a4.out.1.b.size) y1.size;have k0:=Qa (fv g4 d1 (by rw [gE];have:=Hl.out;omega));have R6:=Qa (And.intro (a4.out.1.trans (bW.tb y1 y2)) y3);clear y1 y2 y3 g4 d1 R a4 c4 Htk C11;go_wp2_with fail;(with_reducible refine k0.out.mono ?_);rintro e w7 ⟨rfl,h1,h2,h3⟩;have R7:=Qa (And.intro h1 (And.intro h2 h3));clear h1 h2 h3;go_wp2_with fail;go_end0;refine⟨rfl,R6.out.1.trans (bW.rd R7.out.1 R7.out.2.1), ?_,bs2,R6.out.2.kp R7.out.2.1 bI⟩;rw [fj];exact R7.out.2.2
   ·have Ho:=Qa ho
    have m1:=Qa f3;have k9:=Qa h9;have Hi:=Qa hi;have e3:=Qa c7;have g9:=Qa g0;have Hl:=Qa hl;clear ho f3 h9 hi c7 g0 hl;have d14:=aa a5.out.row (j:=14) (u:= .int .i64 want) rfl;obtain⟨g,q,a7,cg,hq⟩:=a5.out.topKind;rw [Ho.out] at cg;simp only [Bool.false_eq_true,if_false,if_true] at cg;subst a7;obtain⟨m,hm⟩:∃m,fs.length=m:=⟨_,rfl⟩;rw [hm] at cg hq;have k4:m<=1000000000:=by rw [<- hm];exact Hl.out
    have c12:=aa a5.out.row (j:=12) (u:= .slice (some ⟨g,0,none⟩) (m+1) q) (by rw [<- hm];rfl);have s1:IntKind.i64.wrap (m:Int)= (m:Int):=IntWalk.i64_in _ (by omega);have e4: (m:Int)< (m:Int)+1:=by omega
    have Hm:=Qa hm;have Hq:=Qa hq;clear hm d14 hq;go_wp2_with fail;go_quiet (fail);have a1:=aD (Zd wr.heap.size wr) nq;obtain⟨w2,h6⟩:∃w2,wr.drewN nq=w2:=⟨_,rfl⟩;rw [h6] at a1 ⊢;have c9:=Qa (a5.out.below a1);have b3:=Qa (a9.out.below a1);have c0:=Qa (d2.out.trans (bW.new a1 b1));clear a1 h6 c12 cg e1;go_wp2_with fail;obtain⟨b0,maps9,n5⟩:∃b m',maps=b::m':=by
     have f2:=c9.out.seen;simp only [List.filter_cons,Ho.out,if_true] at f2
     cases maps with
     | nil=>have:=f2.1;simp at this
     | cons b m'=>exact⟨b,m',rfl⟩
    subst n5;obtain⟨A13,q13,k5,i5, -,i0⟩:=ag c9.out.names;subst k5;obtain⟨g13,l1⟩:=i0 (by simp);subst l1;obtain⟨n9,k1⟩:∃n,maps9.length=n:=⟨_,rfl⟩;have k2:n9<=m:=by
     have h1:=c9.out.seen.1;have h2:=List.length_filter_le (fun g:Fr=>g.obj) fs;simp only [List.filter_cons,Ho.out,if_true,List.length_cons] at h1;have:=Hm.out;omega
    have b7:=Zb HB.out c0.out.b.size;obtain⟨wb,j1⟩:∃wb,w2.drew=wb:=⟨_,rfl⟩;have g1:Below w2.heap.size w2 wb:=by rw [<- j1];exact(Zd _ _).drew
    have e5:=c9.out.below g1;have C13:=Qa (aa e5.row (j:=13) (u:= .slice (some ⟨g13,0,none⟩) (n9+1) q13) (by rw [<- k1];rfl));have c13s:=C13.out;have f13:=aj e5.row 13;have s9:IntKind.i64.wrap (n9:Int)= (n9:Int):=IntWalk.i64_in _ (by omega);have k6: (n9:Int)<=q13:=by rw [List.length_cons] at i5;omega
    have d0:wb.ownsRow B 283 1 (.slice (some ⟨g13,0,none⟩) n9 q13) maps9.length (maps9.reverse.map rX):=by
     have:=e5.names;rw [List.length_cons,List.reverse_cons,List.map_append] at this;rw [<- k1];exact qh this (by simp)
    have f4:=Qa (e5.b.setNames (Zb b7 g1.size) (bl.refl (fun _=>False) wb) (fun _ h=>h.elim) (maps':=maps9) (nfr':=fs) (nv':= .slice (some ⟨g13,0,none⟩) n9 q13) d0 (List.nodup_cons.1 e5.nodup).2 (fun w10 hk _=>by
     have f2:=e5.seen;simp only [List.filter_cons,Ho.out,if_true] at f2;refine jN.seens (nfr:=fs) ⟨by simpa using f2.1,fun i x y q1 q2=>f2.2 (i+1) x y (by simpa using q1) (by simpa using q2)⟩ hk))
    have d3:=Qa (b3.out.below g1);have i9:=Qa (c0.out.trans (bW.new g1 b7));clear d0 e5 g1 b7 i5 i0 k2 k1;refine cJ (fun w9=>w9.cell? ⟨rb,13,none⟩=some (.slice (some ⟨g13,0,none⟩) (n9+1) q13)) 14 ((by rw [j1];exact C13.out)) fun a0=> ?_
    rw [j1] at a0 ⊢;clear j1;refine tR 0 a0 ?_;refine tR 1 a0 ?_;refine tR 2 a0 ?_;refine tR 3 a0 ?_;refine tR 4 a0 ?_;refine tR 5 a0 ?_
    try simp only [Act.put,jP,jQ,jR]
    refine tR 6 a0 ?_;refine tR 7 a0 ?_;refine tR 8 a0 ?_;refine tR 9 a0 ?_;refine tR 10 a0 ?_;refine tR 11 a0 ?_
    try simp only [Act.put,jP,jQ,jR]
    refine tR 12 a0 ?_;refine tR 13 a0 ?_
    try simp only [Act.put,jP,jQ,jR]
    refine rZ 14 fun K hK=> ?_
    go_simp;refine hK.out _ _ (fun h=>absurd rfl h) (fun _=> ?_);clear hK K
    try simp only [Act.put,jP,jQ,jR]
    refine a8 (by kernel_rfl) (NoPanic.normal ?_) _;clear a0 c13s f13 s9 k6;obtain⟨w3,i2⟩:∃w3,wb.setCell ⟨rb,13,none⟩ (.slice (some ⟨g13,0,none⟩) n9 q13)=w3:=⟨_,rfl⟩;rw [i2] at f4 ⊢;have j0:=Qa (show ∃by_ dp ex ov nv maps,jN B w3 rb lb xb v xs (f::fs) fs want k nd false by_ dp ex ov nv maps from⟨_,_,_,_,_,_,f4.out.2.2⟩);have c1:=Qa (d3.out.kp f4.out.2.1 bI);have f6:=Qa (i9.out.trans (bW.rd f4.out.1 f4.out.2.1));clear i2 f4 d3 i9 c9 b3 c0;go_wp2_with fail;obtain⟨by3,dp3,ex3,ov3,nv3,maps3,d5⟩:=j0.out;obtain⟨g3,q3,a7, -,l4⟩:=d5.topOpen;subst a7;have d4:=Zb HB.out f6.out.b.size;obtain⟨w4,c8⟩:∃w4,w3.drew=w4:=⟨_,rfl⟩;have b2:Below w3.heap.size w3 w4:=by rw [<- c8];exact(Zd _ _).drew
    have a2:=d5.below b2;have C12:=Qa (aa a2.row (j:=12) (u:= .slice (some ⟨g3,0,none⟩) (m+1) q3) (by rw [<- Hm.out];rfl));have f12:=aj a2.row 12;have k3: (m:Int)<=q3:=by have:=Hm.out;omega
    have b8:w4.ownsRow B 3 1 (.slice (some ⟨g3,0,none⟩) m q3) fs.length (fs.reverse.map fE):=by
     have:=a2.opens;rw [List.length_cons,List.reverse_cons,List.map_append] at this;rw [<- Hm.out];exact qh this (by simp)
    have b6:=Qa (a2.setOpen (Zb d4 b2.size) (bl.refl (fun _=>False) w4) (fun _ h=>h.elim) (ofr':=fs) (ov':= .slice (some ⟨g3,0,none⟩) m q3) b8);have d9:=Qa (c1.out.below b2);have c3:=Qa (f6.out.trans (bW.new b2 d4));have c12s:=C12.out;clear d5 a2 b8 b2 d4 l4;refine cJ (fun w9=>w9.cell? ⟨rb,12,none⟩=some (.slice (some ⟨g3,0,none⟩) (m+1) q3)) 14 ((by rw [c8];exact C12.out)) fun a0=> ?_
    rw [c8] at a0 ⊢;clear c8;refine tR 0 a0 ?_;refine tR 1 a0 ?_;refine tR 2 a0 ?_;refine tR 3 a0 ?_;refine tR 4 a0 ?_;refine tR 5 a0 ?_
    try simp only [Act.put,jP,jQ,jR]
    refine tR 6 a0 ?_;refine tR 7 a0 ?_;refine tR 8 a0 ?_;refine tR 9 a0 ?_;refine tR 10 a0 ?_;refine tR 11 a0 ?_
    try simp only [Act.put,jP,jQ,jR]
    refine tR 12 a0 ?_;refine tR 13 a0 ?_
    try simp only [Act.put,jP,jQ,jR]
    refine rZ 14 fun K hK=> ?_
    go_simp;refine hK.out _ _ (fun h=>absurd rfl h) (fun _=> ?_);clear hK K
    try simp only [Act.put,jP,jQ,jR]
    refine a8 (by kernel_rfl) (NoPanic.normal ?_) _;clear a0 c12s f12;obtain⟨w5,g2⟩:∃w5,w4.setCell ⟨rb,12,none⟩ (.slice (some ⟨g3,0,none⟩) m q3)=w5:=⟨_,rfl⟩;rw [g2] at b6 ⊢;have f9:=jN.a (frs:=fs) (b6.out.2.2);have e0:=Qa (d9.out.kp b6.out.2.1 bI);have h8:=Qa (c3.out.trans (bW.rd b6.out.1 b6.out.2.1));clear g2;go_wp2_with fail;obtain⟨wq,hwq⟩:∃wq,w5.drew=wq:=⟨_,rfl⟩;have a1:Below w5.heap.size w5 wq:=by rw [<- hwq];exact(Zd _ _).drew
    have e6:=Zb HB.out h8.out.b.size;have a6:=f9.s.below a1;have c4:=Qa (cZ a6 (by have:=Hl.out;omega));have Htk:=Qa (oI (lv:=(fs.length:Int)+1) (by omega) (e0.out.below a1) Ho.out m1.out k9.out Hi.out e3.out g9.out (Zb e6 a1.size));obtain⟨by2,dp2,ex2,ov2,nv2,maps2,b9⟩:=id a6;have C11:=Qa (aa b9.row (j:=11) (u:= .func (.func 58) #[.pointer (some ⟨xb,0,none⟩)] #[]) rfl);have a4:=Qa (And.intro (h8.out.trans (bW.new a1 e6)) a6);clear a1 a6 b9 f9 e6;refine cJ (fun w9=>w9.cell? ⟨rb,11,none⟩=some (.func (.func 58) #[.pointer (some ⟨xb,0,none⟩)] #[])) 9 ((by rw [hwq];exact C11.out)) fun a0=> ?_
    rw [hwq] at a0 ⊢;clear hwq;refine tR 0 a0 ?_;refine tR 1 a0 ?_;refine tR 2 a0 ?_;refine tR 3 a0 ?_;refine tR 4 a0 ?_;refine tR 6 a0 ?_
    try simp only [Act.put,jP,jQ,jR]
    refine rZ 5 fun K hK=> ?_
    go_simp;(with_reducible refine c4.out.mono ?_);rintro e w' ⟨rfl,rfl⟩;go_wp2_with fail;refine hK.out _ _ (fun _=>a0) (fun a0=> ?_);clear hK K;have a0:=a0 (by decide)
    try simp only [Act.put,jP,jQ,jR]
    refine tR 7 a0 ?_;refine tR 8 a0 ?_
    try simp only [Act.put,jP,jQ,jR]
    refine rZ 9 fun K hK=> ?_
    go_simp;(with_reducible refine Htk.out.mono ?_);rintro e w6 ⟨rfl,h1,h2,h3⟩;have R:=Qa (And.intro h1 (And.intro h2 h3));clear h1 h2 h3;go_wp2_with fail;refine hK.out _ _ (fun h=>absurd rfl h) (fun _=> ?_);clear hK K
    try simp only [Act.put,jP,jQ,jR]
    refine a8 (by kernel_rfl) (NoPanic.normal ?_) _;obtain⟨y1,y2,bs2,y3⟩:=R.out;have g4:=(a4.out.2.tb y2).put (fun f fs e=>(g9.out.2 f fs e).1) (dK f);have d1:B<=w6.heap.size:=Zb (Zb HB.out a4.out.1.b.size) y1.size;have k0:=Qa (fv g4 d1 (by rw [gE];have:=Hl.out;omega));have R6:=Qa (And.intro (a4.out.1.trans (bW.tb y1 y2)) y3);clear y1 y2 y3 g4 d1 R a4 c4 Htk C11;go_wp2_with fail;(with_reducible refine k0.out.mono ?_);rintro e w7 ⟨rfl,h1,h2,h3⟩;have R7:=Qa (And.intro h1 (And.intro h2 h3));clear h1 h2 h3;go_wp2_with fail;go_end0;refine⟨rfl,R6.out.1.trans (bW.rd R7.out.1 R7.out.2.1), ?_,bs2,R6.out.2.kp R7.out.2.1 bI⟩;rw [fj];exact R7.out.2.2
