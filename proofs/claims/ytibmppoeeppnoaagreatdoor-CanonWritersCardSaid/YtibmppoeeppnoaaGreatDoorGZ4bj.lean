import Derived.Test.YtibmppoeeppnoaaGreatDoorGZ4bi
set_option linter.unusedVariables false
set_option linter.unusedSimpArgs false
set_option maxHeartbeats 64000000
set_option maxRecDepth 100000
namespace Go.Proofs.YtibmppoeeppnoaaGreatDoor
open Go.RowKit
variable {fin:Bool}{f:Fr}{by_ dp ex:Int}{frs fs nfr:List Fr}{bs maps:List Nat}{xs:List UInt8}{B i k lb n nd nd' q rb want xb:Nat}{A:Option Addr}{e:TypeId}{nv ov v x:Value}{w:World}
theorem oR {L:List UInt8}{y c:UInt8}(h:L[i]?=some y):(L.take (i+1)).contains c= ((L.take i).contains c||c==y):=by
 rw[List.take_add_one,h];rw[Bool.eq_iff_iff];simp[List.contains_eq_mem]
theorem Ci:dl 23 3 (.int .i64 0) 1 8:=⟨Tryz.underlying23,by kernel_rfl,rfl,by decide⟩
theorem F4:dl 199 310 (.map none) 1 8:=⟨Tryz.underlying199,by kernel_rfl,rfl,by decide⟩
theorem jE.pushName {ofr:List Fr}(h:jE B w rb lb xb v xs ofr nfr want k nd fin by_ dp ex ov nv maps)(hB:B<=w.heap.size){z:Nat}(hz:w.heap.size=z){W8:World}(hW:((w.alloc (.map #[] 0)).alloc (.cells #[.map (some z)] 310))=W8) :
  W8.ownsRow B 310 1 nv maps.length (maps.reverse.map wm)/\Below w.heap.size w W8/\(∀j u, [Value.map (some z)][j]?=some u->W8.cell? ⟨z+1,j,none⟩=some u)/\∀w9 nv',W8.grownBy w9 nv.ownBlock->w9.ownsRow B 310 1 nv' (maps.length+1) (maps.reverse.map wm ++ [.map (some z)])->
   w9.heap[rb]?=some (.cells (dD lb xb by_ dp nd ex ov nv want fin) 201 (0,0))/\Below B W8 (w9.setCell ⟨rb,13,none⟩ nv')/\Kp lG W8 (w9.setCell ⟨rb,13,none⟩ nv')/\jE B (w9.setCell ⟨rb,13,none⟩ nv') rb lb xb v xs ofr (⟨true, [], [],none⟩::nfr) want k nd fin by_ dp ex ov nv' (z::maps):=by
 subst hz;have a2:=ac w (.map #[] 0);have a0:=ac (w.alloc (.map #[] 0)) (.cells #[.map (some w.heap.size)] 310);rw[hW] at a0;have hb:=bt a2 a0;have h8:=h.below hb;have a1:dS W8 w.heap.size [] 0:=(dS.made w).kp (Kp.of_below (fun _=>False) a0);have hlt:∀b∈maps,b<w.heap.size:=fun b hb=>by
  obtain⟨i,hi,rfl⟩:=List.getElem_of_mem hb;have hl:=h.seen.1;obtain⟨-,l,n,hs,-⟩:=h.seen.2 i maps[i] ((nfr.filter (·.obj))[i]'(by omega)) (Zc hi) (Zc _);exact hs.lt
 have hcn:=ap (w.alloc (.map #[] 0)) [.map (some w.heap.size)] 310;rw[World.size_alloc] at hcn;refine⟨h8.names,hb,by rw[<-hW];exact hcn,fun w9 nv' hg hp=>?_⟩;have a3:=az h8.row hg (aI h8.names h8.row (by decide));have hs:=h8.setNames (Zb hB hb.size) (a8.grown hg) (fun g h=>h) (nv':=nv') (maps':=w.heap.size::maps) (nfr':=⟨true, [], [],none⟩::nfr) (by rw[List.length_cons,List.reverse_cons,List.map_append];exact hp) (List.nodup_cons.2 ⟨fun hm=>Nat.lt_irrefl _ (hlt _ hm),h8.nodup⟩) (fun w10 hk _=>by
  simp only[List.filter_cons,if_true];refine br.cons ⟨hB, [],0,a1.kp hk,Zj _,fun s=>by simp[iQ]⟩ (jE.seens h8.seen hk))
 exact⟨a3,hs⟩
theorem qz {xs:List Value}(h:w.ownsRow B e 1 (.slice A (n+1) q) (n+1) (xs ++ [x]))(hx:xs.length=n):w.ownsRow B e 1 (.slice A n q) n xs:=jZ h (by rw[hx,Nat.mul_one])
theorem jE.topOpen (h:jE B w rb lb xb v xs (f::fs) nfr want k nd fin by_ dp ex ov nv maps):∃g q,ov =.slice (some ⟨g,0,none⟩) (fs.length+1) q/\w.cell? ⟨g,fs.length,none⟩=some (.int .i64 (if f.obj then 6 else 5))/\fs.length+1<=q:=by
 have ho:=h.opens;rw[List.length_cons] at ho;obtain⟨A,q,rfl,hq,-,hA⟩:=ag ho;obtain⟨g,rfl⟩:=hA (by omega);have cg:=World.ownsRow.cellAt ho fs.length (by omega);rw[List.reverse_cons,List.map_append,List.getElem?_append_right (by simp),List.length_map,List.length_reverse,Nat.sub_self] at cg;exact⟨g,q,rfl,cg,hq⟩
theorem ir.topKind (h:ir B w rb lb xb v xs (f::fs) want k nd fin by_ dp ex ov nv maps):∃g q,ov =.slice (some ⟨g,0,none⟩) (fs.length+1) q/\w.cell? ⟨g,fs.length,none⟩=some (.int .i64 (if f.obj then 6 else 5))/\fs.length+1<=q:=by
 have ho:=h.opens;rw[List.length_cons] at ho;obtain⟨A,q,rfl,hq,-,hA⟩:=ag ho;obtain⟨g,rfl⟩:=hA (by omega);have cg:=World.ownsRow.cellAt ho fs.length (by omega);rw[List.reverse_cons,List.map_append,List.getElem?_append_right (by simp),List.length_map,List.length_reverse,Nat.sub_self] at cg;exact⟨g,q,rfl,cg,hq⟩
inductive jB (nd:Nat):Int->UInt8->List Fr->de->Nat->Prop
 |colon (frs:List Fr):jB nd 58 58 frs ⟨frs,0,none⟩ nd
 |comma5 (f:Fr) (fs:List Fr) (ho:f.obj=false) (hl:fs.length<=4294967296):jB nd 44 44 (f::fs) ⟨f::fs,0,none⟩ nd
 |comma6 (f:Fr) (fs:List Fr) (ho:f.obj=true) (hl:fs.length<=4294967296):jB nd 44 44 (f::fs) ⟨f::fs,2,none⟩ nd
 |open5 (frs:List Fr) (hl:frs.length<=1000000000) (hn:nd<=1000000000) (hlk:∀f fs,frs=f::fs->bY f=false):jB nd 91 91 frs ⟨⟨false, [], [],none⟩::frs,1,none⟩ (nd+1)
 |open6 (frs:List Fr) (hl:frs.length<=1000000000) (hn:nd<=1000000000) (hlk:∀f fs,frs=f::fs->bY f=false):jB nd 123 123 frs ⟨⟨true, [], [],none⟩::frs,3,none⟩ (nd+1)
 |close5 (f:Fr) (fs:List Fr) (ho:f.obj=false) (hnn:f.name=none) (hfo:f.ok jr) (hi:f.items.length<=4294967296) (hmi:f.mems.length<=4294967296) (hTB:kG fs) (hl:fs.length<=1000000000):jB nd 93 93 (f::fs) (bX fs (dM f)) nd
 |close6 (f:Fr) (fs:List Fr) (ho:f.obj=true) (hnn:f.name=none) (hfo:f.ok jr) (hi:f.items.length<=4294967296) (hmi:f.mems.length<=4294967296) (hTB:kG fs) (hl:fs.length<=1000000000):jB nd 125 125 (f::fs) (bX fs (dM f)) nd
theorem jB.eq {z:Int}{c:UInt8}{C:de}(h:jB nd z c frs C nd'):z=c.toNat:=by cases h <;> rfl
theorem fD {p z:Int}{c:UInt8}{C:de}(hM:kA w)(hw:want<8)(c7:yS want c=true)(hR:jL B w rb lb xb v xs frs want k nd false)(m9:fd B w xb frs none bs)(hB:B<=w.heap.size)(hc:jB nd z c frs C nd'):Calls Tryz.prog 134 #[.pointer (some ⟨rb,0,none⟩),.agg #[.int .i64 p,.int .u8 z]] w (Ge B rb lb xb v xs C k nd' false w):=by
 have f1:=ac w (.cells #[.int .i64 p,.int .u8 z] 269);obtain⟨w1,o2⟩:∃w1,w.alloc (.cells #[.int .i64 p,.int .u8 z] 269)=w1:=⟨_,rfl⟩;have i9:=Qa (Ze w (.cells #[.int .i64 p,.int .u8 z] 269));rw[o2] at f1 i9;have HR:=Qa (hR.below f1);have m2:=Qa (m9.below f1);have HM:=Qa (hM.below f1);have HB:=Qa hB;have q4:=Qa f1;have Hz:=Qa hc.eq;have m5:=Qa hc;obtain⟨by_,dp,ex,ov,nv,maps,hA⟩:=HR.out;have HA:=Qa hA;have c14:=aa hA.row (j:=14) (u:=.int .i64 want) rfl;have m0:=HM.out want hw;rw[FY] at c7;obtain⟨L,hL⟩:∃L,Ax want=L:=⟨_,rfl⟩;have p0:L.length<=3:=by rw[<-hL];have:∀i,i<8->(Ax i).length<=3:=(by decide);exact this want hw
 rw[hL] at m0 c7;have m4:=Qa c7;have n1:=Qa (show((⟨L.toArray⟩:ByteArray)).size=L.length by simp[ByteArray.size]);have n6:(want:Int)<8:=by omega
 clear hM hR m9 hB f1 hA hL c7 hw hc;go_enter Tryz.func134,Tryz.ntmps134;go_wp2_with fail;have HX:=Qa (True.intro)
 go_loopg [4,14] L.length (fun m s4 s14 wr=> ∃i:Nat,m+i=L.length/\s14 =.int .i64 i/\s4 =.bool ((L.take i).contains c)/\Below w1.heap.size w1 wr)
 case atStart=>exact⟨0,rfl,rfl,rfl,Zd _ _⟩
 case round=>
  obtain⟨i,c5,rfl,rfl,hb⟩:=hrel;have Hb:=Qa hb;have Hmi:=Qa c5;have d14:=Zf hb c14;have n0:=Zf hb m0;have p4:=n1.out
  by_cases hlt:i<L.length
  ·obtain⟨y,hy⟩:∃y,L[i]?=some y:=⟨_,Zc hlt⟩;have m1:(i:Int)<L.length:=by omega
   have e1:=Zf hb (aa i9.out (j:=1) (u:=.int .u8 z) rfl);have q6:∀w',(Instr.index 9 (.string ⟨L.toArray⟩) (.int .i64 (i:Int))).run Tryz.prog w' =.ok (.int .u8 y.toNat) w':=fun w'=>pQ (s:=⟨L.toArray⟩) (by simpa using hy) w'
   have Htk:=Qa (oR (c:=c) hy);have hyc:((y.toNat:Int)==z)= (c==y):=by
    rw[Hz.out,Bool.eq_iff_iff];simp only[beq_iff_eq];exact⟨fun h=>UInt8.toNat_inj.1 (by omega),fun h=>by rw[h]⟩
   have f3:0+0=0:=rfl;clear hb c5 hlt hy c14 m0
   cases hok:(L.take i).contains c
   all_goals
    go_wp2_with fail;go_quiet (fail);go_wp2_with fail;go_roundg (L.length - (i+1))
    case measure=>have:=Hmi.out;omega
    case rel=>exact⟨i+1,by have:=Hmi.out;omega,by go_num,by rw[Htk.out,hok];simp[hyc],av Hb.out _⟩
  ·obtain rfl:i=L.length:=by omega
   have m1:¬ (L.length:Int)<L.length:=by omega
   have hok:(L.take L.length).contains c=true:=by rw[List.take_length];exact m4.out
   rw[hok];have e1:=Zf hb (aa i9.out (j:=1) (u:=.int .u8 z) rfl);have a6:=Qa (HA.out.below hb);have a7:=Qa (m2.out.below hb);have d2:=Qa (cK.new (bt q4.out hb) HB.out);have b1:B<=wr.heap.size:=Zb HB.out d2.out.b.size;have n2:=m5.out;clear hb c5 hlt c14 m0 d14 n0 p4 hok n6 p0 m5 Hz HX m4 n1 HM HR HA m2 i9;rcases n2 with ⟨frs⟩|⟨f,fs,ho,hl⟩|⟨f,fs,ho,hl⟩|⟨frs,hl,hn,h5⟩|⟨frs,hl,hn,h5⟩|⟨f,fs,ho,f3,g0,hi,c5,g9,hl⟩|⟨f,fs,ho,f3,g0,hi,c5,g9,hl⟩
   ·have d14:=aa a6.out.row (j:=14) (u:=.int .i64 want) rfl;have f14:=aj a6.out.row 14;have Hs:=Qa (a6.out.setWant b1 0 (z:=0) rfl);go_wp2_with fail;go_end0;exact⟨rfl,d2.out.trans (cK.rd Hs.out.1 Hs.out.2.1),Hs.out.2.2.s,_,a7.out.kp Hs.out.2.1 bO⟩
   ·have d14:=aa a6.out.row (j:=14) (u:=.int .i64 want) rfl;have f14:=aj a6.out.row 14;have Hs:=Qa (a6.out.setWant b1 0 (z:=0) rfl);obtain⟨w6,h7⟩:∃w6,wr.setCell ⟨rb,14,none⟩ (.int .i64 0)=w6:=⟨_,rfl⟩;rw[h7] at Hs;obtain⟨g,q,a9,cg,hq⟩:=Hs.out.2.2.topKind;rw[ho] at cg;simp only[Bool.false_eq_true,if_false,if_true] at cg;subst a9;obtain⟨m,hm⟩:∃m,fs.length=m:=⟨_,rfl⟩;rw[hm] at cg hq hl;have c12:=aa Hs.out.2.2.row (j:=12) (u:=.slice (some ⟨g,0,none⟩) (m+1) q) (by rw[<-hm];rfl);have s1:IntKind.i64.wrap (m:Int)= (m:Int):=IntWalk.i64_in _ (by omega);have d6:(m:Int)< (m:Int)+1:=by omega
    have k9:=Qa h7;clear hm hq hl;go_wp2_with fail
    try rw[k9.out]
    go_quiet (fail);go_wp2_with fail;go_end0;have a1:=av (Zd w6.heap.size w6) nq;exact⟨rfl,(d2.out.trans (cK.rd Hs.out.1 Hs.out.2.1)).trans (cK.new a1 (Zb b1 Hs.out.2.1.1)),(Hs.out.2.2.below a1).s,_,(a7.out.kp Hs.out.2.1 bO).below a1⟩
   ·have d14:=aa a6.out.row (j:=14) (u:=.int .i64 want) rfl;have f14:=aj a6.out.row 14;have Hs:=Qa (a6.out.setWant b1 0 (z:=0) rfl);obtain⟨w6,h7⟩:∃w6,wr.setCell ⟨rb,14,none⟩ (.int .i64 0)=w6:=⟨_,rfl⟩;rw[h7] at Hs;obtain⟨g,q,a9,cg,hq⟩:=Hs.out.2.2.topKind;rw[ho] at cg;simp only[Bool.false_eq_true,if_false,if_true] at cg;subst a9;obtain⟨m,hm⟩:∃m,fs.length=m:=⟨_,rfl⟩;rw[hm] at cg hq hl;have c12:=aa Hs.out.2.2.row (j:=12) (u:=.slice (some ⟨g,0,none⟩) (m+1) q) (by rw[<-hm];rfl);have s1:IntKind.i64.wrap (m:Int)= (m:Int):=IntWalk.i64_in _ (by omega);have d6:(m:Int)< (m:Int)+1:=by omega
    have k9:=Qa h7;clear hm hq hl;go_wp2_with fail
    try rw[k9.out]
    go_quiet (fail);have a1:=av (Zd w6.heap.size w6) nq;have g8:=Hs.out.2.2.below a1;obtain⟨w7,m3⟩:∃w7,w6.drewN nq=w7:=⟨_,rfl⟩;rw[m3] at a1 g8 ⊢;have g14:=aa g8.row (j:=14) (u:=.int .i64 0) rfl;have f14':=aj g8.row 14;have n3:=Zb (Zb b1 Hs.out.2.1.1) a1.size;have i8:=Qa (g8.setWant n3 2 (z:=2) rfl);have a4:=Qa a1;clear g8 a1 m3 c12 cg d14 f14;go_wp2_with fail;go_end0;exact⟨rfl,((d2.out.trans (cK.rd Hs.out.1 Hs.out.2.1)).trans (cK.new a4.out (Zb b1 Hs.out.2.1.1))).trans (cK.rd i8.out.1 i8.out.2.1),i8.out.2.2.s,_,((a7.out.kp Hs.out.2.1 bO).below a4.out).kp i8.out.2.1 bO⟩
   ·have Hl:=Qa hl;have Hn:=Qa hn;have l4:=Qa h5;clear hl hn h5;have i0:=Qa (fV a6.out.s Hl.out Hn.out b1);go_wp2_with fail;(with_reducible refine i0.out.mono ?_);rintro e w2 ⟨rfl,i2,c4,g2⟩;have b5:=a7.out.kp c4 bO;have b2:=Zb b1 c4.1;have c0:=Qa (d2.out.trans (cK.rd i2 c4));clear i0 c4 i2;obtain⟨wq,hwq⟩:∃wq,w2.drew=wq:=⟨_,rfl⟩;have a1:Below w2.heap.size w2 wq:=by rw[<-hwq];exact(Zd _ _).drew
    have a5:=g2.below a1;have b6:=b5.below a1;have c2:=Qa (dQ a5 (by have:=Hl.out;omega));have Htk:=Qa (wW (lv:=(frs.length:Int)+1) (by omega) b6 l4.out (by have:=Hl.out;omega) (Zb b2 a1.size));obtain⟨by2,dp2,ex2,ov2,nv2,maps2,h6⟩:=id a5;have C11:=Qa (aa h6.row (j:=11) (u:=.func (.func 73) #[.pointer (some ⟨xb,0,none⟩)] #[]) rfl);have a4:=Qa (And.intro (c0.out.trans (cK.new a1 b2)) a5);clear a1 a5 b6 h6 b5 g2 b2;go_wp2_with fail;refine cP (fun w9=>w9.cell? ⟨rb,11,none⟩=some (.func (.func 73) #[.pointer (some ⟨xb,0,none⟩)] #[])) 8 ((by rw[hwq];exact C11.out)) fun a0=>?_
    rw[hwq] at a0 ⊢;clear hwq;refine tR 0 a0 ?_;refine tR 1 a0 ?_;refine tR 2 a0 ?_;refine tR 3 a0 ?_;refine tR 4 a0 ?_
    try simp only[Act.put,jP,jQ,jR]
    refine rZ 5 fun K hK=>?_
    go_simp;(with_reducible refine c2.out.mono ?_);rintro e w' ⟨rfl,rfl⟩;go_wp2_with fail;refine hK.out _ _ (fun _=>a0) (fun a0=>?_);clear hK K;have a0:=a0 (by decide)
    try simp only[Act.put,jP,jQ,jR]
    refine tR 6 a0 ?_;refine tR 7 a0 ?_
    try simp only[Act.put,jP,jQ,jR]
    refine rZ 8 fun K hK=>?_
    go_simp;(with_reducible refine Htk.out.mono ?_);rintro e w4 ⟨rfl,h1,h2,h3⟩;have R:=Qa (And.intro h1 (And.intro h2 h3));clear h1 h2 h3;go_wp2_with fail;refine hK.out _ _ (fun h=>absurd rfl h) (fun _=>?_);clear hK K
    try simp only[Act.put,jP,jQ,jR]
    refine aV (by kernel_rfl) (NoPanic.normal ?_) _;obtain⟨y1,y2,bs2,y3⟩:=R.out;obtain⟨by4,dp4,ex4,ov4,nv4,maps4,a2⟩:=a4.out.2.tb y2;have c1:=Qa (a4.out.1.trans (cK.tb y1 y2));have e3:B<=w4.heap.size:=Zb HB.out c1.out.b.size;obtain⟨A12,q12,a9,-⟩:=ag a2.opens;subst a9;obtain⟨m,hm⟩:∃m,frs.length=m:=⟨_,rfl⟩;have c12:=aa a2.row (j:=12) (u:=.slice A12 m q12) (by rw[<-hm];rfl);have a3:=ac w4 (.cells #[.int .i64 5] 3);have k6:=Qa (ap w4 [.int .i64 5] 3);have e4:=a2.below a3;have h8:=Qa (show(w4.alloc (.cells #[.int .i64 5] 3)).ownsRow B 3 1 (.slice A12 m q12) m (frs.reverse.map gp) by have:=e4.opens;rwa[hm] at this);have d4:=Qa e4;have k3:=Qa y3;have l1:=Qa (show cK B w (w4.alloc (.cells #[.int .i64 5] 3)) from c1.out.trans (cK.new a3 e3));have k1:m<=1000000000:=by rw[<-hm];exact Hl.out
    have Hm:=Qa hm;have c3:=Qa (show B<=(w4.alloc (.cells #[.int .i64 5] 3)).heap.size from Zb e3 a3.size);have d9:=Qa a3;clear y1 y2 y3 a2 e3 a3 e4 R a4 hm;go_wp2_with ((at_builtin;refine lH Ci h8.out k6.out c3.out ?_;intro v' w5 p1 p2 p3;obtain⟨A5,q5,rfl,-,-,-⟩:=ag p1;have e2:=az d4.out.row p2 (aI h8.out d4.out.row (by decide));have c12':=aa e2 (j:=12) (u:=.slice A12 m q12) (by rw[<-Hm.out];rfl);have f12':=aj e2 12;have hs:=d4.out.b.setOpen c3.out (a8.grown p2) (fun g h=>by rw[Hm.out];exact h) (ofr':=⟨false, [], [],none⟩::frs) (ov':=.slice A5 (m+1) q5) (by rw[List.length_cons,Hm.out,List.reverse_cons,List.map_append];exact p1);have c14':=aa hs.2.2.row (j:=14) (u:=.int .i64 want) rfl;have f14':=aj hs.2.2.row 14;have Hs:=Qa hs;have n5:=Qa p2;clear p1 p2 p3 e2 hs));go_end0;obtain⟨s1,s2,s3⟩:=Hs.out;obtain⟨z1,z2,z3⟩:=s3.setWant (Zb c3.out s2.1) 1 (z:=1) rfl;refine⟨rfl,(l1.out.trans (cK.rd s1 s2)).trans (cK.rd z1 z2),⟨by4,dp4,ex4,_,nv4,maps4,z3.row,z3.low,z3.lex,z3.llow,z3.own,z3.opens,z3.names,?_,z3.nodup,z3.le⟩,bs2,((k3.out.below d9.out).kp s2 bO).kp z2 bO⟩;have:=z3.seen;simpa [List.filter_cons] using this
   ·have Hl:=Qa hl;have Hn:=Qa hn;have l4:=Qa h5;clear hl hn h5;have i0:=Qa (fV a6.out.s Hl.out Hn.out b1);go_wp2_with fail;(with_reducible refine i0.out.mono ?_);rintro e w2 ⟨rfl,i2,c4,g2⟩;have b5:=a7.out.kp c4 bO;have b2:=Zb b1 c4.1;have c0:=Qa (d2.out.trans (cK.rd i2 c4));clear i0 c4 i2;obtain⟨wq,hwq⟩:∃wq,w2.drew=wq:=⟨_,rfl⟩;have a1:Below w2.heap.size w2 wq:=by rw[<-hwq];exact(Zd _ _).drew
    have a5:=g2.below a1;have b6:=b5.below a1;have c2:=Qa (dQ a5 (by have:=Hl.out;omega));have Htk:=Qa (wM (lv:=(frs.length:Int)+1) (by omega) b6 l4.out (by have:=Hl.out;omega) (Zb b2 a1.size));obtain⟨by2,dp2,ex2,ov2,nv2,maps2,h6⟩:=id a5;have C11:=Qa (aa h6.row (j:=11) (u:=.func (.func 73) #[.pointer (some ⟨xb,0,none⟩)] #[]) rfl);have a4:=Qa (And.intro (c0.out.trans (cK.new a1 b2)) a5);clear a1 a5 b6 h6 b5 g2 b2;go_wp2_with fail;refine cP (fun w9=>w9.cell? ⟨rb,11,none⟩=some (.func (.func 73) #[.pointer (some ⟨xb,0,none⟩)] #[])) 8 ((by rw[hwq];exact C11.out)) fun a0=>?_
    rw[hwq] at a0 ⊢;clear hwq;refine tR 0 a0 ?_;refine tR 1 a0 ?_;refine tR 2 a0 ?_;refine tR 3 a0 ?_;refine tR 4 a0 ?_
    try simp only[Act.put,jP,jQ,jR]
    refine rZ 5 fun K hK=>?_
    go_simp;(with_reducible refine c2.out.mono ?_);rintro e w' ⟨rfl,rfl⟩;go_wp2_with fail;refine hK.out _ _ (fun _=>a0) (fun a0=>?_);clear hK K;have a0:=a0 (by decide)
    try simp only[Act.put,jP,jQ,jR]
    refine tR 6 a0 ?_;refine tR 7 a0 ?_
    try simp only[Act.put,jP,jQ,jR]
    refine rZ 8 fun K hK=>?_
    go_simp;(with_reducible refine Htk.out.mono ?_);rintro e w4 ⟨rfl,h1,h2,h3⟩;have R:=Qa (And.intro h1 (And.intro h2 h3));clear h1 h2 h3;go_wp2_with fail;refine hK.out _ _ (fun h=>absurd rfl h) (fun _=>?_);clear hK K
    try simp only[Act.put,jP,jQ,jR]
    refine aV (by kernel_rfl) (NoPanic.normal ?_) _;obtain⟨y1,y2,bs2,y3⟩:=R.out;obtain⟨by4,dp4,ex4,ov4,nv4,maps4,a2⟩:=a4.out.2.tb y2;have c1:=Qa (a4.out.1.trans (cK.tb y1 y2));have e3:B<=w4.heap.size:=Zb HB.out c1.out.b.size;obtain⟨A12,q12,a9,-⟩:=ag a2.opens;subst a9;obtain⟨m,hm⟩:∃m,frs.length=m:=⟨_,rfl⟩;have c12:=aa a2.row (j:=12) (u:=.slice A12 m q12) (by rw[<-hm];rfl);have a3:=ac w4 (.cells #[.int .i64 6] 3);have k6:=Qa (ap w4 [.int .i64 6] 3);have e4:=a2.below a3;have h8:=Qa (show(w4.alloc (.cells #[.int .i64 6] 3)).ownsRow B 3 1 (.slice A12 m q12) m (frs.reverse.map gp) by have:=e4.opens;rwa[hm] at this);have d4:=Qa e4;have k3:=Qa y3;have l1:=Qa (show cK B w (w4.alloc (.cells #[.int .i64 6] 3)) from c1.out.trans (cK.new a3 e3));have k1:m<=1000000000:=by rw[<-hm];exact Hl.out
    have Hm:=Qa hm;have c3:=Qa (show B<=(w4.alloc (.cells #[.int .i64 6] 3)).heap.size from Zb e3 a3.size);have d9:=Qa a3;have i4:maps4.length<=1000000000:=by
     have h1:=a2.seen.1;have h2:=List.length_filter_le (fun g:Fr=>g.obj) frs;have:=Hl.out;omega
    have g1:=Qa i4;clear i4;obtain⟨A13,q13,k2,-⟩:=ag a2.names;subst k2;have q7:= @run_makeMap Tryz.prog;clear y1 y2 y3 a2 e3 a3 e4 R a4 hm;go_wp2_with (first|(at_builtin;refine lH Ci h8.out k6.out c3.out ?_;intro v' w5 p1 p2 p3;obtain⟨A5,q5,rfl,-,-,-⟩:=ag p1;have e2:=az d4.out.row p2 (aI h8.out d4.out.row (by decide));have c12':=aa e2 (j:=12) (u:=.slice A12 m q12) (by rw[<-Hm.out];rfl);have f12':=aj e2 12;have hs:=d4.out.b.setOpen c3.out (a8.grown p2) (fun g h=>by rw[Hm.out];exact h) (ofr':=⟨true, [], [],none⟩::frs) (ov':=.slice A5 (m+1) q5) (by rw[List.length_cons,Hm.out,List.reverse_cons,List.map_append];exact p1);have c14':=aa hs.2.2.row (j:=14) (u:=.int .i64 want) rfl;have f14':=aj hs.2.2.row 14;have Hs:=Qa hs;have n5:=Qa p2;have c13':=aa hs.2.2.row (j:=13) (u:=.slice A13 maps4.length q13) rfl;have f6:=Qa (hs.2.2.pushName (Zb c3.out hs.2.1.1) (z:=w5.heap.size) (by simp) rfl);clear p1 p2 p3 e2 hs)|(at_builtin;refine lH F4 f6.out.1 f6.out.2.2.1 (by have:=Hs.out.2.1.1;have:=c3.out;have:=f6.out.2.1.size;omega) ?_ (hlen:=(by unfold maxLen;have:=g1.out;omega)) (hby:=(by have:=g1.out;omega));intro v9 w9 p1 p2 p3;obtain⟨A9,q9,rfl,-,-,-⟩:=ag p1;have f2:=f6.out.2.2.2 w9 _ p2 p1;have c13q:=aa f2.1 (j:=13) (u:=.slice A13 maps4.length q13) rfl;have f13q:=aj f2.1 13;have c14q:=aa f2.2.2.2.row (j:=14) (u:=.int .i64 want) rfl;have f14q:=aj f2.2.2.2.row 14;have q0:=Qa f2;clear p1 p2 p3 f2));go_end0;obtain⟨s1,s2,s3⟩:=Hs.out;obtain⟨t1,t2,t3,t4⟩:=f6.out;obtain⟨r0,r1,r2,r3⟩:=q0.out;have d1:=Zb c3.out s2.1;have n8:=Zb d1 t2.size;obtain⟨z1,z2,z3⟩:=r3.setWant (Zb n8 r2.1) 3 (z:=3) rfl;exact⟨rfl,(((l1.out.trans (cK.rd s1 s2)).trans (cK.new t2 d1)).trans (cK.rd r1 r2)).trans (cK.rd z1 z2),⟨by4,dp4,ex4,_,_,_,z3.a⟩,bs2,((((k3.out.below d9.out).kp s2 bO).below t2).kp r2 bO).kp z2 bO⟩
   ·have Ho:=Qa ho;have l3:=Qa f3;have j3:=Qa g0;have Hi:=Qa hi;have e8:=Qa c5;have g6:=Qa g9;have Hl:=Qa hl;clear ho f3 g0 hi c5 g9 hl;have d14:=aa a6.out.row (j:=14) (u:=.int .i64 want) rfl;obtain⟨g,q,a9,cg,hq⟩:=a6.out.topKind;rw[Ho.out] at cg;simp only[Bool.false_eq_true,if_false,if_true] at cg;subst a9;obtain⟨m,hm⟩:∃m,fs.length=m:=⟨_,rfl⟩;rw[hm] at cg hq;have k1:m<=1000000000:=by rw[<-hm];exact Hl.out
    have c12:=aa a6.out.row (j:=12) (u:=.slice (some ⟨g,0,none⟩) (m+1) q) (by rw[<-hm];rfl);have s1:IntKind.i64.wrap (m:Int)= (m:Int):=IntWalk.i64_in _ (by omega);have d6:(m:Int)< (m:Int)+1:=by omega
    have Hm:=Qa hm;have Hq:=Qa hq;clear hm d14 hq;go_wp2_with fail;go_quiet (fail);have a1:=av (Zd wr.heap.size wr) nq;obtain⟨w2,f8⟩:∃w2,wr.drewN nq=w2:=⟨_,rfl⟩;rw[f8] at a1 ⊢;have d0:=Qa (a6.out.below a1);have b7:=Qa (a7.out.below a1);have c0:=Qa (d2.out.trans (cK.new a1 b1));clear a1 f8 c12 cg e1;go_wp2_with fail;have j0:=Qa (show ∃by_ dp ex ov nv maps,jE B w2 rb lb xb v xs (f::fs) (f::fs) want k nd false by_ dp ex ov nv maps from⟨_,_,_,_,_,_,d0.out.b⟩);obtain⟨w3,f9⟩:∃w3,w3=w2:=⟨_,rfl⟩;have c6:=b7;have f0:=c0;rw[<-f9] at j0 c6 f0 ⊢;clear d0 b7 c0 f9;obtain⟨by3,dp3,ex3,ov3,nv3,maps3,e5⟩:=j0.out;obtain⟨g3,q3,a9,-,l2⟩:=e5.topOpen;subst a9;have e7:=Zb HB.out f0.out.b.size;obtain⟨w4,c8⟩:∃w4,w3.drew=w4:=⟨_,rfl⟩;have b3:Below w3.heap.size w3 w4:=by rw[<-c8];exact(Zd _ _).drew
    have a2:=e5.below b3;have C12:=Qa (aa a2.row (j:=12) (u:=.slice (some ⟨g3,0,none⟩) (m+1) q3) (by rw[<-Hm.out];rfl));have f12:=aj a2.row 12;have l5:(m:Int)<=q3:=by have:=Hm.out;omega
    have b9:w4.ownsRow B 3 1 (.slice (some ⟨g3,0,none⟩) m q3) fs.length (fs.reverse.map gp):=by
     have:=a2.opens;rw[List.length_cons,List.reverse_cons,List.map_append] at this;rw[<-Hm.out];exact qz this (by simp)
    have b8:=Qa (a2.setOpen (Zb e7 b3.size) (a8.refl (fun _=>False) w4) (fun _ h=>h.elim) (ofr':=fs) (ov':=.slice (some ⟨g3,0,none⟩) m q3) b9);have e6:=Qa (c6.out.below b3);have c1:=Qa (f0.out.trans (cK.new b3 e7));have c12s:=C12.out;clear e5 a2 b9 b3 e7 l2;refine cP (fun w9=>w9.cell? ⟨rb,12,none⟩=some (.slice (some ⟨g3,0,none⟩) (m+1) q3)) 14 ((by rw[c8];exact C12.out)) fun a0=>?_
    rw[c8] at a0 ⊢;clear c8;refine tR 0 a0 ?_;refine tR 1 a0 ?_;refine tR 2 a0 ?_;refine tR 3 a0 ?_;refine tR 4 a0 ?_;refine tR 5 a0 ?_
    try simp only[Act.put,jP,jQ,jR]
    refine tR 6 a0 ?_;refine tR 7 a0 ?_;refine tR 8 a0 ?_;refine tR 9 a0 ?_;refine tR 10 a0 ?_;refine tR 11 a0 ?_
    try simp only[Act.put,jP,jQ,jR]
    refine tR 12 a0 ?_;refine tR 13 a0 ?_
    try simp only[Act.put,jP,jQ,jR]
    refine rZ 14 fun K hK=>?_
    go_simp;refine hK.out _ _ (fun h=>absurd rfl h) (fun _=>?_);clear hK K
    try simp only[Act.put,jP,jQ,jR]
    refine aV (by kernel_rfl) (NoPanic.normal ?_) _;clear a0 c12s f12;obtain⟨w5,i3⟩:∃w5,w4.setCell ⟨rb,12,none⟩ (.slice (some ⟨g3,0,none⟩) m q3)=w5:=⟨_,rfl⟩;rw[i3] at b8 ⊢;have g4:=jE.a (frs:=fs) (by have h:=b8.out.2.2;exact⟨h.row,h.low,h.lex,h.llow,h.own,h.opens,h.names,(by have:=h.seen;rw[List.filter_cons,Ho.out] at this;simpa using this),h.nodup,h.le⟩);have d7:=Qa (e6.out.kp b8.out.2.1 bO);have h9:=Qa (c1.out.trans (cK.rd b8.out.1 b8.out.2.1));clear i3;go_wp2_with fail;obtain⟨wq,hwq⟩:∃wq,w5.drew=wq:=⟨_,rfl⟩;have a1:Below w5.heap.size w5 wq:=by rw[<-hwq];exact(Zd _ _).drew
    have d5:=Zb HB.out h9.out.b.size;have a5:=g4.s.below a1;have c2:=Qa (dQ a5 (by have:=Hl.out;omega));have Htk:=Qa (nZ (lv:=(fs.length:Int)+1) (by omega) (d7.out.below a1) Ho.out l3.out j3.out Hi.out e8.out g6.out (Zb d5 a1.size));obtain⟨by2,dp2,ex2,ov2,nv2,maps2,b4⟩:=id a5;have C11:=Qa (aa b4.row (j:=11) (u:=.func (.func 73) #[.pointer (some ⟨xb,0,none⟩)] #[]) rfl);have a4:=Qa (And.intro (h9.out.trans (cK.new a1 d5)) a5);clear a1 a5 b4 g4 d5;refine cP (fun w9=>w9.cell? ⟨rb,11,none⟩=some (.func (.func 73) #[.pointer (some ⟨xb,0,none⟩)] #[])) 9 ((by rw[hwq];exact C11.out)) fun a0=>?_
    rw[hwq] at a0 ⊢;clear hwq;refine tR 0 a0 ?_;refine tR 1 a0 ?_;refine tR 2 a0 ?_;refine tR 3 a0 ?_;refine tR 4 a0 ?_;refine tR 6 a0 ?_
    try simp only[Act.put,jP,jQ,jR]
    refine rZ 5 fun K hK=>?_
    go_simp;(with_reducible refine c2.out.mono ?_);rintro e w' ⟨rfl,rfl⟩;go_wp2_with fail;refine hK.out _ _ (fun _=>a0) (fun a0=>?_);clear hK K;have a0:=a0 (by decide)
    try simp only[Act.put,jP,jQ,jR]
    refine tR 7 a0 ?_;refine tR 8 a0 ?_
    try simp only[Act.put,jP,jQ,jR]
    refine rZ 9 fun K hK=>?_
    go_simp;(with_reducible refine Htk.out.mono ?_);rintro e w6 ⟨rfl,h1,h2,h3⟩;have R:=Qa (And.intro h1 (And.intro h2 h3));clear h1 h2 h3;go_wp2_with fail;refine hK.out _ _ (fun h=>absurd rfl h) (fun _=>?_);clear hK K
    try simp only[Act.put,jP,jQ,jR]
    refine aV (by kernel_rfl) (NoPanic.normal ?_) _;obtain⟨y1,y2,bs2,y3⟩:=R.out;have h4:=(a4.out.2.tb y2).put (fun f fs e=>(g6.out.2 f fs e).1) (dM f);have d1:B<=w6.heap.size:=Zb (Zb HB.out a4.out.1.b.size) y1.size;have j2:=Qa (jj h4 d1 (by rw[kg];have:=Hl.out;omega));have R6:=Qa (And.intro (a4.out.1.trans (cK.tb y1 y2)) y3);clear y1 y2 y3 h4 d1 R a4 c2 Htk C11;go_wp2_with fail;(with_reducible refine j2.out.mono ?_);rintro e w7 ⟨rfl,h1,h2,h3⟩;have R7:=Qa (And.intro h1 (And.intro h2 h3));clear h1 h2 h3;go_wp2_with fail;go_end0;refine⟨rfl,R6.out.1.trans (cK.rd R7.out.1 R7.out.2.1),?_,bs2,R6.out.2.kp R7.out.2.1 bO⟩;rw[jn];exact R7.out.2.2
   ·have Ho:=Qa ho;have l3:=Qa f3;have j3:=Qa g0;have Hi:=Qa hi;have e8:=Qa c5;have g6:=Qa g9;have Hl:=Qa hl;clear ho f3 g0 hi c5 g9 hl;have d14:=aa a6.out.row (j:=14) (u:=.int .i64 want) rfl;obtain⟨g,q,a9,cg,hq⟩:=a6.out.topKind;rw[Ho.out] at cg;simp only[Bool.false_eq_true,if_false,if_true] at cg;subst a9;obtain⟨m,hm⟩:∃m,fs.length=m:=⟨_,rfl⟩;rw[hm] at cg hq;have k1:m<=1000000000:=by rw[<-hm];exact Hl.out
    have c12:=aa a6.out.row (j:=12) (u:=.slice (some ⟨g,0,none⟩) (m+1) q) (by rw[<-hm];rfl);have s1:IntKind.i64.wrap (m:Int)= (m:Int):=IntWalk.i64_in _ (by omega);have d6:(m:Int)< (m:Int)+1:=by omega
    have Hm:=Qa hm;have Hq:=Qa hq;clear hm d14 hq;go_wp2_with fail;go_quiet (fail);have a1:=av (Zd wr.heap.size wr) nq;obtain⟨w2,f8⟩:∃w2,wr.drewN nq=w2:=⟨_,rfl⟩;rw[f8] at a1 ⊢;have d0:=Qa (a6.out.below a1);have b7:=Qa (a7.out.below a1);have c0:=Qa (d2.out.trans (cK.new a1 b1));clear a1 f8 c12 cg e1;go_wp2_with fail;obtain⟨b0,maps9,n4⟩:∃b m',maps=b::m':=by
     have f4:=d0.out.seen;simp only[List.filter_cons,Ho.out,if_true] at f4
     cases maps with
     |nil=>have:=f4.1;simp at this
     |cons b m'=>exact⟨b,m',rfl⟩
    subst n4;obtain⟨A13,q13,k2,i5,-,g5⟩:=ag d0.out.names;subst k2;obtain⟨g13,l0⟩:=g5 (by simp);subst l0;obtain⟨n9,k0⟩:∃n,maps9.length=n:=⟨_,rfl⟩;have k5:n9<=m:=by
     have h1:=d0.out.seen.1;have h2:=List.length_filter_le (fun g:Fr=>g.obj) fs;simp only[List.filter_cons,Ho.out,if_true,List.length_cons] at h1;have:=Hm.out;omega
    have b2:=Zb HB.out c0.out.b.size;obtain⟨wb,j1⟩:∃wb,w2.drew=wb:=⟨_,rfl⟩;have g7:Below w2.heap.size w2 wb:=by rw[<-j1];exact(Zd _ _).drew
    have e0:=d0.out.below g7;have C13:=Qa (aa e0.row (j:=13) (u:=.slice (some ⟨g13,0,none⟩) (n9+1) q13) (by rw[<-k0];rfl));have c13s:=C13.out;have f13:=aj e0.row 13;have s9:IntKind.i64.wrap (n9:Int)= (n9:Int):=IntWalk.i64_in _ (by omega);have k4:(n9:Int)<=q13:=by rw[List.length_cons] at i5;omega
    have c9:wb.ownsRow B 310 1 (.slice (some ⟨g13,0,none⟩) n9 q13) maps9.length (maps9.reverse.map wm):=by
     have:=e0.names;rw[List.length_cons,List.reverse_cons,List.map_append] at this;rw[<-k0];exact qz this (by simp)
    have f5:=Qa (e0.b.setNames (Zb b2 g7.size) (a8.refl (fun _=>False) wb) (fun _ h=>h.elim) (maps':=maps9) (nfr':=fs) (nv':=.slice (some ⟨g13,0,none⟩) n9 q13) c9 (List.nodup_cons.1 e0.nodup).2 (fun w10 hk _=>by
     have f4:=e0.seen;simp only[List.filter_cons,Ho.out,if_true] at f4;refine jE.seens (nfr:=fs) ⟨by simpa using f4.1,fun i x y q1 q2=>f4.2 (i+1) x y (by simpa using q1) (by simpa using q2)⟩ hk))
    have d3:=Qa (b7.out.below g7);have h0:=Qa (c0.out.trans (cK.new g7 b2));clear c9 e0 g7 b2 i5 g5 k5 k0;refine cP (fun w9=>w9.cell? ⟨rb,13,none⟩=some (.slice (some ⟨g13,0,none⟩) (n9+1) q13)) 14 ((by rw[j1];exact C13.out)) fun a0=>?_
    rw[j1] at a0 ⊢;clear j1;refine tR 0 a0 ?_;refine tR 1 a0 ?_;refine tR 2 a0 ?_;refine tR 3 a0 ?_;refine tR 4 a0 ?_;refine tR 5 a0 ?_
    try simp only[Act.put,jP,jQ,jR]
    refine tR 6 a0 ?_;refine tR 7 a0 ?_;refine tR 8 a0 ?_;refine tR 9 a0 ?_;refine tR 10 a0 ?_;refine tR 11 a0 ?_
    try simp only[Act.put,jP,jQ,jR]
    refine tR 12 a0 ?_;refine tR 13 a0 ?_
    try simp only[Act.put,jP,jQ,jR]
    refine rZ 14 fun K hK=>?_
    go_simp;refine hK.out _ _ (fun h=>absurd rfl h) (fun _=>?_);clear hK K
    try simp only[Act.put,jP,jQ,jR]
    refine aV (by kernel_rfl) (NoPanic.normal ?_) _;clear a0 c13s f13 s9 k4;obtain⟨w3,f9⟩:∃w3,wb.setCell ⟨rb,13,none⟩ (.slice (some ⟨g13,0,none⟩) n9 q13)=w3:=⟨_,rfl⟩;rw[f9] at f5 ⊢;have j0:=Qa (show ∃by_ dp ex ov nv maps,jE B w3 rb lb xb v xs (f::fs) fs want k nd false by_ dp ex ov nv maps from⟨_,_,_,_,_,_,f5.out.2.2⟩);have c6:=Qa (d3.out.kp f5.out.2.1 bO);have f0:=Qa (h0.out.trans (cK.rd f5.out.1 f5.out.2.1));clear f9 f5 d3 h0 d0 b7 c0;go_wp2_with fail;obtain⟨by3,dp3,ex3,ov3,nv3,maps3,e5⟩:=j0.out;obtain⟨g3,q3,a9,-,l2⟩:=e5.topOpen;subst a9;have e7:=Zb HB.out f0.out.b.size;obtain⟨w4,c8⟩:∃w4,w3.drew=w4:=⟨_,rfl⟩;have b3:Below w3.heap.size w3 w4:=by rw[<-c8];exact(Zd _ _).drew
    have a2:=e5.below b3;have C12:=Qa (aa a2.row (j:=12) (u:=.slice (some ⟨g3,0,none⟩) (m+1) q3) (by rw[<-Hm.out];rfl));have f12:=aj a2.row 12;have l5:(m:Int)<=q3:=by have:=Hm.out;omega
    have b9:w4.ownsRow B 3 1 (.slice (some ⟨g3,0,none⟩) m q3) fs.length (fs.reverse.map gp):=by
     have:=a2.opens;rw[List.length_cons,List.reverse_cons,List.map_append] at this;rw[<-Hm.out];exact qz this (by simp)
    have b8:=Qa (a2.setOpen (Zb e7 b3.size) (a8.refl (fun _=>False) w4) (fun _ h=>h.elim) (ofr':=fs) (ov':=.slice (some ⟨g3,0,none⟩) m q3) b9);have e6:=Qa (c6.out.below b3);have c1:=Qa (f0.out.trans (cK.new b3 e7));have c12s:=C12.out;clear e5 a2 b9 b3 e7 l2;refine cP (fun w9=>w9.cell? ⟨rb,12,none⟩=some (.slice (some ⟨g3,0,none⟩) (m+1) q3)) 14 ((by rw[c8];exact C12.out)) fun a0=>?_
    rw[c8] at a0 ⊢;clear c8;refine tR 0 a0 ?_;refine tR 1 a0 ?_;refine tR 2 a0 ?_;refine tR 3 a0 ?_;refine tR 4 a0 ?_;refine tR 5 a0 ?_
    try simp only[Act.put,jP,jQ,jR]
    refine tR 6 a0 ?_;refine tR 7 a0 ?_;refine tR 8 a0 ?_;refine tR 9 a0 ?_;refine tR 10 a0 ?_;refine tR 11 a0 ?_
    try simp only[Act.put,jP,jQ,jR]
    refine tR 12 a0 ?_;refine tR 13 a0 ?_
    try simp only[Act.put,jP,jQ,jR]
    refine rZ 14 fun K hK=>?_
    go_simp;refine hK.out _ _ (fun h=>absurd rfl h) (fun _=>?_);clear hK K
    try simp only[Act.put,jP,jQ,jR]
    refine aV (by kernel_rfl) (NoPanic.normal ?_) _;clear a0 c12s f12;obtain⟨w5,i3⟩:∃w5,w4.setCell ⟨rb,12,none⟩ (.slice (some ⟨g3,0,none⟩) m q3)=w5:=⟨_,rfl⟩;rw[i3] at b8 ⊢;have g4:=jE.a (frs:=fs) (b8.out.2.2);have d7:=Qa (e6.out.kp b8.out.2.1 bO);have h9:=Qa (c1.out.trans (cK.rd b8.out.1 b8.out.2.1));clear i3;go_wp2_with fail;obtain⟨wq,hwq⟩:∃wq,w5.drew=wq:=⟨_,rfl⟩;have a1:Below w5.heap.size w5 wq:=by rw[<-hwq];exact(Zd _ _).drew
    have d5:=Zb HB.out h9.out.b.size;have a5:=g4.s.below a1;have c2:=Qa (dQ a5 (by have:=Hl.out;omega));have Htk:=Qa (oV (lv:=(fs.length:Int)+1) (by omega) (d7.out.below a1) Ho.out l3.out j3.out Hi.out e8.out g6.out (Zb d5 a1.size));obtain⟨by2,dp2,ex2,ov2,nv2,maps2,b4⟩:=id a5;have C11:=Qa (aa b4.row (j:=11) (u:=.func (.func 73) #[.pointer (some ⟨xb,0,none⟩)] #[]) rfl);have a4:=Qa (And.intro (h9.out.trans (cK.new a1 d5)) a5);clear a1 a5 b4 g4 d5;refine cP (fun w9=>w9.cell? ⟨rb,11,none⟩=some (.func (.func 73) #[.pointer (some ⟨xb,0,none⟩)] #[])) 9 ((by rw[hwq];exact C11.out)) fun a0=>?_
    rw[hwq] at a0 ⊢;clear hwq;refine tR 0 a0 ?_;refine tR 1 a0 ?_;refine tR 2 a0 ?_;refine tR 3 a0 ?_;refine tR 4 a0 ?_;refine tR 6 a0 ?_
    try simp only[Act.put,jP,jQ,jR]
    refine rZ 5 fun K hK=>?_
    go_simp;(with_reducible refine c2.out.mono ?_);rintro e w' ⟨rfl,rfl⟩;go_wp2_with fail;refine hK.out _ _ (fun _=>a0) (fun a0=>?_);clear hK K;have a0:=a0 (by decide)
    try simp only[Act.put,jP,jQ,jR]
    refine tR 7 a0 ?_;refine tR 8 a0 ?_
    try simp only[Act.put,jP,jQ,jR]
    refine rZ 9 fun K hK=>?_
    go_simp;(with_reducible refine Htk.out.mono ?_);rintro e w6 ⟨rfl,h1,h2,h3⟩;have R:=Qa (And.intro h1 (And.intro h2 h3));clear h1 h2 h3;go_wp2_with fail;refine hK.out _ _ (fun h=>absurd rfl h) (fun _=>?_);clear hK K
    try simp only[Act.put,jP,jQ,jR]
    refine aV (by kernel_rfl) (NoPanic.normal ?_) _;obtain⟨y1,y2,bs2,y3⟩:=R.out;have h4:=(a4.out.2.tb y2).put (fun f fs e=>(g6.out.2 f fs e).1) (dM f);have d1:B<=w6.heap.size:=Zb (Zb HB.out a4.out.1.b.size) y1.size;have j2:=Qa (jj h4 d1 (by rw[kg];have:=Hl.out;omega));have R6:=Qa (And.intro (a4.out.1.trans (cK.tb y1 y2)) y3);clear y1 y2 y3 h4 d1 R a4 c2 Htk C11;go_wp2_with fail;(with_reducible refine j2.out.mono ?_);rintro e w7 ⟨rfl,h1,h2,h3⟩;have R7:=Qa (And.intro h1 (And.intro h2 h3));clear h1 h2 h3;go_wp2_with fail;go_end0;refine⟨rfl,R6.out.1.trans (cK.rd R7.out.1 R7.out.2.1),?_,bs2,R6.out.2.kp R7.out.2.1 bO⟩;rw[jn];exact R7.out.2.2
