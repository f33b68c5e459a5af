import Derived.Test.YtohibglohlfjfaaGreatDoorGZ6bp
set_option linter.unusedVariables false
set_option linter.unusedSimpArgs false
set_option maxHeartbeats 64000000
set_option maxRecDepth 100000
namespace Go.Proofs.YtohibglohlfjfaaGreatDoor
open Go.RowKit
variable {fin:Bool}{f:Fr}{by_ dp ex:Int}{frs fs nfr:List Fr}{maps:List Nat}{xs:List UInt8}{B i lb n nd nd' q rb want xb:Nat}{A:Option Addr}{e:TypeId}{nv ov v x:Value}{w:World}
theorem oW {L:List UInt8}{y c:UInt8}(h:L[i]?=some y):(L.take (i+1)).contains c= ((L.take i).contains c||c==y):=by
 rw[List.take_add_one,h];rw[Bool.eq_iff_iff];simp[List.contains_eq_mem]
theorem DP:dq 23 3 (.int .i64 0) 1 8:=⟨Tryz.underlying23,by kernel_rfl,rfl,by decide⟩
theorem Ia:dq 203 311 (.map none) 1 8:=⟨Tryz.underlying203,by kernel_rfl,rfl,by decide⟩
theorem jC.pushName {k:Nat}{ofr:List Fr}(h:jC B w rb lb xb v xs ofr nfr want k nd fin by_ dp ex ov nv maps)(hB:B<=w.heap.size){z:Nat}(hz:w.heap.size=z){W8:World}(hW:((w.alloc (.map #[] 0)).alloc (.cells #[.map (some z)] 311))=W8) :
  W8.ownsRow B 311 1 nv maps.length (maps.reverse.map vQ)/\Below w.heap.size w W8/\(∀j u, [Value.map (some z)][j]?=some u->W8.cell? ⟨z+1,j,none⟩=some u)/\∀w9 nv',W8.grownBy w9 nv.ownBlock->w9.ownsRow B 311 1 nv' (maps.length+1) (maps.reverse.map vQ ++ [.map (some z)])->
   w9.heap[rb]?=some (.cells (dB lb xb by_ dp nd ex ov nv want fin) 205 (0,0))/\Below B W8 (w9.setCell ⟨rb,13,none⟩ nv')/\Kp lL W8 (w9.setCell ⟨rb,13,none⟩ nv')/\jC B (w9.setCell ⟨rb,13,none⟩ nv') rb lb xb v xs ofr (⟨true, [], [],none⟩::nfr) want k nd fin by_ dp ex ov nv' (z::maps):=by
 subst hz;have a3:=ac w (.map #[] 0);have a0:=ac (w.alloc (.map #[] 0)) (.cells #[.map (some w.heap.size)] 311);rw[hW] at a0;have hb:=bu a3 a0;have h8:=h.below hb;have a1:dS W8 w.heap.size [] 0:=(dS.made w).kp (Kp.of_below (fun _=>False) a0);have hlt:∀b∈maps,b<w.heap.size:=fun b hb=>by
  obtain⟨i,hi,rfl⟩:=List.getElem_of_mem hb;have hl:=h.seen.1;obtain⟨-,l,n,hs,-⟩:=h.seen.2 i maps[i] ((nfr.filter (·.obj))[i]'(by omega)) (Zd hi) (Zd _);exact hs.lt
 have hcn:=ap (w.alloc (.map #[] 0)) [.map (some w.heap.size)] 311;rw[World.size_alloc] at hcn;refine⟨h8.names,hb,by rw[<-hW];exact hcn,fun w9 nv' hg hp=>?_⟩;have a2:=aB h8.row hg (aK h8.names h8.row (by decide));have hs:=h8.setNames (Zc hB hb.size) (aZ.grown hg) (fun g h=>h) (nv':=nv') (maps':=w.heap.size::maps) (nfr':=⟨true, [], [],none⟩::nfr) (by rw[List.length_cons,List.reverse_cons,List.map_append];exact hp) (List.nodup_cons.2 ⟨fun hm=>Nat.lt_irrefl _ (hlt _ hm),h8.nodup⟩) (fun w10 hk _=>by
  simp only[List.filter_cons,if_true];refine bo.cons ⟨hB, [],0,a1.kp hk,Zk _,fun s=>by simp[i7]⟩ (jC.seens h8.seen hk))
 exact⟨a2,hs⟩
theorem rA {xs:List Value}(h:w.ownsRow B e 1 (.slice A (n+1) q) (n+1) (xs ++ [x]))(hx:xs.length=n):w.ownsRow B e 1 (.slice A n q) n xs:=kd h (by rw[hx,Nat.mul_one])
theorem jC.topOpen {k:Nat}(h:jC B w rb lb xb v xs (f::fs) nfr want k nd fin by_ dp ex ov nv maps):∃g q,ov =.slice (some ⟨g,0,none⟩) (fs.length+1) q/\w.cell? ⟨g,fs.length,none⟩=some (.int .i64 (if f.obj then 6 else 5))/\fs.length+1<=q:=by
 have ho:=h.opens;rw[List.length_cons] at ho;obtain⟨A,q,rfl,hq,-,hA⟩:=ag ho;obtain⟨g,rfl⟩:=hA (by omega);have cg:=World.ownsRow.cellAt ho fs.length (by omega);rw[List.reverse_cons,List.map_append,List.getElem?_append_right (by simp),List.length_map,List.length_reverse,Nat.sub_self] at cg;exact⟨g,q,rfl,cg,hq⟩
theorem iu.topKind {k:Nat}(h:iu B w rb lb xb v xs (f::fs) want k nd fin by_ dp ex ov nv maps):∃g q,ov =.slice (some ⟨g,0,none⟩) (fs.length+1) q/\w.cell? ⟨g,fs.length,none⟩=some (.int .i64 (if f.obj then 6 else 5))/\fs.length+1<=q:=by
 have ho:=h.opens;rw[List.length_cons] at ho;obtain⟨A,q,rfl,hq,-,hA⟩:=ag ho;obtain⟨g,rfl⟩:=hA (by omega);have cg:=World.ownsRow.cellAt ho fs.length (by omega);rw[List.reverse_cons,List.map_append,List.getElem?_append_right (by simp),List.length_map,List.length_reverse,Nat.sub_self] at cg;exact⟨g,q,rfl,cg,hq⟩
inductive jz (nd:Nat):Int->UInt8->List Fr->dl->Nat->Prop
 |colon (frs:List Fr):jz nd 58 58 frs ⟨frs,0,none⟩ nd
 |comma5 (f:Fr) (fs:List Fr) (ho:f.obj=false) (hl:fs.length<=4294967296):jz nd 44 44 (f::fs) ⟨f::fs,0,none⟩ nd
 |comma6 (f:Fr) (fs:List Fr) (ho:f.obj=true) (hl:fs.length<=4294967296):jz nd 44 44 (f::fs) ⟨f::fs,2,none⟩ nd
 |open5 (frs:List Fr) (hl:frs.length<=1000000000) (hn:nd<=1000000000) (hlk:∀f fs,frs=f::fs->bZ f=false):jz nd 91 91 frs ⟨⟨false, [], [],none⟩::frs,1,none⟩ (nd+1)
 |open6 (frs:List Fr) (hl:frs.length<=1000000000) (hn:nd<=1000000000) (hlk:∀f fs,frs=f::fs->bZ f=false):jz nd 123 123 frs ⟨⟨true, [], [],none⟩::frs,3,none⟩ (nd+1)
 |close5 (f:Fr) (fs:List Fr) (ho:f.obj=false) (hnn:f.name=none) (hfo:f.ok jB) (hi:f.items.length<=4294967296) (hmi:f.mems.length<=4294967296) (hTB:kv fs) (hl:fs.length<=1000000000):jz nd 93 93 (f::fs) (cV fs (dO f)) nd
 |close6 (f:Fr) (fs:List Fr) (ho:f.obj=true) (hnn:f.name=none) (hfo:f.ok jB) (hi:f.items.length<=4294967296) (hmi:f.mems.length<=4294967296) (hTB:kv fs) (hl:fs.length<=1000000000):jz nd 125 125 (f::fs) (cV fs (dO f)) nd
theorem jz.eq {z:Int}{c:UInt8}{C:dl}(h:jz nd z c frs C nd'):z=c.toNat:=by cases h <;> rfl
theorem fE {k:Nat}{p z:Int}{c:UInt8}{C:dl}{bs:List Nat}(hM:kB w)(hw:want<8)(c5:BA want c=true)(hR:jO B w rb lb xb v xs frs want k nd false)(n2:fi B w xb frs none bs)(hB:B<=w.heap.size)(hc:jz nd z c frs C nd'):Calls Tryz.prog 143 #[.pointer (some ⟨rb,0,none⟩),.agg #[.int .i64 p,.int .u8 z]] w (IA B rb lb xb v xs C k nd' false w):=by
 have f4:=ac w (.cells #[.int .i64 p,.int .u8 z] 274);obtain⟨w1,o1⟩:∃w1,w.alloc (.cells #[.int .i64 p,.int .u8 z] 274)=w1:=⟨_,rfl⟩;have j1:=Qa (Zf w (.cells #[.int .i64 p,.int .u8 z] 274));rw[o1] at f4 j1;have HR:=Qa (hR.below f4);have m3:=Qa (n2.below f4);have HM:=Qa (hM.below f4);have HB:=Qa hB;have n6:=Qa f4;have Hz:=Qa hc.eq;have n1:=Qa hc;obtain⟨by_,dp,ex,ov,nv,maps,hA⟩:=HR.out;have HA:=Qa hA;have c14:=aa hA.row (j:=14) (u:=.int .i64 want) rfl;have m0:=HM.out want hw;rw[GZ] at c5;obtain⟨L,hL⟩:∃L,zn want=L:=⟨_,rfl⟩;have n5:L.length<=3:=by rw[<-hL];have:∀i,i<8->(zn i).length<=3:=(by decide);exact this want hw
 rw[hL] at m0 c5;have m4:=Qa c5;have m5:=Qa (show((⟨L.toArray⟩:ByteArray)).size=L.length by simp[ByteArray.size]);have n4:(want:Int)<8:=by omega
 clear hM hR n2 hB f4 hA hL c5 hw hc;go_enter Tryz.func143,Tryz.ntmps143;go_wp2_with fail;have HX:=Qa (True.intro)
 go_loopg [4,14] L.length (fun m s4 s14 wr=> ∃i:Nat,m+i=L.length/\s14 =.int .i64 i/\s4 =.bool ((L.take i).contains c)/\Below w1.heap.size w1 wr)
 case atStart=>exact⟨0,rfl,rfl,rfl,Ze _ _⟩
 case round=>
  obtain⟨i,c2,rfl,rfl,hb⟩:=hrel;have Hb:=Qa hb;have Hmi:=Qa c2;have d14:=Zg hb c14;have n0:=Zg hb m0;have q0:=m5.out
  by_cases hlt:i<L.length
  ·obtain⟨y,hy⟩:∃y,L[i]?=some y:=⟨_,Zd hlt⟩;have k4:(i:Int)<L.length:=by omega
   have e1:=Zg hb (aa j1.out (j:=1) (u:=.int .u8 z) rfl);have q6:∀w',(Instr.index 9 (.string ⟨L.toArray⟩) (.int .i64 (i:Int))).run Tryz.prog w' =.ok (.int .u8 y.toNat) w':=fun w'=>pE (s:=⟨L.toArray⟩) (by simpa using hy) w'
   have Htk:=Qa (oW (c:=c) hy);have hyc:((y.toNat:Int)==z)= (c==y):=by
    rw[Hz.out,Bool.eq_iff_iff];simp only[beq_iff_eq];exact⟨fun h=>UInt8.toNat_inj.1 (by omega),fun h=>by rw[h]⟩
   have f6:0+0=0:=rfl;clear hb c2 hlt hy c14 m0
   cases hok:(L.take i).contains c
   all_goals
    go_wp2_with fail;go_quiet (fail);go_wp2_with fail;go_roundg (L.length - (i+1))
    case measure=>have:=Hmi.out;omega
    case rel=>exact⟨i+1,by have:=Hmi.out;omega,by go_num,by rw[Htk.out,hok];simp[hyc],av Hb.out _⟩
  ·obtain rfl:i=L.length:=by omega
   have k4:¬ (L.length:Int)<L.length:=by omega
   have hok:(L.take L.length).contains c=true:=by rw[List.take_length];exact m4.out
   rw[hok];have e1:=Zg hb (aa j1.out (j:=1) (u:=.int .u8 z) rfl);have a5:=Qa (HA.out.below hb);have a7:=Qa (m3.out.below hb);have c9:=Qa (cQ.new (bu n6.out hb) HB.out);have b1:B<=wr.heap.size:=Zc HB.out c9.out.b.size;have o2:=n1.out;clear hb c2 hlt c14 m0 d14 n0 q0 hok n4 n5 n1 Hz HX m4 m5 HM HR HA m3 j1;rcases o2 with ⟨frs⟩|⟨f,fs,ho,hl⟩|⟨f,fs,ho,hl⟩|⟨frs,hl,hn,g9⟩|⟨frs,hl,hn,g9⟩|⟨f,fs,ho,f6,h5,hi,c2,g2,hl⟩|⟨f,fs,ho,f6,h5,hi,c2,g2,hl⟩
   ·have d14:=aa a5.out.row (j:=14) (u:=.int .i64 want) rfl;have f14:=ak a5.out.row 14;have Hs:=Qa (a5.out.setWant b1 0 (z:=0) rfl);go_wp2_with fail;go_end0;exact⟨rfl,c9.out.trans (cQ.rd Hs.out.1 Hs.out.2.1),Hs.out.2.2.s,_,a7.out.kp Hs.out.2.1 bT⟩
   ·have d14:=aa a5.out.row (j:=14) (u:=.int .i64 want) rfl;have f14:=ak a5.out.row 14;have Hs:=Qa (a5.out.setWant b1 0 (z:=0) rfl);obtain⟨w6,i5⟩:∃w6,wr.setCell ⟨rb,14,none⟩ (.int .i64 0)=w6:=⟨_,rfl⟩;rw[i5] at Hs;obtain⟨g,q,a9,cg,hq⟩:=Hs.out.2.2.topKind;rw[ho] at cg;simp only[Bool.false_eq_true,if_false,if_true] at cg;subst a9;obtain⟨m,hm⟩:∃m,fs.length=m:=⟨_,rfl⟩;rw[hm] at cg hq hl;have c12:=aa Hs.out.2.2.row (j:=12) (u:=.slice (some ⟨g,0,none⟩) (m+1) q) (by rw[<-hm];rfl);have s1:IntKind.i64.wrap (m:Int)= (m:Int):=IntWalk.i64_in _ (by omega);have f1:(m:Int)< (m:Int)+1:=by omega
    have k6:=Qa i5;clear hm hq hl;go_wp2_with fail
    try rw[k6.out]
    go_quiet (fail);go_wp2_with fail;go_end0;have a1:=av (Ze w6.heap.size w6) nq;exact⟨rfl,(c9.out.trans (cQ.rd Hs.out.1 Hs.out.2.1)).trans (cQ.new a1 (Zc b1 Hs.out.2.1.1)),(Hs.out.2.2.below a1).s,_,(a7.out.kp Hs.out.2.1 bT).below a1⟩
   ·have d14:=aa a5.out.row (j:=14) (u:=.int .i64 want) rfl;have f14:=ak a5.out.row 14;have Hs:=Qa (a5.out.setWant b1 0 (z:=0) rfl);obtain⟨w6,i5⟩:∃w6,wr.setCell ⟨rb,14,none⟩ (.int .i64 0)=w6:=⟨_,rfl⟩;rw[i5] at Hs;obtain⟨g,q,a9,cg,hq⟩:=Hs.out.2.2.topKind;rw[ho] at cg;simp only[Bool.false_eq_true,if_false,if_true] at cg;subst a9;obtain⟨m,hm⟩:∃m,fs.length=m:=⟨_,rfl⟩;rw[hm] at cg hq hl;have c12:=aa Hs.out.2.2.row (j:=12) (u:=.slice (some ⟨g,0,none⟩) (m+1) q) (by rw[<-hm];rfl);have s1:IntKind.i64.wrap (m:Int)= (m:Int):=IntWalk.i64_in _ (by omega);have f1:(m:Int)< (m:Int)+1:=by omega
    have k6:=Qa i5;clear hm hq hl;go_wp2_with fail
    try rw[k6.out]
    go_quiet (fail);have a1:=av (Ze w6.heap.size w6) nq;have h0:=Hs.out.2.2.below a1;obtain⟨w7,m9⟩:∃w7,w6.drewN nq=w7:=⟨_,rfl⟩;rw[m9] at a1 h0 ⊢;have g14:=aa h0.row (j:=14) (u:=.int .i64 0) rfl;have f14':=ak h0.row 14;have p0:=Zc (Zc b1 Hs.out.2.1.1) a1.size;have j3:=Qa (h0.setWant p0 2 (z:=2) rfl);have a4:=Qa a1;clear h0 a1 m9 c12 cg d14 f14;go_wp2_with fail;go_end0;exact⟨rfl,((c9.out.trans (cQ.rd Hs.out.1 Hs.out.2.1)).trans (cQ.new a4.out (Zc b1 Hs.out.2.1.1))).trans (cQ.rd j3.out.1 j3.out.2.1),j3.out.2.2.s,_,((a7.out.kp Hs.out.2.1 bT).below a4.out).kp j3.out.2.1 bT⟩
   ·have Hl:=Qa hl;have Hn:=Qa hn;have k0:=Qa g9;clear hl hn g9;have f9:=Qa (fN a5.out.s Hl.out Hn.out b1);go_wp2_with fail;refine Za f9 ?_;rintro e w2 ⟨rfl,g5,c4,h4⟩;have b3:=a7.out.kp c4 bT;have b7:=Zc b1 c4.1;have c0:=Qa (c9.out.trans (cQ.rd g5 c4));clear f9 c4 g5;obtain⟨wq,hwq⟩:∃wq,w2.drew=wq:=⟨_,rfl⟩;have a1:Below w2.heap.size w2 wq:=by rw[<-hwq];exact(Ze _ _).drew
    have a6:=h4.below a1;have b8:=b3.below a1;have c6:=Qa (dQ a6 (by have:=Hl.out;omega));have Htk:=Qa (xX (lv:=(frs.length:Int)+1) (by omega) b8 k0.out (by have:=Hl.out;omega) (Zc b7 a1.size));obtain⟨by2,dp2,ex2,ov2,nv2,maps2,i8⟩:=id a6;have C11:=Qa (aa i8.row (j:=11) (u:=.func (.func 75) #[.pointer (some ⟨xb,0,none⟩)] #[]) rfl);have a4:=Qa (And.intro (c0.out.trans (cQ.new a1 b7)) a6);clear a1 a6 b8 i8 b3 h4 b7;go_wp2_with fail;refine cP (fun w9=>w9.cell? ⟨rb,11,none⟩=some (.func (.func 75) #[.pointer (some ⟨xb,0,none⟩)] #[])) 8 ((by rw[hwq];exact C11.out)) fun a0=>?_
    rw[hwq] at a0 ⊢;clear hwq;refine tR 0 a0 ?_;refine tR 1 a0 ?_;refine tR 2 a0 ?_;refine tR 3 a0 ?_;refine tR 4 a0 ?_
    try simp only[Act.put,jP,jQ,jR]
    refine rZ 5 fun K hK=>?_
    go_simp;refine Za c6 ?_;rintro e w' ⟨rfl,rfl⟩;go_wp2_with fail;refine hK.out _ _ (fun _=>a0) (fun a0=>?_);clear hK K;have a0:=a0 (by decide)
    try simp only[Act.put,jP,jQ,jR]
    refine tR 6 a0 ?_;refine tR 7 a0 ?_
    try simp only[Act.put,jP,jQ,jR]
    refine rZ 8 fun K hK=>?_
    go_simp;refine Za Htk ?_;rintro e w4 ⟨rfl,h1,h2,h3⟩;have R:=Qa (And.intro h1 (And.intro h2 h3));clear h1 h2 h3;go_wp2_with fail;refine hK.out _ _ (fun h=>absurd rfl h) (fun _=>?_);clear hK K
    try simp only[Act.put,jP,jQ,jR]
    refine aW (by kernel_rfl) (NoPanic.normal ?_) _;obtain⟨y1,y2,bs2,y3⟩:=R.out;obtain⟨by4,dp4,ex4,ov4,nv4,maps4,a3⟩:=a4.out.2.tb y2;have c3:=Qa (a4.out.1.trans (cQ.tb y1 y2));have e2:B<=w4.heap.size:=Zc HB.out c3.out.b.size;obtain⟨A12,q12,a9,-⟩:=ag a3.opens;subst a9;obtain⟨m,hm⟩:∃m,frs.length=m:=⟨_,rfl⟩;have c12:=aa a3.row (j:=12) (u:=.slice A12 m q12) (by rw[<-hm];rfl);have a2:=ac w4 (.cells #[.int .i64 5] 3);have l3:=Qa (ap w4 [.int .i64 5] 3);have d4:=a3.below a2;have i2:=Qa (show(w4.alloc (.cells #[.int .i64 5] 3)).ownsRow B 3 1 (.slice A12 m q12) m (frs.reverse.map gK) by have:=d4.opens;rwa[hm] at this);have e0:=Qa d4;have l2:=Qa y3;have l4:=Qa (show cQ B w (w4.alloc (.cells #[.int .i64 5] 3)) from c3.out.trans (cQ.new a2 e2));have l1:m<=1000000000:=by rw[<-hm];exact Hl.out
    have Hm:=Qa hm;have c8:=Qa (show B<=(w4.alloc (.cells #[.int .i64 5] 3)).heap.size from Zc e2 a2.size);have e3:=Qa a2;clear y1 y2 y3 a3 e2 a2 d4 R a4 hm;go_wp2_with ((at_builtin;refine km DP i2.out l3.out c8.out ?_;intro v' w5 p1 p2 p3;obtain⟨A5,q5,rfl,-,-,-⟩:=ag p1;have d6:=aB e0.out.row p2 (aK i2.out e0.out.row (by decide));have c12':=aa d6 (j:=12) (u:=.slice A12 m q12) (by rw[<-Hm.out];rfl);have f12':=ak d6 12;have hs:=e0.out.b.setOpen c8.out (aZ.grown p2) (fun g h=>by rw[Hm.out];exact h) (ofr':=⟨false, [], [],none⟩::frs) (ov':=.slice A5 (m+1) q5) (by rw[List.length_cons,Hm.out,List.reverse_cons,List.map_append];exact p1);have c14':=aa hs.2.2.row (j:=14) (u:=.int .i64 want) rfl;have f14':=ak hs.2.2.row 14;have Hs:=Qa hs;have n3:=Qa p2;clear p1 p2 p3 d6 hs));go_end0;obtain⟨s1,s2,s3⟩:=Hs.out;obtain⟨z1,z2,z3⟩:=s3.setWant (Zc c8.out s2.1) 1 (z:=1) rfl;refine⟨rfl,(l4.out.trans (cQ.rd s1 s2)).trans (cQ.rd z1 z2),⟨by4,dp4,ex4,_,nv4,maps4,z3.row,z3.low,z3.lex,z3.llow,z3.own,z3.opens,z3.names,?_,z3.nodup,z3.le⟩,bs2,((l2.out.below e3.out).kp s2 bT).kp z2 bT⟩;have:=z3.seen;simpa [List.filter_cons] using this
   ·have Hl:=Qa hl;have Hn:=Qa hn;have k0:=Qa g9;clear hl hn g9;have f9:=Qa (fN a5.out.s Hl.out Hn.out b1);go_wp2_with fail;refine Za f9 ?_;rintro e w2 ⟨rfl,g5,c4,h4⟩;have b3:=a7.out.kp c4 bT;have b7:=Zc b1 c4.1;have c0:=Qa (c9.out.trans (cQ.rd g5 c4));clear f9 c4 g5;obtain⟨wq,hwq⟩:∃wq,w2.drew=wq:=⟨_,rfl⟩;have a1:Below w2.heap.size w2 wq:=by rw[<-hwq];exact(Ze _ _).drew
    have a6:=h4.below a1;have b8:=b3.below a1;have c6:=Qa (dQ a6 (by have:=Hl.out;omega));have Htk:=Qa (yg (lv:=(frs.length:Int)+1) (by omega) b8 k0.out (by have:=Hl.out;omega) (Zc b7 a1.size));obtain⟨by2,dp2,ex2,ov2,nv2,maps2,i8⟩:=id a6;have C11:=Qa (aa i8.row (j:=11) (u:=.func (.func 75) #[.pointer (some ⟨xb,0,none⟩)] #[]) rfl);have a4:=Qa (And.intro (c0.out.trans (cQ.new a1 b7)) a6);clear a1 a6 b8 i8 b3 h4 b7;go_wp2_with fail;refine cP (fun w9=>w9.cell? ⟨rb,11,none⟩=some (.func (.func 75) #[.pointer (some ⟨xb,0,none⟩)] #[])) 8 ((by rw[hwq];exact C11.out)) fun a0=>?_
    rw[hwq] at a0 ⊢;clear hwq;refine tR 0 a0 ?_;refine tR 1 a0 ?_;refine tR 2 a0 ?_;refine tR 3 a0 ?_;refine tR 4 a0 ?_
    try simp only[Act.put,jP,jQ,jR]
    refine rZ 5 fun K hK=>?_
    go_simp;refine Za c6 ?_;rintro e w' ⟨rfl,rfl⟩;go_wp2_with fail;refine hK.out _ _ (fun _=>a0) (fun a0=>?_);clear hK K;have a0:=a0 (by decide)
    try simp only[Act.put,jP,jQ,jR]
    refine tR 6 a0 ?_;refine tR 7 a0 ?_
    try simp only[Act.put,jP,jQ,jR]
    refine rZ 8 fun K hK=>?_
    go_simp;refine Za Htk ?_;rintro e w4 ⟨rfl,h1,h2,h3⟩;have R:=Qa (And.intro h1 (And.intro h2 h3));clear h1 h2 h3;go_wp2_with fail;refine hK.out _ _ (fun h=>absurd rfl h) (fun _=>?_);clear hK K
    try simp only[Act.put,jP,jQ,jR]
    refine aW (by kernel_rfl) (NoPanic.normal ?_) _;obtain⟨y1,y2,bs2,y3⟩:=R.out;obtain⟨by4,dp4,ex4,ov4,nv4,maps4,a3⟩:=a4.out.2.tb y2;have c3:=Qa (a4.out.1.trans (cQ.tb y1 y2));have e2:B<=w4.heap.size:=Zc HB.out c3.out.b.size;obtain⟨A12,q12,a9,-⟩:=ag a3.opens;subst a9;obtain⟨m,hm⟩:∃m,frs.length=m:=⟨_,rfl⟩;have c12:=aa a3.row (j:=12) (u:=.slice A12 m q12) (by rw[<-hm];rfl);have a2:=ac w4 (.cells #[.int .i64 6] 3);have l3:=Qa (ap w4 [.int .i64 6] 3);have d4:=a3.below a2;have i2:=Qa (show(w4.alloc (.cells #[.int .i64 6] 3)).ownsRow B 3 1 (.slice A12 m q12) m (frs.reverse.map gK) by have:=d4.opens;rwa[hm] at this);have e0:=Qa d4;have l2:=Qa y3;have l4:=Qa (show cQ B w (w4.alloc (.cells #[.int .i64 6] 3)) from c3.out.trans (cQ.new a2 e2));have l1:m<=1000000000:=by rw[<-hm];exact Hl.out
    have Hm:=Qa hm;have c8:=Qa (show B<=(w4.alloc (.cells #[.int .i64 6] 3)).heap.size from Zc e2 a2.size);have e3:=Qa a2;have g6:maps4.length<=1000000000:=by
     have h1:=a3.seen.1;have h2:=List.length_filter_le (fun g:Fr=>g.obj) frs;have:=Hl.out;omega
    have g7:=Qa g6;clear g6;obtain⟨A13,q13,l5,-⟩:=ag a3.names;subst l5;have q4:= @run_makeMap Tryz.prog;clear y1 y2 y3 a3 e2 a2 d4 R a4 hm;go_wp2_with (first|(at_builtin;refine km DP i2.out l3.out c8.out ?_;intro v' w5 p1 p2 p3;obtain⟨A5,q5,rfl,-,-,-⟩:=ag p1;have d6:=aB e0.out.row p2 (aK i2.out e0.out.row (by decide));have c12':=aa d6 (j:=12) (u:=.slice A12 m q12) (by rw[<-Hm.out];rfl);have f12':=ak d6 12;have hs:=e0.out.b.setOpen c8.out (aZ.grown p2) (fun g h=>by rw[Hm.out];exact h) (ofr':=⟨true, [], [],none⟩::frs) (ov':=.slice A5 (m+1) q5) (by rw[List.length_cons,Hm.out,List.reverse_cons,List.map_append];exact p1);have c14':=aa hs.2.2.row (j:=14) (u:=.int .i64 want) rfl;have f14':=ak hs.2.2.row 14;have Hs:=Qa hs;have n3:=Qa p2;have c13':=aa hs.2.2.row (j:=13) (u:=.slice A13 maps4.length q13) rfl;have i0:=Qa (hs.2.2.pushName (Zc c8.out hs.2.1.1) (z:=w5.heap.size) (by simp) rfl);clear p1 p2 p3 d6 hs)|(at_builtin;refine km Ia i0.out.1 i0.out.2.2.1 (by have:=Hs.out.2.1.1;have:=c8.out;have:=i0.out.2.1.size;omega) ?_ (hlen:=(by unfold maxLen;have:=g7.out;omega)) (hby:=(by have:=g7.out;omega));intro v9 w9 p1 p2 p3;obtain⟨A9,q9,rfl,-,-,-⟩:=ag p1;have f8:=i0.out.2.2.2 w9 _ p2 p1;have c13q:=aa f8.1 (j:=13) (u:=.slice A13 maps4.length q13) rfl;have f13q:=ak f8.1 13;have c14q:=aa f8.2.2.2.row (j:=14) (u:=.int .i64 want) rfl;have f14q:=ak f8.2.2.2.row 14;have p4:=Qa f8;clear p1 p2 p3 f8));go_end0;obtain⟨s1,s2,s3⟩:=Hs.out;obtain⟨t1,t2,t3,t4⟩:=i0.out;obtain⟨r0,r1,r2,r3⟩:=p4.out;have d2:=Zc c8.out s2.1;have n8:=Zc d2 t2.size;obtain⟨z1,z2,z3⟩:=r3.setWant (Zc n8 r2.1) 3 (z:=3) rfl;exact⟨rfl,(((l4.out.trans (cQ.rd s1 s2)).trans (cQ.new t2 d2)).trans (cQ.rd r1 r2)).trans (cQ.rd z1 z2),⟨by4,dp4,ex4,_,_,_,z3.a⟩,bs2,((((l2.out.below e3.out).kp s2 bT).below t2).kp r2 bT).kp z2 bT⟩
   ·have Ho:=Qa ho;have k1:=Qa f6;have k2:=Qa h5;have Hi:=Qa hi;have e5:=Qa c2;have h8:=Qa g2;have Hl:=Qa hl;clear ho f6 h5 hi c2 g2 hl;have d14:=aa a5.out.row (j:=14) (u:=.int .i64 want) rfl;obtain⟨g,q,a9,cg,hq⟩:=a5.out.topKind;rw[Ho.out] at cg;simp only[Bool.false_eq_true,if_false,if_true] at cg;subst a9;obtain⟨m,hm⟩:∃m,fs.length=m:=⟨_,rfl⟩;rw[hm] at cg hq;have l1:m<=1000000000:=by rw[<-hm];exact Hl.out
    have c12:=aa a5.out.row (j:=12) (u:=.slice (some ⟨g,0,none⟩) (m+1) q) (by rw[<-hm];rfl);have s1:IntKind.i64.wrap (m:Int)= (m:Int):=IntWalk.i64_in _ (by omega);have f1:(m:Int)< (m:Int)+1:=by omega
    have Hm:=Qa hm;have Hq:=Qa hq;clear hm d14 hq;go_wp2_with fail;go_quiet (fail);have a1:=av (Ze wr.heap.size wr) nq;obtain⟨w2,g1⟩:∃w2,wr.drewN nq=w2:=⟨_,rfl⟩;rw[g1] at a1 ⊢;have d3:=Qa (a5.out.below a1);have b6:=Qa (a7.out.below a1);have c0:=Qa (c9.out.trans (cQ.new a1 b1));clear a1 g1 c12 cg e1;go_wp2_with fail;have j0:=Qa (show ∃by_ dp ex ov nv maps,jC B w2 rb lb xb v xs (f::fs) (f::fs) want k nd false by_ dp ex ov nv maps from⟨_,_,_,_,_,_,d3.out.b⟩);obtain⟨w3,i3⟩:∃w3,w3=w2:=⟨_,rfl⟩;have c1:=b6;have f2:=c0;rw[<-i3] at j0 c1 f2 ⊢;clear d3 b6 c0 i3;obtain⟨by3,dp3,ex3,ov3,nv3,maps3,e6⟩:=j0.out;obtain⟨g3,q3,a9,-,k5⟩:=e6.topOpen;subst a9;have f0:=Zc HB.out f2.out.b.size;obtain⟨w4,c7⟩:∃w4,w3.drew=w4:=⟨_,rfl⟩;have b2:Below w3.heap.size w3 w4:=by rw[<-c7];exact(Ze _ _).drew
    have a3:=e6.below b2;have C12:=Qa (aa a3.row (j:=12) (u:=.slice (some ⟨g3,0,none⟩) (m+1) q3) (by rw[<-Hm.out];rfl));have f12:=ak a3.row 12;have j5:(m:Int)<=q3:=by have:=Hm.out;omega
    have b5:w4.ownsRow B 3 1 (.slice (some ⟨g3,0,none⟩) m q3) fs.length (fs.reverse.map gK):=by
     have:=a3.opens;rw[List.length_cons,List.reverse_cons,List.map_append] at this;rw[<-Hm.out];exact rA this (by simp)
    have b4:=Qa (a3.setOpen (Zc f0 b2.size) (aZ.refl (fun _=>False) w4) (fun _ h=>h.elim) (ofr':=fs) (ov':=.slice (some ⟨g3,0,none⟩) m q3) b5);have e8:=Qa (c1.out.below b2);have c3:=Qa (f2.out.trans (cQ.new b2 f0));have c12s:=C12.out;clear e6 a3 b5 b2 f0 k5;refine cP (fun w9=>w9.cell? ⟨rb,12,none⟩=some (.slice (some ⟨g3,0,none⟩) (m+1) q3)) 14 ((by rw[c7];exact C12.out)) fun a0=>?_
    rw[c7] at a0 ⊢;clear c7;refine tR 0 a0 ?_;refine tR 1 a0 ?_;refine tR 2 a0 ?_;refine tR 3 a0 ?_;refine tR 4 a0 ?_;refine tR 5 a0 ?_
    try simp only[Act.put,jP,jQ,jR]
    refine tR 6 a0 ?_;refine tR 7 a0 ?_;refine tR 8 a0 ?_;refine tR 9 a0 ?_;refine tR 10 a0 ?_;refine tR 11 a0 ?_
    try simp only[Act.put,jP,jQ,jR]
    refine tR 12 a0 ?_;refine tR 13 a0 ?_
    try simp only[Act.put,jP,jQ,jR]
    refine rZ 14 fun K hK=>?_
    go_simp;refine hK.out _ _ (fun h=>absurd rfl h) (fun _=>?_);clear hK K
    try simp only[Act.put,jP,jQ,jR]
    refine aW (by kernel_rfl) (NoPanic.normal ?_) _;clear a0 c12s f12;obtain⟨w5,g0⟩:∃w5,w4.setCell ⟨rb,12,none⟩ (.slice (some ⟨g3,0,none⟩) m q3)=w5:=⟨_,rfl⟩;rw[g0] at b4 ⊢;have h6:=jC.a (frs:=fs) (by have h:=b4.out.2.2;exact⟨h.row,h.low,h.lex,h.llow,h.own,h.opens,h.names,(by have:=h.seen;rw[List.filter_cons,Ho.out] at this;simpa using this),h.nodup,h.le⟩);have d9:=Qa (e8.out.kp b4.out.2.1 bT);have g4:=Qa (c3.out.trans (cQ.rd b4.out.1 b4.out.2.1));clear g0;go_wp2_with fail;obtain⟨wq,hwq⟩:∃wq,w5.drew=wq:=⟨_,rfl⟩;have a1:Below w5.heap.size w5 wq:=by rw[<-hwq];exact(Ze _ _).drew
    have e4:=Zc HB.out g4.out.b.size;have a6:=h6.s.below a1;have c6:=Qa (dQ a6 (by have:=Hl.out;omega));have Htk:=Qa (ni (lv:=(fs.length:Int)+1) (by omega) (d9.out.below a1) Ho.out k1.out k2.out Hi.out e5.out h8.out (Zc e4 a1.size));obtain⟨by2,dp2,ex2,ov2,nv2,maps2,b9⟩:=id a6;have C11:=Qa (aa b9.row (j:=11) (u:=.func (.func 75) #[.pointer (some ⟨xb,0,none⟩)] #[]) rfl);have a4:=Qa (And.intro (g4.out.trans (cQ.new a1 e4)) a6);clear a1 a6 b9 h6 e4;refine cP (fun w9=>w9.cell? ⟨rb,11,none⟩=some (.func (.func 75) #[.pointer (some ⟨xb,0,none⟩)] #[])) 9 ((by rw[hwq];exact C11.out)) fun a0=>?_
    rw[hwq] at a0 ⊢;clear hwq;refine tR 0 a0 ?_;refine tR 1 a0 ?_;refine tR 2 a0 ?_;refine tR 3 a0 ?_;refine tR 4 a0 ?_;refine tR 6 a0 ?_
    try simp only[Act.put,jP,jQ,jR]
    refine rZ 5 fun K hK=>?_
    go_simp;refine Za c6 ?_;rintro e w' ⟨rfl,rfl⟩;go_wp2_with fail;refine hK.out _ _ (fun _=>a0) (fun a0=>?_);clear hK K;have a0:=a0 (by decide)
    try simp only[Act.put,jP,jQ,jR]
    refine tR 7 a0 ?_;refine tR 8 a0 ?_
    try simp only[Act.put,jP,jQ,jR]
    refine rZ 9 fun K hK=>?_
    go_simp;refine Za Htk ?_;rintro e w6 ⟨rfl,h1,h2,h3⟩;have R:=Qa (And.intro h1 (And.intro h2 h3));clear h1 h2 h3;go_wp2_with fail;refine hK.out _ _ (fun h=>absurd rfl h) (fun _=>?_);clear hK K
    try simp only[Act.put,jP,jQ,jR]
    refine aW (by kernel_rfl) (NoPanic.normal ?_) _;obtain⟨y1,y2,bs2,y3⟩:=R.out;have h9:=(a4.out.2.tb y2).put (fun f fs e=>(h8.out.2 f fs e).1) (dO f);have d2:B<=w6.heap.size:=Zc (Zc HB.out a4.out.1.b.size) y1.size;have l0:=Qa (jl h9 d2 (by rw[kF];have:=Hl.out;omega));have R6:=Qa (And.intro (a4.out.1.trans (cQ.tb y1 y2)) y3);clear y1 y2 y3 h9 d2 R a4 c6 Htk C11;go_wp2_with fail;refine Za l0 ?_;rintro e w7 ⟨rfl,h1,h2,h3⟩;have R7:=Qa (And.intro h1 (And.intro h2 h3));clear h1 h2 h3;go_wp2_with fail;go_end0;refine⟨rfl,R6.out.1.trans (cQ.rd R7.out.1 R7.out.2.1),?_,bs2,R6.out.2.kp R7.out.2.1 bT⟩;rw[jr];exact R7.out.2.2
   ·have Ho:=Qa ho;have k1:=Qa f6;have k2:=Qa h5;have Hi:=Qa hi;have e5:=Qa c2;have h8:=Qa g2;have Hl:=Qa hl;clear ho f6 h5 hi c2 g2 hl;have d14:=aa a5.out.row (j:=14) (u:=.int .i64 want) rfl;obtain⟨g,q,a9,cg,hq⟩:=a5.out.topKind;rw[Ho.out] at cg;simp only[Bool.false_eq_true,if_false,if_true] at cg;subst a9;obtain⟨m,hm⟩:∃m,fs.length=m:=⟨_,rfl⟩;rw[hm] at cg hq;have l1:m<=1000000000:=by rw[<-hm];exact Hl.out
    have c12:=aa a5.out.row (j:=12) (u:=.slice (some ⟨g,0,none⟩) (m+1) q) (by rw[<-hm];rfl);have s1:IntKind.i64.wrap (m:Int)= (m:Int):=IntWalk.i64_in _ (by omega);have f1:(m:Int)< (m:Int)+1:=by omega
    have Hm:=Qa hm;have Hq:=Qa hq;clear hm d14 hq;go_wp2_with fail;go_quiet (fail);have a1:=av (Ze wr.heap.size wr) nq;obtain⟨w2,g1⟩:∃w2,wr.drewN nq=w2:=⟨_,rfl⟩;rw[g1] at a1 ⊢;have d3:=Qa (a5.out.below a1);have b6:=Qa (a7.out.below a1);have c0:=Qa (c9.out.trans (cQ.new a1 b1));clear a1 g1 c12 cg e1;go_wp2_with fail;obtain⟨b0,maps9,o3⟩:∃b m',maps=b::m':=by
     have f5:=d3.out.seen;simp only[List.filter_cons,Ho.out,if_true] at f5
     cases maps with
     |nil=>have:=f5.1;simp at this
     |cons b m'=>exact⟨b,m',rfl⟩
    subst o3;obtain⟨A13,q13,l5,h7,-,g8⟩:=ag d3.out.names;subst l5;obtain⟨g13,k3⟩:=g8 (by simp);subst k3;obtain⟨n9,m2⟩:∃n,maps9.length=n:=⟨_,rfl⟩;have k9:n9<=m:=by
     have h1:=d3.out.seen.1;have h2:=List.length_filter_le (fun g:Fr=>g.obj) fs;simp only[List.filter_cons,Ho.out,if_true,List.length_cons] at h1;have:=Hm.out;omega
    have b7:=Zc HB.out c0.out.b.size;obtain⟨wb,j2⟩:∃wb,w2.drew=wb:=⟨_,rfl⟩;have i4:Below w2.heap.size w2 wb:=by rw[<-j2];exact(Ze _ _).drew
    have d5:=d3.out.below i4;have C13:=Qa (aa d5.row (j:=13) (u:=.slice (some ⟨g13,0,none⟩) (n9+1) q13) (by rw[<-m2];rfl));have c13s:=C13.out;have f13:=ak d5.row 13;have s9:IntKind.i64.wrap (n9:Int)= (n9:Int):=IntWalk.i64_in _ (by omega);have m1:(n9:Int)<=q13:=by rw[List.length_cons] at h7;omega
    have d0:wb.ownsRow B 311 1 (.slice (some ⟨g13,0,none⟩) n9 q13) maps9.length (maps9.reverse.map vQ):=by
     have:=d5.names;rw[List.length_cons,List.reverse_cons,List.map_append] at this;rw[<-m2];exact rA this (by simp)
    have f3:=Qa (d5.b.setNames (Zc b7 i4.size) (aZ.refl (fun _=>False) wb) (fun _ h=>h.elim) (maps':=maps9) (nfr':=fs) (nv':=.slice (some ⟨g13,0,none⟩) n9 q13) d0 (List.nodup_cons.1 d5.nodup).2 (fun w10 hk _=>by
     have f5:=d5.seen;simp only[List.filter_cons,Ho.out,if_true] at f5;refine jC.seens (nfr:=fs) ⟨by simpa using f5.1,fun i x y q1 q2=>f5.2 (i+1) x y (by simpa using q1) (by simpa using q2)⟩ hk))
    have d1:=Qa (b6.out.below i4);have i9:=Qa (c0.out.trans (cQ.new i4 b7));clear d0 d5 i4 b7 h7 g8 k9 m2;refine cP (fun w9=>w9.cell? ⟨rb,13,none⟩=some (.slice (some ⟨g13,0,none⟩) (n9+1) q13)) 14 ((by rw[j2];exact C13.out)) fun a0=>?_
    rw[j2] at a0 ⊢;clear j2;refine tR 0 a0 ?_;refine tR 1 a0 ?_;refine tR 2 a0 ?_;refine tR 3 a0 ?_;refine tR 4 a0 ?_;refine tR 5 a0 ?_
    try simp only[Act.put,jP,jQ,jR]
    refine tR 6 a0 ?_;refine tR 7 a0 ?_;refine tR 8 a0 ?_;refine tR 9 a0 ?_;refine tR 10 a0 ?_;refine tR 11 a0 ?_
    try simp only[Act.put,jP,jQ,jR]
    refine tR 12 a0 ?_;refine tR 13 a0 ?_
    try simp only[Act.put,jP,jQ,jR]
    refine rZ 14 fun K hK=>?_
    go_simp;refine hK.out _ _ (fun h=>absurd rfl h) (fun _=>?_);clear hK K
    try simp only[Act.put,jP,jQ,jR]
    refine aW (by kernel_rfl) (NoPanic.normal ?_) _;clear a0 c13s f13 s9 m1;obtain⟨w3,i3⟩:∃w3,wb.setCell ⟨rb,13,none⟩ (.slice (some ⟨g13,0,none⟩) n9 q13)=w3:=⟨_,rfl⟩;rw[i3] at f3 ⊢;have j0:=Qa (show ∃by_ dp ex ov nv maps,jC B w3 rb lb xb v xs (f::fs) fs want k nd false by_ dp ex ov nv maps from⟨_,_,_,_,_,_,f3.out.2.2⟩);have c1:=Qa (d1.out.kp f3.out.2.1 bT);have f2:=Qa (i9.out.trans (cQ.rd f3.out.1 f3.out.2.1));clear i3 f3 d1 i9 d3 b6 c0;go_wp2_with fail;obtain⟨by3,dp3,ex3,ov3,nv3,maps3,e6⟩:=j0.out;obtain⟨g3,q3,a9,-,k5⟩:=e6.topOpen;subst a9;have f0:=Zc HB.out f2.out.b.size;obtain⟨w4,c7⟩:∃w4,w3.drew=w4:=⟨_,rfl⟩;have b2:Below w3.heap.size w3 w4:=by rw[<-c7];exact(Ze _ _).drew
    have a3:=e6.below b2;have C12:=Qa (aa a3.row (j:=12) (u:=.slice (some ⟨g3,0,none⟩) (m+1) q3) (by rw[<-Hm.out];rfl));have f12:=ak a3.row 12;have j5:(m:Int)<=q3:=by have:=Hm.out;omega
    have b5:w4.ownsRow B 3 1 (.slice (some ⟨g3,0,none⟩) m q3) fs.length (fs.reverse.map gK):=by
     have:=a3.opens;rw[List.length_cons,List.reverse_cons,List.map_append] at this;rw[<-Hm.out];exact rA this (by simp)
    have b4:=Qa (a3.setOpen (Zc f0 b2.size) (aZ.refl (fun _=>False) w4) (fun _ h=>h.elim) (ofr':=fs) (ov':=.slice (some ⟨g3,0,none⟩) m q3) b5);have e8:=Qa (c1.out.below b2);have c3:=Qa (f2.out.trans (cQ.new b2 f0));have c12s:=C12.out;clear e6 a3 b5 b2 f0 k5;refine cP (fun w9=>w9.cell? ⟨rb,12,none⟩=some (.slice (some ⟨g3,0,none⟩) (m+1) q3)) 14 ((by rw[c7];exact C12.out)) fun a0=>?_
    rw[c7] at a0 ⊢;clear c7;refine tR 0 a0 ?_;refine tR 1 a0 ?_;refine tR 2 a0 ?_;refine tR 3 a0 ?_;refine tR 4 a0 ?_;refine tR 5 a0 ?_
    try simp only[Act.put,jP,jQ,jR]
    refine tR 6 a0 ?_;refine tR 7 a0 ?_;refine tR 8 a0 ?_;refine tR 9 a0 ?_;refine tR 10 a0 ?_;refine tR 11 a0 ?_
    try simp only[Act.put,jP,jQ,jR]
    refine tR 12 a0 ?_;refine tR 13 a0 ?_
    try simp only[Act.put,jP,jQ,jR]
    refine rZ 14 fun K hK=>?_
    go_simp;refine hK.out _ _ (fun h=>absurd rfl h) (fun _=>?_);clear hK K
    try simp only[Act.put,jP,jQ,jR]
    refine aW (by kernel_rfl) (NoPanic.normal ?_) _;clear a0 c12s f12;obtain⟨w5,g0⟩:∃w5,w4.setCell ⟨rb,12,none⟩ (.slice (some ⟨g3,0,none⟩) m q3)=w5:=⟨_,rfl⟩;rw[g0] at b4 ⊢;have h6:=jC.a (frs:=fs) (b4.out.2.2);have d9:=Qa (e8.out.kp b4.out.2.1 bT);have g4:=Qa (c3.out.trans (cQ.rd b4.out.1 b4.out.2.1));clear g0;go_wp2_with fail;obtain⟨wq,hwq⟩:∃wq,w5.drew=wq:=⟨_,rfl⟩;have a1:Below w5.heap.size w5 wq:=by rw[<-hwq];exact(Ze _ _).drew
    have e4:=Zc HB.out g4.out.b.size;have a6:=h6.s.below a1;have c6:=Qa (dQ a6 (by have:=Hl.out;omega));have Htk:=Qa (oT (lv:=(fs.length:Int)+1) (by omega) (d9.out.below a1) Ho.out k1.out k2.out Hi.out e5.out h8.out (Zc e4 a1.size));obtain⟨by2,dp2,ex2,ov2,nv2,maps2,b9⟩:=id a6;have C11:=Qa (aa b9.row (j:=11) (u:=.func (.func 75) #[.pointer (some ⟨xb,0,none⟩)] #[]) rfl);have a4:=Qa (And.intro (g4.out.trans (cQ.new a1 e4)) a6);clear a1 a6 b9 h6 e4;refine cP (fun w9=>w9.cell? ⟨rb,11,none⟩=some (.func (.func 75) #[.pointer (some ⟨xb,0,none⟩)] #[])) 9 ((by rw[hwq];exact C11.out)) fun a0=>?_
    rw[hwq] at a0 ⊢;clear hwq;refine tR 0 a0 ?_;refine tR 1 a0 ?_;refine tR 2 a0 ?_;refine tR 3 a0 ?_;refine tR 4 a0 ?_;refine tR 6 a0 ?_
    try simp only[Act.put,jP,jQ,jR]
    refine rZ 5 fun K hK=>?_
    go_simp;refine Za c6 ?_;rintro e w' ⟨rfl,rfl⟩;go_wp2_with fail;refine hK.out _ _ (fun _=>a0) (fun a0=>?_);clear hK K;have a0:=a0 (by decide)
    try simp only[Act.put,jP,jQ,jR]
    refine tR 7 a0 ?_;refine tR 8 a0 ?_
    try simp only[Act.put,jP,jQ,jR]
    refine rZ 9 fun K hK=>?_
    go_simp;refine Za Htk ?_;rintro e w6 ⟨rfl,h1,h2,h3⟩;have R:=Qa (And.intro h1 (And.intro h2 h3));clear h1 h2 h3;go_wp2_with fail;refine hK.out _ _ (fun h=>absurd rfl h) (fun _=>?_);clear hK K
    try simp only[Act.put,jP,jQ,jR]
    refine aW (by kernel_rfl) (NoPanic.normal ?_) _;obtain⟨y1,y2,bs2,y3⟩:=R.out;have h9:=(a4.out.2.tb y2).put (fun f fs e=>(h8.out.2 f fs e).1) (dO f);have d2:B<=w6.heap.size:=Zc (Zc HB.out a4.out.1.b.size) y1.size;have l0:=Qa (jl h9 d2 (by rw[kF];have:=Hl.out;omega));have R6:=Qa (And.intro (a4.out.1.trans (cQ.tb y1 y2)) y3);clear y1 y2 y3 h9 d2 R a4 c6 Htk C11;go_wp2_with fail;refine Za l0 ?_;rintro e w7 ⟨rfl,h1,h2,h3⟩;have R7:=Qa (And.intro h1 (And.intro h2 h3));clear h1 h2 h3;go_wp2_with fail;go_end0;refine⟨rfl,R6.out.1.trans (cQ.rd R7.out.1 R7.out.2.1),?_,bs2,R6.out.2.kp R7.out.2.1 bT⟩;rw[jr];exact R7.out.2.2
