import Derived.Test.YtafobflehfecpaaGreatDoorGZ15ba
set_option linter.unusedVariables false
set_option linter.unusedSimpArgs false
set_option maxHeartbeats 64000000
set_option maxRecDepth 100000
namespace Go.Proofs.YtafobflehfecpaaGreatDoor
open Go.RowKit
variable {fin:Bool}{f:Fr}{by_ dp ex:Int}{frs fs nfr:List Fr}{maps:List Nat}{xs:List UInt8}{B i lb n nd nd' q rb want xb:Nat}{A:Option Addr}{e:TypeId}{nv ov v x:Value}{w:World}
theorem mC {L:List UInt8}{y c:UInt8}(h:L[i]?=some y):(L.take (i+1)).contains c= ((L.take i).contains c||c==y):=by
 rw[List.take_add_one,h];rw[Bool.eq_iff_iff];simp[List.contains_eq_mem]
theorem BW:cQ 188 3 (.int .i64 0) 1 8:=⟨Tryz.underlying188,by kernel_rfl,rfl,by decide⟩
theorem EQ:cQ 223 305 (.map none) 1 8:=⟨Tryz.underlying223,by kernel_rfl,rfl,by decide⟩
theorem gL.pushName {k:Nat}{ofr:List Fr}(h:gL B w rb lb xb v xs ofr nfr want k nd fin by_ dp ex ov nv maps)(hB:B<=w.heap.size){z:Nat}(hz:w.heap.size=z){W8:World}(hW:((w.alloc (.map #[] 0)).alloc (.cells #[.map (some z)] 305))=W8) :
  W8.ownsRow B 305 1 nv maps.length (maps.reverse.map vc)/\Below w.heap.size w W8/\(∀j u, [Value.map (some z)][j]?=some u->W8.cell? ⟨z+1,j,none⟩=some u)/\∀w9 nv',W8.grownBy w9 nv.ownBlock->w9.ownsRow B 305 1 nv' (maps.length+1) (maps.reverse.map vc ++ [.map (some z)])->
   w9.heap[rb]?=some (.cells (cv lb xb by_ dp nd ex ov nv want fin) 225 (0,0))/\Below B W8 (w9.setCell ⟨rb,13,none⟩ nv')/\Kp j1 W8 (w9.setCell ⟨rb,13,none⟩ nv')/\gL B (w9.setCell ⟨rb,13,none⟩ nv') rb lb xb v xs ofr (⟨true, [], [],none⟩::nfr) want k nd fin by_ dp ex ov nv' (z::maps):=by
 subst hz;have a3:=ac w (.map #[] 0);have a0:=ac (w.alloc (.map #[] 0)) (.cells #[.map (some w.heap.size)] 305);rw[hW] at a0;have hb:=ak a3 a0;have h8:=h.below hb;have a1:cS W8 w.heap.size [] 0:=(cS.made w).kp (Kp.of_below (fun _=>False) a0);have hlt:∀b∈maps,b<w.heap.size:=fun b hb=>by
  obtain⟨i,hi,rfl⟩:=List.getElem_of_mem hb;have hl:=h.seen.1;obtain⟨-,l,n,hs,-⟩:=h.seen.2 i maps[i] ((nfr.filter (·.obj))[i]'(by omega)) (Zd hi) (Zd _);exact hs.lt
 have a2:=av (w.alloc (.map #[] 0)) [.map (some w.heap.size)] 305;rw[World.size_alloc] at a2;refine⟨h8.names,hb,by rw[<-hW];exact a2,fun w9 nv' hg hp=>?_⟩;have a4:=ay h8.row hg (aD h8.names h8.row (by decide));have hs:=h8.setNames (Zc hB hb.size) (aM.grown hg) (fun g h=>h) (nv':=nv') (maps':=w.heap.size::maps) (nfr':=⟨true, [], [],none⟩::nfr) (by rw[List.length_cons,List.reverse_cons,List.map_append];exact hp) (List.nodup_cons.2 ⟨fun hm=>Nat.lt_irrefl _ (hlt _ hm),h8.nodup⟩) (fun w10 hk _=>by
  simp only[List.filter_cons,if_true];refine cd.cons ⟨hB, [],0,a1.kp hk,Zj _,fun s=>by simp[fJ]⟩ (gL.seens h8.seen hk))
 exact⟨a4,hs⟩
theorem ot {xs:List Value}(h:w.ownsRow B e 1 (.slice A (n+1) q) (n+1) (xs ++ [x]))(hx:xs.length=n):w.ownsRow B e 1 (.slice A n q) n xs:=ii h (by rw[hx,Nat.mul_one])
theorem gL.topOpen {k:Nat}(h:gL B w rb lb xb v xs (f::fs) nfr want k nd fin by_ dp ex ov nv maps):∃g q,ov =.slice (some ⟨g,0,none⟩) (fs.length+1) q/\w.cell? ⟨g,fs.length,none⟩=some (.int .i64 (if f.obj then 6 else 5))/\fs.length+1<=q:=by
 have ho:=h.opens;rw[List.length_cons] at ho;obtain⟨A,q,rfl,hq,-,hA⟩:=af ho;obtain⟨g,rfl⟩:=hA (by omega);have cg:=World.ownsRow.cellAt ho fs.length (by omega);rw[List.reverse_cons,List.map_append,List.getElem?_append_right (by simp),List.length_map,List.length_reverse,Nat.sub_self] at cg;exact⟨g,q,rfl,cg,hq⟩
theorem fp.topKind {k:Nat}(h:fp B w rb lb xb v xs (f::fs) want k nd fin by_ dp ex ov nv maps):∃g q,ov =.slice (some ⟨g,0,none⟩) (fs.length+1) q/\w.cell? ⟨g,fs.length,none⟩=some (.int .i64 (if f.obj then 6 else 5))/\fs.length+1<=q:=by
 have ho:=h.opens;rw[List.length_cons] at ho;obtain⟨A,q,rfl,hq,-,hA⟩:=af ho;obtain⟨g,rfl⟩:=hA (by omega);have cg:=World.ownsRow.cellAt ho fs.length (by omega);rw[List.reverse_cons,List.map_append,List.getElem?_append_right (by simp),List.length_map,List.length_reverse,Nat.sub_self] at cg;exact⟨g,q,rfl,cg,hq⟩
inductive gK (nd:Nat):Int->UInt8->List Fr->ci->Nat->Prop
 |colon (frs:List Fr):gK nd 58 58 frs ⟨frs,0,none⟩ nd
 |comma5 (f:Fr) (fs:List Fr) (ho:f.obj=false) (hl:fs.length<=4294967296):gK nd 44 44 (f::fs) ⟨f::fs,0,none⟩ nd
 |comma6 (f:Fr) (fs:List Fr) (ho:f.obj=true) (hl:fs.length<=4294967296):gK nd 44 44 (f::fs) ⟨f::fs,2,none⟩ nd
 |open5 (frs:List Fr) (hl:frs.length<=1000000000) (hn:nd<=1000000000) (hlk:∀f fs,frs=f::fs->bH f=false):gK nd 91 91 frs ⟨⟨false, [], [],none⟩::frs,1,none⟩ (nd+1)
 |open6 (frs:List Fr) (hl:frs.length<=1000000000) (hn:nd<=1000000000) (hlk:∀f fs,frs=f::fs->bH f=false):gK nd 123 123 frs ⟨⟨true, [], [],none⟩::frs,3,none⟩ (nd+1)
 |close5 (f:Fr) (fs:List Fr) (ho:f.obj=false) (hnn:f.name=none) (hfo:f.ok eC) (hi:f.items.length<=4294967296) (hmi:f.mems.length<=4294967296) (hTB:iM fs) (hl:fs.length<=1000000000):gK nd 93 93 (f::fs) (bu fs (cN f)) nd
 |close6 (f:Fr) (fs:List Fr) (ho:f.obj=true) (hnn:f.name=none) (hfo:f.ok eC) (hi:f.items.length<=4294967296) (hmi:f.mems.length<=4294967296) (hTB:iM fs) (hl:fs.length<=1000000000):gK nd 125 125 (f::fs) (bu fs (cN f)) nd
theorem gK.eq {z:Int}{c:UInt8}{C:ci}(h:gK nd z c frs C nd'):z=c.toNat:=by cases h <;> rfl
theorem dZ {k:Nat}{p z:Int}{c:UInt8}{C:ci}{bs:List Nat}(hM:jx w)(hw:want<8)(c6:yf want c=true)(hR:gH B w rb lb xb v xs frs want k nd false)(p0:dV B w xb frs none bs)(hB:B<=w.heap.size)(hc:gK nd z c frs C nd'):Calls Tryz.prog 154 #[.pointer (some ⟨rb,0,none⟩),.agg #[.int .i64 p,.int .u8 z]] w (Fe B rb lb xb v xs C k nd' false w):=by
 have g2:=ac w (.cells #[.int .i64 p,.int .u8 z] 274);obtain⟨w1,s0⟩:∃w1,w.alloc (.cells #[.int .i64 p,.int .u8 z] 274)=w1:=⟨_,rfl⟩;have k4:=Qa (Zf w (.cells #[.int .i64 p,.int .u8 z] 274));rw[s0] at g2 k4;have HR:=Qa (hR.below g2);have n6:=Qa (p0.below g2);have HM:=Qa (hM.below g2);have HB:=Qa hB;have q0:=Qa g2;have Hz:=Qa hc.eq;have o2:=Qa hc;obtain⟨by_,dp,ex,ov,nv,maps,hA⟩:=HR.out;have HA:=Qa hA;have c14:=aa hA.row (j:=14) (u:=.int .i64 want) rfl;have m0:=HM.out want hw;rw[EE] at c6;obtain⟨L,hL⟩:∃L,xl want=L:=⟨_,rfl⟩;have q6:L.length<=3:=by rw[<-hL];have:∀i,i<8->(xl i).length<=3:=(by decide);exact this want hw
 rw[hL] at m0 c6;have o0:=Qa c6;have p4:=Qa (show((⟨L.toArray⟩:ByteArray)).size=L.length by simp[ByteArray.size]);have q4:(want:Int)<8:=by omega
 clear hM hR p0 hB g2 hA hL c6 hw hc;go_enter Tryz.func154,Tryz.ntmps154;go_wp2_with fail;have HX:=Qa (True.intro)
 go_loopg [4,14] L.length (fun m s4 s14 wr=> ∃i:Nat,m+i=L.length/\s14 =.int .i64 i/\s4 =.bool ((L.take i).contains c)/\Below w1.heap.size w1 wr)
 case atStart=>exact⟨0,rfl,rfl,rfl,Ze _ _⟩
 case round=>
  obtain⟨i,d1,rfl,rfl,hb⟩:=hrel;have Hb:=Qa hb;have Hmi:=Qa d1;have d14:=Zg hb c14;have n0:=Zg hb m0;have q8:=p4.out
  by_cases hlt:i<L.length
  ·obtain⟨y,hy⟩:∃y,L[i]?=some y:=⟨_,Zd hlt⟩;have l2:(i:Int)<L.length:=by omega
   have e1:=Zg hb (aa k4.out (j:=1) (u:=.int .u8 z) rfl);have s7:∀w',(Instr.index 9 (.string ⟨L.toArray⟩) (.int .i64 (i:Int))).run Tryz.prog w' =.ok (.int .u8 y.toNat) w':=fun w'=>gB (s:=⟨L.toArray⟩) (by simpa using hy) w'
   have Htk:=Qa (mC (c:=c) hy);have hyc:((y.toNat:Int)==z)= (c==y):=by
    rw[Hz.out,Bool.eq_iff_iff];simp only[beq_iff_eq];exact⟨fun h=>UInt8.toNat_inj.1 (by omega),fun h=>by rw[h]⟩
   have f9:0+0=0:=rfl;clear hb d1 hlt hy c14 m0
   cases hok:(L.take i).contains c
   all_goals
    go_wp2_with fail;go_quiet (fail);go_wp2_with fail;go_roundg (L.length - (i+1))
    case measure=>have:=Hmi.out;omega
    case rel=>exact⟨i+1,by have:=Hmi.out;omega,by go_num,by rw[Htk.out,hok];simp[hyc],ap Hb.out _⟩
  ·obtain rfl:i=L.length:=by omega
   have l2:¬ (L.length:Int)<L.length:=by omega
   have hok:(L.take L.length).contains c=true:=by rw[List.take_length];exact o0.out
   rw[hok];have e1:=Zg hb (aa k4.out (j:=1) (u:=.int .u8 z) rfl);have a9:=Qa (HA.out.below hb);have b3:=Qa (n6.out.below hb);have d4:=Qa (bZ.new (ak q0.out hb) HB.out);have b4:B<=wr.heap.size:=Zc HB.out d4.out.b.size;have q7:=o2.out;clear hb d1 hlt c14 m0 d14 n0 q8 hok q4 q6 o2 Hz HX o0 p4 HM HR HA n6 k4;rcases q7 with ⟨frs⟩|⟨f,fs,ho,hl⟩|⟨f,fs,ho,hl⟩|⟨frs,hl,hn,hlk⟩|⟨frs,hl,hn,hlk⟩|⟨f,fs,ho,f9,h8,hi,d1,k0,hl⟩|⟨f,fs,ho,f9,h8,hi,d1,k0,hl⟩
   ·have d14:=aa a9.out.row (j:=14) (u:=.int .i64 want) rfl;have f14:=aj a9.out.row 14;have Hs:=Qa (a9.out.setWant b4 0 (z:=0) rfl);go_wp2_with fail;go_end0;exact⟨rfl,d4.out.trans (bZ.rd Hs.out.1 Hs.out.2.1),Hs.out.2.2.s,_,b3.out.kp Hs.out.2.1 bq⟩
   ·have d14:=aa a9.out.row (j:=14) (u:=.int .i64 want) rfl;have f14:=aj a9.out.row 14;have Hs:=Qa (a9.out.setWant b4 0 (z:=0) rfl);obtain⟨w6,g7⟩:∃w6,wr.setCell ⟨rb,14,none⟩ (.int .i64 0)=w6:=⟨_,rfl⟩;rw[g7] at Hs;obtain⟨g,q,b2,cg,hq⟩:=Hs.out.2.2.topKind;rw[ho] at cg;simp only[Bool.false_eq_true,if_false,if_true] at cg;subst b2;obtain⟨m,hm⟩:∃m,fs.length=m:=⟨_,rfl⟩;rw[hm] at cg hq hl;have c12:=aa Hs.out.2.2.row (j:=12) (u:=.slice (some ⟨g,0,none⟩) (m+1) q) (by rw[<-hm];rfl);have s1:IntKind.i64.wrap (m:Int)= (m:Int):=IntWalk.i64_in _ (by omega);have f0:(m:Int)< (m:Int)+1:=by omega
    have m1:=Qa g7;clear hm hq hl;go_wp2_with fail
    try rw[m1.out]
    go_quiet (fail);go_wp2_with fail;go_end0;have a1:=ap (Ze w6.heap.size w6) nq;exact⟨rfl,(d4.out.trans (bZ.rd Hs.out.1 Hs.out.2.1)).trans (bZ.new a1 (Zc b4 Hs.out.2.1.1)),(Hs.out.2.2.below a1).s,_,(b3.out.kp Hs.out.2.1 bq).below a1⟩
   ·have d14:=aa a9.out.row (j:=14) (u:=.int .i64 want) rfl;have f14:=aj a9.out.row 14;have Hs:=Qa (a9.out.setWant b4 0 (z:=0) rfl);obtain⟨w6,g7⟩:∃w6,wr.setCell ⟨rb,14,none⟩ (.int .i64 0)=w6:=⟨_,rfl⟩;rw[g7] at Hs;obtain⟨g,q,b2,cg,hq⟩:=Hs.out.2.2.topKind;rw[ho] at cg;simp only[Bool.false_eq_true,if_false,if_true] at cg;subst b2;obtain⟨m,hm⟩:∃m,fs.length=m:=⟨_,rfl⟩;rw[hm] at cg hq hl;have c12:=aa Hs.out.2.2.row (j:=12) (u:=.slice (some ⟨g,0,none⟩) (m+1) q) (by rw[<-hm];rfl);have s1:IntKind.i64.wrap (m:Int)= (m:Int):=IntWalk.i64_in _ (by omega);have f0:(m:Int)< (m:Int)+1:=by omega
    have m1:=Qa g7;clear hm hq hl;go_wp2_with fail
    try rw[m1.out]
    go_quiet (fail);have a1:=ap (Ze w6.heap.size w6) nq;have i9:=Hs.out.2.2.below a1;obtain⟨w7,n5⟩:∃w7,w6.drewN nq=w7:=⟨_,rfl⟩;rw[n5] at a1 i9 ⊢;have g14:=aa i9.row (j:=14) (u:=.int .i64 0) rfl;have f14':=aj i9.row 14;have s5:=Zc (Zc b4 Hs.out.2.1.1) a1.size;have k5:=Qa (i9.setWant s5 2 (z:=2) rfl);have a4:=Qa a1;clear i9 a1 n5 c12 cg d14 f14;go_wp2_with fail;go_end0;exact⟨rfl,((d4.out.trans (bZ.rd Hs.out.1 Hs.out.2.1)).trans (bZ.new a4.out (Zc b4 Hs.out.2.1.1))).trans (bZ.rd k5.out.1 k5.out.2.1),k5.out.2.2.s,_,((b3.out.kp Hs.out.2.1 bq).below a4.out).kp k5.out.2.1 bq⟩
   ·have Hl:=Qa hl;have Hn:=Qa hn;have n2:=Qa hlk;clear hl hn hlk;have i5:=Qa (el a9.out.s Hl.out Hn.out b4);go_wp2_with fail;refine Za i5 ?_;rintro e w2 ⟨rfl,i8,c7,h5⟩;have b8:=b3.out.kp c7 bq;have c0:=Zc b4 c7.1;have c5:=Qa (d4.out.trans (bZ.rd i8 c7));clear i5 c7 i8;obtain⟨wq,b1⟩:∃wq,w2.drew=wq:=⟨_,rfl⟩;have a1:Below w2.heap.size w2 wq:=by rw[<-b1];exact(Ze _ _).drew
    have a5:=h5.below a1;have b5:=b8.below a1;have d2:=Qa (cV a5 (by have:=Hl.out;omega));have Htk:=Qa (ti (lv:=(frs.length:Int)+1) (by omega) b5 n2.out (by have:=Hl.out;omega) (Zc c0 a1.size));obtain⟨by2,dp2,ex2,ov2,nv2,maps2,k1⟩:=id a5;have C11:=Qa (aa k1.row (j:=11) (u:=.func (.func 99) #[.pointer (some ⟨xb,0,none⟩)] #[]) rfl);have a4:=Qa (And.intro (c5.out.trans (bZ.new a1 c0)) a5);clear a1 a5 b5 k1 b8 h5 c0;go_wp2_with fail;refine ch (fun w9=>w9.cell? ⟨rb,11,none⟩=some (.func (.func 99) #[.pointer (some ⟨xb,0,none⟩)] #[])) 8 ((by rw[b1];exact C11.out)) fun a0=>?_
    rw[b1] at a0 ⊢;clear b1;refine tR 0 a0 ?_;refine tR 1 a0 ?_;refine tR 2 a0 ?_;refine tR 3 a0 ?_;refine tR 4 a0 ?_
    try simp only[Act.put,jP,jQ,jR]
    refine rZ 5 fun K hK=>?_
    go_simp;refine Za d2 ?_;rintro e w' ⟨rfl,rfl⟩;go_wp2_with fail;refine hK.out _ _ (fun _=>a0) (fun a0=>?_);clear hK K;have a0:=a0 (by decide)
    try simp only[Act.put,jP,jQ,jR]
    refine tR 6 a0 ?_;refine tR 7 a0 ?_
    try simp only[Act.put,jP,jQ,jR]
    refine rZ 8 fun K hK=>?_
    go_simp;refine Za Htk ?_;rintro e w4 ⟨rfl,h1,h2,h3⟩;have R:=Qa (And.intro h1 (And.intro h2 h3));clear h1 h2 h3;go_wp2_with fail;refine hK.out _ _ (fun h=>absurd rfl h) (fun _=>?_);clear hK K
    try simp only[Act.put,jP,jQ,jR]
    refine aH (by kernel_rfl) (NoPanic.normal ?_) _;obtain⟨y1,y2,bs2,y3⟩:=R.out;obtain⟨by4,dp4,ex4,ov4,nv4,maps4,a2⟩:=a4.out.2.tb y2;have d3:=Qa (a4.out.1.trans (bZ.tb y1 y2));have f6:B<=w4.heap.size:=Zc HB.out d3.out.b.size;obtain⟨A12,q12,b2,-⟩:=af a2.opens;subst b2;obtain⟨m,hm⟩:∃m,frs.length=m:=⟨_,rfl⟩;have c12:=aa a2.row (j:=12) (u:=.slice A12 m q12) (by rw[<-hm];rfl);have a3:=ac w4 (.cells #[.int .i64 5] 3);have m5:=Qa (av w4 [.int .i64 5] 3);have e3:=a2.below a3;have g5:=Qa (show(w4.alloc (.cells #[.int .i64 5] 3)).ownsRow B 3 1 (.slice A12 m q12) m (frs.reverse.map eJ) by have:=e3.opens;rwa[hm] at this);have e5:=Qa e3;have m4:=Qa y3;have n4:=Qa (show bZ B w (w4.alloc (.cells #[.int .i64 5] 3)) from d3.out.trans (bZ.new a3 f6));have m2:m<=1000000000:=by rw[<-hm];exact Hl.out
    have Hm:=Qa hm;have c9:=Qa (show B<=(w4.alloc (.cells #[.int .i64 5] 3)).heap.size from Zc f6 a3.size);have e2:=Qa a3;clear y1 y2 y3 a2 f6 a3 e3 R a4 hm;go_wp2_with ((at_builtin;refine kC BW g5.out m5.out c9.out ?_;intro v' w5 p1 p2 p3;obtain⟨A5,q5,rfl,-,-,-⟩:=af p1;have f2:=ay e5.out.row p2 (aD g5.out e5.out.row (by decide));have c12':=aa f2 (j:=12) (u:=.slice A12 m q12) (by rw[<-Hm.out];rfl);have f12':=aj f2 12;have hs:=e5.out.b.setOpen c9.out (aM.grown p2) (fun g h=>by rw[Hm.out];exact h) (ofr':=⟨false, [], [],none⟩::frs) (ov':=.slice A5 (m+1) q5) (by rw[List.length_cons,Hm.out,List.reverse_cons,List.map_append];exact p1);have c14':=aa hs.2.2.row (j:=14) (u:=.int .i64 want) rfl;have f14':=aj hs.2.2.row 14;have Hs:=Qa hs;have r7:=Qa p2;clear p1 p2 p3 f2 hs));go_end0;obtain⟨s1,s2,s3⟩:=Hs.out;obtain⟨z1,z2,z3⟩:=s3.setWant (Zc c9.out s2.1) 1 (z:=1) rfl;refine⟨rfl,(n4.out.trans (bZ.rd s1 s2)).trans (bZ.rd z1 z2),⟨by4,dp4,ex4,_,nv4,maps4,z3.row,z3.low,z3.lex,z3.llow,z3.own,z3.opens,z3.names,?_,z3.nodup,z3.le⟩,bs2,((m4.out.below e2.out).kp s2 bq).kp z2 bq⟩;have:=z3.seen;simpa [List.filter_cons] using this
   ·have Hl:=Qa hl;have Hn:=Qa hn;have n2:=Qa hlk;clear hl hn hlk;have i5:=Qa (el a9.out.s Hl.out Hn.out b4);go_wp2_with fail;refine Za i5 ?_;rintro e w2 ⟨rfl,i8,c7,h5⟩;have b8:=b3.out.kp c7 bq;have c0:=Zc b4 c7.1;have c5:=Qa (d4.out.trans (bZ.rd i8 c7));clear i5 c7 i8;obtain⟨wq,b1⟩:∃wq,w2.drew=wq:=⟨_,rfl⟩;have a1:Below w2.heap.size w2 wq:=by rw[<-b1];exact(Ze _ _).drew
    have a5:=h5.below a1;have b5:=b8.below a1;have d2:=Qa (cV a5 (by have:=Hl.out;omega));have Htk:=Qa (te (lv:=(frs.length:Int)+1) (by omega) b5 n2.out (by have:=Hl.out;omega) (Zc c0 a1.size));obtain⟨by2,dp2,ex2,ov2,nv2,maps2,k1⟩:=id a5;have C11:=Qa (aa k1.row (j:=11) (u:=.func (.func 99) #[.pointer (some ⟨xb,0,none⟩)] #[]) rfl);have a4:=Qa (And.intro (c5.out.trans (bZ.new a1 c0)) a5);clear a1 a5 b5 k1 b8 h5 c0;go_wp2_with fail;refine ch (fun w9=>w9.cell? ⟨rb,11,none⟩=some (.func (.func 99) #[.pointer (some ⟨xb,0,none⟩)] #[])) 8 ((by rw[b1];exact C11.out)) fun a0=>?_
    rw[b1] at a0 ⊢;clear b1;refine tR 0 a0 ?_;refine tR 1 a0 ?_;refine tR 2 a0 ?_;refine tR 3 a0 ?_;refine tR 4 a0 ?_
    try simp only[Act.put,jP,jQ,jR]
    refine rZ 5 fun K hK=>?_
    go_simp;refine Za d2 ?_;rintro e w' ⟨rfl,rfl⟩;go_wp2_with fail;refine hK.out _ _ (fun _=>a0) (fun a0=>?_);clear hK K;have a0:=a0 (by decide)
    try simp only[Act.put,jP,jQ,jR]
    refine tR 6 a0 ?_;refine tR 7 a0 ?_
    try simp only[Act.put,jP,jQ,jR]
    refine rZ 8 fun K hK=>?_
    go_simp;refine Za Htk ?_;rintro e w4 ⟨rfl,h1,h2,h3⟩;have R:=Qa (And.intro h1 (And.intro h2 h3));clear h1 h2 h3;go_wp2_with fail;refine hK.out _ _ (fun h=>absurd rfl h) (fun _=>?_);clear hK K
    try simp only[Act.put,jP,jQ,jR]
    refine aH (by kernel_rfl) (NoPanic.normal ?_) _;obtain⟨y1,y2,bs2,y3⟩:=R.out;obtain⟨by4,dp4,ex4,ov4,nv4,maps4,a2⟩:=a4.out.2.tb y2;have d3:=Qa (a4.out.1.trans (bZ.tb y1 y2));have f6:B<=w4.heap.size:=Zc HB.out d3.out.b.size;obtain⟨A12,q12,b2,-⟩:=af a2.opens;subst b2;obtain⟨m,hm⟩:∃m,frs.length=m:=⟨_,rfl⟩;have c12:=aa a2.row (j:=12) (u:=.slice A12 m q12) (by rw[<-hm];rfl);have a3:=ac w4 (.cells #[.int .i64 6] 3);have m5:=Qa (av w4 [.int .i64 6] 3);have e3:=a2.below a3;have g5:=Qa (show(w4.alloc (.cells #[.int .i64 6] 3)).ownsRow B 3 1 (.slice A12 m q12) m (frs.reverse.map eJ) by have:=e3.opens;rwa[hm] at this);have e5:=Qa e3;have m4:=Qa y3;have n4:=Qa (show bZ B w (w4.alloc (.cells #[.int .i64 6] 3)) from d3.out.trans (bZ.new a3 f6));have m2:m<=1000000000:=by rw[<-hm];exact Hl.out
    have Hm:=Qa hm;have c9:=Qa (show B<=(w4.alloc (.cells #[.int .i64 6] 3)).heap.size from Zc f6 a3.size);have e2:=Qa a3;have g8:maps4.length<=1000000000:=by
     have h1:=a2.seen.1;have h2:=List.length_filter_le (fun g:Fr=>g.obj) frs;have:=Hl.out;omega
    have k3:=Qa g8;clear g8;obtain⟨A13,q13,n1,-⟩:=af a2.names;subst n1;have s6:= @run_makeMap Tryz.prog;clear y1 y2 y3 a2 f6 a3 e3 R a4 hm;go_wp2_with (first|(at_builtin;refine kC BW g5.out m5.out c9.out ?_;intro v' w5 p1 p2 p3;obtain⟨A5,q5,rfl,-,-,-⟩:=af p1;have f2:=ay e5.out.row p2 (aD g5.out e5.out.row (by decide));have c12':=aa f2 (j:=12) (u:=.slice A12 m q12) (by rw[<-Hm.out];rfl);have f12':=aj f2 12;have hs:=e5.out.b.setOpen c9.out (aM.grown p2) (fun g h=>by rw[Hm.out];exact h) (ofr':=⟨true, [], [],none⟩::frs) (ov':=.slice A5 (m+1) q5) (by rw[List.length_cons,Hm.out,List.reverse_cons,List.map_append];exact p1);have c14':=aa hs.2.2.row (j:=14) (u:=.int .i64 want) rfl;have f14':=aj hs.2.2.row 14;have Hs:=Qa hs;have r7:=Qa p2;have c13':=aa hs.2.2.row (j:=13) (u:=.slice A13 maps4.length q13) rfl;have h4:=Qa (hs.2.2.pushName (Zc c9.out hs.2.1.1) (z:=w5.heap.size) (by simp) rfl);clear p1 p2 p3 f2 hs)|(at_builtin;refine kC EQ h4.out.1 h4.out.2.2.1 (by have:=Hs.out.2.1.1;have:=c9.out;have:=h4.out.2.1.size;omega) ?_ (hlen:=(by unfold maxLen;have:=k3.out;omega)) (hby:=(by have:=k3.out;omega));intro v9 w9 p1 p2 p3;obtain⟨A9,q9,rfl,-,-,-⟩:=af p1;have g1:=h4.out.2.2.2 w9 _ p2 p1;have c13q:=aa g1.1 (j:=13) (u:=.slice A13 maps4.length q13) rfl;have f13q:=aj g1.1 13;have c14q:=aa g1.2.2.2.row (j:=14) (u:=.int .i64 want) rfl;have f14q:=aj g1.2.2.2.row 14;have r6:=Qa g1;clear p1 p2 p3 g1));go_end0;obtain⟨s1,s2,s3⟩:=Hs.out;obtain⟨t1,t2,t3,t4⟩:=h4.out;obtain⟨r0,r1,r2,r3⟩:=r6.out;have d9:=Zc c9.out s2.1;have r4:=Zc d9 t2.size;obtain⟨z1,z2,z3⟩:=r3.setWant (Zc r4 r2.1) 3 (z:=3) rfl;exact⟨rfl,(((n4.out.trans (bZ.rd s1 s2)).trans (bZ.new t2 d9)).trans (bZ.rd r1 r2)).trans (bZ.rd z1 z2),⟨by4,dp4,ex4,_,_,_,z3.a⟩,bs2,((((m4.out.below e2.out).kp s2 bq).below t2).kp r2 bq).kp z2 bq⟩
   ·have Ho:=Qa ho;have m3:=Qa f9;have l3:=Qa h8;have Hi:=Qa hi;have f5:=Qa d1;have h9:=Qa k0;have Hl:=Qa hl;clear ho f9 h8 hi d1 k0 hl;have d14:=aa a9.out.row (j:=14) (u:=.int .i64 want) rfl;obtain⟨g,q,b2,cg,hq⟩:=a9.out.topKind;rw[Ho.out] at cg;simp only[Bool.false_eq_true,if_false,if_true] at cg;subst b2;obtain⟨m,hm⟩:∃m,fs.length=m:=⟨_,rfl⟩;rw[hm] at cg hq;have m2:m<=1000000000:=by rw[<-hm];exact Hl.out
    have c12:=aa a9.out.row (j:=12) (u:=.slice (some ⟨g,0,none⟩) (m+1) q) (by rw[<-hm];rfl);have s1:IntKind.i64.wrap (m:Int)= (m:Int):=IntWalk.i64_in _ (by omega);have f0:(m:Int)< (m:Int)+1:=by omega
    have Hm:=Qa hm;have Hq:=Qa hq;clear hm d14 hq;go_wp2_with fail;go_quiet (fail);have a1:=ap (Ze wr.heap.size wr) nq;obtain⟨w2,i2⟩:∃w2,wr.drewN nq=w2:=⟨_,rfl⟩;rw[i2] at a1 ⊢;have d6:=Qa (a9.out.below a1);have c4:=Qa (b3.out.below a1);have c5:=Qa (d4.out.trans (bZ.new a1 b4));clear a1 i2 c12 cg e1;go_wp2_with fail;have k6:=Qa (show ∃by_ dp ex ov nv maps,gL B w2 rb lb xb v xs (f::fs) (f::fs) want k nd false by_ dp ex ov nv maps from⟨_,_,_,_,_,_,d6.out.b⟩);obtain⟨w3,j0⟩:∃w3,w3=w2:=⟨_,rfl⟩;have c8:=c4;have g0:=c5;rw[<-j0] at k6 c8 g0 ⊢;clear d6 c4 c5 j0;obtain⟨by3,dp3,ex3,ov3,nv3,maps3,e6⟩:=k6.out;obtain⟨g3,q3,b2,-,k8⟩:=e6.topOpen;subst b2;have f3:=Zc HB.out g0.out.b.size;obtain⟨w4,d0⟩:∃w4,w3.drew=w4:=⟨_,rfl⟩;have c3:Below w3.heap.size w3 w4:=by rw[<-d0];exact(Ze _ _).drew
    have a2:=e6.below c3;have C12:=Qa (aa a2.row (j:=12) (u:=.slice (some ⟨g3,0,none⟩) (m+1) q3) (by rw[<-Hm.out];rfl));have f12:=aj a2.row 12;have n3:(m:Int)<=q3:=by have:=Hm.out;omega
    have b9:w4.ownsRow B 3 1 (.slice (some ⟨g3,0,none⟩) m q3) fs.length (fs.reverse.map eJ):=by
     have:=a2.opens;rw[List.length_cons,List.reverse_cons,List.map_append] at this;rw[<-Hm.out];exact ot this (by simp)
    have c2:=Qa (a2.setOpen (Zc f3 c3.size) (aM.refl (fun _=>False) w4) (fun _ h=>h.elim) (ofr':=fs) (ov':=.slice (some ⟨g3,0,none⟩) m q3) b9);have f1:=Qa (c8.out.below c3);have d3:=Qa (g0.out.trans (bZ.new c3 f3));have c12s:=C12.out;clear e6 a2 b9 c3 f3 k8;refine ch (fun w9=>w9.cell? ⟨rb,12,none⟩=some (.slice (some ⟨g3,0,none⟩) (m+1) q3)) 14 ((by rw[d0];exact C12.out)) fun a0=>?_
    rw[d0] at a0 ⊢;clear d0;refine tR 0 a0 ?_;refine tR 1 a0 ?_;refine tR 2 a0 ?_;refine tR 3 a0 ?_;refine tR 4 a0 ?_;refine tR 5 a0 ?_
    try simp only[Act.put,jP,jQ,jR]
    refine tR 6 a0 ?_;refine tR 7 a0 ?_;refine tR 8 a0 ?_;refine tR 9 a0 ?_;refine tR 10 a0 ?_;refine tR 11 a0 ?_
    try simp only[Act.put,jP,jQ,jR]
    refine tR 12 a0 ?_;refine tR 13 a0 ?_
    try simp only[Act.put,jP,jQ,jR]
    refine rZ 14 fun K hK=>?_
    go_simp;refine hK.out _ _ (fun h=>absurd rfl h) (fun _=>?_);clear hK K
    try simp only[Act.put,jP,jQ,jR]
    refine aH (by kernel_rfl) (NoPanic.normal ?_) _;clear a0 c12s f12;obtain⟨w5,h0⟩:∃w5,w4.setCell ⟨rb,12,none⟩ (.slice (some ⟨g3,0,none⟩) m q3)=w5:=⟨_,rfl⟩;rw[h0] at c2 ⊢;have k2:=gL.a (frs:=fs) (by have h:=c2.out.2.2;exact⟨h.row,h.low,h.lex,h.llow,h.own,h.opens,h.names,(by have:=h.seen;rw[List.filter_cons,Ho.out] at this;simpa using this),h.nodup,h.le⟩);have e4:=Qa (f1.out.kp c2.out.2.1 bq);have i3:=Qa (d3.out.trans (bZ.rd c2.out.1 c2.out.2.1));clear h0;go_wp2_with fail;obtain⟨wq,b1⟩:∃wq,w5.drew=wq:=⟨_,rfl⟩;have a1:Below w5.heap.size w5 wq:=by rw[<-b1];exact(Ze _ _).drew
    have f4:=Zc HB.out i3.out.b.size;have a5:=k2.s.below a1;have d2:=Qa (cV a5 (by have:=Hl.out;omega));have Htk:=Qa (li (lv:=(fs.length:Int)+1) (by omega) (e4.out.below a1) Ho.out m3.out l3.out Hi.out f5.out h9.out (Zc f4 a1.size));obtain⟨by2,dp2,ex2,ov2,nv2,maps2,c1⟩:=id a5;have C11:=Qa (aa c1.row (j:=11) (u:=.func (.func 99) #[.pointer (some ⟨xb,0,none⟩)] #[]) rfl);have a4:=Qa (And.intro (i3.out.trans (bZ.new a1 f4)) a5);clear a1 a5 c1 k2 f4;refine ch (fun w9=>w9.cell? ⟨rb,11,none⟩=some (.func (.func 99) #[.pointer (some ⟨xb,0,none⟩)] #[])) 9 ((by rw[b1];exact C11.out)) fun a0=>?_
    rw[b1] at a0 ⊢;clear b1;refine tR 0 a0 ?_;refine tR 1 a0 ?_;refine tR 2 a0 ?_;refine tR 3 a0 ?_;refine tR 4 a0 ?_;refine tR 6 a0 ?_
    try simp only[Act.put,jP,jQ,jR]
    refine rZ 5 fun K hK=>?_
    go_simp;refine Za d2 ?_;rintro e w' ⟨rfl,rfl⟩;go_wp2_with fail;refine hK.out _ _ (fun _=>a0) (fun a0=>?_);clear hK K;have a0:=a0 (by decide)
    try simp only[Act.put,jP,jQ,jR]
    refine tR 7 a0 ?_;refine tR 8 a0 ?_
    try simp only[Act.put,jP,jQ,jR]
    refine rZ 9 fun K hK=>?_
    go_simp;refine Za Htk ?_;rintro e w6 ⟨rfl,h1,h2,h3⟩;have R:=Qa (And.intro h1 (And.intro h2 h3));clear h1 h2 h3;go_wp2_with fail;refine hK.out _ _ (fun h=>absurd rfl h) (fun _=>?_);clear hK K
    try simp only[Act.put,jP,jQ,jR]
    refine aH (by kernel_rfl) (NoPanic.normal ?_) _;obtain⟨y1,y2,bs2,y3⟩:=R.out;have h7:=(a4.out.2.tb y2).put (fun f fs e=>(h9.out.2 f fs e).1) (cN f);have d9:B<=w6.heap.size:=Zc (Zc HB.out a4.out.1.b.size) y1.size;have l0:=Qa (gA h7 d9 (by rw[iN];have:=Hl.out;omega));have R6:=Qa (And.intro (a4.out.1.trans (bZ.tb y1 y2)) y3);clear y1 y2 y3 h7 d9 R a4 d2 Htk C11;go_wp2_with fail;refine Za l0 ?_;rintro e w7 ⟨rfl,h1,h2,h3⟩;have R7:=Qa (And.intro h1 (And.intro h2 h3));clear h1 h2 h3;go_wp2_with fail;go_end0;refine⟨rfl,R6.out.1.trans (bZ.rd R7.out.1 R7.out.2.1),?_,bs2,R6.out.2.kp R7.out.2.1 bq⟩;rw[gw];exact R7.out.2.2
   ·have Ho:=Qa ho;have m3:=Qa f9;have l3:=Qa h8;have Hi:=Qa hi;have f5:=Qa d1;have h9:=Qa k0;have Hl:=Qa hl;clear ho f9 h8 hi d1 k0 hl;have d14:=aa a9.out.row (j:=14) (u:=.int .i64 want) rfl;obtain⟨g,q,b2,cg,hq⟩:=a9.out.topKind;rw[Ho.out] at cg;simp only[Bool.false_eq_true,if_false,if_true] at cg;subst b2;obtain⟨m,hm⟩:∃m,fs.length=m:=⟨_,rfl⟩;rw[hm] at cg hq;have m2:m<=1000000000:=by rw[<-hm];exact Hl.out
    have c12:=aa a9.out.row (j:=12) (u:=.slice (some ⟨g,0,none⟩) (m+1) q) (by rw[<-hm];rfl);have s1:IntKind.i64.wrap (m:Int)= (m:Int):=IntWalk.i64_in _ (by omega);have f0:(m:Int)< (m:Int)+1:=by omega
    have Hm:=Qa hm;have Hq:=Qa hq;clear hm d14 hq;go_wp2_with fail;go_quiet (fail);have a1:=ap (Ze wr.heap.size wr) nq;obtain⟨w2,i2⟩:∃w2,wr.drewN nq=w2:=⟨_,rfl⟩;rw[i2] at a1 ⊢;have d6:=Qa (a9.out.below a1);have c4:=Qa (b3.out.below a1);have c5:=Qa (d4.out.trans (bZ.new a1 b4));clear a1 i2 c12 cg e1;go_wp2_with fail;obtain⟨b0,maps9,r5⟩:∃b m',maps=b::m':=by
     have g4:=d6.out.seen;simp only[List.filter_cons,Ho.out,if_true] at g4
     cases maps with
     |nil=>have:=g4.1;simp at this
     |cons b m'=>exact⟨b,m',rfl⟩
    subst r5;obtain⟨A13,q13,n1,i0,-,h6⟩:=af d6.out.names;subst n1;obtain⟨g13,k9⟩:=h6 (by simp);subst k9;obtain⟨n9,k7⟩:∃n,maps9.length=n:=⟨_,rfl⟩;have m9:n9<=m:=by
     have h1:=d6.out.seen.1;have h2:=List.length_filter_le (fun g:Fr=>g.obj) fs;simp only[List.filter_cons,Ho.out,if_true,List.length_cons] at h1;have:=Hm.out;omega
    have c0:=Zc HB.out c5.out.b.size;obtain⟨wb,hwb⟩:∃wb,w2.drew=wb:=⟨_,rfl⟩;have i4:Below w2.heap.size w2 wb:=by rw[<-hwb];exact(Ze _ _).drew
    have f7:=d6.out.below i4;have C13:=Qa (aa f7.row (j:=13) (u:=.slice (some ⟨g13,0,none⟩) (n9+1) q13) (by rw[<-k7];rfl));have c13s:=C13.out;have f13:=aj f7.row 13;have s9:IntKind.i64.wrap (n9:Int)= (n9:Int):=IntWalk.i64_in _ (by omega);have l1:(n9:Int)<=q13:=by rw[List.length_cons] at i0;omega
    have d5:wb.ownsRow B 305 1 (.slice (some ⟨g13,0,none⟩) n9 q13) maps9.length (maps9.reverse.map vc):=by
     have:=f7.names;rw[List.length_cons,List.reverse_cons,List.map_append] at this;rw[<-k7];exact ot this (by simp)
    have f8:=Qa (f7.b.setNames (Zc c0 i4.size) (aM.refl (fun _=>False) wb) (fun _ h=>h.elim) (maps':=maps9) (nfr':=fs) (nv':=.slice (some ⟨g13,0,none⟩) n9 q13) d5 (List.nodup_cons.1 f7.nodup).2 (fun w10 hk _=>by
     have g4:=f7.seen;simp only[List.filter_cons,Ho.out,if_true] at g4;refine gL.seens (nfr:=fs) ⟨by simpa using g4.1,fun i x y q1 q2=>g4.2 (i+1) x y (by simpa using q1) (by simpa using q2)⟩ hk))
    have e0:=Qa (c4.out.below i4);have g6:=Qa (c5.out.trans (bZ.new i4 c0));clear d5 f7 i4 c0 i0 h6 m9 k7;refine ch (fun w9=>w9.cell? ⟨rb,13,none⟩=some (.slice (some ⟨g13,0,none⟩) (n9+1) q13)) 14 ((by rw[hwb];exact C13.out)) fun a0=>?_
    rw[hwb] at a0 ⊢;clear hwb;refine tR 0 a0 ?_;refine tR 1 a0 ?_;refine tR 2 a0 ?_;refine tR 3 a0 ?_;refine tR 4 a0 ?_;refine tR 5 a0 ?_
    try simp only[Act.put,jP,jQ,jR]
    refine tR 6 a0 ?_;refine tR 7 a0 ?_;refine tR 8 a0 ?_;refine tR 9 a0 ?_;refine tR 10 a0 ?_;refine tR 11 a0 ?_
    try simp only[Act.put,jP,jQ,jR]
    refine tR 12 a0 ?_;refine tR 13 a0 ?_
    try simp only[Act.put,jP,jQ,jR]
    refine rZ 14 fun K hK=>?_
    go_simp;refine hK.out _ _ (fun h=>absurd rfl h) (fun _=>?_);clear hK K
    try simp only[Act.put,jP,jQ,jR]
    refine aH (by kernel_rfl) (NoPanic.normal ?_) _;clear a0 c13s f13 s9 l1;obtain⟨w3,j0⟩:∃w3,wb.setCell ⟨rb,13,none⟩ (.slice (some ⟨g13,0,none⟩) n9 q13)=w3:=⟨_,rfl⟩;rw[j0] at f8 ⊢;have k6:=Qa (show ∃by_ dp ex ov nv maps,gL B w3 rb lb xb v xs (f::fs) fs want k nd false by_ dp ex ov nv maps from⟨_,_,_,_,_,_,f8.out.2.2⟩);have c8:=Qa (e0.out.kp f8.out.2.1 bq);have g0:=Qa (g6.out.trans (bZ.rd f8.out.1 f8.out.2.1));clear j0 f8 e0 g6 d6 c4 c5;go_wp2_with fail;obtain⟨by3,dp3,ex3,ov3,nv3,maps3,e6⟩:=k6.out;obtain⟨g3,q3,b2,-,k8⟩:=e6.topOpen;subst b2;have f3:=Zc HB.out g0.out.b.size;obtain⟨w4,d0⟩:∃w4,w3.drew=w4:=⟨_,rfl⟩;have c3:Below w3.heap.size w3 w4:=by rw[<-d0];exact(Ze _ _).drew
    have a2:=e6.below c3;have C12:=Qa (aa a2.row (j:=12) (u:=.slice (some ⟨g3,0,none⟩) (m+1) q3) (by rw[<-Hm.out];rfl));have f12:=aj a2.row 12;have n3:(m:Int)<=q3:=by have:=Hm.out;omega
    have b9:w4.ownsRow B 3 1 (.slice (some ⟨g3,0,none⟩) m q3) fs.length (fs.reverse.map eJ):=by
     have:=a2.opens;rw[List.length_cons,List.reverse_cons,List.map_append] at this;rw[<-Hm.out];exact ot this (by simp)
    have c2:=Qa (a2.setOpen (Zc f3 c3.size) (aM.refl (fun _=>False) w4) (fun _ h=>h.elim) (ofr':=fs) (ov':=.slice (some ⟨g3,0,none⟩) m q3) b9);have f1:=Qa (c8.out.below c3);have d3:=Qa (g0.out.trans (bZ.new c3 f3));have c12s:=C12.out;clear e6 a2 b9 c3 f3 k8;refine ch (fun w9=>w9.cell? ⟨rb,12,none⟩=some (.slice (some ⟨g3,0,none⟩) (m+1) q3)) 14 ((by rw[d0];exact C12.out)) fun a0=>?_
    rw[d0] at a0 ⊢;clear d0;refine tR 0 a0 ?_;refine tR 1 a0 ?_;refine tR 2 a0 ?_;refine tR 3 a0 ?_;refine tR 4 a0 ?_;refine tR 5 a0 ?_
    try simp only[Act.put,jP,jQ,jR]
    refine tR 6 a0 ?_;refine tR 7 a0 ?_;refine tR 8 a0 ?_;refine tR 9 a0 ?_;refine tR 10 a0 ?_;refine tR 11 a0 ?_
    try simp only[Act.put,jP,jQ,jR]
    refine tR 12 a0 ?_;refine tR 13 a0 ?_
    try simp only[Act.put,jP,jQ,jR]
    refine rZ 14 fun K hK=>?_
    go_simp;refine hK.out _ _ (fun h=>absurd rfl h) (fun _=>?_);clear hK K
    try simp only[Act.put,jP,jQ,jR]
    refine aH (by kernel_rfl) (NoPanic.normal ?_) _;clear a0 c12s f12;obtain⟨w5,h0⟩:∃w5,w4.setCell ⟨rb,12,none⟩ (.slice (some ⟨g3,0,none⟩) m q3)=w5:=⟨_,rfl⟩;rw[h0] at c2 ⊢;have k2:=gL.a (frs:=fs) (c2.out.2.2);have e4:=Qa (f1.out.kp c2.out.2.1 bq);have i3:=Qa (d3.out.trans (bZ.rd c2.out.1 c2.out.2.1));clear h0;go_wp2_with fail;obtain⟨wq,b1⟩:∃wq,w5.drew=wq:=⟨_,rfl⟩;have a1:Below w5.heap.size w5 wq:=by rw[<-b1];exact(Ze _ _).drew
    have f4:=Zc HB.out i3.out.b.size;have a5:=k2.s.below a1;have d2:=Qa (cV a5 (by have:=Hl.out;omega));have Htk:=Qa (mu (lv:=(fs.length:Int)+1) (by omega) (e4.out.below a1) Ho.out m3.out l3.out Hi.out f5.out h9.out (Zc f4 a1.size));obtain⟨by2,dp2,ex2,ov2,nv2,maps2,c1⟩:=id a5;have C11:=Qa (aa c1.row (j:=11) (u:=.func (.func 99) #[.pointer (some ⟨xb,0,none⟩)] #[]) rfl);have a4:=Qa (And.intro (i3.out.trans (bZ.new a1 f4)) a5);clear a1 a5 c1 k2 f4;refine ch (fun w9=>w9.cell? ⟨rb,11,none⟩=some (.func (.func 99) #[.pointer (some ⟨xb,0,none⟩)] #[])) 9 ((by rw[b1];exact C11.out)) fun a0=>?_
    rw[b1] at a0 ⊢;clear b1;refine tR 0 a0 ?_;refine tR 1 a0 ?_;refine tR 2 a0 ?_;refine tR 3 a0 ?_;refine tR 4 a0 ?_;refine tR 6 a0 ?_
    try simp only[Act.put,jP,jQ,jR]
    refine rZ 5 fun K hK=>?_
    go_simp;refine Za d2 ?_;rintro e w' ⟨rfl,rfl⟩;go_wp2_with fail;refine hK.out _ _ (fun _=>a0) (fun a0=>?_);clear hK K;have a0:=a0 (by decide)
    try simp only[Act.put,jP,jQ,jR]
    refine tR 7 a0 ?_;refine tR 8 a0 ?_
    try simp only[Act.put,jP,jQ,jR]
    refine rZ 9 fun K hK=>?_
    go_simp;refine Za Htk ?_;rintro e w6 ⟨rfl,h1,h2,h3⟩;have R:=Qa (And.intro h1 (And.intro h2 h3));clear h1 h2 h3;go_wp2_with fail;refine hK.out _ _ (fun h=>absurd rfl h) (fun _=>?_);clear hK K
    try simp only[Act.put,jP,jQ,jR]
    refine aH (by kernel_rfl) (NoPanic.normal ?_) _;obtain⟨y1,y2,bs2,y3⟩:=R.out;have h7:=(a4.out.2.tb y2).put (fun f fs e=>(h9.out.2 f fs e).1) (cN f);have d9:B<=w6.heap.size:=Zc (Zc HB.out a4.out.1.b.size) y1.size;have l0:=Qa (gA h7 d9 (by rw[iN];have:=Hl.out;omega));have R6:=Qa (And.intro (a4.out.1.trans (bZ.tb y1 y2)) y3);clear y1 y2 y3 h7 d9 R a4 d2 Htk C11;go_wp2_with fail;refine Za l0 ?_;rintro e w7 ⟨rfl,h1,h2,h3⟩;have R7:=Qa (And.intro h1 (And.intro h2 h3));clear h1 h2 h3;go_wp2_with fail;go_end0;refine⟨rfl,R6.out.1.trans (bZ.rd R7.out.1 R7.out.2.1),?_,bs2,R6.out.2.kp R7.out.2.1 bq⟩;rw[gw];exact R7.out.2.2
