import Derived.Test.YtehpfidnpfcniaaGreatDoorGZ14ba
set_option linter.unusedVariables false
set_option linter.unusedSimpArgs false
set_option maxHeartbeats 64000000
set_option maxRecDepth 100000
namespace Go.Proofs.YtehpfidnpfcniaaGreatDoor
open Go.RowKit
variable {fin:Bool}{f:Fr}{by_ dp ex:Int}{frs fs nfr:List Fr}{maps:List Nat}{xs:List UInt8}{B i lb n nd nd' q rb want xb:Nat}{A:Option Addr}{e:TypeId}{nv ov v x:Value}{w:World}
theorem mp {L:List UInt8}{y c:UInt8}(h:L[i]?=some y):(L.take (i+1)).contains c= ((L.take i).contains c||c==y):=by
 rw[List.take_add_one,h];rw[Bool.eq_iff_iff];simp[List.contains_eq_mem]
theorem Am:cV 179 3 (.int .i64 0) 1 8:=⟨Tryz.underlying179,by kernel_rfl,rfl,by decide⟩
theorem EV:cV 245 317 (.map none) 1 8:=⟨Tryz.underlying245,by kernel_rfl,rfl,by decide⟩
theorem gX.pushName {k:Nat}{ofr:List Fr}(h:gX B w rb lb xb v xs ofr nfr want k nd fin by_ dp ex ov nv maps)(hB:B<=w.heap.size){z:Nat}(hz:w.heap.size=z){W8:World}(hW:((w.alloc (.map #[] 0)).alloc (.cells #[.map (some z)] 317))=W8) :
  W8.ownsRow B 317 1 nv maps.length (maps.reverse.map sU)/\Below w.heap.size w W8/\(∀j u, [Value.map (some z)][j]?=some u->W8.cell? ⟨z+1,j,none⟩=some u)/\∀w9 nv',W8.grownBy w9 nv.ownBlock->w9.ownsRow B 317 1 nv' (maps.length+1) (maps.reverse.map sU ++ [.map (some z)])->
   w9.heap[rb]?=some (.cells (cA lb xb by_ dp nd ex ov nv want fin) 247 (0,0))/\Below B W8 (w9.setCell ⟨rb,13,none⟩ nv')/\Kp ka W8 (w9.setCell ⟨rb,13,none⟩ nv')/\gX B (w9.setCell ⟨rb,13,none⟩ nv') rb lb xb v xs ofr (⟨true, [], [],none⟩::nfr) want k nd fin by_ dp ex ov nv' (z::maps):=by
 subst hz;have a3:=ac w (.map #[] 0);have a1:=ac (w.alloc (.map #[] 0)) (.cells #[.map (some w.heap.size)] 317);rw[hW] at a1;have hb:=ak a3 a1;have h8:=h.below hb;have a0:cQ W8 w.heap.size [] 0:=(cQ.made w).kp (Kp.of_below (fun _=>False) a1);have hlt:∀b∈maps,b<w.heap.size:=fun b hb=>by
  obtain⟨i,hi,rfl⟩:=List.getElem_of_mem hb;have hl:=h.seen.1;obtain⟨-,l,n,hs,-⟩:=h.seen.2 i maps[i] ((nfr.filter (·.obj))[i]'(by omega)) (Zd hi) (Zd _);exact hs.lt
 have a2:=ar (w.alloc (.map #[] 0)) [.map (some w.heap.size)] 317;rw[World.size_alloc] at a2;refine⟨h8.names,hb,by rw[<-hW];exact a2,fun w9 nv' hg hp=>?_⟩;have a4:=ay h8.row hg (aG h8.names h8.row (by decide));have hs:=h8.setNames (Zc hB hb.size) (aM.grown hg) (fun g h=>h) (nv':=nv') (maps':=w.heap.size::maps) (nfr':=⟨true, [], [],none⟩::nfr) (by rw[List.length_cons,List.reverse_cons,List.map_append];exact hp) (List.nodup_cons.2 ⟨fun hm=>Nat.lt_irrefl _ (hlt _ hm),h8.nodup⟩) (fun w10 hk _=>by
  simp only[List.filter_cons,if_true];refine bY.cons ⟨hB, [],0,a0.kp hk,Zj _,fun s=>by simp[fC]⟩ (gX.seens h8.seen hk))
 exact⟨a4,hs⟩
theorem ot {xs:List Value}(h:w.ownsRow B e 1 (.slice A (n+1) q) (n+1) (xs ++ [x]))(hx:xs.length=n):w.ownsRow B e 1 (.slice A n q) n xs:=ie h (by rw[hx,Nat.mul_one])
theorem gX.topOpen {k:Nat}(h:gX B w rb lb xb v xs (f::fs) nfr want k nd fin by_ dp ex ov nv maps):∃g q,ov =.slice (some ⟨g,0,none⟩) (fs.length+1) q/\w.cell? ⟨g,fs.length,none⟩=some (.int .i64 (if f.obj then 6 else 5))/\fs.length+1<=q:=by
 have ho:=h.opens;rw[List.length_cons] at ho;obtain⟨A,q,rfl,hq,-,hA⟩:=af ho;obtain⟨g,rfl⟩:=hA (by omega);have cg:=World.ownsRow.cellAt ho fs.length (by omega);rw[List.reverse_cons,List.map_append,List.getElem?_append_right (by simp),List.length_map,List.length_reverse,Nat.sub_self] at cg;exact⟨g,q,rfl,cg,hq⟩
theorem fm.topKind {k:Nat}(h:fm B w rb lb xb v xs (f::fs) want k nd fin by_ dp ex ov nv maps):∃g q,ov =.slice (some ⟨g,0,none⟩) (fs.length+1) q/\w.cell? ⟨g,fs.length,none⟩=some (.int .i64 (if f.obj then 6 else 5))/\fs.length+1<=q:=by
 have ho:=h.opens;rw[List.length_cons] at ho;obtain⟨A,q,rfl,hq,-,hA⟩:=af ho;obtain⟨g,rfl⟩:=hA (by omega);have cg:=World.ownsRow.cellAt ho fs.length (by omega);rw[List.reverse_cons,List.map_append,List.getElem?_append_right (by simp),List.length_map,List.length_reverse,Nat.sub_self] at cg;exact⟨g,q,rfl,cg,hq⟩
inductive gY (nd:Nat):Int->UInt8->List Fr->cf->Nat->Prop
 |colon (frs:List Fr):gY nd 58 58 frs ⟨frs,0,none⟩ nd
 |comma5 (f:Fr) (fs:List Fr) (ho:f.obj=false) (hl:fs.length<=4294967296):gY nd 44 44 (f::fs) ⟨f::fs,0,none⟩ nd
 |comma6 (f:Fr) (fs:List Fr) (ho:f.obj=true) (hl:fs.length<=4294967296):gY nd 44 44 (f::fs) ⟨f::fs,2,none⟩ nd
 |open5 (frs:List Fr) (hl:frs.length<=1000000000) (hn:nd<=1000000000) (hlk:∀f fs,frs=f::fs->bH f=false):gY nd 91 91 frs ⟨⟨false, [], [],none⟩::frs,1,none⟩ (nd+1)
 |open6 (frs:List Fr) (hl:frs.length<=1000000000) (hn:nd<=1000000000) (hlk:∀f fs,frs=f::fs->bH f=false):gY nd 123 123 frs ⟨⟨true, [], [],none⟩::frs,3,none⟩ (nd+1)
 |close5 (f:Fr) (fs:List Fr) (ho:f.obj=false) (hnn:f.name=none) (hfo:f.ok ey) (hi:f.items.length<=4294967296) (hmi:f.mems.length<=4294967296) (hTB:iO fs) (hl:fs.length<=1000000000):gY nd 93 93 (f::fs) (bt fs (cM f)) nd
 |close6 (f:Fr) (fs:List Fr) (ho:f.obj=true) (hnn:f.name=none) (hfo:f.ok ey) (hi:f.items.length<=4294967296) (hmi:f.mems.length<=4294967296) (hTB:iO fs) (hl:fs.length<=1000000000):gY nd 125 125 (f::fs) (bt fs (cM f)) nd
theorem gY.eq {z:Int}{c:UInt8}{C:cf}(h:gY nd z c frs C nd'):z=c.toNat:=by cases h <;> rfl
theorem dX {k:Nat}{p z:Int}{c:UInt8}{C:cf}{bs:List Nat}(hM:l9 w)(hw:want<8)(c8:yh want c=true)(hR:gT B w rb lb xb v xs frs want k nd false)(o0:dT B w xb frs none bs)(hB:B<=w.heap.size)(hc:gY nd z c frs C nd'):Calls Tryz.prog 177 #[.pointer (some ⟨rb,0,none⟩),.agg #[.int .i64 p,.int .u8 z]] w (Fa B rb lb xb v xs C k nd' false w):=by
 have g1:=ac w (.cells #[.int .i64 p,.int .u8 z] 302);obtain⟨w1,s5⟩:∃w1,w.alloc (.cells #[.int .i64 p,.int .u8 z] 302)=w1:=⟨_,rfl⟩;have k7:=H8 (Zf w (.cells #[.int .i64 p,.int .u8 z] 302));rw[s5] at g1 k7;have HR:=H8 (hR.below g1);have o2:=H8 (o0.below g1);have HM:=H8 (hM.below g1);have HB:=H8 hB;have s0:=H8 g1;have Hz:=H8 hc.eq;have o3:=H8 hc;obtain⟨by_,dp,ex,ov,nv,maps,hA⟩:=HR.out;have HA:=H8 hA;have c14:=aa hA.row (j:=14) (u:=.int .i64 want) rfl;have m0:=HM.out want hw;rw[EQ] at c8;obtain⟨L,hL⟩:∃L,ye want=L:=⟨_,rfl⟩;have q6:L.length<=3:=by rw[<-hL];have:∀i,i<8->(ye i).length<=3:=(by decide);exact this want hw
 rw[hL] at m0 c8;have p4:=H8 c8;have n6:=H8 (show((⟨L.toArray⟩:ByteArray)).size=L.length by simp[ByteArray.size]);have r4:(want:Int)<8:=by omega
 clear hM hR o0 hB g1 hA hL c8 hw hc;go_enter Tryz.func177,Tryz.ntmps177;go_wp2_with fail;have HX:=H8 (True.intro)
 go_loopg [4,14] L.length (fun m s4 s14 wr=> ∃i:Nat,m+i=L.length/\s14 =.int .i64 i/\s4 =.bool ((L.take i).contains c)/\Below w1.heap.size w1 wr)
 case atStart=>exact⟨0,rfl,rfl,rfl,Ze _ _⟩
 case round=>
  obtain⟨i,d1,rfl,rfl,hb⟩:=hrel;have Hb:=H8 hb;have Hmi:=H8 d1;have d14:=Zg hb c14;have n0:=Zg hb m0;have r5:=n6.out
  by_cases hlt:i<L.length
  ·obtain⟨y,hy⟩:∃y,L[i]?=some y:=⟨_,Zd hlt⟩;have m1:(i:Int)<L.length:=by omega
   have e1:=Zg hb (aa k7.out (j:=1) (u:=.int .u8 z) rfl);have s7:∀w',(Instr.index 9 (.string ⟨L.toArray⟩) (.int .i64 (i:Int))).run Tryz.prog w' =.ok (.int .u8 y.toNat) w':=fun w'=>gi (s:=⟨L.toArray⟩) (by simpa using hy) w'
   have Htk:=H8 (mp (c:=c) hy);have hyc:((y.toNat:Int)==z)= (c==y):=by
    rw[Hz.out,Bool.eq_iff_iff];simp only[beq_iff_eq];exact⟨fun h=>UInt8.toNat_inj.1 (by omega),fun h=>by rw[h]⟩
   have f8:0+0=0:=rfl;clear hb d1 hlt hy c14 m0
   cases hok:(L.take i).contains c
   all_goals
    go_wp2_with fail;go_quiet (fail);go_wp2_with fail;go_roundg (L.length - (i+1))
    case measure=>have:=Hmi.out;omega
    case rel=>exact⟨i+1,by have:=Hmi.out;omega,by go_num,by rw[Htk.out,hok];simp[hyc],ap Hb.out _⟩
  ·obtain rfl:i=L.length:=by omega
   have m1:¬ (L.length:Int)<L.length:=by omega
   have hok:(L.take L.length).contains c=true:=by rw[List.take_length];exact p4.out
   rw[hok];have e1:=Zg hb (aa k7.out (j:=1) (u:=.int .u8 z) rfl);have a5:=H8 (HA.out.below hb);have b2:=H8 (o2.out.below hb);have e0:=H8 (bW.new (ak s0.out hb) HB.out);have b4:B<=wr.heap.size:=Zc HB.out e0.out.b.size;have q4:=o3.out;clear hb d1 hlt c14 m0 d14 n0 r5 hok r4 q6 o3 Hz HX p4 n6 HM HR HA o2 k7;rcases q4 with ⟨frs⟩|⟨f,fs,ho,hl⟩|⟨f,fs,ho,hl⟩|⟨frs,hl,hn,i4⟩|⟨frs,hl,hn,i4⟩|⟨f,fs,ho,f8,k3,hi,d1,g7,hl⟩|⟨f,fs,ho,f8,k3,hi,d1,g7,hl⟩
   ·have d14:=aa a5.out.row (j:=14) (u:=.int .i64 want) rfl;have f14:=aj a5.out.row 14;have Hs:=H8 (a5.out.setWant b4 0 (z:=0) rfl);go_wp2_with fail;go_end0;exact⟨rfl,e0.out.trans (bW.rd Hs.out.1 Hs.out.2.1),Hs.out.2.2.s,_,b2.out.kp Hs.out.2.1 bq⟩
   ·have d14:=aa a5.out.row (j:=14) (u:=.int .i64 want) rfl;have f14:=aj a5.out.row 14;have Hs:=H8 (a5.out.setWant b4 0 (z:=0) rfl);obtain⟨w6,k0⟩:∃w6,wr.setCell ⟨rb,14,none⟩ (.int .i64 0)=w6:=⟨_,rfl⟩;rw[k0] at Hs;obtain⟨g,q,b3,cg,hq⟩:=Hs.out.2.2.topKind;rw[ho] at cg;simp only[Bool.false_eq_true,if_false,if_true] at cg;subst b3;obtain⟨m,hm⟩:∃m,fs.length=m:=⟨_,rfl⟩;rw[hm] at cg hq hl;have c12:=aa Hs.out.2.2.row (j:=12) (u:=.slice (some ⟨g,0,none⟩) (m+1) q) (by rw[<-hm];rfl);have s1:IntKind.i64.wrap (m:Int)= (m:Int):=IntWalk.i64_in _ (by omega);have e4:(m:Int)< (m:Int)+1:=by omega
    have n4:=H8 k0;clear hm hq hl;go_wp2_with fail
    try rw[n4.out]
    go_quiet (fail);go_wp2_with fail;go_end0;have a1:=ap (Ze w6.heap.size w6) nq;exact⟨rfl,(e0.out.trans (bW.rd Hs.out.1 Hs.out.2.1)).trans (bW.new a1 (Zc b4 Hs.out.2.1.1)),(Hs.out.2.2.below a1).s,_,(b2.out.kp Hs.out.2.1 bq).below a1⟩
   ·have d14:=aa a5.out.row (j:=14) (u:=.int .i64 want) rfl;have f14:=aj a5.out.row 14;have Hs:=H8 (a5.out.setWant b4 0 (z:=0) rfl);obtain⟨w6,k0⟩:∃w6,wr.setCell ⟨rb,14,none⟩ (.int .i64 0)=w6:=⟨_,rfl⟩;rw[k0] at Hs;obtain⟨g,q,b3,cg,hq⟩:=Hs.out.2.2.topKind;rw[ho] at cg;simp only[Bool.false_eq_true,if_false,if_true] at cg;subst b3;obtain⟨m,hm⟩:∃m,fs.length=m:=⟨_,rfl⟩;rw[hm] at cg hq hl;have c12:=aa Hs.out.2.2.row (j:=12) (u:=.slice (some ⟨g,0,none⟩) (m+1) q) (by rw[<-hm];rfl);have s1:IntKind.i64.wrap (m:Int)= (m:Int):=IntWalk.i64_in _ (by omega);have e4:(m:Int)< (m:Int)+1:=by omega
    have n4:=H8 k0;clear hm hq hl;go_wp2_with fail
    try rw[n4.out]
    go_quiet (fail);have a1:=ap (Ze w6.heap.size w6) nq;have k1:=Hs.out.2.2.below a1;obtain⟨w7,p0⟩:∃w7,w6.drewN nq=w7:=⟨_,rfl⟩;rw[p0] at a1 k1 ⊢;have g14:=aa k1.row (j:=14) (u:=.int .i64 0) rfl;have f14':=aj k1.row 14;have r6:=Zc (Zc b4 Hs.out.2.1.1) a1.size;have k6:=H8 (k1.setWant r6 2 (z:=2) rfl);have a4:=H8 a1;clear k1 a1 p0 c12 cg d14 f14;go_wp2_with fail;go_end0;exact⟨rfl,((e0.out.trans (bW.rd Hs.out.1 Hs.out.2.1)).trans (bW.new a4.out (Zc b4 Hs.out.2.1.1))).trans (bW.rd k6.out.1 k6.out.2.1),k6.out.2.2.s,_,((b2.out.kp Hs.out.2.1 bq).below a4.out).kp k6.out.2.1 bq⟩
   ·have Hl:=H8 hl;have Hn:=H8 hn;have k8:=H8 i4;clear hl hn i4;have k2:=H8 (ek a5.out.s Hl.out Hn.out b4);go_wp2_with fail;refine Za k2 ?_;rintro e w2 ⟨rfl,h4,c9,g6⟩;have c1:=b2.out.kp c9 bq;have c4:=Zc b4 c9.1;have c5:=H8 (e0.out.trans (bW.rd h4 c9));clear k2 c9 h4;obtain⟨wq,a9⟩:∃wq,w2.drew=wq:=⟨_,rfl⟩;have a1:Below w2.heap.size w2 wq:=by rw[<-a9];exact(Ze _ _).drew
    have b1:=g6.below a1;have b9:=c1.below a1;have d0:=H8 (cS b1 (by have:=Hl.out;omega));have Htk:=H8 (uw (lv:=(frs.length:Int)+1) (by omega) b9 k8.out (by have:=Hl.out;omega) (Zc c4 a1.size));obtain⟨by2,dp2,ex2,ov2,nv2,maps2,h6⟩:=id b1;have C11:=H8 (aa h6.row (j:=11) (u:=.func (.func 123) #[.pointer (some ⟨xb,0,none⟩)] #[]) rfl);have a4:=H8 (And.intro (c5.out.trans (bW.new a1 c4)) b1);clear a1 b1 b9 h6 c1 g6 c4;go_wp2_with fail;refine ce (fun w9=>w9.cell? ⟨rb,11,none⟩=some (.func (.func 123) #[.pointer (some ⟨xb,0,none⟩)] #[])) 8 ((by rw[a9];exact C11.out)) fun a0=>?_
    rw[a9] at a0 ⊢;clear a9;refine tR 0 a0 ?_;refine tR 1 a0 ?_;refine tR 2 a0 ?_;refine tR 3 a0 ?_;refine tR 4 a0 ?_
    try simp only[Act.put,jP,jQ,jR]
    refine rZ 5 fun K hK=>?_
    go_simp;refine Za d0 ?_;rintro e w' ⟨rfl,rfl⟩;go_wp2_with fail;refine hK.out _ _ (fun _=>a0) (fun a0=>?_);clear hK K;have a0:=a0 (by decide)
    try simp only[Act.put,jP,jQ,jR]
    refine tR 6 a0 ?_;refine tR 7 a0 ?_
    try simp only[Act.put,jP,jQ,jR]
    refine rZ 8 fun K hK=>?_
    go_simp;refine Za Htk ?_;rintro e w4 ⟨rfl,h1,h2,h3⟩;have R:=H8 (And.intro h1 (And.intro h2 h3));clear h1 h2 h3;go_wp2_with fail;refine hK.out _ _ (fun h=>absurd rfl h) (fun _=>?_);clear hK K
    try simp only[Act.put,jP,jQ,jR]
    refine aI (by kernel_rfl) (NoPanic.normal ?_) _;obtain⟨y1,y2,bs2,y3⟩:=R.out;obtain⟨by4,dp4,ex4,ov4,nv4,maps4,a2⟩:=a4.out.2.tb y2;have d3:=H8 (a4.out.1.trans (bW.tb y1 y2));have e5:B<=w4.heap.size:=Zc HB.out d3.out.b.size;obtain⟨A12,q12,b3,-⟩:=af a2.opens;subst b3;obtain⟨m,hm⟩:∃m,frs.length=m:=⟨_,rfl⟩;have c12:=aa a2.row (j:=12) (u:=.slice A12 m q12) (by rw[<-hm];rfl);have a3:=ac w4 (.cells #[.int .i64 5] 3);have m9:=H8 (ar w4 [.int .i64 5] 3);have f7:=a2.below a3;have i0:=H8 (show(w4.alloc (.cells #[.int .i64 5] 3)).ownsRow B 3 1 (.slice A12 m q12) m (frs.reverse.map eF) by have:=f7.opens;rwa[hm] at this);have f6:=H8 f7;have l3:=H8 y3;have m5:=H8 (show bW B w (w4.alloc (.cells #[.int .i64 5] 3)) from d3.out.trans (bW.new a3 e5));have m4:m<=1000000000:=by rw[<-hm];exact Hl.out
    have Hm:=H8 hm;have c6:=H8 (show B<=(w4.alloc (.cells #[.int .i64 5] 3)).heap.size from Zc e5 a3.size);have f4:=H8 a3;clear y1 y2 y3 a2 e5 a3 f7 R a4 hm;go_wp2_with ((at_builtin;refine mb Am i0.out m9.out c6.out ?_;intro v' w5 p1 p2 p3;obtain⟨A5,q5,rfl,-,-,-⟩:=af p1;have f1:=ay f6.out.row p2 (aG i0.out f6.out.row (by decide));have c12':=aa f1 (j:=12) (u:=.slice A12 m q12) (by rw[<-Hm.out];rfl);have f12':=aj f1 12;have hs:=f6.out.b.setOpen c6.out (aM.grown p2) (fun g h=>by rw[Hm.out];exact h) (ofr':=⟨false, [], [],none⟩::frs) (ov':=.slice A5 (m+1) q5) (by rw[List.length_cons,Hm.out,List.reverse_cons,List.map_append];exact p1);have c14':=aa hs.2.2.row (j:=14) (u:=.int .i64 want) rfl;have f14':=aj hs.2.2.row 14;have Hs:=H8 hs;have q8:=H8 p2;clear p1 p2 p3 f1 hs));go_end0;obtain⟨s1,s2,s3⟩:=Hs.out;obtain⟨z1,z2,z3⟩:=s3.setWant (Zc c6.out s2.1) 1 (z:=1) rfl;refine⟨rfl,(m5.out.trans (bW.rd s1 s2)).trans (bW.rd z1 z2),⟨by4,dp4,ex4,_,nv4,maps4,z3.row,z3.low,z3.lex,z3.llow,z3.own,z3.opens,z3.names,?_,z3.nodup,z3.le⟩,bs2,((l3.out.below f4.out).kp s2 bq).kp z2 bq⟩;have:=z3.seen;simpa [List.filter_cons] using this
   ·have Hl:=H8 hl;have Hn:=H8 hn;have k8:=H8 i4;clear hl hn i4;have k2:=H8 (ek a5.out.s Hl.out Hn.out b4);go_wp2_with fail;refine Za k2 ?_;rintro e w2 ⟨rfl,h4,c9,g6⟩;have c1:=b2.out.kp c9 bq;have c4:=Zc b4 c9.1;have c5:=H8 (e0.out.trans (bW.rd h4 c9));clear k2 c9 h4;obtain⟨wq,a9⟩:∃wq,w2.drew=wq:=⟨_,rfl⟩;have a1:Below w2.heap.size w2 wq:=by rw[<-a9];exact(Ze _ _).drew
    have b1:=g6.below a1;have b9:=c1.below a1;have d0:=H8 (cS b1 (by have:=Hl.out;omega));have Htk:=H8 (t6 (lv:=(frs.length:Int)+1) (by omega) b9 k8.out (by have:=Hl.out;omega) (Zc c4 a1.size));obtain⟨by2,dp2,ex2,ov2,nv2,maps2,h6⟩:=id b1;have C11:=H8 (aa h6.row (j:=11) (u:=.func (.func 123) #[.pointer (some ⟨xb,0,none⟩)] #[]) rfl);have a4:=H8 (And.intro (c5.out.trans (bW.new a1 c4)) b1);clear a1 b1 b9 h6 c1 g6 c4;go_wp2_with fail;refine ce (fun w9=>w9.cell? ⟨rb,11,none⟩=some (.func (.func 123) #[.pointer (some ⟨xb,0,none⟩)] #[])) 8 ((by rw[a9];exact C11.out)) fun a0=>?_
    rw[a9] at a0 ⊢;clear a9;refine tR 0 a0 ?_;refine tR 1 a0 ?_;refine tR 2 a0 ?_;refine tR 3 a0 ?_;refine tR 4 a0 ?_
    try simp only[Act.put,jP,jQ,jR]
    refine rZ 5 fun K hK=>?_
    go_simp;refine Za d0 ?_;rintro e w' ⟨rfl,rfl⟩;go_wp2_with fail;refine hK.out _ _ (fun _=>a0) (fun a0=>?_);clear hK K;have a0:=a0 (by decide)
    try simp only[Act.put,jP,jQ,jR]
    refine tR 6 a0 ?_;refine tR 7 a0 ?_
    try simp only[Act.put,jP,jQ,jR]
    refine rZ 8 fun K hK=>?_
    go_simp;refine Za Htk ?_;rintro e w4 ⟨rfl,h1,h2,h3⟩;have R:=H8 (And.intro h1 (And.intro h2 h3));clear h1 h2 h3;go_wp2_with fail;refine hK.out _ _ (fun h=>absurd rfl h) (fun _=>?_);clear hK K
    try simp only[Act.put,jP,jQ,jR]
    refine aI (by kernel_rfl) (NoPanic.normal ?_) _;obtain⟨y1,y2,bs2,y3⟩:=R.out;obtain⟨by4,dp4,ex4,ov4,nv4,maps4,a2⟩:=a4.out.2.tb y2;have d3:=H8 (a4.out.1.trans (bW.tb y1 y2));have e5:B<=w4.heap.size:=Zc HB.out d3.out.b.size;obtain⟨A12,q12,b3,-⟩:=af a2.opens;subst b3;obtain⟨m,hm⟩:∃m,frs.length=m:=⟨_,rfl⟩;have c12:=aa a2.row (j:=12) (u:=.slice A12 m q12) (by rw[<-hm];rfl);have a3:=ac w4 (.cells #[.int .i64 6] 3);have m9:=H8 (ar w4 [.int .i64 6] 3);have f7:=a2.below a3;have i0:=H8 (show(w4.alloc (.cells #[.int .i64 6] 3)).ownsRow B 3 1 (.slice A12 m q12) m (frs.reverse.map eF) by have:=f7.opens;rwa[hm] at this);have f6:=H8 f7;have l3:=H8 y3;have m5:=H8 (show bW B w (w4.alloc (.cells #[.int .i64 6] 3)) from d3.out.trans (bW.new a3 e5));have m4:m<=1000000000:=by rw[<-hm];exact Hl.out
    have Hm:=H8 hm;have c6:=H8 (show B<=(w4.alloc (.cells #[.int .i64 6] 3)).heap.size from Zc e5 a3.size);have f4:=H8 a3;have h5:maps4.length<=1000000000:=by
     have h1:=a2.seen.1;have h2:=List.length_filter_le (fun g:Fr=>g.obj) frs;have:=Hl.out;omega
    have i3:=H8 h5;clear h5;obtain⟨A13,q13,l2,-⟩:=af a2.names;subst l2;have s6:= @run_makeMap Tryz.prog;clear y1 y2 y3 a2 e5 a3 f7 R a4 hm;go_wp2_with (first|(at_builtin;refine mb Am i0.out m9.out c6.out ?_;intro v' w5 p1 p2 p3;obtain⟨A5,q5,rfl,-,-,-⟩:=af p1;have f1:=ay f6.out.row p2 (aG i0.out f6.out.row (by decide));have c12':=aa f1 (j:=12) (u:=.slice A12 m q12) (by rw[<-Hm.out];rfl);have f12':=aj f1 12;have hs:=f6.out.b.setOpen c6.out (aM.grown p2) (fun g h=>by rw[Hm.out];exact h) (ofr':=⟨true, [], [],none⟩::frs) (ov':=.slice A5 (m+1) q5) (by rw[List.length_cons,Hm.out,List.reverse_cons,List.map_append];exact p1);have c14':=aa hs.2.2.row (j:=14) (u:=.int .i64 want) rfl;have f14':=aj hs.2.2.row 14;have Hs:=H8 hs;have q8:=H8 p2;have c13':=aa hs.2.2.row (j:=13) (u:=.slice A13 maps4.length q13) rfl;have i2:=H8 (hs.2.2.pushName (Zc c6.out hs.2.1.1) (z:=w5.heap.size) (by simp) rfl);clear p1 p2 p3 f1 hs)|(at_builtin;refine mb EV i2.out.1 i2.out.2.2.1 (by have:=Hs.out.2.1.1;have:=c6.out;have:=i2.out.2.1.size;omega) ?_ (hlen:=(by unfold maxLen;have:=i3.out;omega)) (hby:=(by have:=i3.out;omega));intro v9 w9 p1 p2 p3;obtain⟨A9,q9,rfl,-,-,-⟩:=af p1;have g2:=i2.out.2.2.2 w9 _ p2 p1;have c13q:=aa g2.1 (j:=13) (u:=.slice A13 maps4.length q13) rfl;have f13q:=aj g2.1 13;have c14q:=aa g2.2.2.2.row (j:=14) (u:=.int .i64 want) rfl;have f14q:=aj g2.2.2.2.row 14;have r7:=H8 g2;clear p1 p2 p3 g2));go_end0;obtain⟨s1,s2,s3⟩:=Hs.out;obtain⟨t1,t2,t3,t4⟩:=i2.out;obtain⟨r0,r1,r2,r3⟩:=r7.out;have d5:=Zc c6.out s2.1;have q0:=Zc d5 t2.size;obtain⟨z1,z2,z3⟩:=r3.setWant (Zc q0 r2.1) 3 (z:=3) rfl;exact⟨rfl,(((m5.out.trans (bW.rd s1 s2)).trans (bW.new t2 d5)).trans (bW.rd r1 r2)).trans (bW.rd z1 z2),⟨by4,dp4,ex4,_,_,_,z3.a⟩,bs2,((((l3.out.below f4.out).kp s2 bq).below t2).kp r2 bq).kp z2 bq⟩
   ·have Ho:=H8 ho;have l1:=H8 f8;have n2:=H8 k3;have Hi:=H8 hi;have f2:=H8 d1;have h0:=H8 g7;have Hl:=H8 hl;clear ho f8 k3 hi d1 g7 hl;have d14:=aa a5.out.row (j:=14) (u:=.int .i64 want) rfl;obtain⟨g,q,b3,cg,hq⟩:=a5.out.topKind;rw[Ho.out] at cg;simp only[Bool.false_eq_true,if_false,if_true] at cg;subst b3;obtain⟨m,hm⟩:∃m,fs.length=m:=⟨_,rfl⟩;rw[hm] at cg hq;have m4:m<=1000000000:=by rw[<-hm];exact Hl.out
    have c12:=aa a5.out.row (j:=12) (u:=.slice (some ⟨g,0,none⟩) (m+1) q) (by rw[<-hm];rfl);have s1:IntKind.i64.wrap (m:Int)= (m:Int):=IntWalk.i64_in _ (by omega);have e4:(m:Int)< (m:Int)+1:=by omega
    have Hm:=H8 hm;have Hq:=H8 hq;clear hm d14 hq;go_wp2_with fail;go_quiet (fail);have a1:=ap (Ze wr.heap.size wr) nq;obtain⟨w2,h8⟩:∃w2,wr.drewN nq=w2:=⟨_,rfl⟩;rw[h8] at a1 ⊢;have d6:=H8 (a5.out.below a1);have c3:=H8 (b2.out.below a1);have c5:=H8 (e0.out.trans (bW.new a1 b4));clear a1 h8 c12 cg e1;go_wp2_with fail;have k5:=H8 (show ∃by_ dp ex ov nv maps,gX B w2 rb lb xb v xs (f::fs) (f::fs) want k nd false by_ dp ex ov nv maps from⟨_,_,_,_,_,_,d6.out.b⟩);obtain⟨w3,i8⟩:∃w3,w3=w2:=⟨_,rfl⟩;have d2:=c3;have f9:=c5;rw[<-i8] at k5 d2 f9 ⊢;clear d6 c3 c5 i8;obtain⟨by3,dp3,ex3,ov3,nv3,maps3,e6⟩:=k5.out;obtain⟨g3,q3,b3,-,n5⟩:=e6.topOpen;subst b3;have f5:=Zc HB.out f9.out.b.size;obtain⟨w4,c7⟩:∃w4,w3.drew=w4:=⟨_,rfl⟩;have c2:Below w3.heap.size w3 w4:=by rw[<-c7];exact(Ze _ _).drew
    have a2:=e6.below c2;have C12:=H8 (aa a2.row (j:=12) (u:=.slice (some ⟨g3,0,none⟩) (m+1) q3) (by rw[<-Hm.out];rfl));have f12:=aj a2.row 12;have l0:(m:Int)<=q3:=by have:=Hm.out;omega
    have b8:w4.ownsRow B 3 1 (.slice (some ⟨g3,0,none⟩) m q3) fs.length (fs.reverse.map eF):=by
     have:=a2.opens;rw[List.length_cons,List.reverse_cons,List.map_append] at this;rw[<-Hm.out];exact ot this (by simp)
    have c0:=H8 (a2.setOpen (Zc f5 c2.size) (aM.refl (fun _=>False) w4) (fun _ h=>h.elim) (ofr':=fs) (ov':=.slice (some ⟨g3,0,none⟩) m q3) b8);have e3:=H8 (d2.out.below c2);have d3:=H8 (f9.out.trans (bW.new c2 f5));have c12s:=C12.out;clear e6 a2 b8 c2 f5 n5;refine ce (fun w9=>w9.cell? ⟨rb,12,none⟩=some (.slice (some ⟨g3,0,none⟩) (m+1) q3)) 14 ((by rw[c7];exact C12.out)) fun a0=>?_
    rw[c7] at a0 ⊢;clear c7;refine tR 0 a0 ?_;refine tR 1 a0 ?_;refine tR 2 a0 ?_;refine tR 3 a0 ?_;refine tR 4 a0 ?_;refine tR 5 a0 ?_
    try simp only[Act.put,jP,jQ,jR]
    refine tR 6 a0 ?_;refine tR 7 a0 ?_;refine tR 8 a0 ?_;refine tR 9 a0 ?_;refine tR 10 a0 ?_;refine tR 11 a0 ?_
    try simp only[Act.put,jP,jQ,jR]
    refine tR 12 a0 ?_;refine tR 13 a0 ?_
    try simp only[Act.put,jP,jQ,jR]
    refine rZ 14 fun K hK=>?_
    go_simp;refine hK.out _ _ (fun h=>absurd rfl h) (fun _=>?_);clear hK K
    try simp only[Act.put,jP,jQ,jR]
    refine aI (by kernel_rfl) (NoPanic.normal ?_) _;clear a0 c12s f12;obtain⟨w5,h9⟩:∃w5,w4.setCell ⟨rb,12,none⟩ (.slice (some ⟨g3,0,none⟩) m q3)=w5:=⟨_,rfl⟩;rw[h9] at c0 ⊢;have g8:=gX.a (frs:=fs) (by have h:=c0.out.2.2;exact⟨h.row,h.low,h.lex,h.llow,h.own,h.opens,h.names,(by have:=h.seen;rw[List.filter_cons,Ho.out] at this;simpa using this),h.nodup,h.le⟩);have f3:=H8 (e3.out.kp c0.out.2.1 bq);have i5:=H8 (d3.out.trans (bW.rd c0.out.1 c0.out.2.1));clear h9;go_wp2_with fail;obtain⟨wq,a9⟩:∃wq,w5.drew=wq:=⟨_,rfl⟩;have a1:Below w5.heap.size w5 wq:=by rw[<-a9];exact(Ze _ _).drew
    have f0:=Zc HB.out i5.out.b.size;have b1:=g8.s.below a1;have d0:=H8 (cS b1 (by have:=Hl.out;omega));have Htk:=H8 (l5 (lv:=(fs.length:Int)+1) (by omega) (f3.out.below a1) Ho.out l1.out n2.out Hi.out f2.out h0.out (Zc f0 a1.size));obtain⟨by2,dp2,ex2,ov2,nv2,maps2,b5⟩:=id b1;have C11:=H8 (aa b5.row (j:=11) (u:=.func (.func 123) #[.pointer (some ⟨xb,0,none⟩)] #[]) rfl);have a4:=H8 (And.intro (i5.out.trans (bW.new a1 f0)) b1);clear a1 b1 b5 g8 f0;refine ce (fun w9=>w9.cell? ⟨rb,11,none⟩=some (.func (.func 123) #[.pointer (some ⟨xb,0,none⟩)] #[])) 9 ((by rw[a9];exact C11.out)) fun a0=>?_
    rw[a9] at a0 ⊢;clear a9;refine tR 0 a0 ?_;refine tR 1 a0 ?_;refine tR 2 a0 ?_;refine tR 3 a0 ?_;refine tR 4 a0 ?_;refine tR 6 a0 ?_
    try simp only[Act.put,jP,jQ,jR]
    refine rZ 5 fun K hK=>?_
    go_simp;refine Za d0 ?_;rintro e w' ⟨rfl,rfl⟩;go_wp2_with fail;refine hK.out _ _ (fun _=>a0) (fun a0=>?_);clear hK K;have a0:=a0 (by decide)
    try simp only[Act.put,jP,jQ,jR]
    refine tR 7 a0 ?_;refine tR 8 a0 ?_
    try simp only[Act.put,jP,jQ,jR]
    refine rZ 9 fun K hK=>?_
    go_simp;refine Za Htk ?_;rintro e w6 ⟨rfl,h1,h2,h3⟩;have R:=H8 (And.intro h1 (And.intro h2 h3));clear h1 h2 h3;go_wp2_with fail;refine hK.out _ _ (fun h=>absurd rfl h) (fun _=>?_);clear hK K
    try simp only[Act.put,jP,jQ,jR]
    refine aI (by kernel_rfl) (NoPanic.normal ?_) _;obtain⟨y1,y2,bs2,y3⟩:=R.out;have h7:=(a4.out.2.tb y2).put (fun f fs e=>(h0.out.2 f fs e).1) (cM f);have d5:B<=w6.heap.size:=Zc (Zc HB.out a4.out.1.b.size) y1.size;have n1:=H8 (gd h7 d5 (by rw[iS];have:=Hl.out;omega));have R6:=H8 (And.intro (a4.out.1.trans (bW.tb y1 y2)) y3);clear y1 y2 y3 h7 d5 R a4 d0 Htk C11;go_wp2_with fail;refine Za n1 ?_;rintro e w7 ⟨rfl,h1,h2,h3⟩;have R7:=H8 (And.intro h1 (And.intro h2 h3));clear h1 h2 h3;go_wp2_with fail;go_end0;refine⟨rfl,R6.out.1.trans (bW.rd R7.out.1 R7.out.2.1),?_,bs2,R6.out.2.kp R7.out.2.1 bq⟩;rw[gh];exact R7.out.2.2
   ·have Ho:=H8 ho;have l1:=H8 f8;have n2:=H8 k3;have Hi:=H8 hi;have f2:=H8 d1;have h0:=H8 g7;have Hl:=H8 hl;clear ho f8 k3 hi d1 g7 hl;have d14:=aa a5.out.row (j:=14) (u:=.int .i64 want) rfl;obtain⟨g,q,b3,cg,hq⟩:=a5.out.topKind;rw[Ho.out] at cg;simp only[Bool.false_eq_true,if_false,if_true] at cg;subst b3;obtain⟨m,hm⟩:∃m,fs.length=m:=⟨_,rfl⟩;rw[hm] at cg hq;have m4:m<=1000000000:=by rw[<-hm];exact Hl.out
    have c12:=aa a5.out.row (j:=12) (u:=.slice (some ⟨g,0,none⟩) (m+1) q) (by rw[<-hm];rfl);have s1:IntKind.i64.wrap (m:Int)= (m:Int):=IntWalk.i64_in _ (by omega);have e4:(m:Int)< (m:Int)+1:=by omega
    have Hm:=H8 hm;have Hq:=H8 hq;clear hm d14 hq;go_wp2_with fail;go_quiet (fail);have a1:=ap (Ze wr.heap.size wr) nq;obtain⟨w2,h8⟩:∃w2,wr.drewN nq=w2:=⟨_,rfl⟩;rw[h8] at a1 ⊢;have d6:=H8 (a5.out.below a1);have c3:=H8 (b2.out.below a1);have c5:=H8 (e0.out.trans (bW.new a1 b4));clear a1 h8 c12 cg e1;go_wp2_with fail;obtain⟨b0,maps9,q7⟩:∃b m',maps=b::m':=by
     have g0:=d6.out.seen;simp only[List.filter_cons,Ho.out,if_true] at g0
     cases maps with
     |nil=>have:=g0.1;simp at this
     |cons b m'=>exact⟨b,m',rfl⟩
    subst q7;obtain⟨A13,q13,l2,g5,-,k4⟩:=af d6.out.names;subst l2;obtain⟨g13,m2⟩:=k4 (by simp);subst m2;obtain⟨n9,m3⟩:∃n,maps9.length=n:=⟨_,rfl⟩;have k9:n9<=m:=by
     have h1:=d6.out.seen.1;have h2:=List.length_filter_le (fun g:Fr=>g.obj) fs;simp only[List.filter_cons,Ho.out,if_true,List.length_cons] at h1;have:=Hm.out;omega
    have c4:=Zc HB.out c5.out.b.size;obtain⟨wb,hwb⟩:∃wb,w2.drew=wb:=⟨_,rfl⟩;have i9:Below w2.heap.size w2 wb:=by rw[<-hwb];exact(Ze _ _).drew
    have e2:=d6.out.below i9;have C13:=H8 (aa e2.row (j:=13) (u:=.slice (some ⟨g13,0,none⟩) (n9+1) q13) (by rw[<-m3];rfl));have c13s:=C13.out;have f13:=aj e2.row 13;have s9:IntKind.i64.wrap (n9:Int)= (n9:Int):=IntWalk.i64_in _ (by omega);have n3:(n9:Int)<=q13:=by rw[List.length_cons] at g5;omega
    have d9:wb.ownsRow B 317 1 (.slice (some ⟨g13,0,none⟩) n9 q13) maps9.length (maps9.reverse.map sU):=by
     have:=e2.names;rw[List.length_cons,List.reverse_cons,List.map_append] at this;rw[<-m3];exact ot this (by simp)
    have g4:=H8 (e2.b.setNames (Zc c4 i9.size) (aM.refl (fun _=>False) wb) (fun _ h=>h.elim) (maps':=maps9) (nfr':=fs) (nv':=.slice (some ⟨g13,0,none⟩) n9 q13) d9 (List.nodup_cons.1 e2.nodup).2 (fun w10 hk _=>by
     have g0:=e2.seen;simp only[List.filter_cons,Ho.out,if_true] at g0;refine gX.seens (nfr:=fs) ⟨by simpa using g0.1,fun i x y q1 q2=>g0.2 (i+1) x y (by simpa using q1) (by simpa using q2)⟩ hk))
    have d4:=H8 (c3.out.below i9);have j0:=H8 (c5.out.trans (bW.new i9 c4));clear d9 e2 i9 c4 g5 k4 k9 m3;refine ce (fun w9=>w9.cell? ⟨rb,13,none⟩=some (.slice (some ⟨g13,0,none⟩) (n9+1) q13)) 14 ((by rw[hwb];exact C13.out)) fun a0=>?_
    rw[hwb] at a0 ⊢;clear hwb;refine tR 0 a0 ?_;refine tR 1 a0 ?_;refine tR 2 a0 ?_;refine tR 3 a0 ?_;refine tR 4 a0 ?_;refine tR 5 a0 ?_
    try simp only[Act.put,jP,jQ,jR]
    refine tR 6 a0 ?_;refine tR 7 a0 ?_;refine tR 8 a0 ?_;refine tR 9 a0 ?_;refine tR 10 a0 ?_;refine tR 11 a0 ?_
    try simp only[Act.put,jP,jQ,jR]
    refine tR 12 a0 ?_;refine tR 13 a0 ?_
    try simp only[Act.put,jP,jQ,jR]
    refine rZ 14 fun K hK=>?_
    go_simp;refine hK.out _ _ (fun h=>absurd rfl h) (fun _=>?_);clear hK K
    try simp only[Act.put,jP,jQ,jR]
    refine aI (by kernel_rfl) (NoPanic.normal ?_) _;clear a0 c13s f13 s9 n3;obtain⟨w3,i8⟩:∃w3,wb.setCell ⟨rb,13,none⟩ (.slice (some ⟨g13,0,none⟩) n9 q13)=w3:=⟨_,rfl⟩;rw[i8] at g4 ⊢;have k5:=H8 (show ∃by_ dp ex ov nv maps,gX B w3 rb lb xb v xs (f::fs) fs want k nd false by_ dp ex ov nv maps from⟨_,_,_,_,_,_,g4.out.2.2⟩);have d2:=H8 (d4.out.kp g4.out.2.1 bq);have f9:=H8 (j0.out.trans (bW.rd g4.out.1 g4.out.2.1));clear i8 g4 d4 j0 d6 c3 c5;go_wp2_with fail;obtain⟨by3,dp3,ex3,ov3,nv3,maps3,e6⟩:=k5.out;obtain⟨g3,q3,b3,-,n5⟩:=e6.topOpen;subst b3;have f5:=Zc HB.out f9.out.b.size;obtain⟨w4,c7⟩:∃w4,w3.drew=w4:=⟨_,rfl⟩;have c2:Below w3.heap.size w3 w4:=by rw[<-c7];exact(Ze _ _).drew
    have a2:=e6.below c2;have C12:=H8 (aa a2.row (j:=12) (u:=.slice (some ⟨g3,0,none⟩) (m+1) q3) (by rw[<-Hm.out];rfl));have f12:=aj a2.row 12;have l0:(m:Int)<=q3:=by have:=Hm.out;omega
    have b8:w4.ownsRow B 3 1 (.slice (some ⟨g3,0,none⟩) m q3) fs.length (fs.reverse.map eF):=by
     have:=a2.opens;rw[List.length_cons,List.reverse_cons,List.map_append] at this;rw[<-Hm.out];exact ot this (by simp)
    have c0:=H8 (a2.setOpen (Zc f5 c2.size) (aM.refl (fun _=>False) w4) (fun _ h=>h.elim) (ofr':=fs) (ov':=.slice (some ⟨g3,0,none⟩) m q3) b8);have e3:=H8 (d2.out.below c2);have d3:=H8 (f9.out.trans (bW.new c2 f5));have c12s:=C12.out;clear e6 a2 b8 c2 f5 n5;refine ce (fun w9=>w9.cell? ⟨rb,12,none⟩=some (.slice (some ⟨g3,0,none⟩) (m+1) q3)) 14 ((by rw[c7];exact C12.out)) fun a0=>?_
    rw[c7] at a0 ⊢;clear c7;refine tR 0 a0 ?_;refine tR 1 a0 ?_;refine tR 2 a0 ?_;refine tR 3 a0 ?_;refine tR 4 a0 ?_;refine tR 5 a0 ?_
    try simp only[Act.put,jP,jQ,jR]
    refine tR 6 a0 ?_;refine tR 7 a0 ?_;refine tR 8 a0 ?_;refine tR 9 a0 ?_;refine tR 10 a0 ?_;refine tR 11 a0 ?_
    try simp only[Act.put,jP,jQ,jR]
    refine tR 12 a0 ?_;refine tR 13 a0 ?_
    try simp only[Act.put,jP,jQ,jR]
    refine rZ 14 fun K hK=>?_
    go_simp;refine hK.out _ _ (fun h=>absurd rfl h) (fun _=>?_);clear hK K
    try simp only[Act.put,jP,jQ,jR]
    refine aI (by kernel_rfl) (NoPanic.normal ?_) _;clear a0 c12s f12;obtain⟨w5,h9⟩:∃w5,w4.setCell ⟨rb,12,none⟩ (.slice (some ⟨g3,0,none⟩) m q3)=w5:=⟨_,rfl⟩;rw[h9] at c0 ⊢;have g8:=gX.a (frs:=fs) (c0.out.2.2);have f3:=H8 (e3.out.kp c0.out.2.1 bq);have i5:=H8 (d3.out.trans (bW.rd c0.out.1 c0.out.2.1));clear h9;go_wp2_with fail;obtain⟨wq,a9⟩:∃wq,w5.drew=wq:=⟨_,rfl⟩;have a1:Below w5.heap.size w5 wq:=by rw[<-a9];exact(Ze _ _).drew
    have f0:=Zc HB.out i5.out.b.size;have b1:=g8.s.below a1;have d0:=H8 (cS b1 (by have:=Hl.out;omega));have Htk:=H8 (mq (lv:=(fs.length:Int)+1) (by omega) (f3.out.below a1) Ho.out l1.out n2.out Hi.out f2.out h0.out (Zc f0 a1.size));obtain⟨by2,dp2,ex2,ov2,nv2,maps2,b5⟩:=id b1;have C11:=H8 (aa b5.row (j:=11) (u:=.func (.func 123) #[.pointer (some ⟨xb,0,none⟩)] #[]) rfl);have a4:=H8 (And.intro (i5.out.trans (bW.new a1 f0)) b1);clear a1 b1 b5 g8 f0;refine ce (fun w9=>w9.cell? ⟨rb,11,none⟩=some (.func (.func 123) #[.pointer (some ⟨xb,0,none⟩)] #[])) 9 ((by rw[a9];exact C11.out)) fun a0=>?_
    rw[a9] at a0 ⊢;clear a9;refine tR 0 a0 ?_;refine tR 1 a0 ?_;refine tR 2 a0 ?_;refine tR 3 a0 ?_;refine tR 4 a0 ?_;refine tR 6 a0 ?_
    try simp only[Act.put,jP,jQ,jR]
    refine rZ 5 fun K hK=>?_
    go_simp;refine Za d0 ?_;rintro e w' ⟨rfl,rfl⟩;go_wp2_with fail;refine hK.out _ _ (fun _=>a0) (fun a0=>?_);clear hK K;have a0:=a0 (by decide)
    try simp only[Act.put,jP,jQ,jR]
    refine tR 7 a0 ?_;refine tR 8 a0 ?_
    try simp only[Act.put,jP,jQ,jR]
    refine rZ 9 fun K hK=>?_
    go_simp;refine Za Htk ?_;rintro e w6 ⟨rfl,h1,h2,h3⟩;have R:=H8 (And.intro h1 (And.intro h2 h3));clear h1 h2 h3;go_wp2_with fail;refine hK.out _ _ (fun h=>absurd rfl h) (fun _=>?_);clear hK K
    try simp only[Act.put,jP,jQ,jR]
    refine aI (by kernel_rfl) (NoPanic.normal ?_) _;obtain⟨y1,y2,bs2,y3⟩:=R.out;have h7:=(a4.out.2.tb y2).put (fun f fs e=>(h0.out.2 f fs e).1) (cM f);have d5:B<=w6.heap.size:=Zc (Zc HB.out a4.out.1.b.size) y1.size;have n1:=H8 (gd h7 d5 (by rw[iS];have:=Hl.out;omega));have R6:=H8 (And.intro (a4.out.1.trans (bW.tb y1 y2)) y3);clear y1 y2 y3 h7 d5 R a4 d0 Htk C11;go_wp2_with fail;refine Za n1 ?_;rintro e w7 ⟨rfl,h1,h2,h3⟩;have R7:=H8 (And.intro h1 (And.intro h2 h3));clear h1 h2 h3;go_wp2_with fail;go_end0;refine⟨rfl,R6.out.1.trans (bW.rd R7.out.1 R7.out.2.1),?_,bs2,R6.out.2.kp R7.out.2.1 bq⟩;rw[gh];exact R7.out.2.2
