import Derived.Test.YtgkkffeagolnpaaGreatDoorGZ16ba
set_option linter.unusedVariables false
set_option linter.unusedSimpArgs false
set_option maxHeartbeats 64000000
set_option maxRecDepth 100000
namespace Go.Proofs.YtgkkffeagolnpaaGreatDoor
open Go.RowKit
variable {fin:Bool}{f:Fr}{by_ dp ex:Int}{frs fs nfr:List Fr}{maps:List Nat}{xs:List UInt8}{B i lb n nd nd' q rb want xb:Nat}{A:Option Addr}{e:TypeId}{nv ov v x:Value}{w:World}
theorem iR {L:List UInt8}{y c:UInt8}(h:L[i]?=some y):(L.take (i+1)).contains c= ((L.take i).contains c||c==y):=by
 rw[List.take_add_one,h];rw[Bool.eq_iff_iff];simp[List.contains_eq_mem]
theorem Af:da 172 3 (.int .i64 0) 1 8:=⟨Tryz.underlying172,by kernel_rfl,rfl,by decide⟩
theorem Gs:da 236 308 (.map none) 1 8:=⟨Tryz.underlying236,by kernel_rfl,rfl,by decide⟩
theorem iV.pushName {k:Nat}{ofr:List Fr}(h:iV B w rb lb xb v xs ofr nfr want k nd fin by_ dp ex ov nv maps)(hB:B<=w.heap.size){z:Nat}(hz:w.heap.size=z){W8:World}(hW:((w.alloc (.map #[] 0)).alloc (.cells #[.map (some z)] 308))=W8) :
  W8.ownsRow B 308 1 nv maps.length (maps.reverse.map t7)/\Below w.heap.size w W8/\(∀j u, [Value.map (some z)][j]?=some u->W8.cell? ⟨z+1,j,none⟩=some u)/\∀w9 nv',W8.grownBy w9 nv.ownBlock->w9.ownsRow B 308 1 nv' (maps.length+1) (maps.reverse.map t7 ++ [.map (some z)])->
   w9.heap[rb]?=some (.cells (bI lb xb by_ dp nd ex ov nv want fin) 238 (0,0))/\Below B W8 (w9.setCell ⟨rb,13,none⟩ nv')/\Kp js W8 (w9.setCell ⟨rb,13,none⟩ nv')/\iV B (w9.setCell ⟨rb,13,none⟩ nv') rb lb xb v xs ofr (⟨true, [], [],none⟩::nfr) want k nd fin by_ dp ex ov nv' (z::maps):=by
 subst hz;have a4:=aa w (.map #[] 0);have a0:=aa (w.alloc (.map #[] 0)) (.cells #[.map (some w.heap.size)] 308);rw[hW] at a0;have hb:=aj a4 a0;have h8:=h.below hb;have a1:df W8 w.heap.size [] 0:=(df.made w).kp (Kp.of_below (fun _=>False) a0);have hlt:∀b∈maps,b<w.heap.size:=fun b hb=>by
  obtain⟨i,hi,rfl⟩:=List.getElem_of_mem hb;have hl:=h.seen.1;obtain⟨-,l,n,hs,-⟩:=h.seen.2 i maps[i] ((nfr.filter (·.obj))[i]'(by omega)) (Zd hi) (Zd _);exact hs.lt
 have a2:=av (w.alloc (.map #[] 0)) [.map (some w.heap.size)] 308;rw[World.size_alloc] at a2;refine⟨h8.names,hb,by rw[<-hW];exact a2,fun w9 nv' hg hp=>?_⟩;have a3:=ay h8.row hg (aL h8.names h8.row (by decide));have hs:=h8.setNames (Zc hB hb.size) (aP.grown hg) (fun g h=>h) (nv':=nv') (maps':=w.heap.size::maps) (nfr':=⟨true, [], [],none⟩::nfr) (by rw[List.length_cons,List.reverse_cons,List.map_append];exact hp) (List.nodup_cons.2 ⟨fun hm=>Nat.lt_irrefl _ (hlt _ hm),h8.nodup⟩) (fun w10 hk _=>by
  simp only[List.filter_cons,if_true];refine ch.cons ⟨hB, [],0,a1.kp hk,Zj _,fun s=>by simp[fJ]⟩ (iV.seens h8.seen hk))
 exact⟨a3,hs⟩
theorem pC {xs:List Value}(h:w.ownsRow B e 1 (.slice A (n+1) q) (n+1) (xs ++ [x]))(hx:xs.length=n):w.ownsRow B e 1 (.slice A n q) n xs:=jr h (by rw[hx,Nat.mul_one])
theorem iV.topOpen {k:Nat}(h:iV B w rb lb xb v xs (f::fs) nfr want k nd fin by_ dp ex ov nv maps):∃g q,ov =.slice (some ⟨g,0,none⟩) (fs.length+1) q/\w.cell? ⟨g,fs.length,none⟩=some (.int .i64 (if f.obj then 6 else 5))/\fs.length+1<=q:=by
 have ho:=h.opens;rw[List.length_cons] at ho;obtain⟨A,q,rfl,hq,-,hA⟩:=ag ho;obtain⟨g,rfl⟩:=hA (by omega);have cg:=World.ownsRow.cellAt ho fs.length (by omega);rw[List.reverse_cons,List.map_append,List.getElem?_append_right (by simp),List.length_map,List.length_reverse,Nat.sub_self] at cg;exact⟨g,q,rfl,cg,hq⟩
theorem fW.topKind {k:Nat}(h:fW B w rb lb xb v xs (f::fs) want k nd fin by_ dp ex ov nv maps):∃g q,ov =.slice (some ⟨g,0,none⟩) (fs.length+1) q/\w.cell? ⟨g,fs.length,none⟩=some (.int .i64 (if f.obj then 6 else 5))/\fs.length+1<=q:=by
 have ho:=h.opens;rw[List.length_cons] at ho;obtain⟨A,q,rfl,hq,-,hA⟩:=ag ho;obtain⟨g,rfl⟩:=hA (by omega);have cg:=World.ownsRow.cellAt ho fs.length (by omega);rw[List.reverse_cons,List.map_append,List.getElem?_append_right (by simp),List.length_map,List.length_reverse,Nat.sub_self] at cg;exact⟨g,q,rfl,cg,hq⟩
inductive iS (nd:Nat):Int->UInt8->List Fr->bR->Nat->Prop
 |colon (frs:List Fr):iS nd 58 58 frs ⟨frs,0,none⟩ nd
 |comma5 (f:Fr) (fs:List Fr) (ho:f.obj=false) (hl:fs.length<=4294967296):iS nd 44 44 (f::fs) ⟨f::fs,0,none⟩ nd
 |comma6 (f:Fr) (fs:List Fr) (ho:f.obj=true) (hl:fs.length<=4294967296):iS nd 44 44 (f::fs) ⟨f::fs,2,none⟩ nd
 |open5 (frs:List Fr) (hl:frs.length<=1000000000) (hn:nd<=1000000000) (hlk:∀f fs,frs=f::fs->bS f=false):iS nd 91 91 frs ⟨⟨false, [], [],none⟩::frs,1,none⟩ (nd+1)
 |open6 (frs:List Fr) (hl:frs.length<=1000000000) (hn:nd<=1000000000) (hlk:∀f fs,frs=f::fs->bS f=false):iS nd 123 123 frs ⟨⟨true, [], [],none⟩::frs,3,none⟩ (nd+1)
 |close5 (f:Fr) (fs:List Fr) (ho:f.obj=false) (hnn:f.name=none) (hfo:f.ok dd) (hi:f.items.length<=4294967296) (hmi:f.mems.length<=4294967296) (hTB:jy fs) (hl:fs.length<=1000000000):iS nd 93 93 (f::fs) (bD fs (cK f)) nd
 |close6 (f:Fr) (fs:List Fr) (ho:f.obj=true) (hnn:f.name=none) (hfo:f.ok dd) (hi:f.items.length<=4294967296) (hmi:f.mems.length<=4294967296) (hTB:jy fs) (hl:fs.length<=1000000000):iS nd 125 125 (f::fs) (bD fs (cK f)) nd
theorem iS.eq {z:Int}{c:UInt8}{C:bR}(h:iS nd z c frs C nd'):z=c.toNat:=by cases h <;> rfl
theorem eD {k:Nat}{p z:Int}{c:UInt8}{C:bR}{bs:List Nat}(hM:iE w)(hw:want<8)(d3:px want c=true)(hR:gK B w rb lb xb v xs frs want k nd false)(p0:d8 B w xb frs none bs)(hB:B<=w.heap.size)(hc:iS nd z c frs C nd'):Calls Tryz.prog 168 #[.pointer (some ⟨rb,0,none⟩),.agg #[.int .i64 p,.int .u8 z]] w (It B rb lb xb v xs C k nd' false w):=by
 have g1:=aa w (.cells #[.int .i64 p,.int .u8 z] 293);obtain⟨w1,q6⟩:∃w1,w.alloc (.cells #[.int .i64 p,.int .u8 z] 293)=w1:=⟨_,rfl⟩;have k5:=Qa (Zf w (.cells #[.int .i64 p,.int .u8 z] 293));rw[q6] at g1 k5;have HR:=Qa (hR.below g1);have p4:=Qa (p0.below g1);have HM:=Qa (hM.below g1);have HB:=Qa hB;have s0:=Qa g1;have Hz:=Qa hc.eq;have o0:=Qa hc;obtain⟨by_,dp,ex,ov,nv,maps,hA⟩:=HR.out;have HA:=Qa hA;have c14:=ac hA.row (j:=14) (u:=.int .i64 want) rfl;have m0:=HM.out want hw;rw[AO] at d3;obtain⟨L,hL⟩:∃L,rl want=L:=⟨_,rfl⟩;have q7:L.length<=3:=by rw[<-hL];have:∀i,i<8->(rl i).length<=3:=(by decide);exact this want hw
 rw[hL] at m0 d3;have n6:=Qa d3;have n7:=Qa (show((⟨L.toArray⟩:ByteArray)).size=L.length by simp[ByteArray.size]);have r5:(want:Int)<8:=by omega
 clear hM hR p0 hB g1 hA hL d3 hw hc;go_enter Tryz.func168,Tryz.ntmps168;go_wp2_with fail;have HX:=Qa (True.intro)
 go_loopg [4,14] L.length (fun m s4 s14 wr=> ∃i:Nat,m+i=L.length/\s14 =.int .i64 i/\s4 =.bool ((L.take i).contains c)/\Below w1.heap.size w1 wr)
 case atStart=>exact⟨0,rfl,rfl,rfl,Ze _ _⟩
 case round=>
  obtain⟨i,c9,rfl,rfl,hb⟩:=hrel;have Hb:=Qa hb;have Hmi:=Qa c9;have d14:=Zg hb c14;have n0:=Zg hb m0;have r4:=n7.out
  by_cases hlt:i<L.length
  ·obtain⟨y,hy⟩:∃y,L[i]?=some y:=⟨_,Zd hlt⟩;have n5:(i:Int)<L.length:=by omega
   have e1:=Zg hb (ac k5.out (j:=1) (u:=.int .u8 z) rfl);have s6:∀w',(Instr.index 9 (.string ⟨L.toArray⟩) (.int .i64 (i:Int))).run Tryz.prog w' =.ok (.int .u8 y.toNat) w':=fun w'=>ff (s:=⟨L.toArray⟩) (by simpa using hy) w'
   have Htk:=Qa (iR (c:=c) hy);have hyc:((y.toNat:Int)==z)= (c==y):=by
    rw[Hz.out,Bool.eq_iff_iff];simp only[beq_iff_eq];exact⟨fun h=>UInt8.toNat_inj.1 (by omega),fun h=>by rw[h]⟩
   have g4:0+0=0:=rfl;clear hb c9 hlt hy c14 m0
   cases hok:(L.take i).contains c
   all_goals
    go_wp2_with fail;go_quiet (fail);go_wp2_with fail;go_roundg (L.length - (i+1))
    case measure=>have:=Hmi.out;omega
    case rel=>exact⟨i+1,by have:=Hmi.out;omega,by go_num,by rw[Htk.out,hok];simp[hyc],ap Hb.out _⟩
  ·obtain rfl:i=L.length:=by omega
   have n5:¬ (L.length:Int)<L.length:=by omega
   have hok:(L.take L.length).contains c=true:=by rw[List.take_length];exact n6.out
   rw[hok];have e1:=Zg hb (ac k5.out (j:=1) (u:=.int .u8 z) rfl);have b1:=Qa (HA.out.below hb);have b3:=Qa (p4.out.below hb);have e0:=Qa (bQ.new (aj s0.out hb) HB.out);have b4:B<=wr.heap.size:=Zc HB.out e0.out.b.size;have hmk:=o0.out;clear hb c9 hlt c14 m0 d14 n0 r4 hok r5 q7 o0 Hz HX n6 n7 HM HR HA p4 k5;rcases hmk with ⟨frs⟩|⟨f,fs,ho,hl⟩|⟨f,fs,ho,hl⟩|⟨frs,hl,hn,h6⟩|⟨frs,hl,hn,h6⟩|⟨f,fs,ho,g4,h8,hi,c9,j0,hl⟩|⟨f,fs,ho,g4,h8,hi,c9,j0,hl⟩
   ·have d14:=ac b1.out.row (j:=14) (u:=.int .i64 want) rfl;have f14:=al b1.out.row 14;have Hs:=Qa (b1.out.setWant b4 0 (z:=0) rfl);go_wp2_with fail;go_end0;exact⟨rfl,e0.out.trans (bQ.rd Hs.out.1 Hs.out.2.1),Hs.out.2.2.s,_,b3.out.kp Hs.out.2.1 bE⟩
   ·have d14:=ac b1.out.row (j:=14) (u:=.int .i64 want) rfl;have f14:=al b1.out.row 14;have Hs:=Qa (b1.out.setWant b4 0 (z:=0) rfl);obtain⟨w6,i3⟩:∃w6,wr.setCell ⟨rb,14,none⟩ (.int .i64 0)=w6:=⟨_,rfl⟩;rw[i3] at Hs;obtain⟨g,q,b2,cg,hq⟩:=Hs.out.2.2.topKind;rw[ho] at cg;simp only[Bool.false_eq_true,if_false,if_true] at cg;subst b2;obtain⟨m,hm⟩:∃m,fs.length=m:=⟨_,rfl⟩;rw[hm] at cg hq hl;have c12:=ac Hs.out.2.2.row (j:=12) (u:=.slice (some ⟨g,0,none⟩) (m+1) q) (by rw[<-hm];rfl);have s1:IntKind.i64.wrap (m:Int)= (m:Int):=IntWalk.i64_in _ (by omega);have f4:(m:Int)< (m:Int)+1:=by omega
    have n4:=Qa i3;clear hm hq hl;go_wp2_with fail
    try rw[n4.out]
    go_quiet (fail);go_wp2_with fail;go_end0;have a1:=ap (Ze w6.heap.size w6) nq;exact⟨rfl,(e0.out.trans (bQ.rd Hs.out.1 Hs.out.2.1)).trans (bQ.new a1 (Zc b4 Hs.out.2.1.1)),(Hs.out.2.2.below a1).s,_,(b3.out.kp Hs.out.2.1 bE).below a1⟩
   ·have d14:=ac b1.out.row (j:=14) (u:=.int .i64 want) rfl;have f14:=al b1.out.row 14;have Hs:=Qa (b1.out.setWant b4 0 (z:=0) rfl);obtain⟨w6,i3⟩:∃w6,wr.setCell ⟨rb,14,none⟩ (.int .i64 0)=w6:=⟨_,rfl⟩;rw[i3] at Hs;obtain⟨g,q,b2,cg,hq⟩:=Hs.out.2.2.topKind;rw[ho] at cg;simp only[Bool.false_eq_true,if_false,if_true] at cg;subst b2;obtain⟨m,hm⟩:∃m,fs.length=m:=⟨_,rfl⟩;rw[hm] at cg hq hl;have c12:=ac Hs.out.2.2.row (j:=12) (u:=.slice (some ⟨g,0,none⟩) (m+1) q) (by rw[<-hm];rfl);have s1:IntKind.i64.wrap (m:Int)= (m:Int):=IntWalk.i64_in _ (by omega);have f4:(m:Int)< (m:Int)+1:=by omega
    have n4:=Qa i3;clear hm hq hl;go_wp2_with fail
    try rw[n4.out]
    go_quiet (fail);have a1:=ap (Ze w6.heap.size w6) nq;have g8:=Hs.out.2.2.below a1;obtain⟨w7,o2⟩:∃w7,w6.drewN nq=w7:=⟨_,rfl⟩;rw[o2] at a1 g8 ⊢;have g14:=ac g8.row (j:=14) (u:=.int .i64 0) rfl;have f14':=al g8.row 14;have q4:=Zc (Zc b4 Hs.out.2.1.1) a1.size;have k7:=Qa (g8.setWant q4 2 (z:=2) rfl);have a4:=Qa a1;clear g8 a1 o2 c12 cg d14 f14;go_wp2_with fail;go_end0;exact⟨rfl,((e0.out.trans (bQ.rd Hs.out.1 Hs.out.2.1)).trans (bQ.new a4.out (Zc b4 Hs.out.2.1.1))).trans (bQ.rd k7.out.1 k7.out.2.1),k7.out.2.2.s,_,((b3.out.kp Hs.out.2.1 bE).below a4.out).kp k7.out.2.1 bE⟩
   ·have Hl:=Qa hl;have Hn:=Qa hn;have k9:=Qa h6;clear hl hn h6;have g6:=Qa (eN b1.out.s Hl.out Hn.out b4);go_wp2_with fail;refine Za g6 ?_;rintro e w2 ⟨rfl,i8,d2,h0⟩;have b5:=b3.out.kp d2 bE;have c2:=Zc b4 d2.1;have c5:=Qa (e0.out.trans (bQ.rd i8 d2));clear g6 d2 i8;obtain⟨wq,a5⟩:∃wq,w2.drew=wq:=⟨_,rfl⟩;have a1:Below w2.heap.size w2 wq:=by rw[<-a5];exact(Ze _ _).drew
    have a9:=h0.below a1;have c4:=b5.below a1;have d1:=Qa (dj a9 (by have:=Hl.out;omega));have Htk:=Qa (uy (lv:=(frs.length:Int)+1) (by omega) c4 k9.out (by have:=Hl.out;omega) (Zc c2 a1.size));obtain⟨by2,dp2,ex2,ov2,nv2,maps2,h7⟩:=id a9;have C11:=Qa (ac h7.row (j:=11) (u:=.func (.func 114) #[.pointer (some ⟨xb,0,none⟩)] #[]) rfl);have a4:=Qa (And.intro (c5.out.trans (bQ.new a1 c2)) a9);clear a1 a9 c4 h7 b5 h0 c2;go_wp2_with fail;refine cC (fun w9=>w9.cell? ⟨rb,11,none⟩=some (.func (.func 114) #[.pointer (some ⟨xb,0,none⟩)] #[])) 8 ((by rw[a5];exact C11.out)) fun a0=>?_
    rw[a5] at a0 ⊢;clear a5;refine tR 0 a0 ?_;refine tR 1 a0 ?_;refine tR 2 a0 ?_;refine tR 3 a0 ?_;refine tR 4 a0 ?_
    try simp only[Act.put,jP,jQ,jR]
    refine rZ 5 fun K hK=>?_
    go_simp;refine Za d1 ?_;rintro e w' ⟨rfl,rfl⟩;go_wp2_with fail;refine hK.out _ _ (fun _=>a0) (fun a0=>?_);clear hK K;have a0:=a0 (by decide)
    try simp only[Act.put,jP,jQ,jR]
    refine tR 6 a0 ?_;refine tR 7 a0 ?_
    try simp only[Act.put,jP,jQ,jR]
    refine rZ 8 fun K hK=>?_
    go_simp;refine Za Htk ?_;rintro e w4 ⟨rfl,h1,h2,h3⟩;have R:=Qa (And.intro h1 (And.intro h2 h3));clear h1 h2 h3;go_wp2_with fail;refine hK.out _ _ (fun h=>absurd rfl h) (fun _=>?_);clear hK K
    try simp only[Act.put,jP,jQ,jR]
    refine aK (by kernel_rfl) (NoPanic.normal ?_) _;obtain⟨y1,y2,bs2,y3⟩:=R.out;obtain⟨by4,dp4,ex4,ov4,nv4,maps4,a3⟩:=a4.out.2.tb y2;have c7:=Qa (a4.out.1.trans (bQ.tb y1 y2));have e6:B<=w4.heap.size:=Zc HB.out c7.out.b.size;obtain⟨A12,q12,b2,-⟩:=ag a3.opens;subst b2;obtain⟨m,hm⟩:∃m,frs.length=m:=⟨_,rfl⟩;have c12:=ac a3.row (j:=12) (u:=.slice A12 m q12) (by rw[<-hm];rfl);have a2:=aa w4 (.cells #[.int .i64 5] 3);have l3:=Qa (av w4 [.int .i64 5] 3);have f2:=a3.below a2;have k1:=Qa (show(w4.alloc (.cells #[.int .i64 5] 3)).ownsRow B 3 1 (.slice A12 m q12) m (frs.reverse.map fD) by have:=f2.opens;rwa[hm] at this);have f3:=Qa f2;have m1:=Qa y3;have m2:=Qa (show bQ B w (w4.alloc (.cells #[.int .i64 5] 3)) from c7.out.trans (bQ.new a2 e6));have l0:m<=1000000000:=by rw[<-hm];exact Hl.out
    have Hm:=Qa hm;have d0:=Qa (show B<=(w4.alloc (.cells #[.int .i64 5] 3)).heap.size from Zc e6 a2.size);have e4:=Qa a2;clear y1 y2 y3 a3 e6 a2 f2 R a4 hm;go_wp2_with ((at_builtin;refine j3 Af k1.out l3.out d0.out ?_;intro v' w5 p1 p2 p3;obtain⟨A5,q5,rfl,-,-,-⟩:=ag p1;have f5:=ay f3.out.row p2 (aL k1.out f3.out.row (by decide));have c12':=ac f5 (j:=12) (u:=.slice A12 m q12) (by rw[<-Hm.out];rfl);have f12':=al f5 12;have hs:=f3.out.b.setOpen d0.out (aP.grown p2) (fun g h=>by rw[Hm.out];exact h) (ofr':=⟨false, [], [],none⟩::frs) (ov':=.slice A5 (m+1) q5) (by rw[List.length_cons,Hm.out,List.reverse_cons,List.map_append];exact p1);have c14':=ac hs.2.2.row (j:=14) (u:=.int .i64 want) rfl;have f14':=al hs.2.2.row 14;have Hs:=Qa hs;have r7:=Qa p2;clear p1 p2 p3 f5 hs));go_end0;obtain⟨s1,s2,s3⟩:=Hs.out;obtain⟨z1,z2,z3⟩:=s3.setWant (Zc d0.out s2.1) 1 (z:=1) rfl;refine⟨rfl,(m2.out.trans (bQ.rd s1 s2)).trans (bQ.rd z1 z2),⟨by4,dp4,ex4,_,nv4,maps4,z3.row,z3.low,z3.lex,z3.llow,z3.own,z3.opens,z3.names,?_,z3.nodup,z3.le⟩,bs2,((m1.out.below e4.out).kp s2 bE).kp z2 bE⟩;have:=z3.seen;simpa [List.filter_cons] using this
   ·have Hl:=Qa hl;have Hn:=Qa hn;have k9:=Qa h6;clear hl hn h6;have g6:=Qa (eN b1.out.s Hl.out Hn.out b4);go_wp2_with fail;refine Za g6 ?_;rintro e w2 ⟨rfl,i8,d2,h0⟩;have b5:=b3.out.kp d2 bE;have c2:=Zc b4 d2.1;have c5:=Qa (e0.out.trans (bQ.rd i8 d2));clear g6 d2 i8;obtain⟨wq,a5⟩:∃wq,w2.drew=wq:=⟨_,rfl⟩;have a1:Below w2.heap.size w2 wq:=by rw[<-a5];exact(Ze _ _).drew
    have a9:=h0.below a1;have c4:=b5.below a1;have d1:=Qa (dj a9 (by have:=Hl.out;omega));have Htk:=Qa (vZ (lv:=(frs.length:Int)+1) (by omega) c4 k9.out (by have:=Hl.out;omega) (Zc c2 a1.size));obtain⟨by2,dp2,ex2,ov2,nv2,maps2,h7⟩:=id a9;have C11:=Qa (ac h7.row (j:=11) (u:=.func (.func 114) #[.pointer (some ⟨xb,0,none⟩)] #[]) rfl);have a4:=Qa (And.intro (c5.out.trans (bQ.new a1 c2)) a9);clear a1 a9 c4 h7 b5 h0 c2;go_wp2_with fail;refine cC (fun w9=>w9.cell? ⟨rb,11,none⟩=some (.func (.func 114) #[.pointer (some ⟨xb,0,none⟩)] #[])) 8 ((by rw[a5];exact C11.out)) fun a0=>?_
    rw[a5] at a0 ⊢;clear a5;refine tR 0 a0 ?_;refine tR 1 a0 ?_;refine tR 2 a0 ?_;refine tR 3 a0 ?_;refine tR 4 a0 ?_
    try simp only[Act.put,jP,jQ,jR]
    refine rZ 5 fun K hK=>?_
    go_simp;refine Za d1 ?_;rintro e w' ⟨rfl,rfl⟩;go_wp2_with fail;refine hK.out _ _ (fun _=>a0) (fun a0=>?_);clear hK K;have a0:=a0 (by decide)
    try simp only[Act.put,jP,jQ,jR]
    refine tR 6 a0 ?_;refine tR 7 a0 ?_
    try simp only[Act.put,jP,jQ,jR]
    refine rZ 8 fun K hK=>?_
    go_simp;refine Za Htk ?_;rintro e w4 ⟨rfl,h1,h2,h3⟩;have R:=Qa (And.intro h1 (And.intro h2 h3));clear h1 h2 h3;go_wp2_with fail;refine hK.out _ _ (fun h=>absurd rfl h) (fun _=>?_);clear hK K
    try simp only[Act.put,jP,jQ,jR]
    refine aK (by kernel_rfl) (NoPanic.normal ?_) _;obtain⟨y1,y2,bs2,y3⟩:=R.out;obtain⟨by4,dp4,ex4,ov4,nv4,maps4,a3⟩:=a4.out.2.tb y2;have c7:=Qa (a4.out.1.trans (bQ.tb y1 y2));have e6:B<=w4.heap.size:=Zc HB.out c7.out.b.size;obtain⟨A12,q12,b2,-⟩:=ag a3.opens;subst b2;obtain⟨m,hm⟩:∃m,frs.length=m:=⟨_,rfl⟩;have c12:=ac a3.row (j:=12) (u:=.slice A12 m q12) (by rw[<-hm];rfl);have a2:=aa w4 (.cells #[.int .i64 6] 3);have l3:=Qa (av w4 [.int .i64 6] 3);have f2:=a3.below a2;have k1:=Qa (show(w4.alloc (.cells #[.int .i64 6] 3)).ownsRow B 3 1 (.slice A12 m q12) m (frs.reverse.map fD) by have:=f2.opens;rwa[hm] at this);have f3:=Qa f2;have m1:=Qa y3;have m2:=Qa (show bQ B w (w4.alloc (.cells #[.int .i64 6] 3)) from c7.out.trans (bQ.new a2 e6));have l0:m<=1000000000:=by rw[<-hm];exact Hl.out
    have Hm:=Qa hm;have d0:=Qa (show B<=(w4.alloc (.cells #[.int .i64 6] 3)).heap.size from Zc e6 a2.size);have e4:=Qa a2;have h4:maps4.length<=1000000000:=by
     have h1:=a3.seen.1;have h2:=List.length_filter_le (fun g:Fr=>g.obj) frs;have:=Hl.out;omega
    have g7:=Qa h4;clear h4;obtain⟨A13,q13,l2,-⟩:=ag a3.names;subst l2;have s5:= @run_makeMap Tryz.prog;clear y1 y2 y3 a3 e6 a2 f2 R a4 hm;go_wp2_with (first|(at_builtin;refine j3 Af k1.out l3.out d0.out ?_;intro v' w5 p1 p2 p3;obtain⟨A5,q5,rfl,-,-,-⟩:=ag p1;have f5:=ay f3.out.row p2 (aL k1.out f3.out.row (by decide));have c12':=ac f5 (j:=12) (u:=.slice A12 m q12) (by rw[<-Hm.out];rfl);have f12':=al f5 12;have hs:=f3.out.b.setOpen d0.out (aP.grown p2) (fun g h=>by rw[Hm.out];exact h) (ofr':=⟨true, [], [],none⟩::frs) (ov':=.slice A5 (m+1) q5) (by rw[List.length_cons,Hm.out,List.reverse_cons,List.map_append];exact p1);have c14':=ac hs.2.2.row (j:=14) (u:=.int .i64 want) rfl;have f14':=al hs.2.2.row 14;have Hs:=Qa hs;have r7:=Qa p2;have c13':=ac hs.2.2.row (j:=13) (u:=.slice A13 maps4.length q13) rfl;have h9:=Qa (hs.2.2.pushName (Zc d0.out hs.2.1.1) (z:=w5.heap.size) (by simp) rfl);clear p1 p2 p3 f5 hs)|(at_builtin;refine j3 Gs h9.out.1 h9.out.2.2.1 (by have:=Hs.out.2.1.1;have:=d0.out;have:=h9.out.2.1.size;omega) ?_ (hlen:=(by unfold maxLen;have:=g7.out;omega)) (hby:=(by have:=g7.out;omega));intro v9 w9 p1 p2 p3;obtain⟨A9,q9,rfl,-,-,-⟩:=ag p1;have f8:=h9.out.2.2.2 w9 _ p2 p1;have c13q:=ac f8.1 (j:=13) (u:=.slice A13 maps4.length q13) rfl;have f13q:=al f8.1 13;have c14q:=ac f8.2.2.2.row (j:=14) (u:=.int .i64 want) rfl;have f14q:=al f8.2.2.2.row 14;have r6:=Qa f8;clear p1 p2 p3 f8));go_end0;obtain⟨s1,s2,s3⟩:=Hs.out;obtain⟨t1,t2,t3,t4⟩:=h9.out;obtain⟨r0,r1,r2,r3⟩:=r6.out;have d6:=Zc d0.out s2.1;have q8:=Zc d6 t2.size;obtain⟨z1,z2,z3⟩:=r3.setWant (Zc q8 r2.1) 3 (z:=3) rfl;exact⟨rfl,(((m2.out.trans (bQ.rd s1 s2)).trans (bQ.new t2 d6)).trans (bQ.rd r1 r2)).trans (bQ.rd z1 z2),⟨by4,dp4,ex4,_,_,_,z3.a⟩,bs2,((((m1.out.below e4.out).kp s2 bE).below t2).kp r2 bE).kp z2 bE⟩
   ·have Ho:=Qa ho;have m9:=Qa g4;have n1:=Qa h8;have Hi:=Qa hi;have f0:=Qa c9;have i5:=Qa j0;have Hl:=Qa hl;clear ho g4 h8 hi c9 j0 hl;have d14:=ac b1.out.row (j:=14) (u:=.int .i64 want) rfl;obtain⟨g,q,b2,cg,hq⟩:=b1.out.topKind;rw[Ho.out] at cg;simp only[Bool.false_eq_true,if_false,if_true] at cg;subst b2;obtain⟨m,hm⟩:∃m,fs.length=m:=⟨_,rfl⟩;rw[hm] at cg hq;have l0:m<=1000000000:=by rw[<-hm];exact Hl.out
    have c12:=ac b1.out.row (j:=12) (u:=.slice (some ⟨g,0,none⟩) (m+1) q) (by rw[<-hm];rfl);have s1:IntKind.i64.wrap (m:Int)= (m:Int):=IntWalk.i64_in _ (by omega);have f4:(m:Int)< (m:Int)+1:=by omega
    have Hm:=Qa hm;have Hq:=Qa hq;clear hm d14 hq;go_wp2_with fail;go_quiet (fail);have a1:=ap (Ze wr.heap.size wr) nq;obtain⟨w2,h5⟩:∃w2,wr.drewN nq=w2:=⟨_,rfl⟩;rw[h5] at a1 ⊢;have d9:=Qa (b1.out.below a1);have b8:=Qa (b3.out.below a1);have c5:=Qa (e0.out.trans (bQ.new a1 b4));clear a1 h5 c12 cg e1;go_wp2_with fail;have k6:=Qa (show ∃by_ dp ex ov nv maps,iV B w2 rb lb xb v xs (f::fs) (f::fs) want k nd false by_ dp ex ov nv maps from⟨_,_,_,_,_,_,d9.out.b⟩);obtain⟨w3,i2⟩:∃w3,w3=w2:=⟨_,rfl⟩;have c6:=b8;have g2:=c5;rw[<-i2] at k6 c6 g2 ⊢;clear d9 b8 c5 i2;obtain⟨by3,dp3,ex3,ov3,nv3,maps3,f1⟩:=k6.out;obtain⟨g3,q3,b2,-,n3⟩:=f1.topOpen;subst b2;have e3:=Zc HB.out g2.out.b.size;obtain⟨w4,c8⟩:∃w4,w3.drew=w4:=⟨_,rfl⟩;have c1:Below w3.heap.size w3 w4:=by rw[<-c8];exact(Ze _ _).drew
    have a3:=f1.below c1;have C12:=Qa (ac a3.row (j:=12) (u:=.slice (some ⟨g3,0,none⟩) (m+1) q3) (by rw[<-Hm.out];rfl));have f12:=al a3.row 12;have n2:(m:Int)<=q3:=by have:=Hm.out;omega
    have c3:w4.ownsRow B 3 1 (.slice (some ⟨g3,0,none⟩) m q3) fs.length (fs.reverse.map fD):=by
     have:=a3.opens;rw[List.length_cons,List.reverse_cons,List.map_append] at this;rw[<-Hm.out];exact pC this (by simp)
    have b9:=Qa (a3.setOpen (Zc e3 c1.size) (aP.refl (fun _=>False) w4) (fun _ h=>h.elim) (ofr':=fs) (ov':=.slice (some ⟨g3,0,none⟩) m q3) c3);have f6:=Qa (c6.out.below c1);have c7:=Qa (g2.out.trans (bQ.new c1 e3));have c12s:=C12.out;clear f1 a3 c3 c1 e3 n3;refine cC (fun w9=>w9.cell? ⟨rb,12,none⟩=some (.slice (some ⟨g3,0,none⟩) (m+1) q3)) 14 ((by rw[c8];exact C12.out)) fun a0=>?_
    rw[c8] at a0 ⊢;clear c8;refine tR 0 a0 ?_;refine tR 1 a0 ?_;refine tR 2 a0 ?_;refine tR 3 a0 ?_;refine tR 4 a0 ?_;refine tR 5 a0 ?_
    try simp only[Act.put,jP,jQ,jR]
    refine tR 6 a0 ?_;refine tR 7 a0 ?_;refine tR 8 a0 ?_;refine tR 9 a0 ?_;refine tR 10 a0 ?_;refine tR 11 a0 ?_
    try simp only[Act.put,jP,jQ,jR]
    refine tR 12 a0 ?_;refine tR 13 a0 ?_
    try simp only[Act.put,jP,jQ,jR]
    refine rZ 14 fun K hK=>?_
    go_simp;refine hK.out _ _ (fun h=>absurd rfl h) (fun _=>?_);clear hK K
    try simp only[Act.put,jP,jQ,jR]
    refine aK (by kernel_rfl) (NoPanic.normal ?_) _;clear a0 c12s f12;obtain⟨w5,i0⟩:∃w5,w4.setCell ⟨rb,12,none⟩ (.slice (some ⟨g3,0,none⟩) m q3)=w5:=⟨_,rfl⟩;rw[i0] at b9 ⊢;have g5:=iV.a (frs:=fs) (by have h:=b9.out.2.2;exact⟨h.row,h.low,h.lex,h.llow,h.own,h.opens,h.names,(by have:=h.seen;rw[List.filter_cons,Ho.out] at this;simpa using this),h.nodup,h.le⟩);have e5:=Qa (f6.out.kp b9.out.2.1 bE);have i9:=Qa (c7.out.trans (bQ.rd b9.out.1 b9.out.2.1));clear i0;go_wp2_with fail;obtain⟨wq,a5⟩:∃wq,w5.drew=wq:=⟨_,rfl⟩;have a1:Below w5.heap.size w5 wq:=by rw[<-a5];exact(Ze _ _).drew
    have f7:=Zc HB.out i9.out.b.size;have a9:=g5.s.below a1;have d1:=Qa (dj a9 (by have:=Hl.out;omega));have Htk:=Qa (mZ (lv:=(fs.length:Int)+1) (by omega) (e5.out.below a1) Ho.out m9.out n1.out Hi.out f0.out i5.out (Zc f7 a1.size));obtain⟨by2,dp2,ex2,ov2,nv2,maps2,c0⟩:=id a9;have C11:=Qa (ac c0.row (j:=11) (u:=.func (.func 114) #[.pointer (some ⟨xb,0,none⟩)] #[]) rfl);have a4:=Qa (And.intro (i9.out.trans (bQ.new a1 f7)) a9);clear a1 a9 c0 g5 f7;refine cC (fun w9=>w9.cell? ⟨rb,11,none⟩=some (.func (.func 114) #[.pointer (some ⟨xb,0,none⟩)] #[])) 9 ((by rw[a5];exact C11.out)) fun a0=>?_
    rw[a5] at a0 ⊢;clear a5;refine tR 0 a0 ?_;refine tR 1 a0 ?_;refine tR 2 a0 ?_;refine tR 3 a0 ?_;refine tR 4 a0 ?_;refine tR 6 a0 ?_
    try simp only[Act.put,jP,jQ,jR]
    refine rZ 5 fun K hK=>?_
    go_simp;refine Za d1 ?_;rintro e w' ⟨rfl,rfl⟩;go_wp2_with fail;refine hK.out _ _ (fun _=>a0) (fun a0=>?_);clear hK K;have a0:=a0 (by decide)
    try simp only[Act.put,jP,jQ,jR]
    refine tR 7 a0 ?_;refine tR 8 a0 ?_
    try simp only[Act.put,jP,jQ,jR]
    refine rZ 9 fun K hK=>?_
    go_simp;refine Za Htk ?_;rintro e w6 ⟨rfl,h1,h2,h3⟩;have R:=Qa (And.intro h1 (And.intro h2 h3));clear h1 h2 h3;go_wp2_with fail;refine hK.out _ _ (fun h=>absurd rfl h) (fun _=>?_);clear hK K
    try simp only[Act.put,jP,jQ,jR]
    refine aK (by kernel_rfl) (NoPanic.normal ?_) _;obtain⟨y1,y2,bs2,y3⟩:=R.out;have k2:=(a4.out.2.tb y2).put (fun f fs e=>(i5.out.2 f fs e).1) (cK f);have d6:B<=w6.heap.size:=Zc (Zc HB.out a4.out.1.b.size) y1.size;have m3:=Qa (iB k2 d6 (by rw[jX];have:=Hl.out;omega));have R6:=Qa (And.intro (a4.out.1.trans (bQ.tb y1 y2)) y3);clear y1 y2 y3 k2 d6 R a4 d1 Htk C11;go_wp2_with fail;refine Za m3 ?_;rintro e w7 ⟨rfl,h1,h2,h3⟩;have R7:=Qa (And.intro h1 (And.intro h2 h3));clear h1 h2 h3;go_wp2_with fail;go_end0;refine⟨rfl,R6.out.1.trans (bQ.rd R7.out.1 R7.out.2.1),?_,bs2,R6.out.2.kp R7.out.2.1 bE⟩;rw[ie];exact R7.out.2.2
   ·have Ho:=Qa ho;have m9:=Qa g4;have n1:=Qa h8;have Hi:=Qa hi;have f0:=Qa c9;have i5:=Qa j0;have Hl:=Qa hl;clear ho g4 h8 hi c9 j0 hl;have d14:=ac b1.out.row (j:=14) (u:=.int .i64 want) rfl;obtain⟨g,q,b2,cg,hq⟩:=b1.out.topKind;rw[Ho.out] at cg;simp only[Bool.false_eq_true,if_false,if_true] at cg;subst b2;obtain⟨m,hm⟩:∃m,fs.length=m:=⟨_,rfl⟩;rw[hm] at cg hq;have l0:m<=1000000000:=by rw[<-hm];exact Hl.out
    have c12:=ac b1.out.row (j:=12) (u:=.slice (some ⟨g,0,none⟩) (m+1) q) (by rw[<-hm];rfl);have s1:IntKind.i64.wrap (m:Int)= (m:Int):=IntWalk.i64_in _ (by omega);have f4:(m:Int)< (m:Int)+1:=by omega
    have Hm:=Qa hm;have Hq:=Qa hq;clear hm d14 hq;go_wp2_with fail;go_quiet (fail);have a1:=ap (Ze wr.heap.size wr) nq;obtain⟨w2,h5⟩:∃w2,wr.drewN nq=w2:=⟨_,rfl⟩;rw[h5] at a1 ⊢;have d9:=Qa (b1.out.below a1);have b8:=Qa (b3.out.below a1);have c5:=Qa (e0.out.trans (bQ.new a1 b4));clear a1 h5 c12 cg e1;go_wp2_with fail;obtain⟨b0,maps9,q0⟩:∃b m',maps=b::m':=by
     have f9:=d9.out.seen;simp only[List.filter_cons,Ho.out,if_true] at f9
     cases maps with
     |nil=>have:=f9.1;simp at this
     |cons b m'=>exact⟨b,m',rfl⟩
    subst q0;obtain⟨A13,q13,l2,k0,-,k4⟩:=ag d9.out.names;subst l2;obtain⟨g13,m4⟩:=k4 (by simp);subst m4;obtain⟨n9,l1⟩:∃n,maps9.length=n:=⟨_,rfl⟩;have m5:n9<=m:=by
     have h1:=d9.out.seen.1;have h2:=List.length_filter_le (fun g:Fr=>g.obj) fs;simp only[List.filter_cons,Ho.out,if_true,List.length_cons] at h1;have:=Hm.out;omega
    have c2:=Zc HB.out c5.out.b.size;obtain⟨wb,hwb⟩:∃wb,w2.drew=wb:=⟨_,rfl⟩;have k3:Below w2.heap.size w2 wb:=by rw[<-hwb];exact(Ze _ _).drew
    have e2:=d9.out.below k3;have C13:=Qa (ac e2.row (j:=13) (u:=.slice (some ⟨g13,0,none⟩) (n9+1) q13) (by rw[<-l1];rfl));have c13s:=C13.out;have f13:=al e2.row 13;have s9:IntKind.i64.wrap (n9:Int)= (n9:Int):=IntWalk.i64_in _ (by omega);have k8:(n9:Int)<=q13:=by rw[List.length_cons] at k0;omega
    have d4:wb.ownsRow B 308 1 (.slice (some ⟨g13,0,none⟩) n9 q13) maps9.length (maps9.reverse.map t7):=by
     have:=e2.names;rw[List.length_cons,List.reverse_cons,List.map_append] at this;rw[<-l1];exact pC this (by simp)
    have g0:=Qa (e2.b.setNames (Zc c2 k3.size) (aP.refl (fun _=>False) wb) (fun _ h=>h.elim) (maps':=maps9) (nfr':=fs) (nv':=.slice (some ⟨g13,0,none⟩) n9 q13) d4 (List.nodup_cons.1 e2.nodup).2 (fun w10 hk _=>by
     have f9:=e2.seen;simp only[List.filter_cons,Ho.out,if_true] at f9;refine iV.seens (nfr:=fs) ⟨by simpa using f9.1,fun i x y q1 q2=>f9.2 (i+1) x y (by simpa using q1) (by simpa using q2)⟩ hk))
    have d5:=Qa (b8.out.below k3);have i4:=Qa (c5.out.trans (bQ.new k3 c2));clear d4 e2 k3 c2 k0 k4 m5 l1;refine cC (fun w9=>w9.cell? ⟨rb,13,none⟩=some (.slice (some ⟨g13,0,none⟩) (n9+1) q13)) 14 ((by rw[hwb];exact C13.out)) fun a0=>?_
    rw[hwb] at a0 ⊢;clear hwb;refine tR 0 a0 ?_;refine tR 1 a0 ?_;refine tR 2 a0 ?_;refine tR 3 a0 ?_;refine tR 4 a0 ?_;refine tR 5 a0 ?_
    try simp only[Act.put,jP,jQ,jR]
    refine tR 6 a0 ?_;refine tR 7 a0 ?_;refine tR 8 a0 ?_;refine tR 9 a0 ?_;refine tR 10 a0 ?_;refine tR 11 a0 ?_
    try simp only[Act.put,jP,jQ,jR]
    refine tR 12 a0 ?_;refine tR 13 a0 ?_
    try simp only[Act.put,jP,jQ,jR]
    refine rZ 14 fun K hK=>?_
    go_simp;refine hK.out _ _ (fun h=>absurd rfl h) (fun _=>?_);clear hK K
    try simp only[Act.put,jP,jQ,jR]
    refine aK (by kernel_rfl) (NoPanic.normal ?_) _;clear a0 c13s f13 s9 k8;obtain⟨w3,i2⟩:∃w3,wb.setCell ⟨rb,13,none⟩ (.slice (some ⟨g13,0,none⟩) n9 q13)=w3:=⟨_,rfl⟩;rw[i2] at g0 ⊢;have k6:=Qa (show ∃by_ dp ex ov nv maps,iV B w3 rb lb xb v xs (f::fs) fs want k nd false by_ dp ex ov nv maps from⟨_,_,_,_,_,_,g0.out.2.2⟩);have c6:=Qa (d5.out.kp g0.out.2.1 bE);have g2:=Qa (i4.out.trans (bQ.rd g0.out.1 g0.out.2.1));clear i2 g0 d5 i4 d9 b8 c5;go_wp2_with fail;obtain⟨by3,dp3,ex3,ov3,nv3,maps3,f1⟩:=k6.out;obtain⟨g3,q3,b2,-,n3⟩:=f1.topOpen;subst b2;have e3:=Zc HB.out g2.out.b.size;obtain⟨w4,c8⟩:∃w4,w3.drew=w4:=⟨_,rfl⟩;have c1:Below w3.heap.size w3 w4:=by rw[<-c8];exact(Ze _ _).drew
    have a3:=f1.below c1;have C12:=Qa (ac a3.row (j:=12) (u:=.slice (some ⟨g3,0,none⟩) (m+1) q3) (by rw[<-Hm.out];rfl));have f12:=al a3.row 12;have n2:(m:Int)<=q3:=by have:=Hm.out;omega
    have c3:w4.ownsRow B 3 1 (.slice (some ⟨g3,0,none⟩) m q3) fs.length (fs.reverse.map fD):=by
     have:=a3.opens;rw[List.length_cons,List.reverse_cons,List.map_append] at this;rw[<-Hm.out];exact pC this (by simp)
    have b9:=Qa (a3.setOpen (Zc e3 c1.size) (aP.refl (fun _=>False) w4) (fun _ h=>h.elim) (ofr':=fs) (ov':=.slice (some ⟨g3,0,none⟩) m q3) c3);have f6:=Qa (c6.out.below c1);have c7:=Qa (g2.out.trans (bQ.new c1 e3));have c12s:=C12.out;clear f1 a3 c3 c1 e3 n3;refine cC (fun w9=>w9.cell? ⟨rb,12,none⟩=some (.slice (some ⟨g3,0,none⟩) (m+1) q3)) 14 ((by rw[c8];exact C12.out)) fun a0=>?_
    rw[c8] at a0 ⊢;clear c8;refine tR 0 a0 ?_;refine tR 1 a0 ?_;refine tR 2 a0 ?_;refine tR 3 a0 ?_;refine tR 4 a0 ?_;refine tR 5 a0 ?_
    try simp only[Act.put,jP,jQ,jR]
    refine tR 6 a0 ?_;refine tR 7 a0 ?_;refine tR 8 a0 ?_;refine tR 9 a0 ?_;refine tR 10 a0 ?_;refine tR 11 a0 ?_
    try simp only[Act.put,jP,jQ,jR]
    refine tR 12 a0 ?_;refine tR 13 a0 ?_
    try simp only[Act.put,jP,jQ,jR]
    refine rZ 14 fun K hK=>?_
    go_simp;refine hK.out _ _ (fun h=>absurd rfl h) (fun _=>?_);clear hK K
    try simp only[Act.put,jP,jQ,jR]
    refine aK (by kernel_rfl) (NoPanic.normal ?_) _;clear a0 c12s f12;obtain⟨w5,i0⟩:∃w5,w4.setCell ⟨rb,12,none⟩ (.slice (some ⟨g3,0,none⟩) m q3)=w5:=⟨_,rfl⟩;rw[i0] at b9 ⊢;have g5:=iV.a (frs:=fs) (b9.out.2.2);have e5:=Qa (f6.out.kp b9.out.2.1 bE);have i9:=Qa (c7.out.trans (bQ.rd b9.out.1 b9.out.2.1));clear i0;go_wp2_with fail;obtain⟨wq,a5⟩:∃wq,w5.drew=wq:=⟨_,rfl⟩;have a1:Below w5.heap.size w5 wq:=by rw[<-a5];exact(Ze _ _).drew
    have f7:=Zc HB.out i9.out.b.size;have a9:=g5.s.below a1;have d1:=Qa (dj a9 (by have:=Hl.out;omega));have Htk:=Qa (nA (lv:=(fs.length:Int)+1) (by omega) (e5.out.below a1) Ho.out m9.out n1.out Hi.out f0.out i5.out (Zc f7 a1.size));obtain⟨by2,dp2,ex2,ov2,nv2,maps2,c0⟩:=id a9;have C11:=Qa (ac c0.row (j:=11) (u:=.func (.func 114) #[.pointer (some ⟨xb,0,none⟩)] #[]) rfl);have a4:=Qa (And.intro (i9.out.trans (bQ.new a1 f7)) a9);clear a1 a9 c0 g5 f7;refine cC (fun w9=>w9.cell? ⟨rb,11,none⟩=some (.func (.func 114) #[.pointer (some ⟨xb,0,none⟩)] #[])) 9 ((by rw[a5];exact C11.out)) fun a0=>?_
    rw[a5] at a0 ⊢;clear a5;refine tR 0 a0 ?_;refine tR 1 a0 ?_;refine tR 2 a0 ?_;refine tR 3 a0 ?_;refine tR 4 a0 ?_;refine tR 6 a0 ?_
    try simp only[Act.put,jP,jQ,jR]
    refine rZ 5 fun K hK=>?_
    go_simp;refine Za d1 ?_;rintro e w' ⟨rfl,rfl⟩;go_wp2_with fail;refine hK.out _ _ (fun _=>a0) (fun a0=>?_);clear hK K;have a0:=a0 (by decide)
    try simp only[Act.put,jP,jQ,jR]
    refine tR 7 a0 ?_;refine tR 8 a0 ?_
    try simp only[Act.put,jP,jQ,jR]
    refine rZ 9 fun K hK=>?_
    go_simp;refine Za Htk ?_;rintro e w6 ⟨rfl,h1,h2,h3⟩;have R:=Qa (And.intro h1 (And.intro h2 h3));clear h1 h2 h3;go_wp2_with fail;refine hK.out _ _ (fun h=>absurd rfl h) (fun _=>?_);clear hK K
    try simp only[Act.put,jP,jQ,jR]
    refine aK (by kernel_rfl) (NoPanic.normal ?_) _;obtain⟨y1,y2,bs2,y3⟩:=R.out;have k2:=(a4.out.2.tb y2).put (fun f fs e=>(i5.out.2 f fs e).1) (cK f);have d6:B<=w6.heap.size:=Zc (Zc HB.out a4.out.1.b.size) y1.size;have m3:=Qa (iB k2 d6 (by rw[jX];have:=Hl.out;omega));have R6:=Qa (And.intro (a4.out.1.trans (bQ.tb y1 y2)) y3);clear y1 y2 y3 k2 d6 R a4 d1 Htk C11;go_wp2_with fail;refine Za m3 ?_;rintro e w7 ⟨rfl,h1,h2,h3⟩;have R7:=Qa (And.intro h1 (And.intro h2 h3));clear h1 h2 h3;go_wp2_with fail;go_end0;refine⟨rfl,R6.out.1.trans (bQ.rd R7.out.1 R7.out.2.1),?_,bs2,R6.out.2.kp R7.out.2.1 bE⟩;rw[ie];exact R7.out.2.2
