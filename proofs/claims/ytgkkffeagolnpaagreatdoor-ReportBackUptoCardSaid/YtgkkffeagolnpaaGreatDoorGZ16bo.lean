import Derived.Test.YtgkkffeagolnpaaGreatDoorGZ16bn
set_option linter.unusedVariables false
set_option linter.unusedSimpArgs false
set_option maxHeartbeats 64000000
set_option maxRecDepth 100000
namespace Go.Proofs.YtgkkffeagolnpaaGreatDoor
open Go.RowKit Go.Shelf
variable {aE aU:Addr}{f:Fr}{j:JV}{frs fs:List Fr}{xs ys:List UInt8}{B lb n nd p rb s1 s2 want xb:Nat}{v x:Value}{w w' w0 wr:World}
theorem sk {k:Nat}{T:lx}{t:TypeId}(hv:eV p T =.iface t x)(hw:want≠0/\want≠1)(hR:gK B w rb lb xb v xs frs want k nd false)(hS:aO w 5):Calls Tryz.prog 170 #[.pointer (some ⟨rb,0,none⟩),.iface t x] w (tq w):=by
 obtain⟨by_,dp,ex,ov,nv,maps,hA⟩:=hR;have c14:=ac hA.row (j:=14) (u:=.int .i64 want) rfl;have h0:((want:Int)==0)=false:=by rw[beq_eq_false_iff_ne];omega
 have h1:((want:Int)==1)=false:=by rw[beq_eq_false_iff_ne];omega
 have h2:((want:Int) !=0)=true:=by simp[bne,h0]
 have h3:((want:Int) !=1)=true:=by simp[bne,h1]
 have a0:=Qa (oJ hv hS);clear hA hv hw hS;go_enter Tryz.func170,Tryz.ntmps170;go_wp2_with fail;refine Za a0 ?_;rintro e w' ⟨t,x,rfl,hb⟩;have Hb:=Qa hb;clear hb;go_wp2_with fail;exact⟨rfl,_,_,rfl,Hb.out⟩
theorem Bl {k:Nat}{c:UInt8}(hM:iE w)(hw:want<8)(a0:px want c=false)(hR:gK B w rb lb xb v xs frs want k nd false)(hS:aO w 5):Calls Tryz.prog 168 #[.pointer (some ⟨rb,0,none⟩),.agg #[.int .i64 p,.int .u8 c.toNat]] w (tq w):=by
 have a2:=aa w (.cells #[.int .i64 p,.int .u8 c.toNat] 293);obtain⟨w1,b4⟩:∃w1,w.alloc (.cells #[.int .i64 p,.int .u8 c.toNat] 293)=w1:=⟨_,rfl⟩;have a1:=Qa (Zf w (.cells #[.int .i64 p,.int .u8 c.toNat] 293));rw[b4] at a2 a1;have HR:=Qa (hR.below a2);have HM:=Qa (hM.below a2);have b5:=Qa a2;obtain⟨by_,dp,ex,ov,nv,maps,hA⟩:=HR.out;have HA:=Qa hA;have c14:=ac hA.row (j:=14) (u:=.int .i64 want) rfl;have m0:=HM.out want hw;rw[AO] at a0;obtain⟨L,hL⟩:∃L,rl want=L:=⟨_,rfl⟩;have b2:L.length<=3:=by rw[<-hL];have:∀i,i<8->(rl i).length<=3:=(by decide);exact this want hw
 rw[hL] at m0 a0;have a9:=Qa a0;have a5:=Qa (show((⟨L.toArray⟩:ByteArray)).size=L.length by simp[ByteArray.size]);have b1:(want:Int)<8:=by omega
 clear hM hR a2 hA hL a0 hw;go_enter Tryz.func168,Tryz.ntmps168;go_wp2_with fail
 go_loopg [4,14] L.length (fun m s4 s14 wr=> ∃i:Nat,m+i=L.length/\s14 =.int .i64 i/\s4 =.bool ((L.take i).contains c)/\Below w1.heap.size w1 wr)
 case atStart=>exact⟨0,rfl,rfl,rfl,Ze _ _⟩
 case round=>
  obtain⟨i,a3,rfl,rfl,hb⟩:=hrel;have Hb:=Qa hb;have Hmi:=Qa a3;have d14:=Zg hb c14;have n0:=Zg hb m0;have b8:=a5.out
  by_cases hlt:i<L.length
  ·obtain⟨y,hy⟩:∃y,L[i]?=some y:=⟨_,Zd hlt⟩;have a4:(i:Int)<L.length:=by omega
   have e1:=Zg hb (ac a1.out (j:=1) (u:=.int .u8 c.toNat) rfl);have b9:∀w',(Instr.index 9 (.string ⟨L.toArray⟩) (.int .i64 (i:Int))).run Tryz.prog w' =.ok (.int .u8 y.toNat) w':=fun w'=>ff (s:=⟨L.toArray⟩) (by simpa using hy) w'
   have Htk:=Qa (iR (c:=c) hy);have hyc:((y.toNat:Int)== (c.toNat:Int))= (c==y):=by
    rw[Bool.eq_iff_iff];simp only[beq_iff_eq];exact⟨fun h=>UInt8.toNat_inj.1 (by omega),fun h=>by rw[h]⟩
   have c0:0+0=0:=rfl;clear hb a3 hlt hy c14 m0
   cases hok:(L.take i).contains c
   all_goals
    go_wp2_with fail;go_quiet (fail);go_wp2_with fail;go_roundg (L.length - (i+1))
    case measure=>have:=Hmi.out;omega
    case rel=>exact⟨i+1,by have:=Hmi.out;omega,by go_num,by rw[Htk.out,hok];simp[hyc],ap Hb.out _⟩
  ·obtain rfl:i=L.length:=by omega
   have a4:¬ (L.length:Int)<L.length:=by omega
   have hok:(L.take L.length).contains c=false:=by rw[List.take_length];exact a9.out
   rw[hok];have e0:=Zg hb (ac a1.out (j:=0) (u:=.int .i64 p) rfl);have e1:=Zg hb (ac a1.out (j:=1) (u:=.int .u8 c.toNat) rfl);have b0:=Qa (aj b5.out hb);have b3:=Qa (oJ (k:=p) (T:=.mark c) (w:=wr) rfl (hS.below b0.out));clear hb a3 hlt c14 m0 d14 n0 b8 hok b1 b2 a9 a5 HM HR HA a1;go_wp2_with fail;refine Za b3 ?_;rintro e w' ⟨t,x,rfl,hb⟩;have Hb:=Qa (aj b0.out hb);clear hb;go_wp2_with fail;exact⟨rfl,_,_,rfl,Hb.out⟩
theorem Dm {k:Nat}{s:ByteArray}{p:Int}(hR:gK B w rb lb xb v xs (f::fs) want k nd false)(ho:f.obj=true)(c9:f.name=none)(b3:s∈f.mems.map Prod.fst)(hs:s.size<=4294967296)(hl:fs.length<=1000000000)(hm:f.mems.length<=1000000000)(hT:aO w 6):Calls Tryz.prog 169 #[.pointer (some ⟨rb,0,none⟩),.agg #[.int .i64 p,.string s]] w (tq w):=by
 have a5:=aa w (.cells #[.int .i64 p,.string s] 296);obtain⟨w1,b1⟩:∃w1,w.alloc (.cells #[.int .i64 p,.string s] 296)=w1:=⟨_,rfl⟩;have a3:=Qa (Zf w (.cells #[.int .i64 p,.string s] 296));rw[b1] at a5 a3;obtain⟨by_,dp,ex,ov,nv,maps,hA⟩:=hR.below a5;have a1:=hA.seen;simp only[List.filter_cons,ho,if_true] at a1
 cases maps with
 |nil=>have:=a1.1;simp at this
 |cons b maps=>
 obtain⟨c4,l,n,b2,hn,b9⟩:=a1.2 0 b f rfl rfl;have b4:l.any (fun t=>decide (t=s))=true:=List.any_eq_true.2 ⟨s,(b9 s).2 (by simp only[fJ,c9,Option.toList_none,List.nil_append];exact b3),decide_eq_true rfl⟩;have a4:=hA.names;obtain⟨A,q,rfl,-,-,b8⟩:=ag a4;obtain⟨g,rfl⟩:=b8 (by simp);obtain⟨m,a9⟩:∃m,maps.length=m:=⟨_,rfl⟩;rw[List.length_cons,a9] at a4;have cg:=World.ownsRow.cellAt a4 m (by omega);rw[List.reverse_cons,List.map_append,List.getElem?_append_right (by simp;omega),List.length_map,List.length_reverse,a9,Nat.sub_self] at cg;replace cg:w1.cell? ⟨g,m,none⟩=some (.map (some b)):=cg;have c7:m<=fs.length:=by
  have h1:=a1.1;have h2:=List.length_filter_le (fun g:Fr=>g.obj) fs;simp at h1;omega
 have c13:=ac hA.row (j:=13) (u:=.slice (some ⟨g,0,none⟩) (m+1) q) (by rw[<-a9];rfl);have e1:=ac a3.out (j:=1) (u:=.string s) rfl;have s1:IntKind.i64.wrap (m:Int)= (m:Int):=IntWalk.i64_in _ (by omega);have c6:(m:Int)< (m:Int)+1:=by omega
 have b5:=Qa a5;have c0:=Qa b2;have c3:=Qa b4;have c2:=Qa (show s.size<=maxLen by unfold maxLen;omega);clear hA hR a1 b2 hn b9 b4 a4 b8 a9 c7 a5 hs c4 b3 hm hl;obtain⟨aT,hT⟩:=hT;have c5:=Qa (Zg b5.out hT);go_enter Tryz.func169,Tryz.ntmps169;go_wp2_with fail
 try rw[b1]
 go_quiet (fail);obtain⟨wd,hwd⟩:∃wd,w1.drewN nq=wd:=⟨_,rfl⟩;have a0:Below w1.heap.size w1 wd:=by rw[<-hwd];exact ap (Ze _ _) nq
 have e0:=Zg a0 (ac a3.out (j:=0) (u:=.int .i64 p) rfl);have d0:=Zg a0 c5.out;have c8:=Qa (ah a3.out a0);have e2:=Zg a0 e1;have b0:=Qa (c0.out.kp (Kp.of_below (fun _=>False) a0));have a2:=b0.out.look c2.out;rw[c3.out] at a2;have c1:=Qa (aj b5.out a0);rw[hwd];clear c13 cg e1 a0 hwd b1;go_wp2_with fail;refine(ir _ _ _).mono ?_;rintro e w' ⟨t,x,rfl,hb⟩;have Hb:=Qa (aj c1.out (aj (aa _ _) hb));clear hb;go_wp2_with fail;exact⟨rfl,_,_,rfl,Hb.out⟩
structure gY (w:World):Prop where
 tok:aO w 18
 syn:aO w 5
 twi:aO w 6
theorem gY.below (h:gY w)(hb:Below w.heap.size w w'):gY w':=⟨h.tok.below hb,h.syn.below hb,h.twi.below hb⟩
def ld (B:Nat)(w:World)(e:Ending)(w':World):Prop:= ∃t x,e =.panicked [{v:=.iface 231 (.agg #[.iface t x]),recovered:=false}]/\bQ B w w'
section
variable {rb lb xb k nd:Nat}{v:Value}{xs:List UInt8}{c:bR}{w0 w:World}{aU aE:Addr}
theorem Bv (h:cY w0 rb lb xb v xs c k nd w aU aE)(hd:(xs.drop k).dropWhile bA = [])(hw:c.want≠7):Calls Tryz.prog 139 #[.pointer (some ⟨rb,0,none⟩)] w (ld w0.heap.size w):=by
 obtain⟨by_,dp,ex,ov,nv,maps,hA⟩:=h.ps.1;have c0:=ac hA.row (j:=0) (u:=.pointer (some ⟨lb,0,none⟩)) rfl;have b1:=Qa (kZ (h.env.below h.below) hA.lex hA.le h.len hd);have HA:=Qa hA;have H:=Qa h;obtain⟨want,b0⟩:∃n,c.want=n:=⟨_,rfl⟩;have h7:((want:Int)==7)=false:=by rw[beq_eq_false_iff_ne];omega
 have b5:((want:Int) !=7)=true:=by simp[bne,h7]
 have q1:=Bp;clear hA h hd hw;go_enter Tryz.func139,Tryz.ntmps139;go_wp2_with fail;refine Za b1 ?_;rintro e w1 ⟨rfl,a5,a3⟩;obtain⟨a4,a9⟩:=HA.out.lexed a5 a3 (Zb _);have a1:Below w0.heap.size w w1:=a3.below H.out.below.size fun i e=>by rw[e];exact HA.out.llow
 have a2:=Zc H.out.below.size a1.size;have a0:=aa w1 (.cells #[.int .i64 xs.length] 291);have c14:=ac (a4.below a0).row (j:=14) (u:=.int .i64 want) (by rw[<-b0];rfl);have b4:=Qa ((bQ.rd a1 a9).trans (bQ.new a0 a2));have hE:=Zg ((H.out.below.trans a1).trans (a0.mono a2)) H.out.env.glob.e;unfold b6 at hE;have b3:=Qa (Zc a2 a0.size);clear a5 a3 a4 a9 a1 a2 a0 c0 b1 b0;go_wp2_with fail;refine(ir _ _ _).mono ?_;rintro e w' ⟨t,x,rfl,hb⟩;have b2:=Qa (b4.out.trans (bQ.new (aj (aa _ _) hb) b3.out));clear hb;go_wp2_with fail;exact⟨rfl,_,_,rfl,b2.out⟩
theorem Df (h:cY w0 rb lb xb v xs c k nd w aU aE)(hT:gY w0){y:UInt8}(hd:(xs.drop k).dropWhile bA=y::ys)(hx:bK (y::ys)=none):Calls Tryz.prog 139 #[.pointer (some ⟨rb,0,none⟩)] w (ld w0.heap.size w):=by
 obtain⟨by_,dp,ex,ov,nv,maps,hA⟩:=h.ps.1;have c0:=ac hA.row (j:=0) (u:=.pointer (some ⟨lb,0,none⟩)) rfl;have a3:=Qa (qc (h.env.below h.below) (hT.below h.below).tok hA.lex hA.le h.len hd hx);have Hs:=Qa h.below.size;clear hA h hd hx hT;go_enter Tryz.func139,Tryz.ntmps139;go_wp2_with fail;refine Za a3 ?_;rintro e w1 ⟨t1,x1,rfl,a0⟩;have a2:=Qa a0;clear a0;go_wp2_with fail;refine(ir _ _ _).mono ?_;rintro e w' ⟨t,x,rfl,hb⟩;have a1:=Qa (bQ.new (aj a2.out hb) Hs.out);clear hb;go_wp2_with fail;exact⟨rfl,_,_,rfl,a1.out⟩
theorem ra (h:cY w0 rb lb xb v xs c k nd w aU aE)(hT:gY w0){y:UInt8}(hd:(xs.drop k).dropWhile bA=y::ys){x:UInt8}(hx:bK (y::ys)=some (.mark x,n))(hm:px c.want x=false) :
  Calls Tryz.prog 139 #[.pointer (some ⟨rb,0,none⟩)] w (ld w0.heap.size w):=by
 obtain⟨by_,dp,ex,ov,nv,maps,hA⟩:=h.ps.1;have c0:=ac hA.row (j:=0) (u:=.pointer (some ⟨lb,0,none⟩)) rfl;have a9:=Qa (h.next hd hx);have H:=Qa h;have Hm:=Qa hm;have HT:=Qa hT;have q1:=wT;have q2:=kT;clear h hd hx hm hA hT;go_enter Tryz.func139,Tryz.ntmps139;go_wp2_with fail;refine Za a9 ?_;rintro e w1 ⟨rfl,hL⟩;have a0:=aa w1 (.cells #[.int .i64 (xs.length - (ys.length+1):Nat),.int .u8 x.toNat] 293);have a1:=Zc H.out.below.size hL.below.size;have a2:=(H.out.below.trans hL.below).trans (a0.mono a1);have a5:=Qa (Bl (p:=xs.length - (ys.length+1)) (H.out.may.below a2) (xg H.out.ok.want) Hm.out (hL.ps.1.below a0) (HT.out.below a2).syn);have a4:=Qa ((bQ.rd hL.below hL.kp).trans (bQ.new a0 a1));have a3:=Qa (Zc a1 a0.size);clear hL a0 a1 c0 a9 a2;obtain⟨z,hz⟩:∃z:Int,((xs.length - (ys.length+1):Nat):Int)=z:=⟨_,rfl⟩;rw[show eV (xs.length - (ys.length+1)) (.mark x) =.iface 293 (.agg #[.int .i64 (xs.length - (ys.length+1):Nat),.int .u8 x.toNat]) from rfl];rw[hz] at a5 a4 a3 ⊢;clear hz;go_wp2_with fail;refine Za a5 ?_;rintro e w' ⟨t,x,rfl,hb⟩;have b0:=Qa (a4.out.trans (bQ.new hb a3.out));clear hb;go_wp2_with fail;exact⟨rfl,_,_,rfl,b0.out⟩
theorem sG (hw:want=2\/want=3)(h:cY w0 rb lb xb v xs ⟨f::fs,want,none⟩ k nd w aU aE)(hT:gY w0)(ho:f.obj=true)(hn:f.name=none){y:UInt8}(hd:(xs.drop k).dropWhile bA=y::ys){s:ByteArray}(hx:bK (y::ys)=some (.str s,n))(b3:s∈f.mems.map Prod.fst) :
  Calls Tryz.prog 139 #[.pointer (some ⟨rb,0,none⟩)] w (ld w0.heap.size w):=by
 obtain⟨by_,dp,ex,ov,nv,maps,hA⟩:=h.ps.1;have c0:=ac hA.row (j:=0) (u:=.pointer (some ⟨lb,0,none⟩)) rfl;have b4:=Qa (h.next hd hx);have H:=Qa h;have HT:=Qa hT;have a5:dd s:=me (by have h1:=bV (xs.drop k);rw[hd,List.length_drop] at h1;have:=h.len;omega) hx;have b2:=h.cnt;have c1:=iA f fs;have b9:=Qa a5;have b8:=Qa b3;have q1:=mE;have q2:=fT;have q3:=eT;have a9:=Qa (show fs.length<=1000000000/\f.mems.length<=1000000000 by simp only at b2;omega);clear h hd hx hA a5 b3 b2 c1 hT;rcases hw with rfl|rfl
 all_goals
  go_enter Tryz.func139,Tryz.ntmps139;go_wp2_with fail;refine Za b4 ?_;rintro e w1 ⟨rfl,hL⟩;have a0:=aa w1 (.cells #[.int .i64 (xs.length - (ys.length+1):Nat),.string s] 296);have a1:=Zc H.out.below.size hL.below.size;have a2:=hL.ps.1.below a0;have a4:=Qa (Dm (p:=(xs.length - (ys.length+1):Nat)) a2 ho hn b8.out b9.out.2 a9.out.1 a9.out.2 (HT.out.below ((H.out.below.trans hL.below).trans (a0.mono a1))).twi);have b1:=Qa ((bQ.rd hL.below hL.kp).trans (bQ.new a0 a1));have a3:=Qa (Zc a1 a0.size);obtain⟨by9,dp9,ex9,ov9,nv9,maps9,b0⟩:=a2;have c14:=ac b0.row (j:=14) rfl;simp only[bI] at c14;clear hL a0 a1 c0 b4 b0;obtain⟨z,hz⟩:∃z:Int,((xs.length - (ys.length+1):Nat):Int)=z:=⟨_,rfl⟩;rw[show eV (xs.length - (ys.length+1)) (.str s) =.iface 296 (.agg #[.int .i64 (xs.length - (ys.length+1):Nat),.string s]) from rfl];rw[hz] at a4 b1 a3 c14 ⊢;clear hz;go_wp2_with fail;refine Za a4 ?_;rintro e w' ⟨t,x,rfl,hb⟩;have b5:=Qa (b1.out.trans (bQ.new hb a3.out));clear hb;go_wp2_with fail;exact⟨rfl,_,_,rfl,b5.out⟩
theorem tu (h:cY w0 rb lb xb v xs c k nd w aU aE)(hT:gY w0){y:UInt8}(hd:(xs.drop k).dropWhile bA=y::ys){s:ByteArray}(hx:bK (y::ys)=some (.str s,n))(hw:¬ (c.want=2\/c.want=3)/\c.want≠0/\c.want≠1) :
  Calls Tryz.prog 139 #[.pointer (some ⟨rb,0,none⟩)] w (ld w0.heap.size w):=by
 obtain⟨by_,dp,ex,ov,nv,maps,hA⟩:=h.ps.1;have c0:=ac hA.row (j:=0) (u:=.pointer (some ⟨lb,0,none⟩)) rfl;have b0:=Qa (h.next hd hx);have H:=Qa h;have HT:=Qa hT;have Hw:=Qa hw.2;have q1:=mE;have q2:=fT;have q3:=eT;have h2:((c.want:Int)==2)=false:=by rw[beq_eq_false_iff_ne];omega
 have h3:((c.want:Int)==3)=false:=by rw[beq_eq_false_iff_ne];omega
 clear h hd hx hA hw hT;go_enter Tryz.func139,Tryz.ntmps139;go_wp2_with fail;refine Za b0 ?_;rintro e w1 ⟨rfl,hL⟩;have a0:=aa w1 (.cells #[.int .i64 (xs.length - (ys.length+1):Nat),.string s] 296);have a1:=Zc H.out.below.size hL.below.size;have a2:=hL.ps.1.below a0;have a4:=Qa (sk (p:=xs.length - (ys.length+1)) (T:=.str s) rfl Hw.out a2 (HT.out.below ((H.out.below.trans hL.below).trans (a0.mono a1))).syn);have a9:=Qa ((bQ.rd hL.below hL.kp).trans (bQ.new a0 a1));have a3:=Qa (Zc a1 a0.size);obtain⟨by9,dp9,ex9,ov9,nv9,maps9,a5⟩:=a2;have c14:=ac a5.row (j:=14) (u:=.int .i64 c.want) rfl;clear hL a0 a1 c0 b0 a5;obtain⟨z,hz⟩:∃z:Int,((xs.length - (ys.length+1):Nat):Int)=z:=⟨_,rfl⟩;rw[show eV (xs.length - (ys.length+1)) (.str s) =.iface 296 (.agg #[.int .i64 (xs.length - (ys.length+1):Nat),.string s]) from rfl];rw[hz] at a4 a9 a3 c14 ⊢;clear hz;go_wp2_with fail;refine Za a4 ?_;rintro e w' ⟨t,x,rfl,hb⟩;have b1:=Qa (a9.out.trans (bQ.new hb a3.out));clear hb;go_wp2_with fail;exact⟨rfl,_,_,rfl,b1.out⟩
theorem qJ (h:cY w0 rb lb xb v xs c k nd w aU aE)(hT:gY w0){y:UInt8}(hd:(xs.drop k).dropWhile bA=y::ys)(hx:bK (y::ys)=some (.leaf j,n))(hw:c.want≠0/\c.want≠1) :
  Calls Tryz.prog 139 #[.pointer (some ⟨rb,0,none⟩)] w (ld w0.heap.size w):=by
 obtain⟨by_,dp,ex,ov,nv,maps,hA⟩:=h.ps.1;have c0:=ac hA.row (j:=0) (u:=.pointer (some ⟨lb,0,none⟩)) rfl;have a4:=Qa (h.next hd hx);have H:=Qa h;have HT:=Qa hT;have Hw:=Qa hw;have a1:=kl hx;obtain⟨tt,tx,a3,b4,b3,b2⟩:∃tt tx,eV (xs.length - (ys.length+1)) (.leaf j) =.iface tt tx/\(∀W,(Instr.typeAssert (.iface tt tx) 287 291 true).run Tryz.prog W =.ok (.tuple #[.agg #[.int .i64 0],.bool false]) W)/\
   (∀W,(Instr.typeAssert (.iface tt tx) 287 293 true).run Tryz.prog W =.ok (.tuple #[.agg #[.int .i64 0,.int .u8 0],.bool false]) W)/\(∀W,(Instr.typeAssert (.iface tt tx) 287 296 true).run Tryz.prog W =.ok (.tuple #[.agg #[.int .i64 0,.string ⟨#[]⟩],.bool false]) W):=by
  cases a1 with
  |null=>exact⟨_,_,rfl,eU _,eh _,dh _⟩
  |bool b=>exact⟨_,_,rfl,eU _,eh _,dh _⟩
  |num d hd=>exact⟨_,_,rfl,mF _,kO _,mC _⟩
 have a0:=Qa a3;clear h hd hx hA a1 hw a3 hT;go_enter Tryz.func139,Tryz.ntmps139;go_wp2_with fail;refine Za a4 ?_;rintro e w1 ⟨rfl,hL⟩;have a2:=Zc H.out.below.size hL.below.size;have b0:=Qa (sk a0.out Hw.out hL.ps.1 (HT.out.below (H.out.below.trans hL.below)).syn);have b1:=Qa (bQ.rd hL.below hL.kp);have a9:=Qa a2;rw[a0.out];clear hL a2 c0 a4;go_wp2_with fail;refine Za b0 ?_;rintro e w' ⟨t,x,rfl,hb⟩;have a5:=Qa (b1.out.trans (bQ.new hb a9.out));clear hb;go_wp2_with fail;exact⟨rfl,_,_,rfl,a5.out⟩
theorem vW {x:UInt8}(h:c.ok dd)(hs:bH c (.mark x)=none):px c.want x=false:=by
 refine Bool.eq_false_iff.2 fun hm=>?_
 obtain⟨frs,want,done⟩:=c;obtain⟨h1,h2,h3⟩:=h;simp only at h1 h2 h3 hm;simp only[bH] at hs;rw[if_pos hm] at hs;rcases uk hm with ⟨hx,hw⟩|⟨hx,hw⟩|⟨hx,hw⟩|⟨hx,hw⟩|⟨hx,hw⟩
 ·rcases hx with rfl|rfl <;> simp at hs
 all_goals
  have hf:∃f fs,frs=f::fs:=by
   first
   |(rcases hw with rfl|rfl <;> (obtain⟨-,g,gs,e,-⟩:=h3;exact⟨_,_,e⟩))
   |(subst hw;obtain⟨-,g,gs,e,-⟩:=h3;exact⟨_,_,e⟩)
  obtain⟨f,fs,rfl⟩:=hf;subst hx;simp at hs
theorem Cq (h:cY w0 rb lb xb v xs c k nd w aU aE)(hT:gY w0){y:UInt8}(hd:(xs.drop k).dropWhile bA=y::ys){t:lx}(hx:bK (y::ys)=some (t,n))(hs:bH c t=none) :
  Calls Tryz.prog 139 #[.pointer (some ⟨rb,0,none⟩)] w (ld w0.heap.size w):=by
 cases t with
 |mark x=>exact ra h hT hd hx (vW h.ok hs)
 |leaf j=>
  refine qJ h hT hd hx ?_;simp only[bH] at hs
  split at hs
  ·cases hs
  ·rename_i hw
   exact⟨fun e=>hw (.inl e),fun e=>hw (.inr e)⟩
 |str s=>
  obtain⟨frs,want,done⟩:=c;simp only[bH] at hs
  split at hs
  ·rename_i hw
   have h4:done=none/\∃f fs,frs=f::fs/\f.obj=true/\f.name=none:=by
    have h3:=h.ok.want;rcases hw with rfl|rfl <;> exact h3
   obtain⟨rfl,f,fs,rfl,h5,h6⟩:=h4
   try simp only at hs
   split at hs
   ·rename_i hn
    obtain⟨m,a1,a0⟩:=List.any_eq_true.1 hn;exact sG hw h hT h5 h6 hd hx (List.mem_map.2 ⟨m,a1,by simpa using a0⟩)
   ·cases hs
  ·rename_i hw
   split at hs
   ·cases hs
   ·rename_i hw2
    exact tu h hT hd hx ⟨hw,fun e=>hw2 (.inl e),fun e=>hw2 (.inr e)⟩
end
theorem zR (x:Value)(W:World):(Instr.typeAssert (.iface 231 x) 20 231 true).run Tryz.prog W =.ok (.tuple #[x,.bool true]) W:=by kernel_rfl
def IT (s1 s2:Nat)(v:Value)(w w':World):Prop:=w'.heap[s1]?=some (.cells #[.int .i64 0,.int .i64 0,.int .i64 0,.int .i64 0] 151 (0,0))/\w'.heap[s2]?=some (.cells #[v] 30 (0,0))/\aP (fun k=>k=s1\/k=s2) w w'
theorem vb (hne:s1≠s2)(h1:w.heap[s1]?=some (.cells #[.int .i64 0,.int .i64 0,.int .i64 0,.int .i64 0] 151 (0,0)))(h2:w.heap[s2]?=some (.cells #[.nilIface] 30 (0,0)))(t:TypeId)(x:Value)(older:List PanicEntry) :
  CallsD Tryz.prog 137 #[.pointer (some ⟨s1,0,none⟩),.pointer (some ⟨s2,0,none⟩)] (.panicking ({v:=.iface 231 (.agg #[.iface t x]),recovered:=false}::older)) w fun e u' w'=>
   e =.returned (.tuple #[])/\u' =.panicking ({v:=.iface 231 (.agg #[.iface t x]),recovered:=true}::older)/\IT s1 s2 (.iface t x) w w':=by
 have q1:=zR (.agg #[.iface t x]);have l1:=ak h1;have l2:=ak h2;refine callsD_of_wpS Tryz.func137 rfl fun c₀ cs hu=>?_
 apply wpS_seq
 apply wpS_region
 simp[wpOpsS,go_sem,recoverD,hu,Tryz.ntmps137,Exit.thenS];apply wpS_seq;apply wpS_region;simp[wpOpsS,go_sem,Exit.thenS];refine wpS_cond (t:=true) (by simp[Act.eval,Array.replicate]) ?_;simp only[if_true];refine wpS_of_wp ?_;rw[show(Array.replicate 17 undef:Array Value) = #[undef,undef,undef,undef,undef,undef,undef,undef,undef,undef,undef,undef,undef,undef,undef,undef,undef] from rfl];simp only[List.setIfInBounds_toArray,List.set_cons_zero,List.set_cons_succ,List.append_toArray,List.cons_append,List.nil_append];have HZ:=Qa (Zf w (.cells #[.nilIface] 231));go_wp2_with (refine eX HZ.out ?_);have hg:=aD (w.alloc (.cells #[.nilIface] 231)) w.heap.size #[.iface t x];have hb:=(aa w (.cells #[.nilIface] 231)).grown hg (by simp) (fun g e=>by cases e;exact Zb _);have hc:=ac (setRow_heap (w.alloc (.cells #[.nilIface] 231)) w.heap.size _ #[.iface t x] _ _ HZ.out) (j:=0) (u:=.iface t x) rfl;generalize (w.alloc (.cells #[.nilIface] 231)).setRow w.heap.size #[.iface t x]=w1 at *;clear hg HZ;have Hb:=Qa (show Below w.heap.size w w1.drew from hb.drew);have A1:=Qa (ah h1 Hb.out);have A2:=Qa (ah h2 Hb.out);have a1:=aD w1.drew s1 #[.int .i64 0,.int .i64 0,.int .i64 0,.int .i64 0];have B1:=Qa (setRow_heap w1.drew s1 _ #[.int .i64 0,.int .i64 0,.int .i64 0,.int .i64 0] _ _ A1.out);have B2:=Qa (ay A2.out a1 (fun e=>hne (Zi e)));have a2:=Qa (a1.cell (show w1.drew.cell? ⟨w.heap.size,0,none⟩=some (.iface t x) from hc) (fun e=>by injection e with e;have e:w.heap.size=s1:=e;omega));have a3:=Qa ((aP.of_below (F:=fun k=>k=s1\/k=s2) Hb.out).trans (aP.grown a1) fun i e=>.inl (.inl (Zi e).symm));obtain⟨w3,a4⟩:∃w3,w1.drew.setRow s1 #[.int .i64 0,.int .i64 0,.int .i64 0,.int .i64 0]=w3:=⟨_,rfl⟩;rw[a4] at B1 B2 a2 a3;have c2:=ac B2.out (j:=0) (u:=.nilIface) rfl;have f2:=al B2.out 0;have HC:=Qa (show IT s1 s2 (.iface t x) w (w3.setCell ⟨s2,0,none⟩ (.iface t x)) from⟨au _ s1 s2 0 _ _ _ hne B1.out,ar B2.out 0 _,a3.out.trans (aP.set s2 0 _) fun i e=>.inl (.inr e)⟩);clear a1 a3 B1 hb h1 h2;refine bF (fun w'=>w'.cell? ⟨w.heap.size,0,none⟩=some (.iface t x)) (hc) fun a0=>?_
 refine tH 0 a0 ?_;refine tH 1 a0 ?_;refine tH 2 a0 ?_
 try simp only[Act.put,jP,jQ,jR]
 refine rH 3 fun K hK=>?_
 refine kP A1.out ?_;rw[a4];refine hK.out _ _ (a2.out) (fun a0=>?_);clear hK K
 try simp only[Act.put,jP,jQ,jR]
 refine rH 4 fun K hK=>?_
 go_simp;refine hK.out _ _ ((World.cell?_setCell_far _ _ _ _ (fun e=>by have e:s2=w.heap.size:=e;omega)).trans a2.out) (fun a0=>?_);clear hK K
 try simp only[Act.put,jP,jQ,jR]
 refine wpAnyH_done (by kernel_rfl) (NoPanic.normal ?_) _;go_wp2_with fail;refine⟨rfl,_,rfl,.tuple #[],?_,rfl,rfl,HC.out⟩;simp[results,Tryz.results137,go_sem]
def Ck (w0:World)(rb lb xb:Nat)(v:Value)(xs:List UInt8)(m:Nat)(wr:World):Prop:=
 ∃ (f:Nat) (c:bR) (k nd:Nat),m=xs.length - k+1/\gi f c (xs.drop k)=none/\xs.length - k<f/\PS w0.heap.size rb lb xb v xs c k nd false wr/\c.ok dd/\cQ c.frs<=k/\nd<=k/\k<=xs.length/\Below w0.heap.size w0 wr
def Cf (w0:World)(e:Ending)(w':World):Prop:= ∃t x,e =.returned (.tuple #[.agg #[.int .i64 0,.int .i64 0,.int .i64 0,.int .i64 0],.iface t x])/\Below w0.heap.size w0 w'
theorem EJ {f k:Nat}{c:bR}(hE:lg w0 aU aE)(hM:iE w0)(hT:gY w0)(hl:xs.length<=1000000000)(a0:gi f c (xs.drop k)=none)(hf:xs.length - k<f)(a9:PS w0.heap.size rb lb xb v xs c k nd false wr)(a3:c.ok dd)(b1:cQ c.frs<=k)(b0:nd<=k)(hk:k<=xs.length)(a5:Below w0.heap.size w0 wr) :
  (Calls Tryz.prog 139 #[.pointer (some ⟨rb,0,none⟩)] wr (ld w0.heap.size wr))\/
  ∃c' k' f',(Calls Tryz.prog 139 #[.pointer (some ⟨rb,0,none⟩)] wr (GD w0.heap.size rb lb xb v xs c' k' nd wr))/\gi f' c' (xs.drop k')=none/\xs.length - k'<f'/\c'.ok dd/\cQ c'.frs<=k'/\nd+1<=k'/\k'<=xs.length/\k<k':=by
 have a1:cY w0 rb lb xb v xs c k nd wr aU aE:=⟨hE,hM,a9,a3,by omega,by omega,hl,a5⟩
 cases f with
 |zero=>omega
 |succ f=>
  unfold gi at a0
  cases hdw:(xs.drop k).dropWhile bA with
  |nil=>
   refine .inl (Bv a1 hdw fun h7=>?_);rw[hdw] at a0;simp only[h7,if_true] at a0;have:=a3.want;rw[h7] at this;have:=this.2;rw[a0] at this
   cases this
  |cons y ys=>
   rw[hdw] at a0;simp only at a0
   cases hlx:bK (y::ys) with
   |none=>exact .inl (Df a1 hT hdw hlx)
   |some tn=>
    obtain⟨t,n⟩:=tn;rw[hlx] at a0;simp only at a0
    cases hsb:bH c t with
    |none=>exact .inl (Cq a1 hT hdw hlx hsb)
    |some c'=>
     rw[hsb] at a0;simp only at a0;have a4:=gU hlx;have hin:(y::ys).length<=xs.length - k:=by
      have h1:=bV (xs.drop k);rw[hdw,List.length_drop] at h1;exact h1
     rw[List.length_cons] at a4 hin;have a2:xs.drop (xs.length - (ys.length+1))=y::ys:=by
      have h1:=io (xs.drop k);rw[hdw,List.drop_drop] at h1;have h2:=congrArg List.length h1;rw[List.length_drop,List.length_cons] at h2;rw[<-h1]
      congr 1
      omega
     have h3:=mb hsb;exact .inr ⟨c',xs.length - (ys.length+1)+n,f,rA a1 hdw hlx hsb,by rw[<-List.drop_drop,a2];exact a0,by omega,pA a3 (pM (by rw[List.length_cons];omega) hlx) hsb,by omega,by omega,by omega,by omega⟩
theorem zq (hE:lg w0 aU aE)(hM:iE w0)(hT:gY w0)(a4:Below w0.heap.size w0 w)(hb:Bs w v xs)(h0:0<xs.length)(hl:xs.length<=1000000000)(g5:d8 w0.heap.size w xb [] none [])(hp:dB xs=none) :
  Calls Tryz.prog 113 #[v,cX,.func (.func 114) #[.pointer (some ⟨xb,0,none⟩)] #[]] w (Cf w0):=by
 have i5:∀ (fn:Fn) (first cap:Array Value) (w:World),(Instr.makeFunc fn first cap).run Tryz.prog w =.ok (.func fn first cap) w:=fun _ _ _ _=>rfl
 obtain⟨hm,A,cap,rfl,g7,b2⟩:=id hb;have HE:=Qa hE;have HM:=Qa hM;have a5:=Qa a4;have Hb:=Qa hb;have H0:=Qa h0;have Hl:=Qa hl;have i4:=Qa g5;have Hp:=Qa hp;have HT:=Qa hT;have f9:=Qa (fun w=>ni w);have f4:=Qa (fun w=>mW (m:=1) (x:=(xs.length:Int)) (by omega) (by omega) w);unfold cX at *;have hlen:(xs.length:Int)<=1000000000:=by omega
 clear hE hM a4 hb h0 hl g5 hp b2 hT;have f6:Below w.heap.size w (((w.alloc (.cells #[.int .i64 1073741824,.int .i64 1073741824,.int .i64 1073741824,.int .i64 1073741824,.int .i64 1073741824,.int .i64 4611686018427387903] 155)).alloc (.cells #[.int .i64 0,.int .i64 0,.int .i64 0,.int .i64 0] 151)).alloc (.cells #[.nilIface] 30)):=aj (aj (aa _ _) (aa _ _)) (aa _ _);have g0:(((w.alloc (.cells #[.int .i64 1073741824,.int .i64 1073741824,.int .i64 1073741824,.int .i64 1073741824,.int .i64 1073741824,.int .i64 4611686018427387903] 155)).alloc (.cells #[.int .i64 0,.int .i64 0,.int .i64 0,.int .i64 0] 151)).alloc (.cells #[.nilIface] 30)).heap[w.heap.size]?=some (.cells #[.int .i64 1073741824,.int .i64 1073741824,.int .i64 1073741824,.int .i64 1073741824,.int .i64 1073741824,.int .i64 4611686018427387903] 155 (0,0)):=(Below.heap_alloc _ _ _ (by simp only[World.size_alloc];omega)).trans ((Below.heap_alloc _ _ _ (by simp)).trans (Zf w _));have g1:(((w.alloc (.cells #[.int .i64 1073741824,.int .i64 1073741824,.int .i64 1073741824,.int .i64 1073741824,.int .i64 1073741824,.int .i64 4611686018427387903] 155)).alloc (.cells #[.int .i64 0,.int .i64 0,.int .i64 0,.int .i64 0] 151)).alloc (.cells #[.nilIface] 30)).heap[w.heap.size+1]?=some (.cells #[.int .i64 0,.int .i64 0,.int .i64 0,.int .i64 0] 151 (0,0)):=by
  have:=Zf (w.alloc (.cells #[.int .i64 1073741824,.int .i64 1073741824,.int .i64 1073741824,.int .i64 1073741824,.int .i64 1073741824,.int .i64 4611686018427387903] 155)) (.cells #[.int .i64 0,.int .i64 0,.int .i64 0,.int .i64 0] 151);rw[World.size_alloc] at this;exact(Below.heap_alloc _ _ _ (by simp)).trans this
 have g2:(((w.alloc (.cells #[.int .i64 1073741824,.int .i64 1073741824,.int .i64 1073741824,.int .i64 1073741824,.int .i64 1073741824,.int .i64 4611686018427387903] 155)).alloc (.cells #[.int .i64 0,.int .i64 0,.int .i64 0,.int .i64 0] 151)).alloc (.cells #[.nilIface] 30)).heap[w.heap.size+1+1]?=some (.cells #[.nilIface] 30 (0,0)):=by
  have:=Zf ((w.alloc (.cells #[.int .i64 1073741824,.int .i64 1073741824,.int .i64 1073741824,.int .i64 1073741824,.int .i64 1073741824,.int .i64 4611686018427387903] 155)).alloc (.cells #[.int .i64 0,.int .i64 0,.int .i64 0,.int .i64 0] 151)) (.cells #[.nilIface] 30)
  rwa[World.size_alloc,World.size_alloc] at this
 have g8:=Qa f6;have G0:=Qa g0;have G1:=Qa g1;have G2:=Qa g2;clear f6 g0 g1 g2;go_enter_defers Tryz.func113,Tryz.ntmps113;go_wp2_with fail;generalize ((w.alloc (.cells #[.int .i64 1073741824,.int .i64 1073741824,.int .i64 1073741824,.int .i64 1073741824,.int .i64 1073741824,.int .i64 4611686018427387903] 155)).alloc (.cells #[.int .i64 0,.int .i64 0,.int .i64 0,.int .i64 0] 151)).alloc (.cells #[.nilIface] 30)=w1 at *;refine(f9.out _).mono ?_;rintro e w2 ⟨rfl,e2⟩;have l0:=ah G0.out e2;have c0:=ac l0 (j:=0) (u:=.int .i64 1073741824) rfl;have c1:=ac l0 (j:=1) (u:=.int .i64 1073741824) rfl;have c2:=ac l0 (j:=2) (u:=.int .i64 1073741824) rfl;have c3:=ac l0 (j:=3) (u:=.int .i64 1073741824) rfl;have c4:=ac l0 (j:=4) (u:=.int .i64 1073741824) rfl;have c5:=ac l0 (j:=5) (u:=.int .i64 4611686018427387903) rfl;have d5:=Qa e2;clear l0 e2;go_wp2_with fail;refine(f4.out _).mono ?_;rintro e w3 ⟨rfl,b5⟩;have i2:=Qa (aj (aj g8.out d5.out) b5);have L0:=Qa (ah (ah G0.out d5.out) b5);have L1:=Qa (ah (ah G1.out d5.out) b5);have L2:=Qa (ah (ah G2.out d5.out) b5);clear c0 c1 c2 c3 c4 c5 b5;go_wp2_with fail;obtain⟨wr,c9⟩:∃wr,w3.drew=wr:=⟨_,rfl⟩;have c7:Below w3.heap.size w3 wr:=by rw[<-c9];exact(Ze _ _).drew
 have a9:=Qa (aj i2.out c7);have g3:=ah L0.out c7;have b9:∀ (w':World),w'.heap[w.heap.size]?=some (.cells #[.int .i64 1073741824,.int .i64 1073741824,.int .i64 1073741824,.int .i64 1073741824,.int .i64 1073741824,.int .i64 4611686018427387903] 155 (0,0))->w'.cell? ⟨w.heap.size,0,none⟩=some (.int .i64 1073741824)/\w'.cell? ⟨w.heap.size,1,none⟩=some (.int .i64 1073741824)/\w'.cell? ⟨w.heap.size,2,none⟩=some (.int .i64 1073741824)/\w'.cell? ⟨w.heap.size,3,none⟩=some (.int .i64 1073741824)/\w'.cell? ⟨w.heap.size,4,none⟩=some (.int .i64 1073741824)/\w'.cell? ⟨w.heap.size,5,none⟩=some (.int .i64 4611686018427387903):=fun _ h=>
  ⟨ac h (j:=0) rfl,ac h (j:=1) rfl,ac h (j:=2) rfl,ac h (j:=3) rfl,ac h (j:=4) rfl,ac h (j:=5) rfl⟩
 have a2:=Qa b9;have d9:=Qa g3;have b8:=Qa (mj (w:=wr) (Hb.out.below a9.out) H0.out (by have:=Hl.out;omega));have R1:=Qa (ah L1.out c7);have R2:=Qa (ah L2.out c7);clear c7 g3 b9;refine bF (fun w2=>w2.cell? ⟨w.heap.size,0,none⟩=some (.int .i64 1073741824)/\w2.cell? ⟨w.heap.size,1,none⟩=some (.int .i64 1073741824)/\w2.cell? ⟨w.heap.size,2,none⟩=some (.int .i64 1073741824)/\w2.cell? ⟨w.heap.size,3,none⟩=some (.int .i64 1073741824)/\w2.cell? ⟨w.heap.size,4,none⟩=some (.int .i64 1073741824)/\w2.cell? ⟨w.heap.size,5,none⟩=some (.int .i64 4611686018427387903)) ((by rw[c9];exact a2.out _ d9.out)) fun a1=>?_
 refine tH 0 a1 ?_;refine tH 2 a1 ?_;refine tH 3 a1 ?_;refine tH 4 a1 ?_;refine tH 5 a1 ?_;refine tH 6 a1 ?_
 try simp only[Act.put,jP,jQ,jR]
 refine rH 1 fun K hK=>?_
 go_simp;(try rw[c9]);refine Za b8 ?_;rintro e w5 ⟨lb,u,rfl,f8,f5,e6,c6⟩;have b0:=Qa f5;have h9:=Qa f8;have i3:=Qa e6;have e5:=Qa c6;clear f5 f8 e6 c6;go_wp2_with fail;refine hK.out _ _ (a2.out _ (ah d9.out b0.out)) (fun a1=>?_);clear hK K
 try simp only[Act.put,jP,jQ,jR]
 refine tH 7 a1 ?_
 try simp only[Act.put,jP,jQ,jR]
 refine rH 8 fun K hK=>?_
 go_simp;refine hK.out _ _ (a2.out _ (ah (ah d9.out b0.out) (aa _ _))) (fun a1=>?_);clear hK K
 try simp only[Act.put,jP,jQ,jR]
 refine tH 9 a1 ?_
 try simp only[Act.put,jP,jQ,jR]
 refine wpAnyH_done (by kernel_rfl) (NoPanic.normal ?_) _;clear a1 c9;have d6:Below w0.heap.size w0 w5:=(a5.out.trans (a9.out.mono a5.out.size)).trans (b0.out.mono (Zc a5.out.size a9.out.size));have a0:=aa w5 (.cells (bI lb xb xs.length 0 0 0 (.slice none 0 0) (.slice none 0 0) 0 false) 238);have a3:=Zf w5 (.cells (bI lb xb xs.length 0 0 0 (.slice none 0 0) (.slice none 0 0) 0 false) 238);have f3:fW w0.heap.size (w5.alloc (.cells (bI lb xb xs.length 0 0 0 (.slice none 0 0) (.slice none 0 0) 0 false) 238)) w5.heap.size lb xb u xs [] 0 0 0 false xs.length 0 0 (.slice none 0 0) (.slice none 0 0) []:=
  ⟨a3,d6.size,h9.out.below a0,Zc (Zc a5.out.size a9.out.size) i3.out,ai (bj e5.out (Zc a5.out.size a9.out.size)) a0 (Zb _),⟨rfl,.inl ⟨rfl,rfl⟩⟩,⟨rfl,.inl ⟨rfl,rfl⟩⟩,ch.nil _,List.nodup_nil,Zj _⟩
 have b3:=(i4.out.below (aj a9.out b0.out)).below a0;have Hrel:=Qa (show Ck w0 w5.heap.size lb xb u xs (xs.length+1) (w5.alloc (.cells (bI lb xb xs.length 0 0 0 (.slice none 0 0) (.slice none 0 0) 0 false) 238)) from
  ⟨xs.length+1,⟨[],0,none⟩,0,0,rfl,Hp.out,by omega,⟨f3.s, [],b3⟩,bR.ok.start dd,Zb _,Zb _,Zj _,d6.trans (a0.mono d6.size)⟩)
 have Q1:=Qa (ah (ah R1.out b0.out) a0);have Q2:=Qa (ah (ah R2.out b0.out) a0);unfold bI at Hrel Q1 Q2;clear f3 b3 a3 a0 d6 b8 d9 a2 R1 R2 L0 L1 L2 G0 G1 G2 f9 f4;go_wp2_with fail
 go_loopg [] (xs.length+1) (fun m wr=>Ck w0 w5.heap.size lb xb u xs m wr/\wr.heap[w.heap.size+1]?=some (.cells #[.int .i64 0,.int .i64 0,.int .i64 0,.int .i64 0] 151 (0,0))/\wr.heap[w.heap.size+1+1]?=some (.cells #[.nilIface] 30 (0,0)))
 case atStart=>exact⟨Hrel.out,Q1.out,Q2.out⟩
 case round=>
  obtain⟨hrel,q1,q2⟩:=hrel;have HQ1:=Qa q1;have HQ2:=Qa q2;clear Hrel Q1 Q2 q1 q2;obtain⟨f,c,k,nd,hm,b1,hf,e1,f2,f7,f1,hk,e0⟩:=hrel;obtain⟨by9,dp9,ex9,ov9,nv9,maps9,f0⟩:=id e1.1;have c15:=ac f0.row (j:=15) (u:=.bool false) rfl;have Hm:=Qa hm;have Hbl:=Qa e0;have h8:=EJ HE.out HM.out HT.out Hl.out b1 hf e1 f2 f7 f1 hk e0;clear e1 f2 f7 f1 hk e0 hm f0 b1 hf;rcases h8 with b4|⟨c',k',f',b4,h1,h2,h3,h4,h5,h6,h7⟩
  ·have c8:=Qa b4;clear b4;go_wp2_with fail;refine Za c8 ?_;rintro e w7 ⟨t,x,rfl,a4⟩;have G1:=Qa (a4.k.2 _ _ _ _ HQ1.out (by simp only[TA,TB,TV,js];decide));have G2:=Qa (a4.k.2 _ _ _ _ HQ2.out (by simp only[TA,TB,TV,js];decide));have g6:=Qa (Hbl.out.trans a4.b);clear a4 c15 c8;go_wp2_with fail;refine leaves_cons (f:=137) (args:= #[.pointer (some ⟨w.heap.size+1,0,none⟩),.pointer (some ⟨w.heap.size+1+1,0,none⟩)]) (by simp) (by simp[go_sem]) ?_;refine(vb (by omega) G1.out G2.out t x []).mono ?_;rintro e u' w'' ⟨rfl,rfl,g1,g2,i0⟩;have d0:=ac g1 (j:=0) (u:=.int .i64 0) rfl;have d1:=ac g1 (j:=1) (u:=.int .i64 0) rfl;have d2:=ac g1 (j:=2) (u:=.int .i64 0) rfl;have d3:=ac g1 (j:=3) (u:=.int .i64 0) rfl;have d4:=ac g2 (j:=0) (u:=.iface t x) rfl;have e3:Below w0.heap.size w0 w'':=g6.out.trans (i0.below g6.out.size fun i hi=>by have:=a5.out.size;rcases hi with rfl|rfl <;> omega);have e4:Cf w0 (.returned (.tuple #[.agg #[.int .i64 0,.int .i64 0,.int .i64 0,.int .i64 0],.iface t x])) w'':=⟨t,x,rfl,e3⟩;simp[Leaves,settle,results,Tryz.results113,go_sem,d0,d1,d2,d3,d4];exact e4
  ·have c8:=Qa b4;have HN:=Qa (And.intro h1 (And.intro h2 (And.intro h3 (And.intro h4 (And.intro h5 (And.intro h6 h7))))));clear b4 h1 h2 h3 h4 h5 h6 h7;go_wp2_with fail;refine Za c8 ?_;rintro e w7 ⟨nd',g4,rfl,h1,h2⟩;have R:=Qa (And.intro g4 (And.intro h1 h2));clear g4 h1 h2 c15;go_wp2_with fail;obtain⟨n1,n2,n3,n4,n5,n6,n7⟩:=HN.out;go_roundg (xs.length - k'+1)
   case measure=>have:=Hm.out;omega
   case rel=>exact⟨⟨f',c',k',nd',rfl,n1,n2,R.out.2.2,n3,n4,Zc R.out.1 n5,n6,Hbl.out.trans R.out.2.1.b⟩,R.out.2.1.k.2 _ _ _ _ HQ1.out (by simp only[TA,TB,TV,js];decide),R.out.2.1.k.2 _ _ _ _ HQ2.out (by simp only[TA,TB,TV,js];decide)⟩
