import Derived.Test.YtibmppoeeppnoaaGreatDoorGZ4bt
import Derived.Lib.SmallJoins
set_option linter.unusedVariables false
set_option linter.unusedSimpArgs false
set_option maxHeartbeats 64000000
set_option maxRecDepth 100000
namespace Go.Proofs.YtibmppoeeppnoaaGreatDoor
open Go.RowKit Go.Shelf
variable {aE aS aT aU:Addr}{s:ByteArray}{d:Dc}{j:JV}{ns:List ByteArray}{frs:List Fr}{ks:List JV}{bs ps:List Nat}{hs xs ys:List UInt8}{B N a cap ch ck cn g gt n nh q:Nat}{A Ah Ak An:Option Addr}{v v':Value}{w w' w0 w10 w8:World}
def IX (B g m:Nat)(frs:List Fr)(ns:List ByteArray)(ks:List JV)(w2:World)(s14:Value)(wr:World):Prop:= ∃ (i:Nat) (bs:List Nat),s14 =.int .i64 i/\i<=ks.length/\mi B w2 wr/\jw B wr g (⟨true, [],(zj m (ns.zip ks)).take i,none⟩::frs) none bs
theorem wO {t:Bool}{x:ByteArray}
  (hb:Below w0.heap.size w0 w) (f3:w0.heap.size<=B) (hB:B<=w.heap.size) (hc:fa w0 gt a 6 t x d (.slice An ks.length cn) (.slice Ak ks.length ck)) (g3:cI w0 0 (.slice An ks.length cn) ns) (hk:bQ w0 0 (.slice Ak ks.length ck) ps) (hnl:ns.length=ks.length) (f6:ps.length=ks.length) (ha:a<N) (hN:N<=1000000) (hl:ks.length<=1000000) (f4:∀s∈ns,jr s/\s.size<=1000000000) (hr:dU ns) (hh:Bs w0 (.slice Ah nh ch) hs) (hS:w0.cell? ⟨3,0,none⟩=some (bl aS)) (hT:w0.cell? ⟨2,0,none⟩=some (bl aT)) (hG:co w0 aU aE)
  (hW:jw B w g frs none bs) (ht:yr frs none=true) (f1:frs.length<1000000000) (hi:∀f∈frs,Es f)
  (b9:∀ (i:Nat) (u:JV) (p:Nat) (s:ByteArray) (ms:List (ByteArray×JV)),ks[i]?=some u->ps[i]?=some p->ms.length<=1000000->∀ (w2:World) (b2:List Nat),Below w0.heap.size w0 w2->B<=w2.heap.size->jw B w2 g (⟨true, [],ms,some s⟩::frs) none b2->Calls Tryz.prog 8 #[.pointer (some ⟨g,0,none⟩),.slice (some ⟨gt,0,none⟩) N cap,.int .i64 (p:Int),.slice Ah nh ch] w2 fun e w'=>EL B g ⟨⟨true, [],ms ++ [(s,u)],none⟩::frs,6,none⟩ w2 e w') :
  Calls Tryz.prog 8 #[.pointer (some ⟨g,0,none⟩),.slice (some ⟨gt,0,none⟩) N cap,.int .i64 (a:Int),.slice Ah nh ch] w fun e w'=>EL B g (bX frs (.mk 6 false ⟨#[]⟩ ⟨false,⟨#[]⟩,0⟩ ns ks)) w e w':=by
 have c0:=Zf hb (hc 0 _ rfl);rw[Nat.add_zero] at c0;have c1:=Zf hb (hc 1 _ rfl);have c2:=Zf hb (hc 2 _ rfl);have c3:=Zf hb (hc 3 _ rfl);have c4:=Zf hb (hc 4 _ rfl);have c5:=Zf hb (hc 5 _ rfl);have c6:=Zf hb (hc 6 _ rfl);have c7:=Zf hb (hc 7 _ rfl);have j0:(a:Int)<N:=by omega
 have a4:=Qa (Ze w (.cells #[.int .i64 6,.bool t,.string x,.bool d.neg,.string d.digits,.int .i64 d.exp,.slice An ks.length cn,.slice Ak ks.length ck] 69));have a7:=ac w (.cells #[.int .i64 6,.bool t,.string x,.bool d.neg,.string d.digits,.int .i64 d.exp,.slice An ks.length cn,.slice Ak ks.length ck] 69);have Hb:=Qa (hb.trans (a7.mono hb.size));have e6:=Qa (Zb hB a7.size);have HX:=Qa (mi.new a7 hB);have d1:=Qa f3;have Hh:=Qa (hh.below (hb.trans (a7.mono hb.size)));obtain⟨hm,Ah',ch',eh,i3,-⟩:=id hh;obtain⟨rfl,rfl,rfl⟩:=Value.slice.inj eh;have HO:=Qa (lN (hW.below a7) ht (Zb hB a7.size) (by omega));have c9:=Qa (And.intro ht (And.intro f1 hi));have HS:=Qa hS;have Hk:=Qa hk;have e8:=Qa f6;have HH:=Qa b9;have i0:=Qa g3;have a9:=Qa hnl;have h1:=Qa f4;have Hr:=Qa hr;have HT:=Qa hT;have HG:=Qa hG;clear hc hk f6 f3 hB hh hS hW ht f1 hi b9 hb a7 hm i3 eh g3 hnl f4 hr hT hG;go_enter Tryz.func8,Tryz.ntmps8;go_upto_if 44 with fail
 obtain⟨w1,g2⟩:∃w1,w.alloc (.cells #[.int .i64 6,.bool t,.string x,.bool d.neg,.string d.digits,.int .i64 d.exp,.slice An ks.length cn,.slice Ak ks.length ck] 69)=w1:=⟨_,rfl⟩;rw[g2] at a4 Hb e6 HX Hh HO ⊢;clear g2 c0 c1 c2 c3 c4 c5 c6 c7;go_cut [11] (fun s11 wx=>(∃X:Nat,X<=1000000/\s11 =.int .i64 X)/\w1=wx)
 case first=>
  by_cases h0:0<hs.length
  ·have i2:(0:Int)<hs.length:=by omega
   obtain⟨bh,oh,rfl,a5⟩:=Hh.out.at h0;have hq:a % hs.length<hs.length:=Nat.mod_lt _ h0;have cb:=a5 _ hq;have i9:=aB hs (a % hs.length);have e0:((a:Int).tmod hs.length)= ((a % hs.length:Nat):Int):=by rw[Int.ofNat_tmod]
   generalize a % hs.length=q at *;have h2:(q:Int)<hs.length:=by omega
   have hz:((hs.length:Int)==0)=false:=by simp only[beq_eq_false_iff_ne];omega
   clear a5;generalize am hs q=y at *;go_wp2_with fail;go_meet
   case rel=>exact⟨⟨y,by omega,by go_num⟩,rfl⟩
  ·have i2:¬ (0:Int)<hs.length:=by omega
   go_wp2_with fail;go_meet
   case rel=>exact⟨⟨a,by omega,rfl⟩,rfl⟩
 case rest=>
  obtain⟨⟨X,hX,rfl⟩,rfl⟩:=hcut;have c0:=aa a4.out (j:=0) (u:=.int .i64 6) rfl;go_wp2_with fail;(with_reducible refine HO.out.mono ?_);rintro e w2 ⟨rfl,b6,bs2,f0⟩;have i5:=Qa (HX.out.trans b6);have d5:=Qa (b6.keep.2 _ _ _ _ a4.out eM);have h7:=Qa (Hb.out.trans (b6.b.mono d1.out));have i8:=Qa (Zb e6.out b6.b.size);have Hs2:=Qa f0;clear b6 f0 HO c0 a4 Hb e6 HX;have b3:=Qa (show(ns.zip ks).length=ks.length by rw[List.length_zip,a9.out,Nat.min_self]);have f8:=Qa (show((zj (X % ks.length) (ns.zip ks)).map Prod.fst).Nodup from((ku _ _).map Prod.fst).nodup_iff.2 (by rw[List.map_fst_zip (by have:=a9.out;omega)];exact Hr.out.imp fun h=>lz h));go_wp2_with fail
  go_loopw [14,15,16,17,18,19] (fun s14 _ _ _ _ _ wr=>IX B g (X % ks.length) frs ns ks w2 s14 wr) (fun v _ _ _ _ _ _=>ks.length - (intOf v).toNat)
  case atStart=>exact⟨0,bs2,rfl,Zj _,⟨Zd _ _,aG.refl _ _⟩,Hs2.out⟩
  case round=>
   obtain⟨i,bs3,rfl,hi,b8,g5⟩:=hrel;have a1:=b8.keep.2 _ _ _ _ d5.out eM;have c0:=aa a1 (j:=0) (u:=.int .i64 6) rfl;have c6:=aa a1 (j:=6) (u:=.slice An ks.length cn) rfl;have c7:=aa a1 (j:=7) (u:=.slice Ak ks.length ck) rfl;have b7:=Qa a1;have g6:=Qa b8;have b0:=Qa (h7.out.trans (b8.b.mono d1.out));have d3:=Qa (Zb i8.out b8.b.size);have g7:=Qa g5;clear a1 b8 g5
   by_cases hlt:i<ks.length
   ·have e0:(((i:Int)+X).tmod ks.length)= (((i+X) % ks.length:Nat):Int):=by rw[show((i:Int)+X)= ((i+X:Nat):Int) by omega,Int.ofNat_tmod]
    have e2:(i+X) % ks.length<ks.length:=Nat.mod_lt _ (by omega);have a0:=Ef (l:=ns.zip ks) (i:=i) (x:=X) (by rw[b3.out];exact hlt);rw[b3.out] at a0;generalize (i+X) % ks.length=q at *;obtain⟨u,e3⟩:∃k,ks[q]?=some k:=⟨_,Zc e2⟩;obtain⟨p,d4⟩:∃p,ps[q]?=some p:=⟨_,Zc (by rw[e8.out];exact e2)⟩;obtain⟨s,d2⟩:∃s,ns[q]?=some s:=⟨_,Zc (by rw[a9.out];exact e2)⟩;rw[Dk d2 e3] at a0;have c8:s∉((zj (X % ks.length) (ns.zip ks)).take i).map Prod.fst:=by
     rw[List.map_take];exact wX f8.out (by rw[List.getElem?_map,a0];rfl)
    have g4:((zj (X % ks.length) (ns.zip ks)).take i).length<=1000000:=by rw[List.length_take,qA,b3.out];omega
    have d6:=h1.out s (Zk d2);have HN:=Qa (lE g7.out d6.1.1 (HG.out.below b0.out) d6.2 (Zf b0.out HT.out) d3.out c9.out.2.1 (by omega));have HK:=Qa (fun (w4:World) (b4:List Nat) (h4:Below w0.heap.size w0 w4) (h5:B<=w4.heap.size) h6=>HH.out q u p s ((zj (X % ks.length) (ns.zip ks)).take i) e3 d4 g4 w4 b4 h4 h5 h6);have e4:=Qa a0;have d9:=Qa c8;have a3:=Hk.out.below b0.out (Za _);have b5:=i0.out.below b0.out (Za _);unfold bQ at a3;unfold cI at b5;rw[e8.out] at a3;rw[a9.out] at b5;obtain⟨_,_,e,_,_,hA⟩:=ag a3;obtain⟨gk,rfl⟩:=hA (by omega);obtain⟨e1,-,-⟩:=Value.slice.inj e;subst e1;obtain⟨_,_,e',_,_,f5⟩:=ag b5;obtain⟨gn,rfl⟩:=f5 (by omega);obtain⟨e1,-,-⟩:=Value.slice.inj e';subst e1;have cn0:=aD b5 rfl q (by omega);rw[List.getElem?_map,d2] at cn0;simp only[Option.map_some,dL] at cn0;have h9:=Qa d4;have h2:(q:Int)<ks.length:=by omega
    have e5:(i:Int)<ks.length:=by omega
    have hz:((ks.length:Int)==0)=false:=by simp only[beq_eq_false_iff_ne];omega
    clear e3 d4 d2 HH a0 c8 g4 d6 a3 b5 e hA e' f5;go_wp2_with fail;(with_reducible refine HN.out.mono ?_);rintro e w4 (⟨hx,-⟩|⟨-,rfl,a2,bs4,b1⟩)
    ·exact absurd hx d9.out
    have a1:=a2.keep.2 _ _ _ _ b7.out eM;have d7:=aa a1 (j:=7) (u:=.slice (some ⟨gk,0,none⟩) ks.length ck) rfl;have h8:=Qa a1;have H4:=Qa (g6.out.trans a2);have d0:=Qa (b0.out.trans (a2.b.mono d1.out));have f2:=Qa (Zb d3.out a2.b.size);have h3:=Qa b1;have g0:=Qa (mc b1 (Zf (b0.out.trans (a2.b.mono d1.out)) HS.out));clear a1 a2 b1 HN c0 c6 c7 cn0 b7;go_wp2_with fail;(with_reducible refine g0.out.mono ?_);rintro e w5 ⟨rfl,a6⟩;have g9:=Qa (HK.out w5 bs4 (d0.out.trans (a6.mono d0.out.size)) (Zb f2.out a6.size) (h3.out.below a6));have a3:=Hk.out.below (d0.out.trans (a6.mono d0.out.size)) (Za _);unfold bQ at a3;rw[e8.out] at a3;have ck0:=aD a3 rfl q (by omega);rw[List.getElem?_map,h9.out] at ck0;simp only[Option.map_some,df] at ck0;have e7:=Zf a6 d7;have H5:=Qa (H4.out.trans (mi.new a6 f2.out));clear a3 a6 g0 HK d7;go_wp2_with fail;(with_reducible refine g9.out.mono ?_);rintro e w6 ⟨rfl,g8,bs6,f9⟩;have H6:=Qa (H5.out.trans g8);have i4:=Qa f9;clear g8 f9 g9 ck0 e7;go_wp2_with fail;refine⟨⟨i+1,bs6,by go_num,by omega,H6.out,?_⟩,by simp[intOf];omega⟩;rw[bU e4.out];exact i4.out
   ·obtain rfl:i=ks.length:=by omega
    have e5:¬ (ks.length:Int)<ks.length:=by omega
    have g1:(zj (X % ks.length) (ns.zip ks)).take ks.length=zj (X % ks.length) (ns.zip ks):=by rw[List.take_of_length_le (by rw[qA,b3.out];exact Za _)]
    have HC:=Qa (ky (by have:=g7.out;rw[g1] at this;exact this) c9.out.1 d3.out c9.out.2.1 c9.out.2.2 (by rw[qA,b3.out];omega) (fun s hs=>by
     have hm:=(((ku (X % ks.length) (ns.zip ks)).map Prod.fst).mem_iff).1 hs;rw[List.map_fst_zip (by have:=a9.out;omega)] at hm;exact(h1.out s hm).1) f8.out)
    rw[BH a9.out Hr.out] at HC;clear hlt HH g1;go_wp2_with fail;(with_reducible refine HC.out.mono ?_);rintro e w4 ⟨rfl,a2,bs4,b1⟩;have H4:=Qa (And.intro ((i5.out.trans g6.out).trans a2) b1);clear a2 b1 HC c0 c6 c7;go_wp2_with fail;go_ret;exact⟨rfl,H4.out.1,bs4,H4.out.2⟩
theorem Bt {c:Int}(h:dF c=true):(cG c).length<=6* (bD c).length:=by
 have h1:1<=(bD c).length:=by rcases hl:bD c with _|⟨x,l⟩;exact absurd hl (oA h);simp
 unfold cG
 repeat' split
 all_goals first|(simp only[List.length_cons,List.length_nil];omega)|omega
theorem rN (h:dq s):(dJ s).length<=6*s.size+2:=by
 have hn:=h.nm;have key:∀cs:List Int,(∀c∈cs,dF c=true)->(cs.flatMap cG).length<=6* (cs.flatMap bD).length:=by
  intro cs
  induction cs with
  |nil=>intro _;simp
  |cons c cs ih=>
   intro hc;have h1:=Bt (hc c (by simp));have h2:=ih (fun c h=>hc c (Zl _ h));rw[List.flatMap_cons,List.flatMap_cons,List.length_append,List.length_append];omega
 have h1:=key _ hn.1;rw[hn.2] at h1;have h2:s.data.toList.length=s.size:=by simp
 unfold dJ kK;rw[List.length_cons,List.length_append];simp only[List.length_cons,List.length_nil];omega
theorem CP {x:Int}(h: -1000000000<=x/\x<=1000000000):(fN x).length<=12:=by
 unfold fN
 split
 ·simp
 ·rcases Int.lt_or_le x 0 with hn|hn
  ·obtain⟨m,rfl⟩:∃m:Nat,x = -(m:Int):=⟨x.natAbs,by omega⟩;rw[Lib.itoa_neg m (by omega)];have:=ga (u:=m) (by omega);simp;omega
  ·obtain⟨m,rfl⟩:∃m:Nat,x= (m:Int):=⟨x.natAbs,by omega⟩;rw[Lib.itoa_nonneg m];have:=ga (u:=m) (by omega);simp;omega
inductive AS (L:Nat):JV->Prop
 |null:AS L jA
 |bool (b:Bool):AS L (fB b)
 |num (d:Dc):d.digits.size<=L+1-> -1000000000<=d.exp/\d.exp<=1000000000->AS L (dT d)
 |text (s:ByteArray):dq s->s.size<=L->AS L (eI s)
 |list (ks:List JV):(∀u∈ks,AS L u)->AS L (cR ks)
 |obj (ns:List ByteArray) (ks:List JV):ns.length=ks.length->(∀s∈ns,dq s/\s.size<=L)->(∀u∈ks,AS L u)->AS L (.mk 6 false ⟨#[]⟩ ⟨false,⟨#[]⟩,0⟩ ns ks)
theorem um {L:Nat}(h:∀u∈ks,(u.txt).length+6*L+10<=u.size* (12*L+40))(o:Bool):∀ (first:Bool) (ns:List ByteArray),ns.length=ks.length\/o=false->(∀s∈ns,dq s/\s.size<=L)->(JV.txts o first ns ks).length<=JV.sizes ks* (12*L+40):=by
 induction ks with
 |nil=>intro first ns _ _;simp[JV.txts]
 |cons v vs ih=>
  intro first ns hl hs;have h1:=h v (by simp);have a0:∀s∈ns.tail,dq s/\s.size<=L:=fun s h=>hs s (List.mem_of_mem_tail h)
  have h2:=ih (fun u hu=>h u (Zl _ hu)) false ns.tail (hl.imp (fun e=>by cases ns <;> simp at e ⊢;omega) id) a0;simp only[JV.txts,JV.sizes,List.length_append];have h3:(if first then([]:List UInt8) else [44]).length<=1:=by cases first <;> simp
  have h4:(if o then dJ (ns.headD ⟨#[]⟩) ++ [58] else []).length<=6*L+3:=by
   cases o with
   |false=>simp
   |true=>
    cases ns with
    |nil=>simp at hl
    |cons a ns=>
     obtain⟨q1,q2⟩:=hs a (by simp);have:=rN q1;simp only[if_true,List.headD_cons,List.length_append,List.length_cons,List.length_nil];omega
  rw[Nat.add_mul];omega
theorem AS.len {L:Nat}(h:AS L j):j.txt.length+6*L+10<=j.size* (12*L+40):=by
 induction h with
 |null=>simp[jA,JV.txt,JV.size,JV.sizes];omega
 |bool b=>cases b <;> simp[fB,JV.txt,JV.size,JV.sizes] <;> omega
 |num d h1 h2=>
  have:=CP h2;have e:(dT d).txt=eN d:=by simp[dT,JV.txt]
  have e2:(dT d).size=1:=by simp[dT,JV.size,JV.sizes]
  have e3:d.digits.data.toList.length=d.digits.size:=by simp
  rw[e,e2];unfold eN;rw[List.length_append,List.length_append,e3];have e4:(if d.neg then [45] else([]:List UInt8)).length<=1:=by split <;> simp
  omega
 |text s h1 h2=>
  have:=rN h1;have e:(eI s).txt=dJ s:=by simp[eI,JV.txt]
  have e2:(eI s).size=1:=by simp[eI,JV.size,JV.sizes]
  rw[e,e2];omega
 |list ks _ ih=>
  have h1:=um ih false true [] (.inr rfl) (by simp);have e:(cR ks).txt.length= (JV.txts false true [] ks).length+2:=by simp[cR,JV.txt]
  have e2:(cR ks).size=1+JV.sizes ks:=by simp[cR,JV.size]
  rw[e,e2,Nat.add_mul];omega
 |obj ns ks hl hs _ ih=>
  have h1:=um ih true true ns (.inl hl) hs;have e:(JV.mk 6 false ⟨#[]⟩ ⟨false,⟨#[]⟩,0⟩ ns ks).txt.length= (JV.txts true true ns ks).length+2:=by simp[JV.txt]
  have e2:(JV.mk 6 false ⟨#[]⟩ ⟨false,⟨#[]⟩,0⟩ ns ks).size=1+JV.sizes ks:=by simp[JV.size]
  rw[e,e2,Nat.add_mul];omega
theorem Cn (h:wT d):jy d:=by
 rcases h with rfl|⟨h0,hd,hf,hl,h1,h2⟩
 ·exact .inl rfl
 ·have hz:d.digits.data.toList.length=d.digits.size:=Array.length_toList;refine .inr ⟨⟨fun c hc=>?_,fun e=>?_,fun c hc=>?_,fun c hc=>?_⟩,h1,h2⟩
  ·obtain⟨i,hi,rfl⟩:=List.getElem_of_mem hc;have:=hd i (by omega);unfold eH;exact decide_eq_true this
  ·rw[e] at hz;simp at hz;omega
  ·rw[List.head?_eq_getElem?,Zc (by omega)] at hc;rw[<-Zh hc];exact fun e=>hf h0 (congrArg UInt8.toNat e)
  ·rw[List.getLast?_eq_getElem?,Zc (by omega)] at hc;rw[<-Zh hc];intro e;have:=congrArg UInt8.toNat e;simp only[hz] at this;exact hl (by omega) this
theorem mI (g:bR dU j):Tx j:=by
 induction g with
 |null=>exact .null
 |bool b=>exact .bool b
 |num d hd hn=>exact .num d (Cn hn)
 |text s hs=>exact .text s hs.1
 |list ks _ ih=>exact .list ks ih
 |obj ns ks h1 h2 h3 _ ih=>exact .obj ns ks h1 (fun s hs=>(h2 s hs).1) h3 ih
theorem B6 (g:bR dU j):AS 6000 j:=by
 induction g with
 |null=>exact .null
 |bool b=>exact .bool b
 |num d hd hn=>exact .num d hd (by rcases hn with rfl|⟨_,_,_,_,h⟩;(· exact⟨by decide,by decide⟩);exact h)
 |text s hs=>exact .text s hs.1 hs.2
 |list ks _ ih=>exact .list ks ih
 |obj ns ks h1 h2 h3 _ ih=>exact .obj ns ks h1 h2 ih
theorem qY (g:bR dU j):Sz j:=by
 induction g with
 |null=>exact .mk _ _ _ _ _ _ (by decide) (by decide) (by simp) (by simp)
 |bool b=>exact .mk _ _ _ _ _ _ (by decide) (by decide) (by simp) (by simp)
 |num d hd hn=>exact .mk _ _ _ _ _ _ (by decide) (by omega) (by simp) (by simp)
 |text s hs=>exact .mk _ _ _ _ _ _ (by have:=hs.2;omega) (by decide) (by simp) (by simp)
 |list ks _ ih=>exact .mk _ _ _ _ _ _ (by decide) (by decide) (by simp) ih
 |obj ns ks h1 h2 h3 _ ih=>exact .mk _ _ _ _ _ _ (by decide) (by decide) (fun s hs=>by have:=(h2 s hs).2;omega) ih
theorem nX (g:bR dU j)(h:j.size<=6000+1):0<j.txt.length/\j.txt.length<=1000000000:=by
 refine⟨?_,?_⟩
 ·cases mI g with
  |null=>decide
  |bool b=>cases b <;> decide
  |num d hd=>obtain⟨c,l,e,_⟩:=kZ hd;show 0< (eN d).length;rw[e];simp
  |text s hs=>show 0< (dJ s).length;unfold dJ kK;simp
  |list ks _=>show 0< (91::_:List UInt8).length;simp
  |obj ns ks _ _ _ _=>show 0< (123::_:List UInt8).length;simp
 ·have h1:=(B6 g).len;have h2:j.size* (12*6000+40)<=(6000+1)* (12*6000+40):=Nat.mul_le_mul_right _ h;omega
theorem rQ:Calls Tryz.prog 22 #[.slice A n q,.slice none 0 0] w fun e w'=>e =.returned (.slice A n q)/\w=w':=by
 go_enter Tryz.func22,Tryz.ntmps22;go_wp2_with fail
 go_loopw [0,5,6] (fun s0 s5 _ wr=>s0 =.slice A n q/\s5 =.int .i64 0/\w=wr) (fun _ _ _ _=>0)
 case atStart=>exact⟨rfl,rfl,rfl⟩
 case round=>
  obtain⟨rfl,rfl,rfl⟩:=hrel;go_wp2_with fail;go_ret;exact⟨rfl,rfl⟩
def IN (xs:List UInt8)(w:World)(e:Ending)(w':World):Prop:= ∃A n q ok,e =.returned (.tuple #[.slice A n q,.bool ok])/\Below w.heap.size w w'/\(ok=true->(n=0/\xs = [])\/∃j,bR dU j/\bF (w.heap.size<= ·) w' w.heap.size (.slice A n q) (j.flat 0)/\j.size<=6000+1)
theorem Bb {tv:Value}(hb:Bs w tv xs):Calls Tryz.prog 5 #[.agg #[tv,.slice none 0 0,.slice none 0 0]] w (IN xs w):=by
 obtain⟨hm,A,c,rfl,hc,-⟩:=id hb;have b0:=ac w (.cells #[.slice A xs.length c,.slice none 0 0,.slice none 0 0] 25);have b8:=Qa (Ze w (.cells #[.slice A xs.length c,.slice none 0 0,.slice none 0 0] 25));have a7:=Qa (hb.below b0);have a5:=Qa b0;clear hb b0
 by_cases h0:xs.length=0
 ·have b6:((xs.length:Int)==0)=true:=by rw[h0];rfl
  have Hx:=Qa (List.eq_nil_of_length_eq_zero h0);clear h0 hc hm;go_enter Tryz.func5,Tryz.ntmps5;go_wp2_with fail;go_ret2;exact⟨none,0,0,true,rfl,a5.out,fun _=>.inl ⟨rfl,Hx.out⟩⟩
 ·have b6:((xs.length:Int)==0)=false:=by simp only[beq_eq_false_iff_ne];omega
  by_cases hl:xs.length<=6000
  ·have c1:¬ (6000:Int)<xs.length:=by omega
   have a0:=Qa (zx a7.out hl);have Hl:=Qa hl;clear h0 hl;go_enter Tryz.func5,Tryz.ntmps5;go_wp2_with fail;(with_reducible refine a0.out.mono ?_);rintro e w2 ⟨v,cd,h,l,sA,sn,sc,rfl,ht⟩;obtain⟨a3,⟨A2,n2,q2,rfl⟩,hj⟩:=ht;have a1:=ac w2 (.cells #[.int .i64 cd,.int .i64 h,.int .i64 l,.slice sA sn sc] 62);have a4:=Qa (a5.out.trans ((a3.trans (a1.mono a3.size)).mono a5.out.size));have b2:=ai (ai b8.out a3) a1;have b4:=a5.out.size
   by_cases hcd:cd=0
   ·obtain⟨j,hg,hf,hz⟩:=hj hcd;subst hcd;have b1:=hf.below a1 (Za _);have b7:n2=j.size:=by obtain⟨_,_,e,_⟩:=hf.form;obtain⟨-,e,-⟩:=Value.slice.inj e;rw[e,JV.flat_len]
    have HD:=Qa (ni (b1.flat.low (Zj _)) (by have:=Hl.out;omega));have a9:=Qa b1;have Hg:=Qa hg;have Hz:=Qa (show j.size<=6000+1 by have:=Hl.out;omega);clear a3 hj hf b1 hg hz b7 a0 a7;go_wp2_with fail;obtain⟨w3,b3⟩:∃w3,w2.alloc (.cells #[.int .i64 0,.int .i64 h,.int .i64 l,.slice sA sn sc] 62)=w3:=⟨_,rfl⟩;rw[b3] at HD a9 a4 b2 a1 ⊢;clear b3;(with_reducible refine HD.out.mono ?_);rintro e w4 ⟨m,rfl,a6⟩;have a2:=ai b2 a6;have d1:=aa a2 (j:=1) (u:=.slice none 0 0) rfl;have d2:=aa a2 (j:=2) (u:=.slice none 0 0) rfl;have b9:=Qa (((a9.out.below a6 (Za _)).low (base:=_) (b:=w.heap.size) b4).imp (Q:=(w.heap.size<= ·)) fun g hg _=>Zb b4 hg);have b5:=Qa (a4.out.trans (a6.mono a4.out.size));clear b2 a2 a6 HD a9 a4 a1
    by_cases hm:(300:Int)<m
    ·go_wp2_with fail;go_ret2;exact⟨none,0,0,false,rfl,b5.out,fun e=>by cases e⟩
    ·go_wp2_with fail
     go_loopw [6] (fun s6 wr=>s6 =.int .i64 0/\w4=wr) (fun _ _=>0)
     case atStart=>exact⟨rfl,rfl⟩
     case round=>
      obtain⟨rfl,rfl⟩:=hrel;go_wp2_with fail;(with_reducible refine rQ.mono ?_);rintro e w5 ⟨rfl,rfl⟩;go_wp2_with fail;go_ret2;exact⟨A2,n2,q2,true,rfl,b5.out,fun _=>.inr ⟨j,Hg.out,b9.out,Hz.out⟩⟩
   ·have c0:(cd !=0)=true:=by simp[hcd]
    clear a3 hj hcd a0 a7;go_wp2_with fail;go_ret2;exact⟨none,0,0,false,rfl,a4.out,fun e=>by cases e⟩
  ·have c1:(6000:Int)<xs.length:=by omega
   clear h0 hl;go_enter Tryz.func5,Tryz.ntmps5;go_wp2_with fail;go_ret2;exact⟨none,0,0,false,rfl,a5.out,fun e=>by cases e⟩
structure vV (w:World):Prop where
 env:∃aU aE,qV w aU aE
 may:kA w
 pow:cW w
 eNil:bo w 0
 eTwice:bo w 2
 eHidden:bo w 1
 eSyntax:bo w 3
theorem vV.below (h:vV w)(hb:Below w.heap.size w w'):vV w':=by
 obtain⟨⟨aU,aE,h1⟩,h2,h3,h4,h5,h6,h7⟩:=h;exact⟨⟨aU,aE,h1.below hb⟩,h2.below hb,h3.below hb,h4.below hb,h5.below hb,h6.below hb,h7.below hb⟩
theorem oS (h:Bs w v xs)(h':Bs w v' ys):Calls Tryz.prog 13 #[v,v'] w fun e w'=>e =.returned (.bool (decide (xs=ys)))/\w=w':=by
 have c1:=aJ h;have c2:=aJ h';have He:Hid (((⟨xs.toArray⟩:ByteArray).toList== (⟨ys.toArray⟩:ByteArray).toList)=decide (xs=ys)):=Qa (by
  rw[kx,kx,Bool.eq_iff_iff];simp)
 clear h h';generalize (⟨xs.toArray⟩:ByteArray)=a at *;generalize (⟨ys.toArray⟩:ByteArray)=b at *;go_enter Tryz.func13,Tryz.ntmps13;go_wp2_with fail;go_ret;rw[<-He.out];exact⟨rfl,rfl⟩
theorem qK (a:Addr)(W:World):(binOp .neq 36 (bl a) (bl a)).run Tryz.prog W =.ok (.bool false) W:=by
 obtain⟨i,hi,hc⟩:=Option.map_eq_some_iff.1 AA;obtain⟨j,hj,hs⟩:=Option.map_eq_some_iff.1 BF;simp only[binOp];simp[Op.equal,Op.maxDepth,run_equalIn_iface_ptr_same W 9998 a Tryz.underlying36 Tryz.underlying406 hi hc hj]
theorem iJ (w:World)(xs:List UInt8)(hm:xs.length<=9223372036854775807):Bs (w.alloc (.cells (gL xs).toArray 5 (xs.length,xs.length+1))) (.slice (some ⟨w.heap.size,0,none⟩) xs.length xs.length) xs:=rD xs hm (Za _) (Ze w _)
theorem yt:BJ ⟨false,⟨#[]⟩,0⟩:=⟨by decide,by decide,by decide⟩
theorem dV {k:Int}{t:Bool}{x:ByteArray}:x.size<=1000000000->d.digits.size<=1000000000->Sz (.mk k t x d [] []):=fun h1 h2=>.mk _ _ _ _ _ _ h1 h2 (by simp) (by simp)
theorem FP:Sz Ga:=by
 refine .mk _ _ _ _ _ _ (by decide) (by decide) (by simp;decide) (fun u hu=>?_);simp only[List.mem_cons,List.mem_nil_iff,or_false] at hu;rcases hu with rfl|rfl
 ·exact dV (by decide) (by decide)
 ·refine .mk _ _ _ _ _ _ (by decide) (by decide) (by simp) (fun u hu=>?_);simp only[List.mem_cons,List.mem_nil_iff,or_false] at hu;rcases hu with rfl|rfl <;> exact dV (by decide) (by decide)
theorem AX:Tx (cR [dT ⟨false,⟨#[49]⟩,0⟩,dT ⟨false,⟨#[50]⟩,0⟩]):=by
 refine .list _ fun u hu=>?_
 simp only[List.mem_cons,List.mem_nil_iff,or_false] at hu;rcases hu with rfl|rfl
 ·exact .num _ (.inr ⟨⟨by decide,by decide,by decide,by decide⟩,by decide,by decide⟩)
 ·exact .num _ (.inr ⟨⟨by decide,by decide,by decide,by decide⟩,by decide,by decide⟩)
theorem B7:Sz (cR [dT ⟨false,⟨#[49]⟩,0⟩,dT ⟨false,⟨#[50]⟩,0⟩]):=by
 refine .mk _ _ _ _ _ _ (by decide) (by decide) (by simp) (fun u hu=>?_);simp only[List.mem_cons,List.mem_nil_iff,or_false] at hu;rcases hu with rfl|rfl <;> exact dV (by decide) (by decide)
def bS:ByteArray:=⟨#[98]⟩
theorem qX:dq bS:=⟨[98],by decide,by decide⟩
def bJ:JV:=kq [(bS,fB true)]
theorem CF:bJ.txt = [123,34,98,34,58,116,114,117,101,125]:=by rfl
theorem Gl:Tx bJ:=.obj [bS] [fB true] rfl (fun s hs=>by rw[List.mem_singleton.1 hs];exact qX) (List.pairwise_singleton _ _) (fun u hu=>by rw[List.mem_singleton.1 hu];exact .bool true)
theorem Gf:Sz bJ:=.mk _ _ _ _ _ _ (by decide) (by decide) (fun s hs=>by rw[List.mem_singleton.1 hs];decide) (fun u hu=>by rw[List.mem_singleton.1 hu];exact dV (by decide) (by decide))
theorem BZ (h:w'.heap[w.heap.size]?=some (.cells #[.slice none 0 0,.nilIface] 73 (0,0))):jw w.heap.size w' w.heap.size [] none []:=
 ⟨none,0,.nilIface, [],h,Za _,⟨rfl,.inl ⟨rfl,rfl⟩⟩,br.nil _,rfl,List.nodup_nil,rfl⟩
theorem lJ {w12:World}{a:Addr}(h:w10.cell? ⟨g,0,none⟩=some (bl a))(h1:Below w8.heap.size w8 w10)(h2:Below w8.heap.size w8 w12)(he:bo w8 g):w12.cell? ⟨g,0,none⟩=some (bl a):=by
 obtain⟨b,hb⟩:=he;have e:=Zf h1 hb;rw[h] at e;rw[Zh e];exact Zf h2 hb
theorem vv {a:Addr}(h:w10.cell? ⟨g,0,none⟩=some (bl a))(h1:Below w8.heap.size w8 w10)(he:bo w8 g):w8.cell? ⟨g,0,none⟩=some (bl a):=lJ h h1 (Zd _ _) he
def IB (w:World)(e:Ending)(w':World):Prop:=e =.returned (.bool true)/\Below w.heap.size w w'
theorem zu (hL:vV w):Calls Tryz.prog 4 #[] w (IB w):=by
 have a9:=ac w (.cells #[.int .u8 123,.int .u8 32,.int .u8 34,.int .u8 98,.int .u8 34,.int .u8 32,.int .u8 58,.int .u8 32,.int .u8 91,.int .u8 49,.int .u8 46,.int .u8 53,.int .u8 48,.int .u8 44,.int .u8 32,.int .u8 49,.int .u8 101,.int .u8 50,.int .u8 93,.int .u8 44,.int .u8 32,.int .u8 34,.int .u8 97,.int .u8 92,.int .u8 117,.int .u8 48,.int .u8 48,.int .u8 54,.int .u8 50,.int .u8 34,.int .u8 32,.int .u8 58,.int .u8 32,.int .u8 110,.int .u8 117,.int .u8 108,.int .u8 108,.int .u8 32,.int .u8 125] 5 (39,40));have f2:=Qa a9;have H1:=Qa (show Calls Tryz.prog 14 #[.slice (some ⟨w.heap.size,0,none⟩) 39 39] (w.alloc (.cells #[.int .u8 123,.int .u8 32,.int .u8 34,.int .u8 98,.int .u8 34,.int .u8 32,.int .u8 58,.int .u8 32,.int .u8 91,.int .u8 49,.int .u8 46,.int .u8 53,.int .u8 48,.int .u8 44,.int .u8 32,.int .u8 49,.int .u8 101,.int .u8 50,.int .u8 93,.int .u8 44,.int .u8 32,.int .u8 34,.int .u8 97,.int .u8 92,.int .u8 117,.int .u8 48,.int .u8 48,.int .u8 54,.int .u8 50,.int .u8 34,.int .u8 32,.int .u8 58,.int .u8 32,.int .u8 110,.int .u8 117,.int .u8 108,.int .u8 108,.int .u8 32,.int .u8 125] 5 (39,40))) _ from by
  obtain⟨⟨aU,aE,hE⟩,hM,hP,-⟩:=hL.below a9;exact sQ (v:=.slice (some ⟨w.heap.size,0,none⟩) 39 39) (xs:=Iy) (j:=Ga) hE hM hP (iJ w Iy (by decide)) (by decide) (by decide) BV F5 FP (by rw[Bj];decide))
 rw[Bj] at H1;have HL:=Qa hL;clear hL a9;have q0:=fun (w:World) (C:Array Value) (n c:Nat)=>Lib.run_convert_bytes_const (P:=Tryz.prog) w 22 5 C n c Tryz.underlying22 Tryz.underlying5
 go_enter Tryz.func4,Tryz.ntmps4;go_wp2_with fail;(with_reducible refine H1.out.mono ?_);rintro e w1 ⟨u1,rfl,f8,g5⟩;have f0:=Qa (f2.out.trans (g5.mono f2.out.size));have a1:=Qa (aq.bs f8);obtain⟨A1,q1,rfl,-⟩:=ag f8;clear f8 g5 H1 f2;obtain⟨aN,hN⟩:=(HL.out.below f0.out).eNil;have HN:=Qa hN;have H2:=Qa (Au hN);clear hN;go_wp2_with fail;(with_reducible refine H2.out.mono ?_);rintro e w2 ⟨rfl,e4⟩;have e8:=Qa (f0.out.trans (e4.mono f0.out.size));replace a1:=Qa (a1.out.below e4);replace HN:=Qa (Zf e4 HN.out);obtain⟨aH,hH⟩:=(HL.out.below e8.out).eHidden;have HH:=Qa hH;have H3:=Qa (xl hH);clear hH e4 H2 f0;go_wp2_with fail;(with_reducible refine H3.out.mono ?_);rintro e w3 ⟨rfl,e2⟩;have g0:=Qa (e8.out.trans (e2.mono e8.out.size));replace a1:=Qa (a1.out.below e2);replace HN:=Qa (Zf e2 HN.out);replace HH:=Qa (Zf e2 HH.out);clear e2 H3 e8;have g2:=ac w3 (.cells #[.int .u8 49] 5 (1,2));have f9:=ac (w3.alloc (.cells #[.int .u8 49] 5 (1,2))) (.cells #[.int .u8 49,.int .u8 46,.int .u8 48] 5 (3,4));have d9:=g2.trans (f9.mono g2.size);have a3:=Qa (g0.out.trans (d9.mono g0.out.size));have H4:=Qa (show Calls Tryz.prog 15 #[.slice (some ⟨w3.heap.size,0,none⟩) 1 1,.slice (some ⟨w3.heap.size+1,0,none⟩) 3 3] ((w3.alloc (.cells #[.int .u8 49] 5 (1,2))).alloc (.cells #[.int .u8 49,.int .u8 46,.int .u8 48] 5 (3,4))) _ from by
  obtain⟨⟨aU,aE,hE⟩,hM,hP,-⟩:=HL.out.below a3.out;have b2:=iJ (w3.alloc (.cells #[.int .u8 49] 5 (1,2))) [49,46,48] (by decide);rw[World.size_alloc] at b2;exact CJ (v:=.slice (some ⟨w3.heap.size,0,none⟩) 1 1) (v':=.slice (some ⟨w3.heap.size+1,0,none⟩) 3 3) (xs:= [49]) (xs':= [49,46,48]) (j:=dT ⟨false,⟨#[49]⟩,0⟩) (j':=dT ⟨false,⟨#[49]⟩,0⟩) hE hM hP ((iJ w3 [49] (by decide)).below f9) (by decide) (by decide) zn b2 (by decide) (by decide) vK)
 rw[dt.2 rfl] at H4;have q4:=Joins.run_convert_bytes_const_at (P:=Tryz.prog) (w3.alloc (.cells #[.int .u8 49] 5 (1,2))) 22 5 #[.int .u8 49,.int .u8 46,.int .u8 48] 3 3 (w3.heap.size+1) (by simp) Tryz.underlying22 Tryz.underlying5;replace a1:=Qa (a1.out.below d9);replace HN:=Qa (Zf d9 HN.out);replace HH:=Qa (Zf d9 HH.out);clear g2 f9 d9 g0;go_wp2_with fail;(with_reducible refine H4.out.mono ?_);rintro e w4 ⟨rfl,c5⟩;have e3:=Qa (a3.out.trans (c5.mono a3.out.size));replace a1:=Qa (a1.out.below c5);replace HN:=Qa (Zf c5 HN.out);replace HH:=Qa (Zf c5 HH.out);clear c5 H4 a3;have H5:=Qa (show Calls Tryz.prog 10 #[.iface 52 (.pointer none)] w4 _ from by
  obtain⟨⟨aU,aE,hE⟩,hM,hP,-⟩:=HL.out.below e3.out;exact fc (P:=fun _=>True) (j:=cR []) .bare hP hE.glob (.list [] (by simp)) (dV (by decide) (by decide)) (by decide))
 rw[show(cR []).txt = [91,93] from rfl] at H5;go_wp2_with fail;(with_reducible refine H5.out.mono ?_);rintro e w5 ⟨u5,rfl,f5,b9⟩;have e5:=Qa (e3.out.trans (b9.mono e3.out.size));replace a1:=Qa (a1.out.below b9);replace HN:=Qa (Zf b9 HN.out);replace HH:=Qa (Zf b9 HH.out);have a4:=Qa (aq.bs f5);obtain⟨A5,q5,rfl,-⟩:=ag f5;clear f5 b9 H5 e3;have C1:=Qa (show Calls Tryz.prog 16 #[.iface 45 (.agg #[]),.iface 54 (.bool false)] w5 _ from by
  obtain⟨⟨aU,aE,hE⟩,hM,hP,-⟩:=HL.out.below e5.out;exact iY (P:=fun _=>True) (Q:=fun _=>True) (a:=some jA) (b:=some (fB false)) .null (.bool false) hP hE.glob (fun j e=>by cases e;exact Tx.jb .null (dV (by decide) (by decide))) (fun j e=>by cases e;exact Tx.jb (.bool _) (dV (by decide) (by decide))))
 rw[show sF (some jA) (some (fB false)) = -1 from rfl] at C1;go_wp2_with fail;(with_reducible refine C1.out.mono ?_);rintro e w6 ⟨rfl,b5⟩;have f1:=Qa (e5.out.trans (b5.mono e5.out.size));replace a1:=Qa (a1.out.below b5);replace a4:=Qa (a4.out.below b5);replace HN:=Qa (Zf b5 HN.out);replace HH:=Qa (Zf b5 HH.out);clear b5 C1 e5;have C2:=Qa (show Calls Tryz.prog 16 #[.iface 55 (.string ⟨#[98]⟩),.iface 55 (.string ⟨#[97,98]⟩)] w6 _ from by
  obtain⟨⟨aU,aE,hE⟩,hM,hP,-⟩:=HL.out.below f1.out;exact iY (P:=fun _=>True) (Q:=fun _=>True) (a:=some (eI ⟨#[98]⟩)) (b:=some (eI ⟨#[97,98]⟩)) (.text _) (.text _) hP hE.glob (fun j e=>by cases e;exact .mk _ _ _ _ _ _ (by decide) yt (by simp) (by simp)) (fun j e=>by cases e;exact .mk _ _ _ _ _ _ (by decide) yt (by simp) (by simp)))
 rw[show sF (some (eI ⟨#[98]⟩)) (some (eI ⟨#[97,98]⟩))=1 from rfl] at C2;go_wp2_with fail;(with_reducible refine C2.out.mono ?_);rintro e w7 ⟨rfl,b7⟩;have e7:=Qa (f1.out.trans (b7.mono f1.out.size));replace a1:=Qa (a1.out.below b7);replace a4:=Qa (a4.out.below b7);replace HN:=Qa (Zf b7 HN.out);replace HH:=Qa (Zf b7 HH.out);clear b7 C2 f1;have C3:=Qa (show Calls Tryz.prog 16 #[.nilIface,.nilIface] w7 _ from by
  obtain⟨⟨aU,aE,hE⟩,hM,hP,-⟩:=HL.out.below e7.out;exact iY (P:=fun _=>True) (Q:=fun _=>True) (a:=none) (b:=none) rfl rfl hP hE.glob (fun j e=>by cases e) (fun j e=>by cases e))
 rw[show sF none none=0 from rfl] at C3;go_wp2_with fail;(with_reducible refine C3.out.mono ?_);rintro e w8 ⟨rfl,b3⟩;have a2:=Qa (e7.out.trans (b3.mono e7.out.size));replace a1:=Qa (a1.out.below b3);replace a4:=Qa (a4.out.below b3);replace HN:=Qa (Zf b3 HN.out);replace HH:=Qa (Zf b3 HH.out);clear b3 C3 e7;go_wp2_with fail;(with_reducible refine jJ.mono ?_);rintro e w9 ⟨rfl,g3,g6⟩;have H9:=Qa g6;have g4:=Qa (BZ g3);clear g3 g6;have O1:=Qa (lN g4.out rfl H9.out.size (Zj _));go_wp2_with fail;(with_reducible refine O1.out.mono ?_);rintro e w10 ⟨rfl,d1,bs10,d4⟩;have b6:=Qa (H9.out.trans d1.b);have e1:=Qa d4;clear d1 d4 O1 g4 H9;obtain⟨aT,hT⟩:=(HL.out.below (a2.out.trans (b6.out.mono a2.out.size))).eTwice;have c6:=Qa hT;have N1:=Qa (show Calls Tryz.prog 18 #[.pointer (some ⟨w8.heap.size,0,none⟩),.string ⟨#[98]⟩] w10 _ from by
  obtain⟨⟨aU,aE,hE⟩,-⟩:=HL.out.below (a2.out.trans (b6.out.mono a2.out.size));exact lE e1.out qX hE.glob (by decide) hT b6.out.size (by decide) (by decide))
 clear hT;go_wp2_with fail;(with_reducible refine N1.out.mono ?_);rintro e w11 (⟨hx,-⟩|⟨-,rfl,c0,bs11,c9⟩)
 ·exact absurd hx (by simp)
 have e6:=Qa (b6.out.trans c0.b);have d5:=Qa c9;clear c0 c9 N1 e1;have P1:=Qa (show Calls Tryz.prog 12 #[.pointer (some ⟨w8.heap.size,0,none⟩),.iface 54 (.bool true)] w11 _ from by
  obtain⟨⟨aU,aE,hE⟩,hM,hP,-⟩:=HL.out.below (a2.out.trans (e6.out.mono a2.out.size));exact tX d5.out rfl (.bool true) hP hE.glob (.bool true) (dV (by decide) (by decide)) (by decide) e6.out.size (by decide) (fun f hf=>by rw[List.mem_singleton.1 hf];exact⟨by decide,by decide⟩))
 go_wp2_with fail;(with_reducible refine P1.out.mono ?_);rintro e w12 ⟨rfl,d3,bs12,c1⟩;have b4:=Qa (e6.out.trans d3.b);have a7:=Qa (show jw w8.heap.size w12 w8.heap.size (⟨true, [], [(bS,fB true)],none⟩:: []) none bs12 from c1);clear d3 c1 P1 d5 e6;have N2:=Qa (show Calls Tryz.prog 18 #[.pointer (some ⟨w8.heap.size,0,none⟩),.string ⟨#[98]⟩] w12 _ from by
  obtain⟨⟨aU,aE,hE⟩,-⟩:=HL.out.below (a2.out.trans (b4.out.mono a2.out.size));exact lE (s:=⟨#[98]⟩) a7.out qX hE.glob (by decide) (lJ c6.out b6.out b4.out (HL.out.below a2.out).eTwice) b4.out.size (by decide) (by decide))
 go_wp2_with fail;(with_reducible refine N2.out.mono ?_);rintro e w13 (⟨-,rfl,b1⟩|⟨hx,-⟩)
 case inr=>exact absurd (List.mem_singleton.2 rfl) hx
 have f6:=Qa (b4.out.trans (b1.mono b4.out.size));have d0:=Qa (a7.out.below b1);clear b1 N2 a7 b4;have K1:=Qa (ky d0.out rfl f6.out.size (by decide) (fun f hf=>by cases hf) (by decide) (fun s hs=>by rw[List.mem_singleton.1 hs];exact⟨qX,by decide⟩) (List.pairwise_singleton _ _));go_wp2_with fail;(with_reducible refine K1.out.mono ?_);rintro e w14 ⟨rfl,d6,bs14,e0⟩;have f3:=Qa (f6.out.trans d6.b);have f4:=Qa (show jw w8.heap.size w14 w8.heap.size [] (some bJ) bs14 from e0);clear d6 e0 K1 d0 f6;have B1:=Qa (show Calls Tryz.prog 9 #[.pointer (some ⟨w8.heap.size,0,none⟩)] w14 _ from by
  obtain⟨⟨aU,aE,hE⟩,hM,hP,-⟩:=HL.out.below (a2.out.trans (f3.out.mono a2.out.size));exact lU f4.out hP hE.glob Gl Gf (by rw[CF];decide))
 rw[CF] at B1;go_wp2_with fail;(with_reducible refine B1.out.mono ?_);rintro e w15 ⟨u15,rfl,a5,b8⟩;have a0:=f3.out.trans (b8.mono f3.out.size);have cN:=Zf a0 HN.out;have cH:=Zf a0 HH.out;have cT:=Zf a0 (vv c6.out b6.out (HL.out.below a2.out).eTwice);have s1:(convert 22 9 (.slice A1 27 q1)).run Tryz.prog w15 =.ok (.string ⟨#[123,34,97,98,34,58,110,117,108,108,44,34,98,34,58,91,49,53,101,45,49,44,49,101,50,93,125]⟩) w15:=aJ (a1.out.below a0);have s5:(convert 22 9 (.slice A5 2 q5)).run Tryz.prog w15 =.ok (.string ⟨#[91,93]⟩) w15:=aJ (a4.out.below a0);have d2:=aq.bs a5;have c7:=Qa (a2.out.trans (a0.mono a2.out.size));obtain⟨A15,q15,rfl,-⟩:=ag a5;have s15:(convert 22 9 (.slice A15 10 q15)).run Tryz.prog w15 =.ok (.string ⟨#[123,34,98,34,58,116,114,117,101,125]⟩) w15:=aJ d2;have qe:=qK;have c3:=ac w15 (.cells #[.int .u8 91,.int .u8 49,.int .u8 44,.int .u8 50,.int .u8 93] 5 (5,6));have b0:=Qa (c7.out.trans (c3.mono c7.out.size));have I1:=Qa (show Calls Tryz.prog 20 #[.slice (some ⟨w15.heap.size,0,none⟩) 5 5] (w15.alloc (.cells #[.int .u8 91,.int .u8 49,.int .u8 44,.int .u8 50,.int .u8 93] 5 (5,6))) _ from by
  obtain⟨⟨aU,aE,hE⟩,hM,hP,-⟩:=HL.out.below b0.out;exact Bo (v:=.slice (some ⟨w15.heap.size,0,none⟩) 5 5) (xs:= [91,49,44,50,93]) hE hM hP (iJ w15 [91,49,44,50,93] (by decide)) (by decide) (by decide) yV AX B7 (by rw[mA];decide))
 rw[mA,decide_eq_true rfl] at I1;clear a5 b8 a0 B1 c3 d2;go_wp2_with fail;(with_reducible refine I1.out.mono ?_);rintro e w17 ⟨rfl,c4⟩;have d7:=Qa (b0.out.trans (c4.mono b0.out.size));have c8:=ac w17 (.cells #[.int .u8 91,.int .u8 49,.int .u8 44,.int .u8 32,.int .u8 50,.int .u8 93] 5 (6,7));have a6:=Qa (d7.out.trans (c8.mono d7.out.size));have I2:=Qa (show Calls Tryz.prog 20 #[.slice (some ⟨w17.heap.size,0,none⟩) 6 6] (w17.alloc (.cells #[.int .u8 91,.int .u8 49,.int .u8 44,.int .u8 32,.int .u8 50,.int .u8 93] 5 (6,7))) _ from by
  obtain⟨⟨aU,aE,hE⟩,hM,hP,-⟩:=HL.out.below a6.out;exact Bo (v:=.slice (some ⟨w17.heap.size,0,none⟩) 6 6) (xs:= [91,49,44,32,50,93]) hE hM hP (iJ w17 [91,49,44,32,50,93] (by decide)) (by decide) (by decide) z6 AX B7 (by rw[mA];decide))
 rw[mA,decide_eq_false (by decide)] at I2;clear c4 c8 I1;go_wp2_with fail;(with_reducible refine I2.out.mono ?_);rintro e w19 ⟨rfl,c2⟩;have g1:=Qa (a6.out.trans (c2.mono a6.out.size));clear c2 I2;go_wp2_with fail;go_ret;exact⟨rfl,g1.out⟩
