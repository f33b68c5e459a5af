/- The tied card of wicketlaw8.CanonWriters is proved: whatever the Doc and the bytes, the call returns true, and both read afterwards as before. Condition: the listed package-level variables read as their text lays them (the card ties them). -/
import Derived.Test.YtibmppoeeppnoaaGreatDoorGZ4bu
import Derived.LaidMore
import Derived.Lib.LaidU8
import Derived.Stop.LaidErr
import Derived.Lay
import Derived.Deep.OwnShut
import Derived.Test.YtibmppoeeppnoaaGreatDoorCards
import Derived.Test.YtibmppoeeppnoaaGreatDoorTie
set_option linter.unusedVariables false
set_option linter.unusedSimpArgs false
set_option maxHeartbeats 64000000
set_option maxRecDepth 100000
namespace Go.Proofs.YtibmppoeeppnoaaGreatDoor
open Go.RowKit Go.Shelf
variable {aE aS aT aU:Addr}{args:Array Value}{j0:JV}{hs xs ys:List UInt8}{us:List Value}{B base c cap ch fuel g m n nh:Nat}{Ah:Option Addr}{e t:TypeId}{u v x:Value}{W W' w w0:World}
theorem sD {l:List JV}{u:JV}(h:u∈l):u.size<=JV.sizes l:=by
 obtain⟨i,hi,rfl⟩:=List.getElem_of_mem h;have:=f7 (Zc hi);omega
theorem xo (hf:dA w0 0 v (j0.flat 0))(c0:j0.size<=6000+1)(b3:w0.heap.size<=B)(hh:Bs w0 (.slice Ah nh ch) hs)(hS:w0.cell? ⟨3,0,none⟩=some (bl aS))(hT:w0.cell? ⟨2,0,none⟩=some (bl aT))(hG:co w0 aU aE)(hP:cW w0) :
  ∀ (j:JV) (a:Nat) (w:World) (frs:List Fr) (bs:List Nat),Below w0.heap.size w0 w->B<=w.heap.size->eo j0 0 a j->bR dU j->jw B w g frs none bs->yr frs none=true->frs.length+j.size<=100000000->(∀f∈frs,Es f)->Calls Tryz.prog 8 #[.pointer (some ⟨g,0,none⟩),v,.int .i64 (a:Int),.slice Ah nh ch] w (EL B g (bX frs j) w):=by
 obtain⟨A,cap,rfl,a7,hm,hA⟩:=hf.form;have hn:=j0.size_pos;obtain⟨gt,rfl⟩:=hA (by rw[JV.flat_len];omega);rw[JV.flat_len] at a7 hm hf ⊢;refine JV.ind (P:=fun j=> ∀ (a:Nat) (w:World) (frs:List Fr) (bs:List Nat),Below w0.heap.size w0 w->B<=w.heap.size->eo j0 0 a j->bR dU j->jw B w g frs none bs->yr frs none=true->frs.length+j.size<=100000000->(∀f∈frs,Es f)->Calls Tryz.prog 8 #[.pointer (some ⟨g,0,none⟩),.slice (some ⟨gt,0,none⟩) j0.size cap,.int .i64 (a:Int),.slice Ah nh ch] w (EL B g (bX frs j) w)) (fun k t x n ns ks ih a w frs bs hb a4 hs hg hW ht b6 hi=>?_);have a3:=hs.node;rw[Nat.sub_zero] at a3;obtain⟨vn,vk,h1,h2,h3⟩:=hf.node a3;have hc:=(show fa w0 gt a k t x n vn vk from fun j u hu=>h3 j u hu);have c1:=hs.bd;have b7:(JV.mk k t x n ns ks).size=1+JV.sizes ks:=by simp[JV.size]
 have ha:a<j0.size:=by omega
 obtain⟨Ak,ck,rfl,-,-,-⟩:=ag h2;obtain⟨An,cn,rfl,-,-,-⟩:=ag h1;have hkl:ks.length<=1000000:=by
  have:=bP ks;omega
 have b1:bQ w0 0 (.slice Ak ks.length ck) (aP (a+1) ks):=by
  simp only[bj] at h2;exact h2
 simp only[bj] at hc;have a0:∀ (i:Nat) (u:JV) (p:Nat),ks[i]?=some u->(aP (a+1) ks)[i]?=some p->eo j0 0 p u/\u∈ks:=fun i u p hu hp=>by
  have hi:=(List.getElem?_eq_some_iff.1 hu).1;have e:ks=ks.take i++u::ks.drop (i+1):=by
   have h:=(List.take_append_drop i ks).symm;rw[List.drop_eq_getElem_cons hi] at h;rw[(List.getElem?_eq_some_iff.1 hu).2] at h;exact h
  have b5:p=a+1+JV.sizes (ks.take i):=by
   rw[e,cZ,List.getElem?_append_right (by rw[bj,List.length_take];omega),bj,List.length_take,Nat.min_eq_left (by omega),Nat.sub_self] at hp;simpa [aP] using hp.symm
  refine⟨?_,Zk hu⟩;rw[b5];rw[e] at hs;exact hs.kid
 have a5:=mI hg;have a1:=qY hg;have hlen:=(nX hg (by omega)).2;have a2:frs.length<=1000000000:=by omega
 cases hg with
 |null=>exact fX (T:=fun _=>True) (hf.below hb (Za _)) hs (by omega) (fun j u hu=>Zf hb (hc j u hu)) (cI.below h1 hb (Za _)) rfl rfl .null a5 a1 (by omega) hW ht (hP.below hb) (hG.below hb) a4 a2 hi
 |bool b=>exact fX (T:=fun _=>True) (hf.below hb (Za _)) hs (by omega) (fun j u hu=>Zf hb (hc j u hu)) (cI.below h1 hb (Za _)) rfl rfl (.bool _) a5 a1 (by omega) hW ht (hP.below hb) (hG.below hb) a4 a2 hi
 |num d hd hn=>exact fX (T:=fun _=>True) (hf.below hb (Za _)) hs (by omega) (fun j u hu=>Zf hb (hc j u hu)) (cI.below h1 hb (Za _)) rfl rfl (.num _ hd hn) a5 a1 (by omega) hW ht (hP.below hb) (hG.below hb) a4 a2 hi
 |text s h8=>exact fX (T:=fun _=>True) (hf.below hb (Za _)) hs (by omega) (fun j u hu=>Zf hb (hc j u hu)) (cI.below h1 hb (Za _)) rfl rfl (.text _ trivial) a5 a1 (by omega) hW ht (hP.below hb) (hG.below hb) a4 a2 hi
 |list ks hks=>
  exact ur hb b3 a4 hc b1 (bj _ _) ha (by omega) hkl hh hS hW ht (by omega) hi fun i u p hu hp w2 b2 a9 a6 b0=>by
   have hm:=(a0 i u p hu hp).2;have hz:=sD hm;have b8:=(List.getElem?_eq_some_iff.1 hu).1;exact ih u hm p w2 (⟨false,ks.take i, [],none⟩::frs) b2 a9 a6 (a0 i u p hu hp).1 (hks u hm) b0 rfl (by rw[List.length_cons];omega) (fun f hf=>by
    rcases List.mem_cons.1 hf with rfl|hf
    ·exact⟨by show(ks.take i).length<=_;rw[List.length_take];omega,by show 0<=_;omega⟩
    ·exact hi f hf)
 |obj ns ks hnl h8 hr hks=>
  have b4:cI w0 0 (.slice An ks.length cn) ns:=by
   have:=h1;rw[hnl] at this;exact this
  rw[hnl] at hc;exact wO hb b3 a4 hc b4 b1 hnl (bj _ _) ha (by omega) hkl (fun s hs=>⟨⟨(h8 s hs).1,by have:=(h8 s hs).2;omega⟩,by have:=(h8 s hs).2;omega⟩) hr hh hS hT hG hW ht (by omega) hi fun i u p s ms hu hp b9 w2 b2 a9 a6 b0=>by
   have hm:=(a0 i u p hu hp).2;have hz:=sD hm;exact ih u hm p w2 (⟨true, [],ms,some s⟩::frs) b2 a9 a6 (a0 i u p hu hp).1 (hks u hm) b0 rfl (by rw[List.length_cons];omega) (fun f hf=>by
    rcases List.mem_cons.1 hf with rfl|hf
    ·exact⟨by show 0<=_;omega,by show ms.length<=_;omega⟩
    ·exact hi f hf)
theorem kX {ta vh:Value}{Ab:Option Addr}{nb cb:Nat}(hL:vV w)(h1:Bs w ta xs)(h2:Bs w vh hs) :
  Calls Tryz.prog 3 #[.agg #[ta,.slice Ah nh ch,.slice Ab nb cb],vh] w (IB w):=by
 obtain⟨f6,A1,c1,rfl,f5,-⟩:=id h1;obtain⟨f9,A2,c2,rfl,f3,-⟩:=id h2;have ha:=ac w (.cells #[.slice A1 xs.length c1,.slice Ah nh ch,.slice Ab nb cb] 25);have e5:=Qa (Ze w (.cells #[.slice A1 xs.length c1,.slice Ah nh ch,.slice Ab nb cb] 25));have Ha:=Qa ha;have HL:=Qa hL;have d3:=Qa h1;have f8:=Qa h2;clear hL h1 h2 ha f5 f3 f6 f9;go_enter Tryz.func3,Tryz.ntmps3;go_wp2_with fail;generalize w.alloc (.cells #[.slice A1 xs.length c1,.slice Ah nh ch,.slice Ab nb cb] 25)=w0 at *;(with_reducible refine(zu (HL.out.below Ha.out)).mono ?_);rintro e w1 ⟨rfl,c0⟩;have b1:=Qa (Ha.out.trans (c0.mono Ha.out.size));have d1:=aa (ai e5.out c0) (j:=0) (u:=.slice A1 xs.length c1) rfl;have e6:=Qa (Bb (d3.out.below b1.out));clear c0 e5 Ha;go_wp2_with fail;(with_reducible refine e6.out.mono ?_);rintro e w2 ⟨Aa,na,qa,oka,rfl,e4,e1⟩;have a3:=Qa (b1.out.trans (e4.mono b1.out.size));have e7:=Qa e1;clear e4 e1 d1 b1 e6 d3;go_wp2_with fail;(with_reducible refine jJ.mono ?_);rintro e w3 ⟨rfl,c9,c5⟩;have a6:=Qa (a3.out.trans (c5.mono a3.out.size));have a1:=Qa c5;have e2:=Qa (BZ c9);clear c5 c9
 cases oka with
 |false=>
  go_wp2_with fail;go_ret;exact⟨rfl,a6.out⟩
 |true=>
 by_cases hna:na=0
 ·have c3:((na:Int)==0)=true:=by rw[hna];rfl
  clear hna;go_wp2_with fail;go_ret;exact⟨rfl,a6.out⟩
 have c3:((na:Int)==0)=false:=by simp only[beq_eq_false_iff_ne];omega
 obtain⟨j,hg,hf,hz⟩:=(e7.out rfl).resolve_left fun h=>hna h.1
 have b6:=hf.flat.low (Zj _);have HD:=Qa (ni (b6.below a1.out (Za _)) (by omega));have Hf:=Qa b6;have Hg:=Qa hg;have Hz:=Qa hz;clear hg hf hz b6 hna e7;go_wp2_with fail;(with_reducible refine HD.out.mono ?_);rintro e w4 ⟨m,rfl,b0⟩;have d4:=Qa (a6.out.trans (b0.mono a6.out.size));have a0:=Qa (a1.out.trans (b0.mono a1.out.size));have f1:=Qa (e2.out.below b0);clear b0 HD e2 a6 a1
 by_cases hm:(200:Int)<m
 ·go_wp2_with fail;go_ret;exact⟨rfl,d4.out⟩
 have d0:=Qa (show Calls Tryz.prog 8 #[.pointer (some ⟨w2.heap.size,0,none⟩),.slice Aa na qa,.int .i64 0,.slice A2 hs.length c2] w4 (fun e w'=>EL w2.heap.size w2.heap.size (bX [] j) w4 e w') from by
  obtain⟨⟨aU,aE,hE⟩,hM,hP,-,⟨aT,hT⟩,-,aS,hS⟩:=HL.out.below a3.out;exact xo Hf.out Hz.out (Za _) (f8.out.below a3.out) hS hT hE.glob hP j 0 w4 [] [] a0.out a0.out.size (.here _ _) Hg.out f1.out rfl (by have:=Hz.out;simp;omega) (by simp))
 clear f1;go_wp2_with fail;(with_reducible refine d0.out.mono ?_);rintro e w5 ⟨rfl,b8,bs5,d9⟩;have a2:=Qa (a0.out.trans b8.b);have b3:=Qa (a3.out.trans ((a0.out.trans b8.b).mono a3.out.size));have c4:=Qa (show jw w2.heap.size w5 w2.heap.size [] (some j) bs5 from d9);clear b8 d9 d0 a0 d4;have f0:=Qa (show Calls Tryz.prog 9 #[.pointer (some ⟨w2.heap.size,0,none⟩)] w5 (fun e w'=>BX (JV.txt j) w5 e w') from by
  obtain⟨⟨aU,aE,hE⟩,hM,hP,-⟩:=HL.out.below b3.out;exact lU c4.out hP hE.glob (mI Hg.out) (qY Hg.out) (Zb (nX Hg.out Hz.out).2 (by decide)))
 go_wp2_with fail;(with_reducible refine f0.out.mono ?_);rintro e w6 ⟨u6,rfl,b9,b4⟩;have d5:=Qa (aq.bs b9);obtain⟨A6,q6,rfl,-⟩:=ag b9;have c6:=Qa (b3.out.trans (b4.mono b3.out.size));have e8:=Qa (c4.out.below b4);have c8:=Qa (ux (Hf.out.below (a2.out.trans (b4.mono a2.out.size)) (Za _)) (by have:=Hz.out;omega) (Ok.of_good (h:=True) (T:=fun _=>True) (fun _ _=>trivial) Hg.out));clear b9 b4 f0 c4 b3 a2;go_wp2_with fail;(with_reducible refine c8.out.mono ?_);rintro e w7 ⟨u,rfl,b5,hu⟩;have a7:=Qa (c6.out.trans (b5.mono c6.out.size));have d6:=Qa (e8.out.below b5);have d7:=Qa (d5.out.below b5);have d2:=Qa (show Calls Tryz.prog 10 #[u] w7 (fun e w'=>BX (JV.txt j) w7 e w') from by
  obtain⟨⟨aU,aE,hE⟩,hM,hP,-⟩:=HL.out.below a7.out;exact fc hu hP hE.glob (mI Hg.out) (qY Hg.out) (Zb (nX Hg.out Hz.out).2 (by decide)))
 obtain⟨tv,xv,rfl⟩:=hu.iface;clear b5 hu c8 e8 d5 c6;go_wp2_with fail;(with_reducible refine d2.out.mono ?_);rintro e w8 ⟨u8,rfl,b7,a9⟩;have e0:=Qa (aq.bs b7);obtain⟨A8,q8,rfl,-⟩:=ag b7;have a5:=Qa (a7.out.trans (a9.mono a7.out.size));have e3:=Qa (d6.out.below a9);have a4:=Qa (d7.out.below a9);clear b7 a9 d2 d6 d7 a7;obtain⟨aS,hS⟩:=(HL.out.below a5.out).eSyntax;have f2:=Qa (show Calls Tryz.prog 12 #[.pointer (some ⟨w2.heap.size,0,none⟩),.iface 45 (.agg #[])] w8 (fun e w'=>e =.returned (bl aS)/\Below w8.heap.size w8 w') from by
  obtain⟨⟨aU,aE,hE⟩,hM,hP,-⟩:=HL.out.below a5.out;exact Ao (P:=fun _=>True) e3.out .null hP hE.glob .null (dV (by decide) (by decide)) (by decide) hS)
 clear hS;go_wp2_with fail;(with_reducible refine f2.out.mono ?_);rintro e w9 ⟨rfl,b2⟩;have f4:=Qa (a5.out.trans (b2.mono a5.out.size));have c7:=Qa (oS (a4.out.below b2) (e0.out.below b2));rw[decide_eq_true rfl] at c7;clear b2 f2 e3 a4 e0 a5;go_wp2_with fail;(with_reducible refine c7.out.mono ?_);rintro e w10 ⟨rfl,rfl⟩;go_wp2_with fail;go_ret;exact⟨rfl,f4.out⟩
open Go.ChangeShapes Go.WideShapes Go.ChangeAt Go.WideMaps Go.WideElems Go.Lib
abbrev fo:List (String×DataW Unit):=Rows.canonWritersRow.laid
theorem lx:Tryz.prog.cellsOf 408=1:=by kernel_rfl
theorem kO:Tryz.prog.cellsOf 9=1:=by kernel_rfl
theorem wI:∀u,Tryz.prog.typeName? 3 u=some "*errors.errorString" ->u=406:=typeName_ptr_named (nm:= "errors.errorString") (by kernel_rfl) (by kernel_rfl) (by decide)
theorem tP {H:Type}{enc:TypeId×Value->H}{P:Program}{sp:Nat->Bool}{a0:Bool}{cs:List Value}{ds:List (DataW H)}{p:List MemPlace}
  (ht:P.underlying t=some (.array n e)) (a4:P.cellsOf e=c) (a3:P.cellsOf t=n*c) (h:DataW.trod enc P w base sp a0 (fuel+1) t cs=some (.agg ds,p)) :
  ds.length=n/\∀ (i:Nat) (d:DataW H),ds[i]?=some d->∃q,DataW.trod enc P w base sp a0 fuel e ((cs.drop (i*c)).take c)=some (d,q):=by
 simp only[DataW.trod,ht,a4,a3] at h
 split at h
 ·obtain⟨xs,hm,hx⟩:=Option.map_eq_some_iff.1 h;have a1:xs.map (·.1)=ds:=by
   have:=congrArg Prod.fst hx;simpa using this
  have a2:xs.length=n:=by simpa using mapM_length hm
  refine⟨by rw[<-a1];simpa using a2,fun i d hd=>?_⟩;have hi:i<n:=by
   rw[<-a1] at hd;have:=(List.getElem?_eq_some_iff.1 hd).1;simpa [a2] using this
  obtain⟨b,hb,hf⟩:=mapM_at hm i i (by simp[hi]);rw[<-a1,List.getElem?_map,hb] at hd;obtain rfl:=Zh hd;exact⟨b.2,hf⟩
 ·cases h
section
variable {W:World}
theorem gg {n:String}{text:List UInt8}(h:laidMet Tryz.prog [(n,.iface "*errors.errorString" (.ptr (.agg [.lit (.string text)])))] W)(hg:Tryz.prog.globalNamed n=some g)(ht:(Tryz.prog.globals[g]?).map (·.type)=some 36):bo W g:=by
 obtain⟨a,s,hv,-⟩:=laid_sentinel h hg ht Tryz.underlying36 wI Tryz.underlying406 Tryz.underlying408 rfl rfl Tryz.underlying9 lx kO;exact⟨a,by simpa using World.var?_cell hg hv 0⟩
theorem ea {n:String}{d:DataW Unit}(h:laidMet Tryz.prog fo W)(hl:fo.filter (fun x=>x.1==n) = [(n,d)]):laidMet Tryz.prog [(n,d)] W:=by
 rw[<-hl];exact h.filter _
theorem CD {n:String}{d:DataW Unit}(h:laidMet Tryz.prog [(n,d)] W)(hg:Tryz.prog.globalNamed n=some g)(ht:(Tryz.prog.globals[g]?).map (·.type)=some t):∃ (cs:Array Value) (fuel:Nat) (p:List MemPlace),(∀i:Nat,W.cell? ⟨g,i,none⟩=cs[i]?)/\DataW.trod (fun _=>()) Tryz.prog W 0 (fun _=>true) false fuel t cs.toList=some (d,p):=by
 obtain⟨ps,⟨g',t',cs,fuel,p,q,a1,a2,a0,hd,_,_⟩,_⟩:=h;obtain rfl:=Zh (hg.symm.trans a1);obtain rfl:=Zh (ht.symm.trans a2);exact⟨cs,fuel,p,fun i=>World.var?_cell hg a0 i,hd⟩
theorem nO {n:String}{l:List (List UInt8)}(h:laidMet Tryz.prog [(n,.agg (l.map fun s=>.lit (.string s)))] W)(hg:Tryz.prog.globalNamed n=some g)(ht:(Tryz.prog.globals[g]?).map (·.type)=some t)(hu:Tryz.prog.underlying t=some (.array m 9))(hc:Tryz.prog.cellsOf t=m*1) :
  ∀ (i:Nat) (s:List UInt8),l[i]?=some s->W.cell? ⟨g,i,none⟩=some (.string ⟨s.toArray⟩):=by
 obtain⟨cs,fuel,p,a0,hd⟩:=CD h hg ht;intro i s hs
 cases fuel with
 |zero=>simp[DataW.trod] at hd
 |succ fuel=>
  obtain⟨-,hat⟩:=tP hu kO hc hd;obtain⟨q,hq⟩:=hat i (.lit (.string s)) (by rw[List.getElem?_map,hs];rfl);obtain⟨z,e1,e2,-⟩:=DataW.trod_string Tryz.underlying9 hq;have hz:s=z.data.toList:=by
   have:=congrArg Prod.fst e2;simpa using this
  rw[a0];have:=congrArg (·[0]?) e1;rw[hz];simpa [List.getElem?_take,List.getElem?_drop] using this
theorem EF (h:laidMet Tryz.prog fo W):mU W:=by
 obtain⟨cs,fuel,p,a0,hd⟩:=CD (g:=17) (t:=370) (ea h (n:= "wicket/dec.goes") (d:=Rows.laid_wicket_dec_goes) (by kernel_rfl)) (by kernel_rfl) (by kernel_rfl)
 cases fuel with
 |zero=>simp[DataW.trod] at hd
 |succ fuel=>
  rw[show(Rows.laid_wicket_dec_goes:DataW Unit) =.agg ((List.range 9).map fun i=>tabData .u8 ((List.range 6).map fun k=>((nB.getD (i*6+k) 9:Nat):Int))) by kernel_rfl] at hd;obtain⟨-,hat⟩:=tP (c:=6) Tryz.underlying370 (by kernel_rfl) (by kernel_rfl) hd;intro i hi;obtain⟨q,hq⟩:=hat (i/6) (tabData .u8 ((List.range 6).map fun k=>((nB.getD (i/6*6+k) 9:Nat):Int))) (by rw[List.getElem?_map,List.getElem?_range (by omega)];rfl);have e:=cells_of_tab Tryz.underlying369 Tryz.underlying5 (by kernel_rfl) (by kernel_rfl) hq;have:=congrArg (·[i % 6]?) e;simp only[List.getElem?_take,List.getElem?_drop,List.getElem?_map,if_pos (show i % 6<6 by omega),List.getElem?_range (show i % 6<6 by omega),Option.map_some,show i/6*6+i % 6=i by omega] at this;rw[a0,<-Array.getElem?_toList];exact this
theorem zM (h:laidMet Tryz.prog fo W):kQ W:=by
 have hs:=nO (l:=o7) (g:=10) (t:=331) (m:=6) (n:= "wicket/lex.begins") (ea h (by kernel_rfl)) (by kernel_rfl) (by kernel_rfl) Tryz.underlying331 (by kernel_rfl);intro i hi;refine hs i (o7.getD i []) ?_;rw[List.getD_eq_getElem?_getD,Zc (by exact hi)];rfl
theorem Ex (h:laidMet Tryz.prog fo W):kA W:=by
 have hs:=nO (l:=(List.range 8).map Ax) (g:=7) (t:=309) (m:=8) (n:= "wicket/parse.may") (ea h (by kernel_rfl)) (by kernel_rfl) (by kernel_rfl) Tryz.underlying309 (by kernel_rfl);intro i hi;exact hs i (Ax i) (by rw[List.getElem?_map,List.getElem?_range hi];rfl)
theorem E8 (h:laidMet Tryz.prog fo W):cW W:=by
 have h1:=ea h (n:= "internal/strconv.uint64pow10") (d:=tabData .u64 pow10Tab) (by kernel_rfl);exact tabIs_of_head (g:=9) (t:=327) (e:=250) (n:=20) (by kernel_rfl) (by kernel_rfl) Tryz.underlying327 Tryz.underlying250 (by kernel_rfl) (by kernel_rfl) h1
theorem Ey (h:laidMet Tryz.prog fo W):∃aU aE,co W aU aE:=by
 have h:laidMet Tryz.prog [("wicket/api.ErrUTF",Rows.laid_wicket_api_ErrUTF),("wicket/api.ErrEnd",Rows.laid_wicket_api_ErrEnd),("wicket/utf.lengths",Rows.laid_wicket_utf_lengths)] W:=by
  have:=h.filter fun x=>x.1 == "wicket/api.ErrUTF" || (x.1 == "wicket/api.ErrEnd" || x.1 == "wicket/utf.lengths")
  rwa[show(fo.filter fun x=>x.1 == "wicket/api.ErrUTF" || (x.1 == "wicket/api.ErrEnd" || x.1 == "wicket/utf.lengths")) = [("wicket/api.ErrUTF",Rows.laid_wicket_api_ErrUTF),("wicket/api.ErrEnd",Rows.laid_wicket_api_ErrEnd),("wicket/utf.lengths",Rows.laid_wicket_utf_lengths)] by kernel_rfl] at this
 have gUTF:Tryz.prog.globalNamed "wicket/api.ErrUTF" = some 6:=by kernel_rfl
 have gEnd:Tryz.prog.globalNamed "wicket/api.ErrEnd" = some 5:=by kernel_rfl
 have gLen:Tryz.prog.globalNamed "wicket/utf.lengths" = some 8:=by kernel_rfl
 have tUTF:(Tryz.prog.globals[6]?).map (·.type)=some 36:=by kernel_rfl
 have tEnd:(Tryz.prog.globals[5]?).map (·.type)=some 36:=by kernel_rfl
 have tLen:(Tryz.prog.globals[8]?).map (·.type)=some 315:=by kernel_rfl
 obtain⟨ps,⟨g0,t0,cs0,f0,p0,q0,a4,b7,a9,b1,⟨g1,t1,cs1,f1,p1,q1,a3,b6,b0,b8,⟨g2,t2,cs2,f2,p2,q2,a7,b4,b3,b9,b2,e2⟩,e1⟩,e0⟩,c3,a2⟩:=h;obtain rfl:=Zh (gUTF.symm.trans a4);obtain rfl:=Zh (gEnd.symm.trans a3);obtain rfl:=Zh (gLen.symm.trans a7);obtain rfl:=Zh (tUTF.symm.trans b7);obtain rfl:=Zh (tEnd.symm.trans b6);obtain rfl:=Zh (tLen.symm.trans b4);have a6:q2 = []:=b2;subst a6 e2 e1 e0;obtain⟨l0⟩:=cs0;obtain⟨l1⟩:=cs1;obtain⟨l2⟩:=cs2;have ok0:∀u v,l0 = [.iface u v]->Value.okWide Tryz.prog W .any 0 u v:=fun u v e=>by
  subst e;exact(a2 6 0 (by simp[MemPlace.row])).2 u v (by simpa using World.var?_cell a4 a9 0)
 have ok1:∀u v,l1 = [.iface u v]->Value.okWide Tryz.prog W .any 0 u v:=fun u v e=>by
  subst e;exact(a2 5 0 (by simp[MemPlace.row])).2 u v (by simpa using World.var?_cell a3 b0 0)
 obtain⟨a0,s0,rfl,c4,c5,c9,rfl⟩:=errorString_of_trod Tryz.underlying36 wI Tryz.underlying406 Tryz.underlying408 rfl rfl Tryz.underlying9 lx kO b1 ok0;obtain⟨a1,s1,rfl,c6,c8,c7,rfl⟩:=errorString_of_trod Tryz.underlying36 wI Tryz.underlying406 Tryz.underlying408 rfl rfl Tryz.underlying9 lx kO b8 ok1;obtain⟨c0,t0,b5⟩:=(a2 a0.block a0.off (by simp[MemPlace.row])).1;obtain⟨c1,t1,c2⟩:=(a2 a1.block a1.off (by simp[MemPlace.row])).1;have a5:=cells_of_tab (zs:=eT) Tryz.underlying315 Tryz.underlying314 (by kernel_rfl) (by kernel_rfl) b9;subst a5;refine⟨a0,a1,by simpa using World.var?_cell a4 a9 0,by simpa using World.var?_cell a3 b0 0,fun i hi=>?_,⟨c0,t0,b5⟩,⟨c1,t1,c2⟩,?_⟩
 ·have:=World.var?_cell a7 b3 i;rw[this];have:i<eT.length:=hi;simp[Zc this]
 ·rintro rfl;simp[MemPlace.row] at c3
theorem Fm (h:laidMetH Tryz.prog fo W):vV W:=by
 rw[MakeChecks.laidMetH_plain _ _ _ (by kernel_rfl)] at h;obtain⟨aU,aE,hg⟩:=Ey h;exact⟨⟨aU,aE,⟨hg,EF h,zM h,gg (g:=12) (ea h (n:= "wicket/api.ErrNumber") (d:=Rows.laid_wicket_api_ErrNumber) (by kernel_rfl)) (by kernel_rfl) (by kernel_rfl),gg (g:=13) (ea h (n:= "wicket/api.ErrExponent") (d:=Rows.laid_wicket_api_ErrExponent) (by kernel_rfl)) (by kernel_rfl) (by kernel_rfl),gg (g:=16) (ea h (n:= "wicket/api.ErrQuote") (d:=Rows.laid_wicket_api_ErrQuote) (by kernel_rfl)) (by kernel_rfl) (by kernel_rfl),gg (g:=19) (ea h (n:= "wicket/api.ErrEscape") (d:=Rows.laid_wicket_api_ErrEscape) (by kernel_rfl)) (by kernel_rfl) (by kernel_rfl),gg (g:=20) (ea h (n:= "wicket/api.ErrSurrogate") (d:=Rows.laid_wicket_api_ErrSurrogate) (by kernel_rfl)) (by kernel_rfl) (by kernel_rfl),gg (g:=18) (ea h (n:= "wicket/api.ErrControl") (d:=Rows.laid_wicket_api_ErrControl) (by kernel_rfl)) (by kernel_rfl) (by kernel_rfl)⟩⟩,Ex h,E8 h,gg (g:=0) (ea h (n:= "wicket/api.ErrNil") (d:=Rows.laid_wicket_api_ErrNil) (by kernel_rfl)) (by kernel_rfl) (by kernel_rfl),gg (g:=2) (ea h (n:= "wicket/api.ErrTwice") (d:=Rows.laid_wicket_api_ErrTwice) (by kernel_rfl)) (by kernel_rfl) (by kernel_rfl),gg (g:=1) (ea h (n:= "wicket/api.ErrHidden") (d:=Rows.laid_wicket_api_ErrHidden) (by kernel_rfl)) (by kernel_rfl) (by kernel_rfl),gg (g:=3) (ea h (n:= "wicket/api.ErrSyntax") (d:=Rows.laid_wicket_api_ErrSyntax) (by kernel_rfl)) (by kernel_rfl) (by kernel_rfl)⟩
end
theorem Tryz.laidOut:laidOutB Tryz.prog=true:=by kernel_rfl
theorem Tryz.own:ownKnob Tryz.prog.godebug=none:=by kernel_rfl
theorem IP:mapsRowed Tryz.prog=true:=by kernel_rfl
theorem Ic:Tryz.prog.stopsHeard=true:=by kernel_rfl
theorem IA:Tryz.prog.mayEnter=true:=by kernel_rfl
theorem dN {a b:Bool}(ha:a=true)(hb:b=true):(a&&b)=true:=by rw[ha,hb];rfl
theorem DY:Tryz.prog.cellsOf 5=1:=by kernel_rfl
theorem CM:Tryz.prog.cellsOf 3=1:=by kernel_rfl
section
variable {H:Type}{enc:TypeId×Value->H}
theorem tf {a:Addr}{len:Nat}(hlen:us.length=len)(hl:len<=cap)(hm:len<=9223372036854775807)(h:∀i u,us[i]?=some u->W.cell? (a.add i)=some u)(hn:len<=n):Sl W (.slice (some a) len cap) us:=by
 refine⟨by omega,some a,cap,by rw[hlen],by omega,fun h0=>?_⟩;obtain⟨u0,a1⟩:∃u,us[0]?=some u:=⟨_,Zc h0⟩;have a0:=h 0 u0 a1;obtain⟨b,o,sp⟩:=a;have a2:sp=none:=by
  cases sp with
  |none=>rfl
  |some s=>exfalso;simp[Addr.add,World.cell?] at a0;split at a0 <;> simp at a0
 subst a2;refine⟨b,o,rfl,fun i u hi=>?_⟩;have h1:=h i u hi;have e1:(⟨b,o,none⟩:Addr).add i= ⟨b,o+i,none⟩:=by unfold Addr.add;split <;> simp_all
 rwa[e1] at h1
theorem oC {d:DataW H×List MemPlace}(hf:DataW.trod enc Tryz.prog W 0 (fun _=>true) true fuel 22 [x]=some d):∃xs,Bs W x xs:=by
 rcases open_ints Tryz.underlying22 Tryz.underlying5 DY hf with ⟨a2,hx⟩|⟨a,len',cap',zs,a2,_,hl,hm,hz,hx,a0,a5⟩
 ·obtain rfl:=List.cons.inj a2 |>.1;exact⟨[],⟨by simp,none,0,rfl,Za _,fun h=>by simp at h⟩⟩
 ·obtain rfl:=List.cons.inj a2 |>.1;simp only[if_true] at hz;have a1:((zs.take len').map fun z=>UInt8.ofNat z.toNat).length=len':=by simp;omega
  have a3:∀i,i<zs.length->W.cell? (a.add i)=some (.int .u8 (zs.getD i 0)):=a0;refine⟨(zs.take len').map fun z=>UInt8.ofNat z.toNat,⟨by rw[a1];unfold maxLen at hm;omega,some a,cap',by rw[a1],by rw[a1];exact hl,fun h0=>?_⟩⟩;rw[a1] at h0;have a4:=a0 0 (by omega);obtain⟨b,o,sp⟩:=a;have a6:sp=none:=by
   cases sp with
   |none=>rfl
   |some s=>exfalso;simp[Addr.add,World.cell?] at a4;split at a4 <;> simp at a4
  subst a6;refine⟨b,o,rfl,fun i hi=>?_⟩;rw[a1] at hi;have h1:=a0 i (by omega);have e1:(⟨b,o,none⟩:Addr).add i= ⟨b,o+i,none⟩:=by unfold Addr.add;split <;> simp_all
  rw[e1] at h1;rw[h1];have a7:0<=zs.getD i 0/\zs.getD i 0<=255:=bounds_u8 (a5 (zs.getD i 0) (by rw[List.getD_eq_getElem?_getD,Zc (show i<zs.length by omega)];exact List.getElem_mem _));have e2:(((am ((zs.take len').map fun z=>UInt8.ofNat z.toNat) i:Nat)):Int)=zs.getD i 0:=by
   unfold am;have:((zs.take len').map fun z=>UInt8.ofNat z.toNat).getD i 0=UInt8.ofNat (zs.getD i 0).toNat:=by
    simp[List.getElem?_take,hi,Zc (show i<zs.length by omega)]
   rw[this];exact aF _ (by omega)
  rw[e2]
theorem oL {d:DataW H}{ps:List MemPlace}(hv:Value.okWide Tryz.prog W .any base 22 v)(hj:DataW.Trod enc Tryz.prog W 0 (fun _=>true) true 22 v d ps):∃xs,Bs W v xs:=by
 obtain⟨a,len,cap,rfl⟩:=okWide_slice Tryz.underlying22 hv;obtain⟨fuel,hf⟩:=hj;exact oC hf
theorem kB {d:DataW H×List MemPlace}(hf:DataW.trod enc Tryz.prog W 0 (fun _=>true) true fuel 23 [x]=some d):∃zs:List Int,Sl W x (zs.map iV)/\∀z∈zs,-9223372036854775808<=z/\z<=9223372036854775807:=by
 rcases open_ints Tryz.underlying23 Tryz.underlying3 CM hf with ⟨a2,hx⟩|⟨a,len',cap',zs,a2,_,hl,hm,hz,hx,a1,a4⟩
 ·obtain rfl:=List.cons.inj a2 |>.1;exact⟨[],⟨Zj _,none,0,rfl,Za _,fun h=>by simp at h⟩,fun z hz=>by cases hz⟩
 ·obtain rfl:=List.cons.inj a2 |>.1;simp only[if_true] at hz;have a3:(zs.take len').length=len':=by simp;omega
  have a0:∀i,i<zs.length->W.cell? (a.add i)=some (.int .i64 (zs.getD i 0)):=a1;refine⟨zs.take len',tf (n:=len') (by rw[List.length_map];exact a3) hl (by unfold maxLen at hm;omega) (fun i u hi=>?_) (Za _),fun z hz=>bounds_i64 (a4 z (List.mem_of_mem_take hz))⟩;have hlt:=(List.getElem?_eq_some_iff.1 hi).1;rw[List.length_map,a3] at hlt;rw[a0 i (by omega)];rw[List.getElem?_map,List.getElem?_take,if_pos hlt,Zc (by omega)] at hi;rw[List.getD_eq_getElem?_getD,Zc (by omega)];simpa [iV] using hi
structure EP (W:World) (v:Value) (xs:List UInt8) (hs bs:List Int):Prop where
 ex:∃ta th tb,v =.agg #[ta,th,tb]/\Bs W ta xs/\Sl W th (hs.map iV)/\Sl W tb (bs.map iV)
 hb:∀z∈hs,-9223372036854775808<=z/\z<=9223372036854775807
 bb:∀z∈bs,-9223372036854775808<=z/\z<=9223372036854775807
theorem uC {d:DataW H}{ps:List MemPlace}(hv:Value.okWide Tryz.prog W .any base 25 v)(hj:DataW.Trod enc Tryz.prog W 0 (fun _=>true) true 25 v d ps):∃xs hs bs,EP W v xs hs bs:=by
 obtain⟨cs,rfl,a0⟩:=okWide_struct Tryz.underlying25 hv;obtain⟨fuel,hf⟩:=hj;obtain⟨y0,y1,y2,n,hy,hl,h0,h1,h2⟩:=Deep.trod_struct3 Tryz.underlying25 hf;obtain⟨l⟩:=cs;rw[show Tryz.prog.cellsOf 25=3 by kernel_rfl] at a0
 match l,a0 with
 | [a,b,c],_=>
  obtain⟨xs,hx⟩:=oC (x:=a) h0;obtain⟨hs,hh,a2⟩:=kB (x:=b) h1;obtain⟨bs,hb,a1⟩:=kB (x:=c) h2;exact⟨xs,hs,bs,⟨a,b,c,rfl,hx,hh,hb⟩,a2,a1⟩
theorem GK (hr:Tryz.prog.readableRec t=true)(a1:t<Tryz.prog.types.size){d:DataW H}{ps before:List MemPlace}
  (h:DataW.Trod enc Tryz.prog W 0 (fun _=>true) true t v d ps) (hb:Below W.heap.size W W') (hlt:∀x∈ps,x.block<W.heap.size) (sp:Nat->Bool) (a0:∀x∈ps,x∈before) (a2:∀p∈before,sp p.block=true) :
  DataW.Trod enc Tryz.prog W' 0 sp true t v d ps:=
 Trod_stays Tryz.laidOut hr a1 h (fun x hx=>hb.same (hlt x hx)) (fun x hx=>a2 x (a0 x hx))
end
section
variable {H:Type}{enc:TypeId×Value->H}{P:Program}
theorem o4 {f:Func}{s:ChangeSpec}{apart fresh a0 again:Bool}{ds gs:List (DataW H)}{before pa pv:List MemPlace}
  (hW:DataW.Whole enc P f.params.toList s.vars apart W args.toList ds gs before)
  (a3:∀ (b:Nat) (sp:Nat->Bool) (hd:Bool),DataW.TrodAll enc P W' b sp hd f.resultTypes.toList (v.resultList f.resultTypes.size) (s.fn H (ds++gs)).results [])
  (a2:∀sp:Nat->Bool,(∀p∈before,sp p.block=true)->DataW.TrodAll enc P W' 0 sp true f.params.toList args.toList (s.fn H (ds++gs)).args pa)
  (a1:∀sp:Nat->Bool,(∀p∈before,sp p.block=true)->DataW.TrodVars enc P W' sp s.vars (s.fn H (ds++gs)).vars pv)
  (a5:before=pa++pv) (hb:Below W.heap.size W W')
  (a6:∀ (j:Nat) (t:TypeId) (r:Value),f.resultTypes[j]?=some t->(v.resultList f.resultTypes.size)[j]?=some r->Value.okWide P W' .any 0 t r) :
  s.post enc P f apart fresh a0 again W args v W':=by
 have hlt:∀p∈before,p.block<W.heap.size:=fun p hp=>hW.lt p hp
 have a4:∀p∈before,(fun b=>decide (b<W.heap.size)) p.block=true:=fun p hp=>by simpa using hlt p hp
 refine⟨ds,gs,before, [],pa,pv,hW,a3 _ _ _,a2 _ a4,a1 _ a4,World.keptBut_mono (fun p hp=>⟨hp,?_⟩) (hb.frame (· ∈before)),fun _=>?_⟩
 ·rw[a5,List.mem_append] at hp;exact Or.inr hp
 ·obtain⟨_,_,_,_,_,hz,hn⟩:=hW;refine⟨a6,_,_,([]++pa)++pv,⟨[]++pa,pv,trodAll_append (a2 _ (fun _ _=>rfl)) (a3 ..),a1 _ (fun _ _=>rfl),rfl,?_,?_⟩,?_⟩
  ·intro b off hp;have hin:MemPlace.cell b off∈before:=by rw[a5];simpa using hp
   rw[hb.frozen (hlt _ hin)];exact hz b off hin
  ·intro ha;have:=hn ha;rw[a5] at this;simpa using this
  ·intro p hp _;rw[a5];simpa using hp
end
theorem Co (os:Os)(args:Array Value):laidMetH Tryz.prog fo ((World.laidAll Tryz.prog os fo).forCall (fun _ _=>0) ⟨#[],args, []⟩).memory:=by
 rw[MakeChecks.laidMetH_plain _ _ _ (by kernel_rfl)];exact laidMet_laidAll _ (by kernel_rfl) (by kernel_rfl)
theorem xq (hL:vV W){hs bs:List Int}(h1:EP W v xs hs bs)(h2:Bs W u ys):Calls Tryz.prog 3 #[v,u] W (IB W):=by
 obtain⟨ta,th,tb,rfl,x1,x2,x3⟩:=h1.ex;obtain⟨-,_,_,rfl,-⟩:=x2;obtain⟨-,_,_,rfl,-⟩:=x3;exact kX hL x1 h2
theorem vu:(Rows.canonWritersRow.wf (OpenSpec.ofChange Rows.canonWritersSpec))=true:=by kernel_rfl
theorem xM:(Tryz.f3.params.all (Tryz.prog.readableRec ·))=true:=by kernel_rfl
theorem vS:(namedTie Tryz.prog Rows.canonWritersRow.named Rows.canonWritersSpec.vars)=true:=by kernel_rfl
theorem xp:((Rows.canonWritersRow.stops == []))=true:=by kernel_rfl
theorem we:((Tryz.prog.stops == []))=true:=by kernel_rfl
theorem wF:((Rows.canonWritersRow.knobs == []))=true:=by kernel_rfl
theorem vG:((Tryz.prog.stopKnobs == []))=true:=by kernel_rfl
theorem vQ:((Rows.canonWritersRow.inPlace==Tryz.prog.inPlace 3))=true:=by kernel_rfl
theorem rI:((Rows.canonWritersRow.unfollowed==Tryz.prog.unfollowed 3))=true:=by kernel_rfl
theorem up:((Rows.canonWritersRow.recurses==Tryz.prog.recurses 3))=true:=by kernel_rfl
theorem sN:((Rows.canonWritersRow.named==Tryz.prog.varsNamed 3))=true:=by kernel_rfl
theorem rS:((Rows.canonWritersRow.maps== (Tryz.f3.params.toList++Rows.canonWritersSpec.plain.varTypes Tryz.prog).any (Tryz.prog.mapsRec ·)))=true:=by kernel_rfl
theorem se:((Rows.canonWritersRow.ifaces== (Tryz.f3.params.toList++Rows.canonWritersSpec.plain.varTypes Tryz.prog).any (Tryz.prog.ifacesRec ·)))=true:=by kernel_rfl
theorem vj:((Rows.canonWritersRow.mapsOut==Tryz.prog.mapsAmong Tryz.f3.resultTypes.toList))=true:=by kernel_rfl
theorem uY:((Rows.canonWritersRow.loops== (Tryz.f3.params.toList++Rows.canonWritersSpec.plain.varTypes Tryz.prog).any (Tryz.prog.loopsFrom ·)))=true:=by kernel_rfl
theorem sr:((Rows.canonWritersRow.wideKeys== (Tryz.f3.params.toList++Rows.canonWritersSpec.plain.varTypes Tryz.prog++Tryz.f3.resultTypes.toList).any (Tryz.prog.wideKeysFrom ·)))=true:=by kernel_rfl
theorem tT:(Rows.canonWritersSpec.vars.all (Tryz.prog.varReadable ·))=true:=by kernel_rfl
theorem sB:(Tryz.f3.resultTypes.all (fun t=>Tryz.prog.readableRec t&&decide (t<Tryz.prog.types.size)))=true:=by kernel_rfl
theorem tc:((Rows.canonWritersRow.ifacesOut==Tryz.f3.resultTypes.toList.any (Tryz.prog.ifacesRec ·)))=true:=by kernel_rfl
theorem ss:((Rows.canonWritersRow.loopsOut==Tryz.f3.resultTypes.toList.any (Tryz.prog.loopsFrom ·)))=true:=by kernel_rfl
theorem sx:((Rows.canonWritersRow.plainKeys==Tryz.prog.plainKeys))=true:=by kernel_rfl
theorem tB:(Rows.canonWritersRow.shortTexts.isNone)=true:=by kernel_rfl
theorem sj:((Rows.canonWritersRow.lifted==Tryz.prog.liftsFinal))=true:=by kernel_rfl
theorem sW:((Tryz.prog.make==some Rows.canonWritersRow.make))=true:=by kernel_rfl
theorem sH:((Rows.canonWritersRow.kinds== (if Rows.canonWritersRow.domain.isEmpty then [] else Tryz.f3.params.toList.map fun t=>match Tryz.prog.underlying t with|some (.int k)=>some k|_=>none)))=true:=by kernel_rfl
theorem uh:((Rows.canonWritersRow.pinned==Rows.canonWritersRow.pinnedBy))=true:=by kernel_rfl
theorem sm:((Rows.canonWritersRow.veiled== (Tryz.f3.params.toList++Rows.canonWritersSpec.plain.varTypes Tryz.prog++Tryz.f3.resultTypes.toList).any (Tryz.prog.veiledRec ·)))=true:=by kernel_rfl
theorem tQ:(Rows.canonWritersRow.veiledFits Tryz.prog Tryz.f3.params.toList (Tryz.f3.params.toList++Rows.canonWritersSpec.plain.varTypes Tryz.prog++Tryz.f3.resultTypes.toList))=true:=by kernel_rfl
theorem pZ:Tryz.prog.funcNamed Rows.canonWritersRow.func=some 3:=by kernel_rfl
theorem nU:joinedFacts Tryz.prog 3 Tryz.f3 Rows.canonWritersSpec Rows.canonWritersRow=true:=dN (dN (dN (dN (dN (dN (dN (dN (dN (dN (dN (dN (dN (dN (dN (dN (dN (dN (dN (dN (dN (dN (dN (dN (dN (dN (dN (dN (dN (dN (dN vu Tryz.laidOut) IP) xM) vS) xp) we) wF) vG) vQ) rI) up) sN) rS) se) vj) uY) sr) tT) sB) tc) ss) sx) tB) Ic) IA) sj) sW) sH) uh) sm) tQ
theorem mX (os:Os)(started:os.Started)(H:Type)(enc:TypeId×Value->H) :
  ReturnsInHanded {} Tryz.checked os 3 .any (fun w args=>(Rows.canonWritersSpec.pre enc Tryz.prog Tryz.f3 [] false w args/\laidMetH Tryz.prog fo w)/\sizedMet enc Tryz.prog Tryz.f3 (OpenSpec.ofChange Rows.canonWritersSpec) false w args)
   (Rows.canonWritersSpec.post enc Tryz.prog Tryz.f3 false true false false):=by
 refine returnsInHanded_of_change_and (C:=Tryz.checked) (X:=fun w _=>laidMetH Tryz.prog fo w) (fun _ _ _ hh h=>h.of_heap hh) Tryz.own started (by kernel_rfl) Tryz.func3
  (ChangeSpec.witness_shaped (enc:=enc) (C:=Tryz.checked) (os:=os) (X:=fun w _=>laidMetH Tryz.prog fo w) false (World.laidAll Tryz.prog os fo) #[.agg #[.slice none 0 0,.slice none 0 0,.slice none 0 0],.slice none 0 0] 8 rfl (World.shaped_of_ZipB (by kernel_rfl) (by kernel_rfl)) (by kernel_rfl) (by kernel_rfl) (by kernel_rfl) (Co os _)) ?_
 intro W base args ds gs before a0 hW _ _ hL _;have a1:∀ (j:Nat) t v,Tryz.f3.params[j]?=some t->args[j]?=some v->Value.okWide Tryz.prog W .any base t v:=a0;have a3:=hW;have hlt:∀p∈before,p.block<W.heap.size:=fun p hp=>hW.lt p hp
 obtain⟨p,q,a2,hV,rfl,a6,a7⟩:=hW;have hA:DataW.TrodAll enc Tryz.prog W 0 (fun _=>true) true Tryz.f3.params.toList args.toList ds p:=a2;rw[Tryz.params3] at hA a1;obtain⟨v0,v1,d0,d1,p0,p1,rfl,rfl,rfl,h0,h1⟩:=trodAll_two hA;obtain⟨rfl,rfl⟩:=trodVars_none hV;obtain⟨xs0,a5,bs0,s0⟩:=uC (a1 0 25 v0 rfl rfl) h0;obtain⟨xs1,s1⟩:=oL (a1 1 22 v1 rfl rfl) h1;clear a2 a0;simp only[List.append_nil,List.nil_append] at a3 hlt;refine(xq (Fm hL) s0 s1).mono fun e W' ⟨he,hb⟩=>?_
 subst he;exact⟨_,rfl,o4 (pa:=p0++p1) (pv:= []) a3 (fun _ _ _=>trodAll_mk1 (shut_bool Tryz.underlying4 true))
  (fun sp a4=>by
   have:=trodAll_mk2 (GK (by kernel_rfl) (of_decide_eq_true (by kernel_rfl)) h0 hb (fun x hx=>hlt x (by simp[hx])) sp (fun x hx=>by simp[hx]) a4) (GK (by kernel_rfl) (of_decide_eq_true (by kernel_rfl)) h1 hb (fun x hx=>hlt x (by simp[hx])) sp (fun x hx=>by simp[hx]) a4)
   try simp only[List.append_nil,List.nil_append] at this
   exact this)
   (fun _ _=>rfl) (by simp) hb (ok_one (by kernel_rfl) rfl (okWide_bool_mk Tryz.underlying4 true))⟩
theorem r9:Rows.CanonWritersSaid:=
 OpenClaim.holds_of_wide 3 Tryz.f3 rfl rfl rfl rfl rfl rfl rfl ⟨rfl,rfl,rfl,rfl,rfl⟩ rfl rfl rfl rfl rfl pZ Tryz.func3 nU
  (of_decide_eq_true (by kernel_rfl)) (by unfold Func.isWrapper;rw[if_neg (of_decide_eq_false (by kernel_rfl))];exact⟨rfl,rfl⟩)
  (fun os started H enc _=>mX os started H enc)
open Go
theorem o1 (f:FuncId)(fn:Func)(hf:Tryz.pinned.checked.prog.funcNamed "wicket/wicketlaw8.CanonWriters" = some f)(a1:Tryz.pinned.checked.prog.funcs[f]?=some fn) :
  true=Tryz.pinned.checked.prog.looks []/\∀ (j:Nat) t,fn.params[j]?=some t->Tryz.pinned.checked.prog.wantsStandIn t=false:=by
 obtain rfl:f=3:=Zh ((show Tryz.prog.funcNamed "wicket/wicketlaw8.CanonWriters" = some 3 by kernel_rfl).symm.trans hf) |>.symm;obtain rfl:fn=Tryz.f3:=(Zh (Tryz.func3.symm.trans a1)).symm;refine⟨by kernel_rfl,fun j t ht=>?_⟩;rw[Tryz.params3] at ht;have hm:t∈ [25,22]:=by simpa using Array.mem_of_getElem? ht
 have a0:([25,22].all fun u=> !Tryz.prog.wantsStandIn u)=true:=by kernel_rfl
 exact(show Tryz.prog.wantsStandIn t=false by simpa using List.all_eq_true.1 a0 t hm)
theorem writers_card:Rows.CanonWritersCardSaid:=
 Claim7.holds_tied_plain_at .later [] _ _ _ _ r9 (fun _ h=>by cases h) (by kernel_rfl) (fun _ h=>by cases h) canonWriters_row_tie rfl ⟨rfl,rfl⟩ (by kernel_rfl) rfl o1 (by kernel_rfl)
#print axioms writers_card
