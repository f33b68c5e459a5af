/- ReportEntries: the law holds for every argument, within the bound of the Upto form: a report is its own canonical text, its entries rise, and cW blame and cW place that was handed in stands there or lies beneath a place. -/
import Derived.Test.YtafobflehfecpaaGreatDoorRows
import Derived.Deep.Strs
import Derived.Deep.Fields
import Derived.LaidMore
import Derived.LaidOnce
import Derived.LaidSub
import Derived.Lib.LaidU8
import Derived.Stop.LaidErr
import Derived.Test.YtafobflehfecpaaGreatDoorGZ15bm
import Derived.Lay
import Derived.Deep.OwnShut
import Derived.Deep.DeepHandedRow
import Derived.Test.YtafobflehfecpaaGreatDoorCards
import Derived.Test.YtafobflehfecpaaGreatDoorTie
import Derived.SevenTiedAt
set_option linter.unusedVariables false
set_option linter.unusedSimpArgs false
set_option maxRecDepth 100000
namespace Go.Proofs.YtafobflehfecpaaGreatDoor
open Go.ChangeShapes Go.WideShapes Go.RowKit Go.Deep
variable {args:Array Value}{base c fuel g n:Nat}{e:TypeId}{v:Value}{W W' w:World}
section
variable {H:Type}{enc:TypeId×Value->H}
theorem nu {a:Addr}(h:W.cell? (a.add 0)=some v):∃b o,a= ⟨b,o,none⟩:=by
 obtain⟨b,o,sp⟩:=a
 cases sp with
 |none=>exact⟨b,o,rfl⟩
 |some s=>exfalso;simp[Addr.add,World.cell?] at h;split at h <;> simp at h
theorem yp (f:Nat->ByteArray)(L:List Nat):Rows.uptoBulkAll (H:=H) (L.map fun i=>.lit (.string (f i).data.toList))=L.length+jt (L.map f):=by
 induction L with
 |nil=>simp[Rows.uptoBulkAll,jt]
 |cons a L ih=>
  simp only[List.map_cons,Rows.uptoBulkAll,Rows.uptoBulk,jt,ih,List.length_cons];have:(f a).data.toList.length= (f a).size:=by simp
  omega
theorem oO {d:DataW H}{ps:List MemPlace}(hv:Value.okWide Tryz.prog W .any base 23 v)(hj:DataW.Trod enc Tryz.prog W 0 (fun _=>true) true 23 v d ps):∃l:List ByteArray,l.length+jt l<=Rows.uptoBulk d/\(l.length<=2000000->uy W v l):=by
 obtain⟨a,len,cap,rfl⟩:=okWide_slice Tryz.underlying23 hv;obtain⟨fuel,hf⟩:=hj;rcases open_strs Tryz.underlying23 Tryz.underlying9 (by kernel_rfl) hf with ⟨a0,hx⟩|⟨a',len',cap',m,Sx,a0,_,hl,_,hm,hx,hc⟩
 ·obtain⟨rfl,rfl,rfl⟩:=Value.slice.inj (List.cons.inj a0).1;exact⟨[],by simp[jt],fun _=>⟨by simp,none,0,rfl,Zb _,fun i a ha=>by simp at ha⟩⟩
 ·obtain⟨rfl,rfl,rfl⟩:=Value.slice.inj (List.cons.inj a0).1;simp only[if_true] at hm;have hd:=congrArg Prod.fst hx;simp only at hd;subst hd;refine⟨(List.range len).map Sx,?_,fun h2=>⟨by simpa using h2,some a',cap,by simp,by simpa using hl,fun i b hb=>?_⟩⟩
  ·have:=yp (H:=H) Sx (List.range len);rw[Rows.uptoBulk,this];simp;omega
  ·have hi:=(List.getElem?_eq_some_iff.1 hb).1;simp at hi;obtain⟨h3,-⟩:=hc i (by omega);obtain⟨b0,o0,rfl⟩:=nu (hc 0 (by omega)).1;refine⟨b0,o0,rfl,?_⟩;have e1:(⟨b0,o0,none⟩:Addr).add i= ⟨b0,o0+i,none⟩:=by unfold Addr.add;split <;> simp_all
   rw[e1] at h3;rw[h3];simp[hi] at hb;rw[hb]
theorem xm (D:Nat->DataW H)(E:Nat->En)(L:List Nat)(h:∀i∈L,Rows.uptoBulk (D i)=4+ ((E i).eAt.size+ (E i).eSch.size+ (E i).eKw.size)):L.length+g9 (L.map E)<=Rows.uptoBulkAll (H:=H) (L.map D):=by
 induction L with
 |nil=>simp[g9]
 |cons a L ih=>
  have h1:=h a (by simp);have h2:=ih fun i hi=>h i (by simp[hi])
  simp only[List.map_cons,Rows.uptoBulkAll,g9,h1,List.length_cons];omega
theorem pn {d:DataW H}{ps:List MemPlace}(hv:Value.okWide Tryz.prog W .any base 22 v)(hj:DataW.Trod enc Tryz.prog W 0 (fun _=>true) true 22 v d ps):∃l:List En,l.length+g9 l<=Rows.uptoBulk d/\(l.length<=2000000->ua W v l):=by
 obtain⟨a,len,cap,rfl⟩:=okWide_slice Tryz.underlying22 hv;obtain⟨fuel,hf⟩:=hj;have b3:Tryz.prog.cellsOf 40=3:=by kernel_rfl
 rcases open_slice Tryz.underlying22 hf with ⟨a5,hx⟩|⟨a',len',cap',m,n,D,Pl,a5,_,hl,_,hm,hx,hc⟩
 ·obtain⟨rfl,rfl,rfl⟩:=Value.slice.inj (List.cons.inj a5).1;exact⟨[],by simp[g9],fun _=>⟨by simp,none,0,rfl,Zb _,fun i a ha=>by simp at ha⟩⟩
 ·obtain⟨rfl,rfl,rfl⟩:=Value.slice.inj (List.cons.inj a5).1;simp only[if_true] at hm;have hd:=congrArg Prod.fst hx;simp only at hd;subst hd;have cW:∀i,i<m->∃en:En,Rows.uptoBulk (D i)=4+ (en.eAt.size+en.eSch.size+en.eKw.size)/\W.cell? ((a'.add (i*3)).add 0)=some (.string en.eAt)/\W.cell? ((a'.add (i*3)).add 1)=some (.string en.eSch)/\W.cell? ((a'.add (i*3)).add 2)=some (.string en.eKw):=fun i hi=>by
   obtain⟨cs',a4,b4⟩:=hc i hi;rw[b3] at a4;obtain⟨-,a9,a3⟩:=World.cells?_some a4;obtain⟨y0,y1,y2,n',hy,-,r0,r1,r2⟩:=Deep.trod_struct3 Tryz.underlying40 b4
   match cs',a9,a3,r0,r1,r2 with
   | [c0,c1,c2],_,a3,r0,r1,r2=>
    obtain⟨s0,a0,b0,-⟩:=DataW.trod_string Tryz.underlying9 (show DataW.trod enc Tryz.prog W 0 (fun _=>true) true n' 9 [c0]=some y0 from r0);obtain⟨s1,a1,b1,-⟩:=DataW.trod_string Tryz.underlying9 (show DataW.trod enc Tryz.prog W 0 (fun _=>true) true n' 9 [c1]=some y1 from r1);obtain⟨s2,a2,b2,-⟩:=DataW.trod_string Tryz.underlying9 (show DataW.trod enc Tryz.prog W 0 (fun _=>true) true n' 9 [c2]=some y2 from r2);obtain rfl:c0 =.string s0:=by simpa using a0
    obtain rfl:c1 =.string s1:=by simpa using a1
    obtain rfl:c2 =.string s2:=by simpa using a2
    subst b0 b1 b2;have hD:=congrArg Prod.fst hy;simp only at hD;refine⟨⟨s0,s1,s2⟩,?_,a3 0 (by decide),a3 1 (by decide),a3 2 (by decide)⟩;rw[hD];have e0:s0.data.toList.length=s0.size:=by simp
    have e1:s1.data.toList.length=s1.size:=by simp
    have e2:s2.data.toList.length=s2.size:=by simp
    simp only[Rows.uptoBulk,Rows.uptoBulkAll,e0,e1,e2];omega
  obtain⟨E,hE⟩:=choose_lt cW;refine⟨(List.range len).map E,?_,fun h2=>⟨by simpa using h2,some a',cap,by simp,by simpa using hl,fun i b hb=>?_⟩⟩
  ·have:=xm D E (List.range len) (fun i hi=>(hE i (by have:=List.mem_range.1 hi;omega)).1);rw[Rows.uptoBulk];rw[List.length_map];omega
  ·have hi:=(List.getElem?_eq_some_iff.1 hb).1;simp at hi;obtain⟨-,h3,h4,h5⟩:=hE i (by omega);obtain⟨-,h6,-⟩:=hE 0 (by omega);rw[Nat.zero_mul] at h6;obtain⟨b0,o0,rfl⟩:∃b o,a'= ⟨b,o,none⟩:=nu (by simpa [Addr.add] using h6);have e1:∀o k,(⟨b0,o,none⟩:Addr).add k= ⟨b0,o+k,none⟩:=fun o k=>by unfold Addr.add;split <;> simp_all
   rw[e1,e1] at h3 h4 h5;rw[Nat.add_zero] at h3;simp[hi] at hb;subst hb;exact⟨b0,o0,rfl,h3,h4,h5⟩
end
open Go.ChangeAt Go.WideMaps Go.WideElems Go.Shelf Go.Lib
abbrev dG:List (String×DataW Unit):=Rows.reportEntriesRow.laid
theorem jL:Tryz.prog.cellsOf 410=1:=by kernel_rfl
theorem je:Tryz.prog.cellsOf 9=1:=by kernel_rfl
theorem sW:∀u,Tryz.prog.typeName? 3 u=some "*errors.errorString" ->u=408:=typeName_ptr_named (nm:= "errors.errorString") (by kernel_rfl) (by kernel_rfl) (by decide)
theorem sr {H:Type}{enc:TypeId×Value->H}{P:Program}{sp:Nat->Bool}{a0:Bool}{t:TypeId}{cs:List Value}{ds:List (DataW H)}{p:List MemPlace}
  (ht:P.underlying t=some (.array n e)) (a3:P.cellsOf e=c) (a4:P.cellsOf t=n*c) (h:DataW.trod enc P w base sp a0 (fuel+1) t cs=some (.agg ds,p)) :
  ds.length=n/\∀ (i:Nat) (d:DataW H),ds[i]?=some d->∃q,DataW.trod enc P w base sp a0 fuel e ((cs.drop (i*c)).take c)=some (d,q):=by
 simp only[DataW.trod,ht,a3,a4] at h
 split at h
 ·obtain⟨xs,hm,hx⟩:=Option.map_eq_some_iff.1 h;have a1:xs.map (·.1)=ds:=by
   have:=congrArg Prod.fst hx;simpa using this
  have a2:xs.length=n:=by simpa using mapM_length hm
  refine⟨by rw[<-a1];simpa using a2,fun i d hd=>?_⟩;have hi:i<n:=by
   rw[<-a1] at hd;have:=(List.getElem?_eq_some_iff.1 hd).1;simpa [a2] using this
  obtain⟨b,hb,hf⟩:=mapM_at hm i i (by simp[hi]);rw[<-a1,List.getElem?_map,hb] at hd;obtain rfl:=Zi hd;exact⟨b.2,hf⟩
 ·cases h
section
variable {W:World}
theorem eB {n:String}{text:List UInt8}(h:laidMet Tryz.prog [(n,.iface "*errors.errorString" (.ptr (.agg [.lit (.string text)])))] W)(hg:Tryz.prog.globalNamed n=some g)(ht:(Tryz.prog.globals[g]?).map (·.type)=some 30):a6 W g:=by
 obtain⟨a,s,hv,-⟩:=laid_sentinel h hg ht Tryz.underlying30 sW Tryz.underlying408 Tryz.underlying410 rfl rfl Tryz.underlying9 jL je;exact⟨a,by simpa using World.var?_cell hg hv 0⟩
theorem cG {n:String}{d:DataW Unit}(h:laidMet Tryz.prog dG W)(hl:dG.filter (fun x=>x.1==n) = [(n,d)]):laidMet Tryz.prog [(n,d)] W:=by
 rw[<-hl];exact h.filter _
theorem zi {n:String}{d:DataW Unit}{t:TypeId}(h:laidMet Tryz.prog [(n,d)] W)(hg:Tryz.prog.globalNamed n=some g)(ht:(Tryz.prog.globals[g]?).map (·.type)=some t):∃ (cs:Array Value) (fuel:Nat) (p:List MemPlace),(∀i:Nat,W.cell? ⟨g,i,none⟩=cs[i]?)/\DataW.trod (fun _=>()) Tryz.prog W 0 (fun _=>true) false fuel t cs.toList=some (d,p):=by
 obtain⟨ps,⟨g',t',cs,fuel,p,q,a2,a1,a0,hd,_,_⟩,_⟩:=h;obtain rfl:=Zi (hg.symm.trans a2);obtain rfl:=Zi (ht.symm.trans a1);exact⟨cs,fuel,p,fun i=>World.var?_cell hg a0 i,hd⟩
theorem eZ {n:String}{l:List (List UInt8)}{m:Nat}{t:TypeId}(h:laidMet Tryz.prog [(n,.agg (l.map fun s=>.lit (.string s)))] W)(hg:Tryz.prog.globalNamed n=some g)(ht:(Tryz.prog.globals[g]?).map (·.type)=some t)(hu:Tryz.prog.underlying t=some (.array m 9))(hc:Tryz.prog.cellsOf t=m*1) :
  ∀ (i:Nat) (s:List UInt8),l[i]?=some s->W.cell? ⟨g,i,none⟩=some (.string ⟨s.toArray⟩):=by
 obtain⟨cs,fuel,p,a0,hd⟩:=zi h hg ht;intro i s hs
 cases fuel with
 |zero=>simp[DataW.trod] at hd
 |succ fuel=>
  obtain⟨-,a1⟩:=sr hu je hc hd;obtain⟨q,hq⟩:=a1 i (.lit (.string s)) (by rw[List.getElem?_map,hs];rfl);obtain⟨z,e1,e2,-⟩:=DataW.trod_string Tryz.underlying9 hq;have hz:s=z.data.toList:=by
   have:=congrArg Prod.fst e2;simpa using this
  rw[a0];have:=congrArg (·[0]?) e1;rw[hz];simpa [List.getElem?_take,List.getElem?_drop] using this
theorem Dh (h:laidMet Tryz.prog dG W):lm W:=by
 obtain⟨cs,fuel,p,a0,hd⟩:=zi (g:=23) (t:=375) (cG h (n:= "wicket/dec.goes") (d:=Rows.laid_wicket_dec_goes) (by kernel_rfl)) (by kernel_rfl) (by kernel_rfl)
 cases fuel with
 |zero=>simp[DataW.trod] at hd
 |succ fuel=>
  rw[show(Rows.laid_wicket_dec_goes:DataW Unit) =.agg ((List.range 9).map fun i=>tabData .u8 ((List.range 6).map fun k=>((la.getD (i*6+k) 9:Nat):Int))) by kernel_rfl] at hd;obtain⟨-,a1⟩:=sr (c:=6) Tryz.underlying375 (by kernel_rfl) (by kernel_rfl) hd;intro i hi;obtain⟨q,hq⟩:=a1 (i/6) (tabData .u8 ((List.range 6).map fun k=>((la.getD (i/6*6+k) 9:Nat):Int))) (by rw[List.getElem?_map,List.getElem?_range (by omega)];rfl);have e:=cells_of_tab Tryz.underlying374 Tryz.underlying5 (by kernel_rfl) (by kernel_rfl) hq;have:=congrArg (·[i % 6]?) e;simp only[List.getElem?_take,List.getElem?_drop,List.getElem?_map,if_pos (show i % 6<6 by omega),List.getElem?_range (show i % 6<6 by omega),Option.map_some,show i/6*6+i % 6=i by omega] at this;rw[a0,<-Array.getElem?_toList];exact this
theorem xz (h:laidMet Tryz.prog dG W):jn W:=by
 have hs:=eZ (l:=mw) (g:=14) (t:=77) (m:=6) (n:= "wicket/lex.begins") (cG h (by kernel_rfl)) (by kernel_rfl) (by kernel_rfl) Tryz.underlying77 (by kernel_rfl);intro i hi;refine hs i (mw.getD i []) ?_;rw[List.getD_eq_getElem?_getD,Zd (by exact hi)];rfl
theorem CB (h:laidMet Tryz.prog dG W):jx W:=by
 have hs:=eZ (l:=(List.range 8).map xl) (g:=13) (t:=304) (m:=8) (n:= "wicket/parse.may") (cG h (by kernel_rfl)) (by kernel_rfl) (by kernel_rfl) Tryz.underlying304 (by kernel_rfl);intro i hi;exact hs i (xl i) (by rw[List.getElem?_map,List.getElem?_range hi];rfl)
theorem D7 (h:laidMet Tryz.prog dG W):dE W:=by
 have h1:=cG h (n:= "internal/strconv.uint64pow10") (d:=tabData .u64 pow10Tab) (by kernel_rfl);exact tabIs_of_head (g:=21) (t:=363) (e:=209) (n:=20) (by kernel_rfl) (by kernel_rfl) Tryz.underlying363 Tryz.underlying209 (by kernel_rfl) (by kernel_rfl) h1
theorem Cj (h:laidMet Tryz.prog dG W):∃aU aE,cf W aU aE:=by
 have h:laidMet Tryz.prog [("wicket/api.ErrUTF",Rows.laid_wicket_api_ErrUTF),("wicket/api.ErrEnd",Rows.laid_wicket_api_ErrEnd),("wicket/utf.lengths",Rows.laid_wicket_utf_lengths)] W:=by
  have:=h.filter fun x=>x.1 == "wicket/api.ErrUTF" || (x.1 == "wicket/api.ErrEnd" || x.1 == "wicket/utf.lengths")
  rwa[show(dG.filter fun x=>x.1 == "wicket/api.ErrUTF" || (x.1 == "wicket/api.ErrEnd" || x.1 == "wicket/utf.lengths")) = [("wicket/api.ErrUTF",Rows.laid_wicket_api_ErrUTF),("wicket/api.ErrEnd",Rows.laid_wicket_api_ErrEnd),("wicket/utf.lengths",Rows.laid_wicket_utf_lengths)] by kernel_rfl] at this
 have gUTF:Tryz.prog.globalNamed "wicket/api.ErrUTF" = some 10:=by kernel_rfl
 have gEnd:Tryz.prog.globalNamed "wicket/api.ErrEnd" = some 9:=by kernel_rfl
 have gLen:Tryz.prog.globalNamed "wicket/utf.lengths" = some 11:=by kernel_rfl
 have tUTF:(Tryz.prog.globals[10]?).map (·.type)=some 30:=by kernel_rfl
 have tEnd:(Tryz.prog.globals[9]?).map (·.type)=some 30:=by kernel_rfl
 have tLen:(Tryz.prog.globals[11]?).map (·.type)=some 245:=by kernel_rfl
 obtain⟨ps,⟨g0,t0,cs0,f0,p0,q0,a3,b3,b2,c2,⟨g1,t1,cs1,f1,p1,q1,a5,c5,b0,b5,⟨g2,t2,cs2,f2,p2,q2,b1,c6,c4,b9,c3,e2⟩,e1⟩,e0⟩,b4,a2⟩:=h;obtain rfl:=Zi (gUTF.symm.trans a3);obtain rfl:=Zi (gEnd.symm.trans a5);obtain rfl:=Zi (gLen.symm.trans b1);obtain rfl:=Zi (tUTF.symm.trans b3);obtain rfl:=Zi (tEnd.symm.trans c5);obtain rfl:=Zi (tLen.symm.trans c6);have a9:q2 = []:=c3;subst a9 e2 e1 e0;obtain⟨l0⟩:=cs0;obtain⟨l1⟩:=cs1;obtain⟨l2⟩:=cs2;have ok0:∀u v,l0 = [.iface u v]->Value.okWide Tryz.prog W .any 0 u v:=fun u v e=>by
  subst e;exact(a2 10 0 (by simp[MemPlace.row])).2 u v (by simpa using World.var?_cell a3 b2 0)
 have ok1:∀u v,l1 = [.iface u v]->Value.okWide Tryz.prog W .any 0 u v:=fun u v e=>by
  subst e;exact(a2 9 0 (by simp[MemPlace.row])).2 u v (by simpa using World.var?_cell a5 b0 0)
 obtain⟨a0,s0,rfl,d1,c9,d3,rfl⟩:=errorString_of_trod Tryz.underlying30 sW Tryz.underlying408 Tryz.underlying410 rfl rfl Tryz.underlying9 jL je c2 ok0;obtain⟨a1,s1,rfl,d2,d0,c8,rfl⟩:=errorString_of_trod Tryz.underlying30 sW Tryz.underlying408 Tryz.underlying410 rfl rfl Tryz.underlying9 jL je b5 ok1;obtain⟨c0,t0,c7⟩:=(a2 a0.block a0.off (by simp[MemPlace.row])).1;obtain⟨c1,t1,b8⟩:=(a2 a1.block a1.off (by simp[MemPlace.row])).1;have a4:=cells_of_tab (zs:=dD) Tryz.underlying245 Tryz.underlying244 (by kernel_rfl) (by kernel_rfl) b9;subst a4;refine⟨a0,a1,by simpa using World.var?_cell a3 b2 0,by simpa using World.var?_cell a5 b0 0,fun i hi=>?_,⟨c0,t0,c7⟩,⟨c1,t1,b8⟩,?_⟩
 ·have:=World.var?_cell b1 c4 i;rw[this];have:i<dD.length:=hi;simp[Zd this]
 ·rintro rfl;simp[MemPlace.row] at b4
theorem yY (h:laidMet Tryz.prog dG W):∀ (i:Nat) p,bD[i]?=some p->W.cell? ⟨6,i,none⟩=some (.string p):=by
 have hs:=eZ (l:=bD.map fun r=>r.data.toList) (g:=6) (t:=137) (m:=32) (n:= "wicket/words.rules") (cG h (by kernel_rfl)) (by kernel_rfl) (by kernel_rfl) Tryz.underlying137 (by kernel_rfl);intro i p hp;exact hs i p.data.toList (by rw[List.getElem?_map,hp];rfl)
theorem yS (h:laidMet Tryz.prog dG W):∀ (i:Nat) p,cJ[i]?=some p->W.cell? ⟨2,i,none⟩=some (.string p):=by
 have hs:=eZ (l:=cJ.map fun r=>r.data.toList) (g:=2) (t:=77) (m:=6) (n:= "wicket/report.outcomes") (cG h (by kernel_rfl)) (by kernel_rfl) (by kernel_rfl) Tryz.underlying77 (by kernel_rfl);intro i p hp;exact hs i p.data.toList (by rw[List.getElem?_map,hp];rfl)
theorem CN (h:laidMetH Tryz.prog dG W)(hm:iH W):mj W:=by
 rw[MakeChecks.laidMetH_plain _ _ _ (by kernel_rfl)] at h;obtain⟨aU,aE,hg⟩:=Cj h;exact⟨⟨⟨⟨aU,aE,hg⟩,(eB (g:=4) (cG h (n:= "wicket/api.ErrPointer") (d:=Rows.laid_wicket_api_ErrPointer) (by kernel_rfl)) (by kernel_rfl) (by kernel_rfl)),hm⟩,yY h,yS h,(eB (g:=0) (cG h (n:= "wicket/api.ErrReport") (d:=Rows.laid_wicket_api_ErrReport) (by kernel_rfl)) (by kernel_rfl) (by kernel_rfl))⟩,⟨⟨aU,aE,hg⟩,(eB (g:=8) (cG h (n:= "wicket/api.ErrTwice") (d:=Rows.laid_wicket_api_ErrTwice) (by kernel_rfl)) (by kernel_rfl) (by kernel_rfl)),D7 h⟩,⟨aU,aE,⟨hg,Dh h,xz h,eB (g:=19) (cG h (n:= "wicket/api.ErrNumber") (d:=Rows.laid_wicket_api_ErrNumber) (by kernel_rfl)) (by kernel_rfl) (by kernel_rfl),eB (g:=20) (cG h (n:= "wicket/api.ErrExponent") (d:=Rows.laid_wicket_api_ErrExponent) (by kernel_rfl)) (by kernel_rfl) (by kernel_rfl),eB (g:=22) (cG h (n:= "wicket/api.ErrQuote") (d:=Rows.laid_wicket_api_ErrQuote) (by kernel_rfl)) (by kernel_rfl) (by kernel_rfl),eB (g:=27) (cG h (n:= "wicket/api.ErrEscape") (d:=Rows.laid_wicket_api_ErrEscape) (by kernel_rfl)) (by kernel_rfl) (by kernel_rfl),eB (g:=28) (cG h (n:= "wicket/api.ErrSurrogate") (d:=Rows.laid_wicket_api_ErrSurrogate) (by kernel_rfl)) (by kernel_rfl) (by kernel_rfl),eB (g:=24) (cG h (n:= "wicket/api.ErrControl") (d:=Rows.laid_wicket_api_ErrControl) (by kernel_rfl)) (by kernel_rfl) (by kernel_rfl)⟩⟩,CB h,(eB (g:=1) (cG h (n:= "wicket/api.ErrNil") (d:=Rows.laid_wicket_api_ErrNil) (by kernel_rfl)) (by kernel_rfl) (by kernel_rfl))⟩
end
theorem Tryz.laidOut:laidOutB Tryz.prog=true:=by kernel_rfl
theorem Tryz.own:ownKnob Tryz.prog.godebug=none:=by kernel_rfl
theorem Ib:mapsRowed Tryz.prog=true:=by kernel_rfl
theorem Gh:Tryz.prog.stopsHeard=true:=by kernel_rfl
theorem GL:Tryz.prog.mayEnter=true:=by kernel_rfl
theorem cM {a b:Bool}(ha:a=true)(hb:b=true):(a&&b)=true:=by rw[ha,hb];rfl
section
variable {H:Type}{enc:TypeId×Value->H}
theorem Fs {t:TypeId}(hr:Tryz.prog.readableRec t=true)(a1:t<Tryz.prog.types.size){d:DataW H}{ps before:List MemPlace}
  (h:DataW.Trod enc Tryz.prog W 0 (fun _=>true) true t v d ps) (hb:Below W.heap.size W W') (hlt:∀x∈ps,x.block<W.heap.size) (sp:Nat->Bool) (a0:∀x∈ps,x∈before) (a2:∀p∈before,sp p.block=true) :
  DataW.Trod enc Tryz.prog W' 0 sp true t v d ps:=
 Trod_stays Tryz.laidOut hr a1 h (fun x hx=>hb.same (hlt x hx)) (fun x hx=>a2 x (a0 x hx))
end
section
variable {H:Type}{enc:TypeId×Value->H}{P:Program}
theorem mF {f:Func}{s:ChangeSpec}{apart fresh a0 again:Bool}{ds gs:List (DataW H)}{before pa pv:List MemPlace}
  (hW:DataW.Whole enc P f.params.toList s.vars apart W args.toList ds gs before)
  (a3:∀ (b:Nat) (sp:Nat->Bool) (hd:Bool),DataW.TrodAll enc P W' b sp hd f.resultTypes.toList (v.resultList f.resultTypes.size) (s.fn H (ds++gs)).results [])
  (a2:∀sp:Nat->Bool,(∀p∈before,sp p.block=true)->DataW.TrodAll enc P W' 0 sp true f.params.toList args.toList (s.fn H (ds++gs)).args pa)
  (a1:∀sp:Nat->Bool,(∀p∈before,sp p.block=true)->DataW.TrodVars enc P W' sp s.vars (s.fn H (ds++gs)).vars pv)
  (a5:before=pa++pv) (hb:Below W.heap.size W W')
  (a9:∀ (j:Nat) (t:TypeId) (r:Value),f.resultTypes[j]?=some t->(v.resultList f.resultTypes.size)[j]?=some r->Value.okWide P W' .any 0 t r) :
  s.post enc P f apart fresh a0 again W args v W':=by
 have hlt:∀p∈before,p.block<W.heap.size:=fun p hp=>hW.lt p hp
 have a4:∀p∈before,(fun b=>decide (b<W.heap.size)) p.block=true:=fun p hp=>by simpa using hlt p hp
 refine⟨ds,gs,before, [],pa,pv,hW,a3 _ _ _,a2 _ a4,a1 _ a4,World.keptBut_mono (fun p hp=>⟨hp,?_⟩) (hb.frame (· ∈before)),fun _=>?_⟩
 ·rw[a5,List.mem_append] at hp;exact Or.inr hp
 ·obtain⟨_,_,_,_,_,hz,hn⟩:=hW;refine⟨a9,_,_,([]++pa)++pv,⟨[]++pa,pv,trodAll_append (a2 _ (fun _ _=>rfl)) (a3 ..),a1 _ (fun _ _=>rfl),rfl,?_,?_⟩,?_⟩
  ·intro b off hp;have hin:MemPlace.cell b off∈before:=by rw[a5];simpa using hp
   rw[hb.frozen (hlt _ hin)];exact hz b off hin
  ·intro ha;have:=hn ha;rw[a5] at this;simpa using this
  ·intro p hp _;rw[a5];simpa using hp
end
theorem B3 (os:Os)(args:Array Value):laidMetH Tryz.prog dG ((World.laidAll Tryz.prog os dG).forCall (fun _ _=>0) ⟨#[],args, []⟩).memory:=by
 rw[MakeChecks.laidMetH_plain _ _ _ (by kernel_rfl)];exact laidMet_laidAll _ (by kernel_rfl) (by kernel_rfl)
theorem ta:(Rows.reportEntriesUptoRow.wf (OpenSpec.ofChange (Rows.OpenSpec.upto Rows.reportEntriesSpec).bare))=true:=by kernel_rfl
theorem uZ:(Tryz.f3.params.all (Tryz.prog.readableRec ·))=true:=by kernel_rfl
theorem um:(namedTie Tryz.prog Rows.reportEntriesUptoRow.named (Rows.OpenSpec.upto Rows.reportEntriesSpec).bare.vars)=true:=by kernel_rfl
theorem tm:((Rows.reportEntriesUptoRow.stops == []))=true:=by kernel_rfl
theorem sN:((Tryz.prog.stops == []))=true:=by kernel_rfl
theorem vl:((Rows.reportEntriesUptoRow.knobs == []))=true:=by kernel_rfl
theorem uz:((Tryz.prog.stopKnobs == []))=true:=by kernel_rfl
theorem uc:((Rows.reportEntriesUptoRow.inPlace==Tryz.prog.inPlace 3))=true:=by kernel_rfl
theorem pI:((Rows.reportEntriesUptoRow.unfollowed==Tryz.prog.unfollowed 3))=true:=by kernel_rfl
theorem qo:((Rows.reportEntriesUptoRow.recurses==Tryz.prog.recurses 3))=true:=by kernel_rfl
theorem py:((Rows.reportEntriesUptoRow.named==Tryz.prog.varsNamed 3))=true:=by kernel_rfl
theorem rN:((Rows.reportEntriesUptoRow.maps== (Tryz.f3.params.toList++ (Rows.OpenSpec.upto Rows.reportEntriesSpec).bare.plain.varTypes Tryz.prog).any (Tryz.prog.mapsRec ·)))=true:=by kernel_rfl
theorem qQ:((Rows.reportEntriesUptoRow.ifaces== (Tryz.f3.params.toList++ (Rows.OpenSpec.upto Rows.reportEntriesSpec).bare.plain.varTypes Tryz.prog).any (Tryz.prog.ifacesRec ·)))=true:=by kernel_rfl
theorem rf:((Rows.reportEntriesUptoRow.mapsOut==Tryz.prog.mapsAmong Tryz.f3.resultTypes.toList))=true:=by kernel_rfl
theorem qV:((Rows.reportEntriesUptoRow.loops== (Tryz.f3.params.toList++ (Rows.OpenSpec.upto Rows.reportEntriesSpec).bare.plain.varTypes Tryz.prog).any (Tryz.prog.loopsFrom ·)))=true:=by kernel_rfl
theorem qN:((Rows.reportEntriesUptoRow.wideKeys== (Tryz.f3.params.toList++ (Rows.OpenSpec.upto Rows.reportEntriesSpec).bare.plain.varTypes Tryz.prog++Tryz.f3.resultTypes.toList).any (Tryz.prog.wideKeysFrom ·)))=true:=by kernel_rfl
theorem rg:((Rows.OpenSpec.upto Rows.reportEntriesSpec).bare.vars.all (Tryz.prog.varReadable ·))=true:=by kernel_rfl
theorem so:(Tryz.f3.resultTypes.all (fun t=>Tryz.prog.readableRec t&&decide (t<Tryz.prog.types.size)))=true:=by kernel_rfl
theorem qR:((Rows.reportEntriesUptoRow.ifacesOut==Tryz.f3.resultTypes.toList.any (Tryz.prog.ifacesRec ·)))=true:=by kernel_rfl
theorem rL:((Rows.reportEntriesUptoRow.loopsOut==Tryz.f3.resultTypes.toList.any (Tryz.prog.loopsFrom ·)))=true:=by kernel_rfl
theorem rK:((Rows.reportEntriesUptoRow.plainKeys==Tryz.prog.plainKeys))=true:=by kernel_rfl
theorem qI:(Rows.reportEntriesUptoRow.shortTexts.isNone)=true:=by kernel_rfl
theorem qH:((Rows.reportEntriesUptoRow.lifted==Tryz.prog.liftsFinal))=true:=by kernel_rfl
theorem pC:((Tryz.prog.make==some Rows.reportEntriesUptoRow.make))=true:=by kernel_rfl
theorem qO:((Rows.reportEntriesUptoRow.kinds== (if Rows.reportEntriesUptoRow.domain.isEmpty then [] else Tryz.f3.params.toList.map fun t=>match Tryz.prog.underlying t with|some (.int k)=>some k|_=>none)))=true:=by kernel_rfl
theorem p8:((Rows.reportEntriesUptoRow.pinned==Rows.reportEntriesUptoRow.pinnedBy))=true:=by kernel_rfl
theorem rB:((Rows.reportEntriesUptoRow.veiled== (Tryz.f3.params.toList++ (Rows.OpenSpec.upto Rows.reportEntriesSpec).bare.plain.varTypes Tryz.prog++Tryz.f3.resultTypes.toList).any (Tryz.prog.veiledRec ·)))=true:=by kernel_rfl
theorem rR:(Rows.reportEntriesUptoRow.veiledFits Tryz.prog Tryz.f3.params.toList (Tryz.f3.params.toList++ (Rows.OpenSpec.upto Rows.reportEntriesSpec).bare.plain.varTypes Tryz.prog++Tryz.f3.resultTypes.toList))=true:=by kernel_rfl
theorem oS:Tryz.prog.funcNamed Rows.reportEntriesUptoRow.func=some 3:=by kernel_rfl
theorem lA:joinedFacts Tryz.prog 3 Tryz.f3 (Rows.OpenSpec.upto Rows.reportEntriesSpec).bare Rows.reportEntriesUptoRow=true:=cM (cM (cM (cM (cM (cM (cM (cM (cM (cM (cM (cM (cM (cM (cM (cM (cM (cM (cM (cM (cM (cM (cM (cM (cM (cM (cM (cM (cM (cM (cM ta Tryz.laidOut) Ib) uZ) um) tm) sN) vl) uz) uc) pI) qo) py) rN) qQ) rf) qV) qN) rg) so) qR) rL) rK) qI) Gh) GL) qH) pC) qO) p8) rB) rR
theorem mq {H:Type}{d0 d1:DataW H}(h:Rows.uptoSmall H [d0,d1]=true):Rows.uptoBulk d0+Rows.uptoBulk d1<=1048576:=by
 have h1:Rows.uptoBulkAll (H:=H) [d0,d1]<=1048576:=of_decide_eq_true h;simp only[Rows.uptoBulkAll] at h1;omega
theorem kY (os:Os)(started:os.Started)(H:Type)(enc:TypeId×Value->H)(F:Stop.Interp) :
  ReturnsInHanded {} Tryz.checked os 3 .any ((Rows.OpenSpec.upto Rows.reportEntriesSpec).preRow enc Tryz.prog Tryz.f3 Rows.reportEntriesUptoRow.domain false Rows.reportEntriesUptoRow.laid) (((Rows.OpenSpec.upto Rows.reportEntriesSpec).at F).post enc Tryz.prog Tryz.f3 false true false false):=by
 obtain⟨places,hx⟩:∃places,DataW.whole enc Tryz.prog ((World.laidAll Tryz.prog os dG).forCall (fun _ _=>0) ⟨#[],#[.slice none 0 0,.slice none 0 0], []⟩).memory Tryz.f3.params.toList Rows.reportEntriesSpec.vars false (#[.slice none 0 0,.slice none 0 0]:Array Value).toList 8=some ([.nil,.nil], [],places):=⟨[],by kernel_rfl⟩;have a3:Input.okWideB Tryz.checked.prog ((World.laidAll Tryz.prog os dG).forCall (fun _ _=>0) ⟨#[],#[.slice none 0 0,.slice none 0 0], []⟩) 3 ⟨#[],#[.slice none 0 0,.slice none 0 0], []⟩=true:=by kernel_rfl
 refine returnsInHanded_of_row (C:=Tryz.checked) (s:=Rows.OpenSpec.upto Rows.reportEntriesSpec) Tryz.own started (by kernel_rfl) Tryz.func3
  ⟨World.laidAll Tryz.prog os dG,fun _ _=>0,⟨#[],#[.slice none 0 0,.slice none 0 0], []⟩,rfl,World.shaped_of_ZipB (by kernel_rfl) (by kernel_rfl),(Input.okWide_of_okWideB (base:=0) a3).1,(Input.okWide_of_okWideB a3).2,
   OpenSpec.preRow_of_cond 8 hx (by kernel_rfl) (fun k hk=>by cases hk;kernel_rfl) (by kernel_rfl) (B3 os _),by
   simp only[Assume.holds];exact⟨by simp,by simp,fun _=>Modest.zero,by simp,by simp⟩⟩ ?_
 intro W base args ds gs before a0 hW _ hk _ hL a9 _;have a1:∀ (j:Nat) t v,Tryz.f3.params[j]?=some t->args[j]?=some v->Value.okWide Tryz.prog W .any base t v:=a0;have hm:iH W:=cell_of_shapedOpen_int (P:=Tryz.prog) (g:=16) (t:=3) (zero:= #[.int .i64 0]) a9 (of_decide_eq_true (by kernel_rfl)) (by kernel_rfl) rfl (by kernel_rfl) (by kernel_rfl) Tryz.underlying3;have a4:=hW;have hlt:∀p∈before,p.block<W.heap.size:=fun p hp=>hW.lt p hp
 obtain⟨p,q,a2,hV,rfl,b1,b0⟩:=hW;have hA:DataW.TrodAll enc Tryz.prog W 0 (fun _=>true) true Tryz.f3.params.toList args.toList ds p:=a2;rw[Tryz.params3] at hA a1;obtain⟨v0,v1,d0,d1,p0,p1,rfl,rfl,rfl,h0,h1⟩:=trodAll_two hA;obtain⟨rfl,rfl⟩:=trodVars_none hV;have b2:=mq (hk _ rfl);obtain⟨x,bx,sx⟩:=pn (a1 0 22 v0 rfl rfl) h0;obtain⟨y,bby,sy⟩:=oO (a1 1 23 v1 rfl rfl) h1;clear a2 a0;simp only[List.append_nil,List.nil_append] at a4 hlt;refine(iS (CN hL hm) (sx (by omega)) (sy (by omega)) (by omega)).mono fun e W' ⟨he,hb⟩=>?_
 subst he;exact⟨_,rfl,mF (pa:=p0++p1) (pv:= []) a4 (fun _ _ _=>trodAll_mk1 (shut_bool Tryz.underlying4 true))
  (fun sp a5=>by
   have:=trodAll_mk2 (Fs (by kernel_rfl) (of_decide_eq_true (by kernel_rfl)) h0 hb (fun x hx=>hlt x (by simp[hx])) sp (fun x hx=>by simp[hx]) a5) (Fs (by kernel_rfl) (of_decide_eq_true (by kernel_rfl)) h1 hb (fun x hx=>hlt x (by simp[hx])) sp (fun x hx=>by simp[hx]) a5)
   try simp only[List.append_nil,List.nil_append] at this
   exact this)
   (fun _ _=>rfl) (by simp) hb (ok_one (by kernel_rfl) rfl (okWide_bool_mk Tryz.underlying4 true))⟩
theorem pS:Rows.ReportEntriesUptoSaid:=
 OpenClaim.holds_of_cond 3 Tryz.f3 rfl rfl rfl rfl rfl rfl rfl ⟨rfl,rfl,rfl,rfl,rfl⟩ rfl rfl rfl rfl rfl oS Tryz.func3 lA
  (of_decide_eq_true (by kernel_rfl)) (by unfold Func.isWrapper;rw[if_neg (of_decide_eq_false (by kernel_rfl))];exact⟨rfl,rfl⟩)
  (fun os started H enc _ F=>by rw[OpenClaim.pre_eq_preRow];exact kY os started H enc F)
open Go
theorem mH (f:FuncId)(fn:Func)(hf:Tryz.pinned.checked.prog.funcNamed "wicket/wicketlaw20.ReportEntries" = some f)(a1:Tryz.pinned.checked.prog.funcs[f]?=some fn) :
  true=Tryz.pinned.checked.prog.looks []/\∀ (j:Nat) t,fn.params[j]?=some t->Tryz.pinned.checked.prog.wantsStandIn t=false:=by
 obtain rfl:f=3:=Zi ((show Tryz.prog.funcNamed "wicket/wicketlaw20.ReportEntries" = some 3 by kernel_rfl).symm.trans hf) |>.symm;obtain rfl:fn=Tryz.f3:=(Zi (Tryz.func3.symm.trans a1)).symm;refine⟨by kernel_rfl,fun j t ht=>?_⟩;rw[Tryz.params3] at ht;have hm:t∈ [22,23]:=by simpa using Array.mem_of_getElem? ht
 have a0:([22,23].all fun u=> !Tryz.prog.wantsStandIn u)=true:=by kernel_rfl
 exact(show Tryz.prog.wantsStandIn t=false by simpa using List.all_eq_true.1 a0 t hm)
theorem entries_card:Rows.ReportEntriesUptoCardSaid:=
 Claim7.holds_tied_plain_at .later [] _ _ _ _ pS (fun _ h=>by cases h) (by kernel_rfl) (fun _ h=>by cases h) reportEntriesUpto_row_tie rfl ⟨rfl,rfl⟩ (by kernel_rfl) rfl mH (by kernel_rfl)
#print axioms entries_card
