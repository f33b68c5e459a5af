/- ReportNothing: the law holds for every argument, within the bound of the Upto form: blames at or beneath a place, the order of what is handed in, doubles, and places beneath others change nothing. -/
import Derived.Test.YtehpfidnpfcniaaGreatDoorGZ14bm
import Derived.LaidMore
import Derived.Lib.LaidU8
import Derived.Stop.LaidErr
import Derived.Lay
import Derived.Deep.OwnShut
import Derived.Deep.DeepHandedRow
import Derived.Test.YtehpfidnpfcniaaGreatDoorCards
import Derived.Test.YtehpfidnpfcniaaGreatDoorTie
set_option linter.unusedVariables false
set_option linter.unusedSimpArgs false
set_option maxRecDepth 100000
namespace Go.Proofs.YtehpfidnpfcniaaGreatDoor
open Go.ChangeShapes Go.WideShapes Go.ChangeAt Go.WideMaps Go.WideElems Go.RowKit Go.Shelf Go.Lib
variable {args:Array Value}{base c fuel g m n:Nat}{e:TypeId}{v:Value}{W W' w:World}
abbrev dG:List (String×DataW Unit):=Rows.reportNothingRow.laid
theorem jg:Tryz.prog.cellsOf 409=1:=by kernel_rfl
theorem iT:Tryz.prog.cellsOf 9=1:=by kernel_rfl
theorem sB:∀u,Tryz.prog.typeName? 3 u=some "*errors.errorString" ->u=407:=typeName_ptr_named (nm:= "errors.errorString") (by kernel_rfl) (by kernel_rfl) (by decide)
theorem rN {H:Type}{enc:TypeId×Value->H}{P:Program}{sp:Nat->Bool}{a0:Bool}{t:TypeId}{cs:List Value}{ds:List (DataW H)}{p:List MemPlace}
  (ht:P.underlying t=some (.array n e)) (a4:P.cellsOf e=c) (a3:P.cellsOf t=n*c) (h:DataW.trod enc P w base sp a0 (fuel+1) t cs=some (.agg ds,p)) :
  ds.length=n/\∀ (i:Nat) (d:DataW H),ds[i]?=some d->∃q,DataW.trod enc P w base sp a0 fuel e ((cs.drop (i*c)).take c)=some (d,q):=by
 simp only[DataW.trod,ht,a4,a3] at h
 split at h
 ·obtain⟨xs,hm,hx⟩:=Option.map_eq_some_iff.1 h;have a1:xs.map (·.1)=ds:=by
   have:=congrArg Prod.fst hx;simpa using this
  have a2:xs.length=n:=by simpa using mapM_length hm
  refine⟨by rw[<-a1];simpa using a2,fun i d hd=>?_⟩;have hi:i<n:=by
   rw[<-a1] at hd;have:=(List.getElem?_eq_some_iff.1 hd).1;simpa [a2] using this
  obtain⟨b,hb,hf⟩:=mapM_at hm i i (by simp[hi]);rw[<-a1,List.getElem?_map,hb] at hd;obtain rfl:=Zi hd;exact⟨b.2,hf⟩
 ·cases h
section
variable {W:World}
theorem em {n:String}{text:List UInt8}(h:laidMet Tryz.prog [(n,.iface "*errors.errorString" (.ptr (.agg [.lit (.string text)])))] W)(hg:Tryz.prog.globalNamed n=some g)(ht:(Tryz.prog.globals[g]?).map (·.type)=some 30):a7 W g:=by
 obtain⟨a,s,hv,-⟩:=laid_sentinel h hg ht Tryz.underlying30 sB Tryz.underlying407 Tryz.underlying409 rfl rfl Tryz.underlying9 jg iT;exact⟨a,by simpa using World.var?_cell hg hv 0⟩
theorem cH {n:String}{d:DataW Unit}(h:laidMet Tryz.prog dG W)(hl:dG.filter (fun x=>x.1==n) = [(n,d)]):laidMet Tryz.prog [(n,d)] W:=by
 rw[<-hl];exact h.filter _
theorem zn {n:String}{d:DataW Unit}{t:TypeId}(h:laidMet Tryz.prog [(n,d)] W)(hg:Tryz.prog.globalNamed n=some g)(ht:(Tryz.prog.globals[g]?).map (·.type)=some t):∃ (cs:Array Value) (fuel:Nat) (p:List MemPlace),(∀i:Nat,W.cell? ⟨g,i,none⟩=cs[i]?)/\DataW.trod (fun _=>()) Tryz.prog W 0 (fun _=>true) false fuel t cs.toList=some (d,p):=by
 obtain⟨ps,⟨g',t',cs,fuel,p,q,a1,a2,a0,hd,_,_⟩,_⟩:=h;obtain rfl:=Zi (hg.symm.trans a1);obtain rfl:=Zi (ht.symm.trans a2);exact⟨cs,fuel,p,fun i=>World.var?_cell hg a0 i,hd⟩
theorem e9 {n:String}{l:List (List UInt8)}{t:TypeId}(h:laidMet Tryz.prog [(n,.agg (l.map fun s=>.lit (.string s)))] W)(hg:Tryz.prog.globalNamed n=some g)(ht:(Tryz.prog.globals[g]?).map (·.type)=some t)(hu:Tryz.prog.underlying t=some (.array m 9))(hc:Tryz.prog.cellsOf t=m*1) :
  ∀ (i:Nat) (s:List UInt8),l[i]?=some s->W.cell? ⟨g,i,none⟩=some (.string ⟨s.toArray⟩):=by
 obtain⟨cs,fuel,p,a0,hd⟩:=zn h hg ht;intro i s hs
 cases fuel with
 |zero=>simp[DataW.trod] at hd
 |succ fuel=>
  obtain⟨-,a1⟩:=rN hu iT hc hd;obtain⟨q,hq⟩:=a1 i (.lit (.string s)) (by rw[List.getElem?_map,hs];rfl);obtain⟨z,e1,e2,-⟩:=DataW.trod_string Tryz.underlying9 hq;have hz:s=z.data.toList:=by
   have:=congrArg Prod.fst e2;simpa using this
  rw[a0];have:=congrArg (·[0]?) e1;rw[hz];simpa [List.getElem?_take,List.getElem?_drop] using this
theorem B8 (h:laidMet Tryz.prog dG W):kV W:=by
 obtain⟨cs,fuel,p,a0,hd⟩:=zn (g:=23) (t:=374) (cH h (n:= "wicket/dec.goes") (d:=Rows.laid_wicket_dec_goes) (by kernel_rfl)) (by kernel_rfl) (by kernel_rfl)
 cases fuel with
 |zero=>simp[DataW.trod] at hd
 |succ fuel=>
  rw[show(Rows.laid_wicket_dec_goes:DataW Unit) =.agg ((List.range 9).map fun i=>tabData .u8 ((List.range 6).map fun k=>((lT.getD (i*6+k) 9:Nat):Int))) by kernel_rfl] at hd;obtain⟨-,a1⟩:=rN (c:=6) Tryz.underlying374 (by kernel_rfl) (by kernel_rfl) hd;intro i hi;obtain⟨q,hq⟩:=a1 (i/6) (tabData .u8 ((List.range 6).map fun k=>((lT.getD (i/6*6+k) 9:Nat):Int))) (by rw[List.getElem?_map,List.getElem?_range (by omega)];rfl);have e:=cells_of_tab Tryz.underlying373 Tryz.underlying5 (by kernel_rfl) (by kernel_rfl) hq;have:=congrArg (·[i % 6]?) e;simp only[List.getElem?_take,List.getElem?_drop,List.getElem?_map,if_pos (show i % 6<6 by omega),List.getElem?_range (show i % 6<6 by omega),Option.map_some,show i/6*6+i % 6=i by omega] at this;rw[a0,<-Array.getElem?_toList];exact this
theorem wt (h:laidMet Tryz.prog dG W):jS W:=by
 have hs:=e9 (l:=my) (g:=17) (t:=76) (m:=6) (n:= "wicket/lex.begins") (cH h (by kernel_rfl)) (by kernel_rfl) (by kernel_rfl) Tryz.underlying76 (by kernel_rfl);intro i hi;refine hs i (my.getD i []) ?_;rw[List.getD_eq_getElem?_getD,Zd (by exact hi)];rfl
theorem CM (h:laidMet Tryz.prog dG W):l9 W:=by
 have hs:=e9 (l:=(List.range 8).map ye) (g:=16) (t:=316) (m:=8) (n:= "wicket/parse.may") (cH h (by kernel_rfl)) (by kernel_rfl) (by kernel_rfl) Tryz.underlying316 (by kernel_rfl);intro i hi;exact hs i (ye i) (by rw[List.getElem?_map,List.getElem?_range hi];rfl)
theorem D7 (h:laidMet Tryz.prog dG W):dI W:=by
 have h1:=cH h (n:= "internal/strconv.uint64pow10") (d:=tabData .u64 pow10Tab) (by kernel_rfl);exact tabIs_of_head (g:=21) (t:=364) (e:=200) (n:=20) (by kernel_rfl) (by kernel_rfl) Tryz.underlying364 Tryz.underlying200 (by kernel_rfl) (by kernel_rfl) h1
theorem Ck (h:laidMet Tryz.prog dG W):∃aU aE,cd W aU aE:=by
 have h:laidMet Tryz.prog [("wicket/api.ErrUTF",Rows.laid_wicket_api_ErrUTF),("wicket/api.ErrEnd",Rows.laid_wicket_api_ErrEnd),("wicket/utf.lengths",Rows.laid_wicket_utf_lengths)] W:=by
  have:=h.filter fun x=>x.1 == "wicket/api.ErrUTF" || (x.1 == "wicket/api.ErrEnd" || x.1 == "wicket/utf.lengths")
  rwa[show(dG.filter fun x=>x.1 == "wicket/api.ErrUTF" || (x.1 == "wicket/api.ErrEnd" || x.1 == "wicket/utf.lengths")) = [("wicket/api.ErrUTF",Rows.laid_wicket_api_ErrUTF),("wicket/api.ErrEnd",Rows.laid_wicket_api_ErrEnd),("wicket/utf.lengths",Rows.laid_wicket_utf_lengths)] by kernel_rfl] at this
 have gUTF:Tryz.prog.globalNamed "wicket/api.ErrUTF" = some 9:=by kernel_rfl
 have gEnd:Tryz.prog.globalNamed "wicket/api.ErrEnd" = some 8:=by kernel_rfl
 have gLen:Tryz.prog.globalNamed "wicket/utf.lengths" = some 11:=by kernel_rfl
 have tUTF:(Tryz.prog.globals[9]?).map (·.type)=some 30:=by kernel_rfl
 have tEnd:(Tryz.prog.globals[8]?).map (·.type)=some 30:=by kernel_rfl
 have tLen:(Tryz.prog.globals[11]?).map (·.type)=some 202:=by kernel_rfl
 obtain⟨ps,⟨g0,t0,cs0,f0,p0,q0,a9,b9,b1,b4,⟨g1,t1,cs1,f1,p1,q1,a5,c4,b0,c5,⟨g2,t2,cs2,f2,p2,q2,b2,b3,c6,c2,b5,e2⟩,e1⟩,e0⟩,b8,a2⟩:=h;obtain rfl:=Zi (gUTF.symm.trans a9);obtain rfl:=Zi (gEnd.symm.trans a5);obtain rfl:=Zi (gLen.symm.trans b2);obtain rfl:=Zi (tUTF.symm.trans b9);obtain rfl:=Zi (tEnd.symm.trans c4);obtain rfl:=Zi (tLen.symm.trans b3);have a4:q2 = []:=b5;subst a4 e2 e1 e0;obtain⟨l0⟩:=cs0;obtain⟨l1⟩:=cs1;obtain⟨l2⟩:=cs2;have ok0:∀u v,l0 = [.iface u v]->Value.okWide Tryz.prog W .any 0 u v:=fun u v e=>by
  subst e;exact(a2 9 0 (by simp[MemPlace.row])).2 u v (by simpa using World.var?_cell a9 b1 0)
 have ok1:∀u v,l1 = [.iface u v]->Value.okWide Tryz.prog W .any 0 u v:=fun u v e=>by
  subst e;exact(a2 8 0 (by simp[MemPlace.row])).2 u v (by simpa using World.var?_cell a5 b0 0)
 obtain⟨a0,s0,rfl,d0,d2,d1,rfl⟩:=errorString_of_trod Tryz.underlying30 sB Tryz.underlying407 Tryz.underlying409 rfl rfl Tryz.underlying9 jg iT b4 ok0;obtain⟨a1,s1,rfl,c8,c9,d3,rfl⟩:=errorString_of_trod Tryz.underlying30 sB Tryz.underlying407 Tryz.underlying409 rfl rfl Tryz.underlying9 jg iT c5 ok1;obtain⟨c0,t0,c7⟩:=(a2 a0.block a0.off (by simp[MemPlace.row])).1;obtain⟨c1,t1,c3⟩:=(a2 a1.block a1.off (by simp[MemPlace.row])).1;have a3:=cells_of_tab (zs:=dD) Tryz.underlying202 Tryz.underlying201 (by kernel_rfl) (by kernel_rfl) c2;subst a3;refine⟨a0,a1,by simpa using World.var?_cell a9 b1 0,by simpa using World.var?_cell a5 b0 0,fun i hi=>?_,⟨c0,t0,c7⟩,⟨c1,t1,c3⟩,?_⟩
 ·have:=World.var?_cell b2 c6 i;rw[this];have:i<dD.length:=hi;simp[Zd this]
 ·rintro rfl;simp[MemPlace.row] at b8
theorem Af (h:laidMet Tryz.prog dG W):∀ (i:Nat) p,bE[i]?=some p->W.cell? ⟨5,i,none⟩=some (.string p):=by
 have hs:=e9 (l:=bE.map fun r=>r.data.toList) (g:=5) (t:=127) (m:=32) (n:= "wicket/words.rules") (cH h (by kernel_rfl)) (by kernel_rfl) (by kernel_rfl) Tryz.underlying127 (by kernel_rfl);intro i p hp;exact hs i p.data.toList (by rw[List.getElem?_map,hp];rfl)
theorem yz (h:laidMet Tryz.prog dG W):∀ (i:Nat) p,cJ[i]?=some p->W.cell? ⟨2,i,none⟩=some (.string p):=by
 have hs:=e9 (l:=cJ.map fun r=>r.data.toList) (g:=2) (t:=76) (m:=6) (n:= "wicket/report.outcomes") (cH h (by kernel_rfl)) (by kernel_rfl) (by kernel_rfl) Tryz.underlying76 (by kernel_rfl);intro i p hp;exact hs i p.data.toList (by rw[List.getElem?_map,hp];rfl)
theorem BY (h:laidMetH Tryz.prog dG W)(hm:jb W):ou W:=by
 rw[MakeChecks.laidMetH_plain _ _ _ (by kernel_rfl)] at h;obtain⟨aU,aE,hg⟩:=Ck h;exact⟨⟨⟨⟨aU,aE,hg⟩,(em (g:=3) (cH h (n:= "wicket/api.ErrPointer") (d:=Rows.laid_wicket_api_ErrPointer) (by kernel_rfl)) (by kernel_rfl) (by kernel_rfl)),hm⟩,Af h,yz h,(em (g:=0) (cH h (n:= "wicket/api.ErrReport") (d:=Rows.laid_wicket_api_ErrReport) (by kernel_rfl)) (by kernel_rfl) (by kernel_rfl))⟩,⟨⟨aU,aE,hg⟩,(em (g:=7) (cH h (n:= "wicket/api.ErrTwice") (d:=Rows.laid_wicket_api_ErrTwice) (by kernel_rfl)) (by kernel_rfl) (by kernel_rfl)),D7 h⟩,⟨aU,aE,⟨hg,B8 h,wt h,em (g:=19) (cH h (n:= "wicket/api.ErrNumber") (d:=Rows.laid_wicket_api_ErrNumber) (by kernel_rfl)) (by kernel_rfl) (by kernel_rfl),em (g:=20) (cH h (n:= "wicket/api.ErrExponent") (d:=Rows.laid_wicket_api_ErrExponent) (by kernel_rfl)) (by kernel_rfl) (by kernel_rfl),em (g:=22) (cH h (n:= "wicket/api.ErrQuote") (d:=Rows.laid_wicket_api_ErrQuote) (by kernel_rfl)) (by kernel_rfl) (by kernel_rfl),em (g:=27) (cH h (n:= "wicket/api.ErrEscape") (d:=Rows.laid_wicket_api_ErrEscape) (by kernel_rfl)) (by kernel_rfl) (by kernel_rfl),em (g:=28) (cH h (n:= "wicket/api.ErrSurrogate") (d:=Rows.laid_wicket_api_ErrSurrogate) (by kernel_rfl)) (by kernel_rfl) (by kernel_rfl),em (g:=24) (cH h (n:= "wicket/api.ErrControl") (d:=Rows.laid_wicket_api_ErrControl) (by kernel_rfl)) (by kernel_rfl) (by kernel_rfl)⟩⟩,CM h,(em (g:=1) (cH h (n:= "wicket/api.ErrNil") (d:=Rows.laid_wicket_api_ErrNil) (by kernel_rfl)) (by kernel_rfl) (by kernel_rfl))⟩
end
theorem Tryz.laidOut:laidOutB Tryz.prog=true:=by kernel_rfl
theorem Tryz.own:ownKnob Tryz.prog.godebug=none:=by kernel_rfl
theorem GK:mapsRowed Tryz.prog=true:=by kernel_rfl
theorem Gf:Tryz.prog.stopsHeard=true:=by kernel_rfl
theorem F6:Tryz.prog.mayEnter=true:=by kernel_rfl
theorem cK {a b:Bool}(ha:a=true)(hb:b=true):(a&&b)=true:=by rw[ha,hb];rfl
section
variable {H:Type}{enc:TypeId×Value->H}
theorem D0 {t:TypeId}(hr:Tryz.prog.readableRec t=true)(a1:t<Tryz.prog.types.size){d:DataW H}{ps before:List MemPlace}
  (h:DataW.Trod enc Tryz.prog W 0 (fun _=>true) true t v d ps) (hb:Below W.heap.size W W') (hlt:∀x∈ps,x.block<W.heap.size) (sp:Nat->Bool) (a0:∀x∈ps,x∈before) (a2:∀p∈before,sp p.block=true) :
  DataW.Trod enc Tryz.prog W' 0 sp true t v d ps:=
 Trod_stays Tryz.laidOut hr a1 h (fun x hx=>hb.same (hlt x hx)) (fun x hx=>a2 x (a0 x hx))
end
section
variable {H:Type}{enc:TypeId×Value->H}{P:Program}
theorem mj {f:Func}{s:ChangeSpec}{apart fresh a0 again:Bool}{ds gs:List (DataW H)}{before pa pv:List MemPlace}
  (hW:DataW.Whole enc P f.params.toList s.vars apart W args.toList ds gs before)
  (a4:∀ (b:Nat) (sp:Nat->Bool) (hd:Bool),DataW.TrodAll enc P W' b sp hd f.resultTypes.toList (v.resultList f.resultTypes.size) (s.fn H (ds++gs)).results [])
  (a2:∀sp:Nat->Bool,(∀p∈before,sp p.block=true)->DataW.TrodAll enc P W' 0 sp true f.params.toList args.toList (s.fn H (ds++gs)).args pa)
  (a1:∀sp:Nat->Bool,(∀p∈before,sp p.block=true)->DataW.TrodVars enc P W' sp s.vars (s.fn H (ds++gs)).vars pv)
  (a5:before=pa++pv) (hb:Below W.heap.size W W')
  (a9:∀ (j:Nat) (t:TypeId) (r:Value),f.resultTypes[j]?=some t->(v.resultList f.resultTypes.size)[j]?=some r->Value.okWide P W' .any 0 t r) :
  s.post enc P f apart fresh a0 again W args v W':=by
 have hlt:∀p∈before,p.block<W.heap.size:=fun p hp=>hW.lt p hp
 have a3:∀p∈before,(fun b=>decide (b<W.heap.size)) p.block=true:=fun p hp=>by simpa using hlt p hp
 refine⟨ds,gs,before, [],pa,pv,hW,a4 _ _ _,a2 _ a3,a1 _ a3,World.keptBut_mono (fun p hp=>⟨hp,?_⟩) (hb.frame (· ∈before)),fun _=>?_⟩
 ·rw[a5,List.mem_append] at hp;exact Or.inr hp
 ·obtain⟨_,_,_,_,_,hz,hn⟩:=hW;refine⟨a9,_,_,([]++pa)++pv,⟨[]++pa,pv,trodAll_append (a2 _ (fun _ _=>rfl)) (a4 ..),a1 _ (fun _ _=>rfl),rfl,?_,?_⟩,?_⟩
  ·intro b off hp;have hin:MemPlace.cell b off∈before:=by rw[a5];simpa using hp
   rw[hb.frozen (hlt _ hin)];exact hz b off hin
  ·intro ha;have:=hn ha;rw[a5] at this;simpa using this
  ·intro p hp _;rw[a5];simpa using hp
end
theorem yO (os:Os)(args:Array Value):laidMetH Tryz.prog dG ((World.laidAll Tryz.prog os dG).forCall (fun _ _=>0) ⟨#[],args, []⟩).memory:=by
 rw[MakeChecks.laidMetH_plain _ _ _ (by kernel_rfl)];exact laidMet_laidAll _ (by kernel_rfl) (by kernel_rfl)
theorem tj:(Rows.reportNothingUptoRow.wf (OpenSpec.ofChange (Rows.OpenSpec.upto Rows.reportNothingSpec).bare))=true:=by kernel_rfl
theorem th:(Tryz.f3.params.all (Tryz.prog.readableRec ·))=true:=by kernel_rfl
theorem uZ:(namedTie Tryz.prog Rows.reportNothingUptoRow.named (Rows.OpenSpec.upto Rows.reportNothingSpec).bare.vars)=true:=by kernel_rfl
theorem sG:((Rows.reportNothingUptoRow.stops == []))=true:=by kernel_rfl
theorem sS:((Tryz.prog.stops == []))=true:=by kernel_rfl
theorem t8:((Rows.reportNothingUptoRow.knobs == []))=true:=by kernel_rfl
theorem uk:((Tryz.prog.stopKnobs == []))=true:=by kernel_rfl
theorem tC:((Rows.reportNothingUptoRow.inPlace==Tryz.prog.inPlace 3))=true:=by kernel_rfl
theorem qr:((Rows.reportNothingUptoRow.unfollowed==Tryz.prog.unfollowed 3))=true:=by kernel_rfl
theorem so:((Rows.reportNothingUptoRow.recurses==Tryz.prog.recurses 3))=true:=by kernel_rfl
theorem rG:((Rows.reportNothingUptoRow.named==Tryz.prog.varsNamed 3))=true:=by kernel_rfl
theorem qG:((Rows.reportNothingUptoRow.maps== (Tryz.f3.params.toList++ (Rows.OpenSpec.upto Rows.reportNothingSpec).bare.plain.varTypes Tryz.prog).any (Tryz.prog.mapsRec ·)))=true:=by kernel_rfl
theorem pO:((Rows.reportNothingUptoRow.ifaces== (Tryz.f3.params.toList++ (Rows.OpenSpec.upto Rows.reportNothingSpec).bare.plain.varTypes Tryz.prog).any (Tryz.prog.ifacesRec ·)))=true:=by kernel_rfl
theorem pt:((Rows.reportNothingUptoRow.mapsOut==Tryz.prog.mapsAmong Tryz.f3.resultTypes.toList))=true:=by kernel_rfl
theorem sc:((Rows.reportNothingUptoRow.loops== (Tryz.f3.params.toList++ (Rows.OpenSpec.upto Rows.reportNothingSpec).bare.plain.varTypes Tryz.prog).any (Tryz.prog.loopsFrom ·)))=true:=by kernel_rfl
theorem pr:((Rows.reportNothingUptoRow.wideKeys== (Tryz.f3.params.toList++ (Rows.OpenSpec.upto Rows.reportNothingSpec).bare.plain.varTypes Tryz.prog++Tryz.f3.resultTypes.toList).any (Tryz.prog.wideKeysFrom ·)))=true:=by kernel_rfl
theorem rf:((Rows.OpenSpec.upto Rows.reportNothingSpec).bare.vars.all (Tryz.prog.varReadable ·))=true:=by kernel_rfl
theorem rT:(Tryz.f3.resultTypes.all (fun t=>Tryz.prog.readableRec t&&decide (t<Tryz.prog.types.size)))=true:=by kernel_rfl
theorem pm:((Rows.reportNothingUptoRow.ifacesOut==Tryz.f3.resultTypes.toList.any (Tryz.prog.ifacesRec ·)))=true:=by kernel_rfl
theorem p8:((Rows.reportNothingUptoRow.loopsOut==Tryz.f3.resultTypes.toList.any (Tryz.prog.loopsFrom ·)))=true:=by kernel_rfl
theorem pL:((Rows.reportNothingUptoRow.plainKeys==Tryz.prog.plainKeys))=true:=by kernel_rfl
theorem rR:(Rows.reportNothingUptoRow.shortTexts.isNone)=true:=by kernel_rfl
theorem pG:((Rows.reportNothingUptoRow.lifted==Tryz.prog.liftsFinal))=true:=by kernel_rfl
theorem rW:((Tryz.prog.make==some Rows.reportNothingUptoRow.make))=true:=by kernel_rfl
theorem rr:((Rows.reportNothingUptoRow.kinds== (if Rows.reportNothingUptoRow.domain.isEmpty then [] else Tryz.f3.params.toList.map fun t=>match Tryz.prog.underlying t with|some (.int k)=>some k|_=>none)))=true:=by kernel_rfl
theorem pF:((Rows.reportNothingUptoRow.pinned==Rows.reportNothingUptoRow.pinnedBy))=true:=by kernel_rfl
theorem qF:((Rows.reportNothingUptoRow.veiled== (Tryz.f3.params.toList++ (Rows.OpenSpec.upto Rows.reportNothingSpec).bare.plain.varTypes Tryz.prog++Tryz.f3.resultTypes.toList).any (Tryz.prog.veiledRec ·)))=true:=by kernel_rfl
theorem ra:(Rows.reportNothingUptoRow.veiledFits Tryz.prog Tryz.f3.params.toList (Tryz.f3.params.toList++ (Rows.OpenSpec.upto Rows.reportNothingSpec).bare.plain.varTypes Tryz.prog++Tryz.f3.resultTypes.toList))=true:=by kernel_rfl
theorem nL:Tryz.prog.funcNamed Rows.reportNothingUptoRow.func=some 3:=by kernel_rfl
theorem l4:joinedFacts Tryz.prog 3 Tryz.f3 (Rows.OpenSpec.upto Rows.reportNothingSpec).bare Rows.reportNothingUptoRow=true:=cK (cK (cK (cK (cK (cK (cK (cK (cK (cK (cK (cK (cK (cK (cK (cK (cK (cK (cK (cK (cK (cK (cK (cK (cK (cK (cK (cK (cK (cK (cK tj Tryz.laidOut) GK) th) uZ) sG) sS) t8) uk) tC) qr) so) rG) qG) pO) pt) sc) pr) rf) rT) pm) p8) pL) rR) Gf) F6) pG) rW) rr) pF) qF) ra
theorem mn {H:Type}{d0 d1 d2 d3:DataW H}(h:Rows.uptoSmall H [d0,d1,d2,d3]=true):Rows.uptoBulk d0+ (Rows.uptoBulk d1+Rows.uptoBulk d2)<=1048576:=by
 have h1:Rows.uptoBulkAll (H:=H) [d0,d1,d2,d3]<=1048576:=of_decide_eq_true h;simp only[Rows.uptoBulkAll] at h1;omega
theorem lM (os:Os)(started:os.Started)(H:Type)(enc:TypeId×Value->H)(F:Stop.Interp) :
  ReturnsInHanded {} Tryz.checked os 3 .any ((Rows.OpenSpec.upto Rows.reportNothingSpec).preRow enc Tryz.prog Tryz.f3 Rows.reportNothingUptoRow.domain false Rows.reportNothingUptoRow.laid) (((Rows.OpenSpec.upto Rows.reportNothingSpec).at F).post enc Tryz.prog Tryz.f3 false true false false):=by
 obtain⟨places,hx⟩:∃places,DataW.whole enc Tryz.prog ((World.laidAll Tryz.prog os dG).forCall (fun _ _=>0) ⟨#[],#[.slice none 0 0,.slice none 0 0,.slice none 0 0,.int .i64 0], []⟩).memory Tryz.f3.params.toList Rows.reportNothingSpec.vars false (#[.slice none 0 0,.slice none 0 0,.slice none 0 0,.int .i64 0]:Array Value).toList 8=some ([.nil,.nil,.nil,.lit (.int .i64 0)], [],places):=⟨[],by kernel_rfl⟩;have a5:Input.okWideB Tryz.checked.prog ((World.laidAll Tryz.prog os dG).forCall (fun _ _=>0) ⟨#[],#[.slice none 0 0,.slice none 0 0,.slice none 0 0,.int .i64 0], []⟩) 3 ⟨#[],#[.slice none 0 0,.slice none 0 0,.slice none 0 0,.int .i64 0], []⟩=true:=by kernel_rfl
 refine returnsInHanded_of_row (C:=Tryz.checked) (s:=Rows.OpenSpec.upto Rows.reportNothingSpec) Tryz.own started (by kernel_rfl) Tryz.func3
  ⟨World.laidAll Tryz.prog os dG,fun _ _=>0,⟨#[],#[.slice none 0 0,.slice none 0 0,.slice none 0 0,.int .i64 0], []⟩,rfl,World.shaped_of_ZipB (by kernel_rfl) (by kernel_rfl),(Input.okWide_of_okWideB (base:=0) a5).1,(Input.okWide_of_okWideB a5).2,
   OpenSpec.preRow_of_cond 8 hx (by kernel_rfl) (fun k hk=>by cases hk;kernel_rfl) (by kernel_rfl) (yO os _),by
   simp only[Assume.holds];exact⟨by simp,by simp,fun _=>Modest.zero,by simp,by simp⟩⟩ ?_
 intro W base args ds gs before a1 hW _ hk _ hL a9 _;have a0:∀ (j:Nat) t v,Tryz.f3.params[j]?=some t->args[j]?=some v->Value.okWide Tryz.prog W .any base t v:=a1;have hm:jb W:=cell_of_shapedOpen_int (P:=Tryz.prog) (g:=12) (t:=3) (zero:= #[.int .i64 0]) a9 (of_decide_eq_true (by kernel_rfl)) (by kernel_rfl) rfl (by kernel_rfl) (by kernel_rfl) Tryz.underlying3;have a3:=hW;have hlt:∀p∈before,p.block<W.heap.size:=fun p hp=>hW.lt p hp
 obtain⟨p,q,a4,hV,rfl,b2,b1⟩:=hW;have hA:DataW.TrodAll enc Tryz.prog W 0 (fun _=>true) true Tryz.f3.params.toList args.toList ds p:=a4;rw[Tryz.params3] at hA a0;obtain⟨v0,v1,v2,v3,d0,d1,d2,d3,p0,p1,p2,p3,rfl,rfl,rfl,h0,h1,h2,h3⟩:=trodAll_four hA;obtain⟨rfl,rfl⟩:=trodVars_none hV;have b0:=mn (hk _ rfl);obtain⟨x,bx,sx⟩:=o4 (a0 0 22 v0 rfl rfl) h0;obtain⟨y,bby,sy⟩:=iJ (a0 1 23 v1 rfl rfl) h1;obtain⟨z,bz,sz⟩:=iJ (a0 2 23 v2 rfl rfl) h2;obtain⟨c3,rfl,rfl,rfl,w3⟩:=open_int Tryz.underlying3 (a0 3 3 v3 rfl rfl) h3;clear a4 a1;simp only[List.append_nil,List.nil_append] at a3 hlt;refine(i1 (BY hL hm) (sx (by omega)) (sy (by omega)) (sz (by omega)) (by omega) (by omega)).mono fun e W' ⟨he,hb⟩=>?_
 subst he;exact⟨_,rfl,mj (pa:=p0++ (p1++p2)) (pv:= []) a3 (fun _ _ _=>trodAll_mk1 (shut_bool Tryz.underlying4 true))
  (fun sp a2=>by
   have:=trodAll_mk4 (D0 (by kernel_rfl) (of_decide_eq_true (by kernel_rfl)) h0 hb (fun x hx=>hlt x (by simp[hx])) sp (fun x hx=>by simp[hx]) a2) (D0 (by kernel_rfl) (of_decide_eq_true (by kernel_rfl)) h1 hb (fun x hx=>hlt x (by simp[hx])) sp (fun x hx=>by simp[hx]) a2) (D0 (by kernel_rfl) (of_decide_eq_true (by kernel_rfl)) h2 hb (fun x hx=>hlt x (by simp[hx])) sp (fun x hx=>by simp[hx]) a2) (shut_int Tryz.underlying3 w3)
   try simp only[List.append_nil,List.nil_append] at this
   exact this)
   (fun _ _=>rfl) (by simp) hb (ok_one (by kernel_rfl) rfl (okWide_bool_mk Tryz.underlying4 true))⟩
theorem rh:Rows.ReportNothingUptoSaid:=
 OpenClaim.holds_of_cond 3 Tryz.f3 rfl rfl rfl rfl rfl rfl rfl ⟨rfl,rfl,rfl,rfl,rfl⟩ rfl rfl rfl rfl rfl nL Tryz.func3 l4
  (of_decide_eq_true (by kernel_rfl)) (by unfold Func.isWrapper;rw[if_neg (of_decide_eq_false (by kernel_rfl))];exact⟨rfl,rfl⟩)
  (fun os started H enc _ F=>by rw[OpenClaim.pre_eq_preRow];exact lM os started H enc F)
open Go
theorem mD (f:FuncId)(fn:Func)(hf:Tryz.pinned.checked.prog.funcNamed "wicket/wicketlaw20.ReportNothing" = some f)(a1:Tryz.pinned.checked.prog.funcs[f]?=some fn) :
  true=Tryz.pinned.checked.prog.looks []/\∀ (j:Nat) t,fn.params[j]?=some t->Tryz.pinned.checked.prog.wantsStandIn t=false:=by
 obtain rfl:f=3:=Zi ((show Tryz.prog.funcNamed "wicket/wicketlaw20.ReportNothing" = some 3 by kernel_rfl).symm.trans hf) |>.symm;obtain rfl:fn=Tryz.f3:=(Zi (Tryz.func3.symm.trans a1)).symm;refine⟨by kernel_rfl,fun j t ht=>?_⟩;rw[Tryz.params3] at ht;have hm:t∈ [22,23,23,3]:=by simpa using Array.mem_of_getElem? ht
 have a0:([22,23,23,3].all fun u=> !Tryz.prog.wantsStandIn u)=true:=by kernel_rfl
 exact(show Tryz.prog.wantsStandIn t=false by simpa using List.all_eq_true.1 a0 t hm)
theorem nothing_card:Rows.ReportNothingUptoCardSaid:=
 Claim7.holds_tied_plain_at .later [] _ _ _ _ rh (fun _ h=>by cases h) (by kernel_rfl) (fun _ h=>by cases h) reportNothingUpto_row_tie rfl ⟨rfl,rfl⟩ (by kernel_rfl) rfl mD (by kernel_rfl)
#print axioms nothing_card
