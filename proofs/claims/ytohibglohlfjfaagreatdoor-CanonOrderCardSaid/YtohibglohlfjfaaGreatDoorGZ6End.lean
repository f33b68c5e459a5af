/- The tied card of wicketlaw8.CanonOrder is proved: whatever the three Docs, the call returns true, and they read afterwards as before. Condition: the listed package-level variables read as their text lays them (the card ties them). -/
import Derived.LaidMore
import Derived.Lib.LaidU8
import Derived.Stop.LaidErr
import Derived.Lay
import Derived.Deep.OwnShut
import Derived.Test.YtohibglohlfjfaaGreatDoorCards
import Derived.Test.YtohibglohlfjfaaGreatDoorTie
import Derived.Test.YtohibglohlfjfaaGreatDoorGZ6bx
set_option linter.unusedVariables false
set_option linter.unusedSimpArgs false
set_option maxRecDepth 100000
namespace Go.Proofs.YtohibglohlfjfaaGreatDoor
open Go.ChangeShapes Go.WideShapes Go.ChangeAt Go.WideMaps Go.WideElems Go.RowKit Go.Shelf Go.Lib
variable {args:Array Value}{hs:List Int}{xs ys zs:List UInt8}{us:List Value}{base c cap fuel g m n:Nat}{e:TypeId}{u v x z:Value}{W W' w:World}
abbrev ft:List (String×DataW Unit):=Rows.canonOrderRow.laid
theorem kY:Tryz.prog.cellsOf 411=1:=by kernel_rfl
theorem kL:Tryz.prog.cellsOf 9=1:=by kernel_rfl
theorem wP:∀u,Tryz.prog.typeName? 3 u=some "*errors.errorString" ->u=409:=typeName_ptr_named (nm:= "errors.errorString") (by kernel_rfl) (by kernel_rfl) (by decide)
theorem sP {H:Type}{enc:TypeId×Value->H}{P:Program}{sp:Nat->Bool}{a0:Bool}{t:TypeId}{cs:List Value}{ds:List (DataW H)}{p:List MemPlace}
  (ht:P.underlying t=some (.array n e)) (a3:P.cellsOf e=c) (a4:P.cellsOf t=n*c) (h:DataW.trod enc P w base sp a0 (fuel+1) t cs=some (.agg ds,p)) :
  ds.length=n/\∀ (i:Nat) (d:DataW H),ds[i]?=some d->∃q,DataW.trod enc P w base sp a0 fuel e ((cs.drop (i*c)).take c)=some (d,q):=by
 simp only[DataW.trod,ht,a3,a4] at h
 split at h
 ·obtain⟨xs,hm,hx⟩:=Option.map_eq_some_iff.1 h;have a1:xs.map (·.1)=ds:=by
   have:=congrArg Prod.fst hx;simpa using this
  have a2:xs.length=n:=by simpa using mapM_length hm
  refine⟨by rw[<-a1];simpa using a2,fun i d hd=>?_⟩;have hi:i<n:=by
   rw[<-a1] at hd;have:=(List.getElem?_eq_some_iff.1 hd).1;simpa [a2] using this
  obtain⟨b,hb,hf⟩:=mapM_at hm i i (by simp[hi]);rw[<-a1,List.getElem?_map,hb] at hd;obtain rfl:=Zi hd;exact⟨b.2,hf⟩
 ·cases h
section
variable {W:World}
theorem ga {n:String}{text:List UInt8}(h:laidMet Tryz.prog [(n,.iface "*errors.errorString" (.ptr (.agg [.lit (.string text)])))] W)(hg:Tryz.prog.globalNamed n=some g)(ht:(Tryz.prog.globals[g]?).map (·.type)=some 40):br W g:=by
 obtain⟨a,s,hv,-⟩:=laid_sentinel h hg ht Tryz.underlying40 wP Tryz.underlying409 Tryz.underlying411 rfl rfl Tryz.underlying9 kY kL;exact⟨a,by simpa using World.var?_cell hg hv 0⟩
theorem ef {n:String}{d:DataW Unit}(h:laidMet Tryz.prog ft W)(hl:ft.filter (fun x=>x.1==n) = [(n,d)]):laidMet Tryz.prog [(n,d)] W:=by
 rw[<-hl];exact h.filter _
theorem Ci {n:String}{d:DataW Unit}{t:TypeId}(h:laidMet Tryz.prog [(n,d)] W)(hg:Tryz.prog.globalNamed n=some g)(ht:(Tryz.prog.globals[g]?).map (·.type)=some t):∃ (cs:Array Value) (fuel:Nat) (p:List MemPlace),(∀i:Nat,W.cell? ⟨g,i,none⟩=cs[i]?)/\DataW.trod (fun _=>()) Tryz.prog W 0 (fun _=>true) false fuel t cs.toList=some (d,p):=by
 obtain⟨ps,⟨g',t',cs,fuel,p,q,a2,a1,a0,hd,_,_⟩,_⟩:=h;obtain rfl:=Zi (hg.symm.trans a2);obtain rfl:=Zi (ht.symm.trans a1);exact⟨cs,fuel,p,fun i=>World.var?_cell hg a0 i,hd⟩
theorem mW {n:String}{l:List (List UInt8)}{t:TypeId}(h:laidMet Tryz.prog [(n,.agg (l.map fun s=>.lit (.string s)))] W)(hg:Tryz.prog.globalNamed n=some g)(ht:(Tryz.prog.globals[g]?).map (·.type)=some t)(hu:Tryz.prog.underlying t=some (.array m 9))(hc:Tryz.prog.cellsOf t=m*1) :
  ∀ (i:Nat) (s:List UInt8),l[i]?=some s->W.cell? ⟨g,i,none⟩=some (.string ⟨s.toArray⟩):=by
 obtain⟨cs,fuel,p,a0,hd⟩:=Ci h hg ht;intro i s hs
 cases fuel with
 |zero=>simp[DataW.trod] at hd
 |succ fuel=>
  obtain⟨-,hat⟩:=sP hu kL hc hd;obtain⟨q,hq⟩:=hat i (.lit (.string s)) (by rw[List.getElem?_map,hs];rfl);obtain⟨z,e1,e2,-⟩:=DataW.trod_string Tryz.underlying9 hq;have hz:s=z.data.toList:=by
   have:=congrArg Prod.fst e2;simpa using this
  rw[a0];have:=congrArg (·[0]?) e1;rw[hz];simpa [List.getElem?_take,List.getElem?_drop] using this
theorem EP (h:laidMet Tryz.prog ft W):nB W:=by
 obtain⟨cs,fuel,p,a0,hd⟩:=Ci (g:=15) (t:=371) (ef h (n:= "wicket/dec.goes") (d:=Rows.laid_wicket_dec_goes) (by kernel_rfl)) (by kernel_rfl) (by kernel_rfl)
 cases fuel with
 |zero=>simp[DataW.trod] at hd
 |succ fuel=>
  rw[show(Rows.laid_wicket_dec_goes:DataW Unit) =.agg ((List.range 9).map fun i=>tabData .u8 ((List.range 6).map fun k=>((nR.getD (i*6+k) 9:Nat):Int))) by kernel_rfl] at hd;obtain⟨-,hat⟩:=sP (c:=6) Tryz.underlying371 (by kernel_rfl) (by kernel_rfl) hd;intro i hi;obtain⟨q,hq⟩:=hat (i/6) (tabData .u8 ((List.range 6).map fun k=>((nR.getD (i/6*6+k) 9:Nat):Int))) (by rw[List.getElem?_map,List.getElem?_range (by omega)];rfl);have e:=cells_of_tab Tryz.underlying370 Tryz.underlying5 (by kernel_rfl) (by kernel_rfl) hq;have:=congrArg (·[i % 6]?) e;simp only[List.getElem?_take,List.getElem?_drop,List.getElem?_map,if_pos (show i % 6<6 by omega),List.getElem?_range (show i % 6<6 by omega),Option.map_some,show i/6*6+i % 6=i by omega] at this;rw[a0,<-Array.getElem?_toList];exact this
theorem Ag (h:laidMet Tryz.prog ft W):li W:=by
 have hs:=mW (l:=o0) (g:=9) (t:=330) (m:=6) (n:= "wicket/lex.begins") (ef h (by kernel_rfl)) (by kernel_rfl) (by kernel_rfl) Tryz.underlying330 (by kernel_rfl);intro i hi;refine hs i (o0.getD i []) ?_;rw[List.getD_eq_getElem?_getD,Zd (by exact hi)];rfl
theorem FS (h:laidMet Tryz.prog ft W):kB W:=by
 have hs:=mW (l:=(List.range 8).map zn) (g:=8) (t:=310) (m:=8) (n:= "wicket/parse.may") (ef h (by kernel_rfl)) (by kernel_rfl) (by kernel_rfl) Tryz.underlying310 (by kernel_rfl);intro i hi;exact hs i (zn i) (by rw[List.getElem?_map,List.getElem?_range hi];rfl)
theorem Ic (h:laidMet Tryz.prog ft W):cG W:=by
 have h1:=ef h (n:= "internal/strconv.uint64pow10") (d:=tabData .u64 pow10Tab) (by kernel_rfl);exact tabIs_of_head (g:=11) (t:=344) (e:=252) (n:=20) (by kernel_rfl) (by kernel_rfl) Tryz.underlying344 Tryz.underlying252 (by kernel_rfl) (by kernel_rfl) h1
theorem Fs (h:laidMet Tryz.prog ft W):∃aU aE,ce W aU aE:=by
 have h:laidMet Tryz.prog [("wicket/api.ErrUTF",Rows.laid_wicket_api_ErrUTF),("wicket/api.ErrEnd",Rows.laid_wicket_api_ErrEnd),("wicket/utf.lengths",Rows.laid_wicket_utf_lengths)] W:=by
  have:=h.filter fun x=>x.1 == "wicket/api.ErrUTF" || (x.1 == "wicket/api.ErrEnd" || x.1 == "wicket/utf.lengths")
  rwa[show(ft.filter fun x=>x.1 == "wicket/api.ErrUTF" || (x.1 == "wicket/api.ErrEnd" || x.1 == "wicket/utf.lengths")) = [("wicket/api.ErrUTF",Rows.laid_wicket_api_ErrUTF),("wicket/api.ErrEnd",Rows.laid_wicket_api_ErrEnd),("wicket/utf.lengths",Rows.laid_wicket_utf_lengths)] by kernel_rfl] at this
 have gUTF:Tryz.prog.globalNamed "wicket/api.ErrUTF" = some 5:=by kernel_rfl
 have gEnd:Tryz.prog.globalNamed "wicket/api.ErrEnd" = some 4:=by kernel_rfl
 have gLen:Tryz.prog.globalNamed "wicket/utf.lengths" = some 7:=by kernel_rfl
 have tUTF:(Tryz.prog.globals[5]?).map (·.type)=some 40:=by kernel_rfl
 have tEnd:(Tryz.prog.globals[4]?).map (·.type)=some 40:=by kernel_rfl
 have tLen:(Tryz.prog.globals[7]?).map (·.type)=some 307:=by kernel_rfl
 obtain⟨ps,⟨g0,t0,cs0,f0,p0,q0,a5,b5,a9,b7,⟨g1,t1,cs1,f1,p1,q1,a6,b6,a7,b2,⟨g2,t2,cs2,f2,p2,q2,b0,b1,b9,c3,c2,e2⟩,e1⟩,e0⟩,b3,a2⟩:=h;obtain rfl:=Zi (gUTF.symm.trans a5);obtain rfl:=Zi (gEnd.symm.trans a6);obtain rfl:=Zi (gLen.symm.trans b0);obtain rfl:=Zi (tUTF.symm.trans b5);obtain rfl:=Zi (tEnd.symm.trans b6);obtain rfl:=Zi (tLen.symm.trans b1);have a3:q2 = []:=c2;subst a3 e2 e1 e0;obtain⟨l0⟩:=cs0;obtain⟨l1⟩:=cs1;obtain⟨l2⟩:=cs2;have ok0:∀u v,l0 = [.iface u v]->Value.okWide Tryz.prog W .any 0 u v:=fun u v e=>by
  subst e;exact(a2 5 0 (by simp[MemPlace.row])).2 u v (by simpa using World.var?_cell a5 a9 0)
 have ok1:∀u v,l1 = [.iface u v]->Value.okWide Tryz.prog W .any 0 u v:=fun u v e=>by
  subst e;exact(a2 4 0 (by simp[MemPlace.row])).2 u v (by simpa using World.var?_cell a6 a7 0)
 obtain⟨a0,s0,rfl,c6,c8,c9,rfl⟩:=errorString_of_trod Tryz.underlying40 wP Tryz.underlying409 Tryz.underlying411 rfl rfl Tryz.underlying9 kY kL b7 ok0;obtain⟨a1,s1,rfl,c4,c5,c7,rfl⟩:=errorString_of_trod Tryz.underlying40 wP Tryz.underlying409 Tryz.underlying411 rfl rfl Tryz.underlying9 kY kL b2 ok1;obtain⟨c0,t0,b4⟩:=(a2 a0.block a0.off (by simp[MemPlace.row])).1;obtain⟨c1,t1,b8⟩:=(a2 a1.block a1.off (by simp[MemPlace.row])).1;have a4:=cells_of_tab (zs:=eU) Tryz.underlying307 Tryz.underlying306 (by kernel_rfl) (by kernel_rfl) c3;subst a4;refine⟨a0,a1,by simpa using World.var?_cell a5 a9 0,by simpa using World.var?_cell a6 a7 0,fun i hi=>?_,⟨c0,t0,b4⟩,⟨c1,t1,b8⟩,?_⟩
 ·have:=World.var?_cell b0 b9 i;rw[this];have:i<eU.length:=hi;simp[Zd this]
 ·rintro rfl;simp[MemPlace.row] at b3
theorem Gn (h:laidMetH Tryz.prog ft W):xI W:=by
 rw[MakeChecks.laidMetH_plain _ _ _ (by kernel_rfl)] at h;obtain⟨aU,aE,hg⟩:=Fs h;exact⟨⟨aU,aE,⟨hg,EP h,Ag h,ga (g:=12) (ef h (n:= "wicket/api.ErrNumber") (d:=Rows.laid_wicket_api_ErrNumber) (by kernel_rfl)) (by kernel_rfl) (by kernel_rfl),ga (g:=13) (ef h (n:= "wicket/api.ErrExponent") (d:=Rows.laid_wicket_api_ErrExponent) (by kernel_rfl)) (by kernel_rfl) (by kernel_rfl),ga (g:=14) (ef h (n:= "wicket/api.ErrQuote") (d:=Rows.laid_wicket_api_ErrQuote) (by kernel_rfl)) (by kernel_rfl) (by kernel_rfl),ga (g:=19) (ef h (n:= "wicket/api.ErrEscape") (d:=Rows.laid_wicket_api_ErrEscape) (by kernel_rfl)) (by kernel_rfl) (by kernel_rfl),ga (g:=20) (ef h (n:= "wicket/api.ErrSurrogate") (d:=Rows.laid_wicket_api_ErrSurrogate) (by kernel_rfl)) (by kernel_rfl) (by kernel_rfl),ga (g:=18) (ef h (n:= "wicket/api.ErrControl") (d:=Rows.laid_wicket_api_ErrControl) (by kernel_rfl)) (by kernel_rfl) (by kernel_rfl)⟩⟩,FS h,Ic h,ga (g:=0) (ef h (n:= "wicket/api.ErrNil") (d:=Rows.laid_wicket_api_ErrNil) (by kernel_rfl)) (by kernel_rfl) (by kernel_rfl),ga (g:=2) (ef h (n:= "wicket/api.ErrTwice") (d:=Rows.laid_wicket_api_ErrTwice) (by kernel_rfl)) (by kernel_rfl) (by kernel_rfl),ga (g:=1) (ef h (n:= "wicket/api.ErrHidden") (d:=Rows.laid_wicket_api_ErrHidden) (by kernel_rfl)) (by kernel_rfl) (by kernel_rfl),ga (g:=3) (ef h (n:= "wicket/api.ErrSyntax") (d:=Rows.laid_wicket_api_ErrSyntax) (by kernel_rfl)) (by kernel_rfl) (by kernel_rfl)⟩
end
theorem Tryz.laidOut:laidOutB Tryz.prog=true:=by kernel_rfl
theorem Tryz.own:ownKnob Tryz.prog.godebug=none:=by kernel_rfl
theorem Kh:mapsRowed Tryz.prog=true:=by kernel_rfl
theorem JN:Tryz.prog.stopsHeard=true:=by kernel_rfl
theorem JF:Tryz.prog.mayEnter=true:=by kernel_rfl
theorem dN {a b:Bool}(ha:a=true)(hb:b=true):(a&&b)=true:=by rw[ha,hb];rfl
theorem EQ:Tryz.prog.cellsOf 5=1:=by kernel_rfl
theorem CL:Tryz.prog.cellsOf 3=1:=by kernel_rfl
section
variable {H:Type}{enc:TypeId×Value->H}
theorem sN {a:Addr}{len:Nat}(hlen:us.length=len)(hl:len<=cap)(hm:len<=9223372036854775807)(h:∀i u,us[i]?=some u->W.cell? (a.add i)=some u)(hn:len<=n):Sl W (.slice (some a) len cap) us:=by
 refine⟨by omega,some a,cap,by rw[hlen],by omega,fun h0=>?_⟩;obtain⟨u0,a2⟩:∃u,us[0]?=some u:=⟨_,Zd h0⟩;have a0:=h 0 u0 a2;obtain⟨b,o,sp⟩:=a;have a1:sp=none:=by
  cases sp with
  |none=>rfl
  |some s=>exfalso;simp[Addr.add,World.cell?] at a0;split at a0 <;> simp at a0
 subst a1;refine⟨b,o,rfl,fun i u hi=>?_⟩;have h1:=h i u hi;have e1:(⟨b,o,none⟩:Addr).add i= ⟨b,o+i,none⟩:=by unfold Addr.add;split <;> simp_all
 rwa[e1] at h1
theorem yc {d:DataW H×List MemPlace}(hf:DataW.trod enc Tryz.prog W 0 (fun _=>true) true fuel 22 [x]=some d):∃xs,Bs W x xs:=by
 rcases open_ints Tryz.underlying22 Tryz.underlying5 EQ hf with ⟨a3,hx⟩|⟨a,len',cap',zs,a3,_,hl,hm,hz,hx,a0,a6⟩
 ·obtain rfl:=List.cons.inj a3 |>.1;exact⟨[],⟨by simp,none,0,rfl,Zb _,fun h=>by simp at h⟩⟩
 ·obtain rfl:=List.cons.inj a3 |>.1;simp only[if_true] at hz;have a1:((zs.take len').map fun z=>UInt8.ofNat z.toNat).length=len':=by simp;omega
  have a2:∀i,i<zs.length->W.cell? (a.add i)=some (.int .u8 (zs.getD i 0)):=a0;refine⟨(zs.take len').map fun z=>UInt8.ofNat z.toNat,⟨by rw[a1];unfold maxLen at hm;omega,some a,cap',by rw[a1],by rw[a1];exact hl,fun h0=>?_⟩⟩;rw[a1] at h0;have a4:=a0 0 (by omega);obtain⟨b,o,sp⟩:=a;have a5:sp=none:=by
   cases sp with
   |none=>rfl
   |some s=>exfalso;simp[Addr.add,World.cell?] at a4;split at a4 <;> simp at a4
  subst a5;refine⟨b,o,rfl,fun i hi=>?_⟩;rw[a1] at hi;have h1:=a0 i (by omega);have e1:(⟨b,o,none⟩:Addr).add i= ⟨b,o+i,none⟩:=by unfold Addr.add;split <;> simp_all
  rw[e1] at h1;rw[h1];have a7:0<=zs.getD i 0/\zs.getD i 0<=255:=bounds_u8 (a6 (zs.getD i 0) (by rw[List.getD_eq_getElem?_getD,Zd (show i<zs.length by omega)];exact List.getElem_mem _));have e2:(((am ((zs.take len').map fun z=>UInt8.ofNat z.toNat) i:Nat)):Int)=zs.getD i 0:=by
   unfold am;have:((zs.take len').map fun z=>UInt8.ofNat z.toNat).getD i 0=UInt8.ofNat (zs.getD i 0).toNat:=by
    simp[List.getElem?_take,hi,Zd (show i<zs.length by omega)]
   rw[this];exact aF _ (by omega)
  rw[e2]
theorem kD {d:DataW H×List MemPlace}(hf:DataW.trod enc Tryz.prog W 0 (fun _=>true) true fuel 23 [x]=some d):∃zs:List Int,Sl W x (zs.map iV)/\∀z∈zs,-9223372036854775808<=z/\z<=9223372036854775807:=by
 rcases open_ints Tryz.underlying23 Tryz.underlying3 CL hf with ⟨a2,hx⟩|⟨a,len',cap',zs,a2,_,hl,hm,hz,hx,a1,a4⟩
 ·obtain rfl:=List.cons.inj a2 |>.1;exact⟨[],⟨Zk _,none,0,rfl,Zb _,fun h=>by simp at h⟩,fun z hz=>by cases hz⟩
 ·obtain rfl:=List.cons.inj a2 |>.1;simp only[if_true] at hz;have a3:(zs.take len').length=len':=by simp;omega
  have a0:∀i,i<zs.length->W.cell? (a.add i)=some (.int .i64 (zs.getD i 0)):=a1;refine⟨zs.take len',sN (n:=len') (by rw[List.length_map];exact a3) hl (by unfold maxLen at hm;omega) (fun i u hi=>?_) (Zb _),fun z hz=>bounds_i64 (a4 z (List.mem_of_mem_take hz))⟩;have hlt:=(List.getElem?_eq_some_iff.1 hi).1;rw[List.length_map,a3] at hlt;rw[a0 i (by omega)];rw[List.getElem?_map,List.getElem?_take,if_pos hlt,Zd (by omega)] at hi;rw[List.getD_eq_getElem?_getD,Zd (by omega)];simpa [iV] using hi
structure yY (W:World) (v:Value) (xs:List UInt8) (hs bs:List Int):Prop where
 ex:∃ta th tb,v =.agg #[ta,th,tb]/\Bs W ta xs/\Sl W th (hs.map iV)/\Sl W tb (bs.map iV)
 hb:∀z∈hs,-9223372036854775808<=z/\z<=9223372036854775807
 bb:∀z∈bs,-9223372036854775808<=z/\z<=9223372036854775807
theorem iR {d:DataW H}{ps:List MemPlace}(hv:Value.okWide Tryz.prog W .any base 25 v)(hj:DataW.Trod enc Tryz.prog W 0 (fun _=>true) true 25 v d ps):∃xs hs bs,yY W v xs hs bs:=by
 obtain⟨cs,rfl,hsz⟩:=okWide_struct Tryz.underlying25 hv;obtain⟨fuel,hf⟩:=hj;obtain⟨y0,y1,y2,n,hy,hl,h0,h1,h2⟩:=Deep.trod_struct3 Tryz.underlying25 hf;obtain⟨l⟩:=cs;rw[show Tryz.prog.cellsOf 25=3 by kernel_rfl] at hsz
 match l,hsz with
 | [a,b,c],_=>
  obtain⟨xs,hx⟩:=yc (x:=a) h0;obtain⟨hs,hh,a0⟩:=kD (x:=b) h1;obtain⟨bs,hb,a1⟩:=kD (x:=c) h2;exact⟨xs,hs,bs,⟨a,b,c,rfl,hx,hh,hb⟩,a0,a1⟩
theorem GH {t:TypeId}(hr:Tryz.prog.readableRec t=true)(a1:t<Tryz.prog.types.size){d:DataW H}{ps before:List MemPlace}
  (h:DataW.Trod enc Tryz.prog W 0 (fun _=>true) true t v d ps) (hb:Below W.heap.size W W') (hlt:∀x∈ps,x.block<W.heap.size) (sp:Nat->Bool) (a0:∀x∈ps,x∈before) (a2:∀p∈before,sp p.block=true) :
  DataW.Trod enc Tryz.prog W' 0 sp true t v d ps:=
 Trod_stays Tryz.laidOut hr a1 h (fun x hx=>hb.same (hlt x hx)) (fun x hx=>a2 x (a0 x hx))
end
section
variable {H:Type}{enc:TypeId×Value->H}{P:Program}
theorem oY {f:Func}{s:ChangeSpec}{apart fresh a0 again:Bool}{ds gs:List (DataW H)}{before pa pv:List MemPlace}
  (hW:DataW.Whole enc P f.params.toList s.vars apart W args.toList ds gs before)
  (a4:∀ (b:Nat) (sp:Nat->Bool) (hd:Bool),DataW.TrodAll enc P W' b sp hd f.resultTypes.toList (v.resultList f.resultTypes.size) (s.fn H (ds++gs)).results [])
  (a2:∀sp:Nat->Bool,(∀p∈before,sp p.block=true)->DataW.TrodAll enc P W' 0 sp true f.params.toList args.toList (s.fn H (ds++gs)).args pa)
  (a1:∀sp:Nat->Bool,(∀p∈before,sp p.block=true)->DataW.TrodVars enc P W' sp s.vars (s.fn H (ds++gs)).vars pv)
  (a5:before=pa++pv) (hb:Below W.heap.size W W')
  (a6:∀ (j:Nat) (t:TypeId) (r:Value),f.resultTypes[j]?=some t->(v.resultList f.resultTypes.size)[j]?=some r->Value.okWide P W' .any 0 t r) :
  s.post enc P f apart fresh a0 again W args v W':=by
 have hlt:∀p∈before,p.block<W.heap.size:=fun p hp=>hW.lt p hp
 have a3:∀p∈before,(fun b=>decide (b<W.heap.size)) p.block=true:=fun p hp=>by simpa using hlt p hp
 refine⟨ds,gs,before, [],pa,pv,hW,a4 _ _ _,a2 _ a3,a1 _ a3,World.keptBut_mono (fun p hp=>⟨hp,?_⟩) (hb.frame (· ∈before)),fun _=>?_⟩
 ·rw[a5,List.mem_append] at hp;exact Or.inr hp
 ·obtain⟨_,_,_,_,_,hz,hn⟩:=hW;refine⟨a6,_,_,([]++pa)++pv,⟨[]++pa,pv,trodAll_append (a2 _ (fun _ _=>rfl)) (a4 ..),a1 _ (fun _ _=>rfl),rfl,?_,?_⟩,?_⟩
  ·intro b off hp;have hin:MemPlace.cell b off∈before:=by rw[a5];simpa using hp
   rw[hb.frozen (hlt _ hin)];exact hz b off hin
  ·intro ha;have:=hn ha;rw[a5] at this;simpa using this
  ·intro p hp _;rw[a5];simpa using hp
end
theorem Dj (os:Os)(args:Array Value):laidMetH Tryz.prog ft ((World.laidAll Tryz.prog os ft).forCall (fun _ _=>0) ⟨#[],args, []⟩).memory:=by
 rw[MakeChecks.laidMetH_plain _ _ _ (by kernel_rfl)];exact laidMet_laidAll _ (by kernel_rfl) (by kernel_rfl)
theorem DY (hL:xI W){bs a0 bs' a1 bs2:List Int}(h1:yY W v xs hs bs)(h2:yY W u ys a0 bs')(h3:yY W z zs a1 bs2):Calls Tryz.prog 3 #[v,u,z] W (JE W):=by
 obtain⟨ta,th,tb,rfl,x1,x2,x3⟩:=h1.ex;obtain⟨ua,uh,ub,rfl,y1,y2,y3⟩:=h2.ex;obtain⟨za,zh,zb,rfl,z1,z2,z3⟩:=h3.ex;exact mT hL x1 x2 x3 h1.hb h1.bb y1 y2 y3 h2.hb h2.bb z1 z2 z3 h3.hb h3.bb
theorem DF:(Rows.canonOrderRow.wf (OpenSpec.ofChange Rows.canonOrderSpec))=true:=by kernel_rfl
theorem BI:(Tryz.f3.params.all (Tryz.prog.readableRec ·))=true:=by kernel_rfl
theorem BZ:(namedTie Tryz.prog Rows.canonOrderRow.named Rows.canonOrderSpec.vars)=true:=by kernel_rfl
theorem DI:((Rows.canonOrderRow.stops == []))=true:=by kernel_rfl
theorem Eh:((Tryz.prog.stops == []))=true:=by kernel_rfl
theorem DM:((Rows.canonOrderRow.knobs == []))=true:=by kernel_rfl
theorem D7:((Tryz.prog.stopKnobs == []))=true:=by kernel_rfl
theorem CD:((Rows.canonOrderRow.inPlace==Tryz.prog.inPlace 3))=true:=by kernel_rfl
theorem zr:((Rows.canonOrderRow.unfollowed==Tryz.prog.unfollowed 3))=true:=by kernel_rfl
theorem Ar:((Rows.canonOrderRow.recurses==Tryz.prog.recurses 3))=true:=by kernel_rfl
theorem AE:((Rows.canonOrderRow.named==Tryz.prog.varsNamed 3))=true:=by kernel_rfl
theorem zP:((Rows.canonOrderRow.maps== (Tryz.f3.params.toList++Rows.canonOrderSpec.plain.varTypes Tryz.prog).any (Tryz.prog.mapsRec ·)))=true:=by kernel_rfl
theorem zT:((Rows.canonOrderRow.ifaces== (Tryz.f3.params.toList++Rows.canonOrderSpec.plain.varTypes Tryz.prog).any (Tryz.prog.ifacesRec ·)))=true:=by kernel_rfl
theorem Bv:((Rows.canonOrderRow.mapsOut==Tryz.prog.mapsAmong Tryz.f3.resultTypes.toList))=true:=by kernel_rfl
theorem AO:((Rows.canonOrderRow.loops== (Tryz.f3.params.toList++Rows.canonOrderSpec.plain.varTypes Tryz.prog).any (Tryz.prog.loopsFrom ·)))=true:=by kernel_rfl
theorem zA:((Rows.canonOrderRow.wideKeys== (Tryz.f3.params.toList++Rows.canonOrderSpec.plain.varTypes Tryz.prog++Tryz.f3.resultTypes.toList).any (Tryz.prog.wideKeysFrom ·)))=true:=by kernel_rfl
theorem zI:(Rows.canonOrderSpec.vars.all (Tryz.prog.varReadable ·))=true:=by kernel_rfl
theorem Bf:(Tryz.f3.resultTypes.all (fun t=>Tryz.prog.readableRec t&&decide (t<Tryz.prog.types.size)))=true:=by kernel_rfl
theorem zm:((Rows.canonOrderRow.ifacesOut==Tryz.f3.resultTypes.toList.any (Tryz.prog.ifacesRec ·)))=true:=by kernel_rfl
theorem zD:((Rows.canonOrderRow.loopsOut==Tryz.f3.resultTypes.toList.any (Tryz.prog.loopsFrom ·)))=true:=by kernel_rfl
theorem Aw:((Rows.canonOrderRow.plainKeys==Tryz.prog.plainKeys))=true:=by kernel_rfl
theorem Bq:(Rows.canonOrderRow.shortTexts.isNone)=true:=by kernel_rfl
theorem AQ:((Rows.canonOrderRow.lifted==Tryz.prog.liftsFinal))=true:=by kernel_rfl
theorem zy:((Tryz.prog.make==some Rows.canonOrderRow.make))=true:=by kernel_rfl
theorem zS:((Rows.canonOrderRow.kinds== (if Rows.canonOrderRow.domain.isEmpty then [] else Tryz.f3.params.toList.map fun t=>match Tryz.prog.underlying t with|some (.int k)=>some k|_=>none)))=true:=by kernel_rfl
theorem zK:((Rows.canonOrderRow.pinned==Rows.canonOrderRow.pinnedBy))=true:=by kernel_rfl
theorem zW:((Rows.canonOrderRow.veiled== (Tryz.f3.params.toList++Rows.canonOrderSpec.plain.varTypes Tryz.prog++Tryz.f3.resultTypes.toList).any (Tryz.prog.veiledRec ·)))=true:=by kernel_rfl
theorem Ba:(Rows.canonOrderRow.veiledFits Tryz.prog Tryz.f3.params.toList (Tryz.f3.params.toList++Rows.canonOrderSpec.plain.varTypes Tryz.prog++Tryz.f3.resultTypes.toList))=true:=by kernel_rfl
theorem xL:Tryz.prog.funcNamed Rows.canonOrderRow.func=some 3:=by kernel_rfl
theorem ru:joinedFacts Tryz.prog 3 Tryz.f3 Rows.canonOrderSpec Rows.canonOrderRow=true:=dN (dN (dN (dN (dN (dN (dN (dN (dN (dN (dN (dN (dN (dN (dN (dN (dN (dN (dN (dN (dN (dN (dN (dN (dN (dN (dN (dN (dN (dN (dN DF Tryz.laidOut) Kh) BI) BZ) DI) Eh) DM) D7) CD) zr) Ar) AE) zP) zT) Bv) AO) zA) zI) Bf) zm) zD) Aw) Bq) JN) JF) AQ) zy) zS) zK) zW) Ba
theorem rz (os:Os)(started:os.Started)(H:Type)(enc:TypeId×Value->H) :
  ReturnsInHanded {} Tryz.checked os 3 .any (fun w args=>(Rows.canonOrderSpec.pre enc Tryz.prog Tryz.f3 [] false w args/\laidMetH Tryz.prog ft w)/\sizedMet enc Tryz.prog Tryz.f3 (OpenSpec.ofChange Rows.canonOrderSpec) false w args)
   (Rows.canonOrderSpec.post enc Tryz.prog Tryz.f3 false true false false):=by
 refine returnsInHanded_of_change_and (C:=Tryz.checked) (X:=fun w _=>laidMetH Tryz.prog ft w) (fun _ _ _ hh h=>h.of_heap hh) Tryz.own started (by kernel_rfl) Tryz.func3
  (ChangeSpec.witness_shaped (enc:=enc) (C:=Tryz.checked) (os:=os) (X:=fun w _=>laidMetH Tryz.prog ft w) false (World.laidAll Tryz.prog os ft) #[.agg #[.slice none 0 0,.slice none 0 0,.slice none 0 0],.agg #[.slice none 0 0,.slice none 0 0,.slice none 0 0],.agg #[.slice none 0 0,.slice none 0 0,.slice none 0 0]] 8 rfl (World.shaped_of_ZipB (by kernel_rfl) (by kernel_rfl)) (by kernel_rfl) (by kernel_rfl) (by kernel_rfl) (Dj os _)) ?_
 intro W base args ds gs before a1 hW _ _ hL _;have a0:∀ (j:Nat) t v,Tryz.f3.params[j]?=some t->args[j]?=some v->Value.okWide Tryz.prog W .any base t v:=a1;have a3:=hW;have hlt:∀p∈before,p.block<W.heap.size:=fun p hp=>hW.lt p hp
 obtain⟨p,q,a4,hV,rfl,a7,a5⟩:=hW;have hA:DataW.TrodAll enc Tryz.prog W 0 (fun _=>true) true Tryz.f3.params.toList args.toList ds p:=a4;rw[Tryz.params3] at hA a0;obtain⟨v0,v1,v2,d0,d1,d2,p0,p1,p2,rfl,rfl,rfl,h0,h1,h2⟩:=trodAll_three hA;obtain⟨rfl,rfl⟩:=trodVars_none hV;obtain⟨xs0,b0,bs0,s0⟩:=iR (a0 0 25 v0 rfl rfl) h0;obtain⟨xs1,a6,bs1,s1⟩:=iR (a0 1 25 v1 rfl rfl) h1;obtain⟨xs2,a9,bs2,s2⟩:=iR (a0 2 25 v2 rfl rfl) h2;clear a4 a1;simp only[List.append_nil,List.nil_append] at a3 hlt;refine(DY (Gn hL) s0 s1 s2).mono fun e W' ⟨he,hb⟩=>?_
 subst he;exact⟨_,rfl,oY (pa:=p0++ (p1++p2)) (pv:= []) a3 (fun _ _ _=>trodAll_mk1 (shut_bool Tryz.underlying4 true))
  (fun sp a2=>by
   have:=trodAll_mk3 (GH (by kernel_rfl) (of_decide_eq_true (by kernel_rfl)) h0 hb (fun x hx=>hlt x (by simp[hx])) sp (fun x hx=>by simp[hx]) a2) (GH (by kernel_rfl) (of_decide_eq_true (by kernel_rfl)) h1 hb (fun x hx=>hlt x (by simp[hx])) sp (fun x hx=>by simp[hx]) a2) (GH (by kernel_rfl) (of_decide_eq_true (by kernel_rfl)) h2 hb (fun x hx=>hlt x (by simp[hx])) sp (fun x hx=>by simp[hx]) a2)
   try simp only[List.append_nil,List.nil_append] at this
   exact this)
   (fun _ _=>rfl) (by simp) hb (ok_one (by kernel_rfl) rfl (okWide_bool_mk Tryz.underlying4 true))⟩
theorem z6:Rows.CanonOrderSaid:=
 OpenClaim.holds_of_wide 3 Tryz.f3 rfl rfl rfl rfl rfl rfl rfl ⟨rfl,rfl,rfl,rfl,rfl⟩ rfl rfl rfl rfl rfl xL Tryz.func3 ru
  (of_decide_eq_true (by kernel_rfl)) (by unfold Func.isWrapper;rw[if_neg (of_decide_eq_false (by kernel_rfl))];exact⟨rfl,rfl⟩)
  (fun os started H enc _=>rz os started H enc)
open Go
theorem uV (f:FuncId)(fn:Func)(hf:Tryz.pinned.checked.prog.funcNamed "wicket/wicketlaw8.CanonOrder" = some f)(a1:Tryz.pinned.checked.prog.funcs[f]?=some fn) :
  true=Tryz.pinned.checked.prog.looks []/\∀ (j:Nat) t,fn.params[j]?=some t->Tryz.pinned.checked.prog.wantsStandIn t=false:=by
 obtain rfl:f=3:=Zi ((show Tryz.prog.funcNamed "wicket/wicketlaw8.CanonOrder" = some 3 by kernel_rfl).symm.trans hf) |>.symm;obtain rfl:fn=Tryz.f3:=(Zi (Tryz.func3.symm.trans a1)).symm;refine⟨by kernel_rfl,fun j t ht=>?_⟩;rw[Tryz.params3] at ht;have hm:t∈ [25,25,25]:=by simpa using Array.mem_of_getElem? ht
 have a0:([25,25,25].all fun u=> !Tryz.prog.wantsStandIn u)=true:=by kernel_rfl
 exact(show Tryz.prog.wantsStandIn t=false by simpa using List.all_eq_true.1 a0 t hm)
theorem order_card:Rows.CanonOrderCardSaid:=
 Claim7.holds_tied_plain_at .later [] _ _ _ _ z6 (fun _ h=>by cases h) (by kernel_rfl) (fun _ h=>by cases h) canonOrder_row_tie rfl ⟨rfl,rfl⟩ (by kernel_rfl) rfl uV (by kernel_rfl)
#print axioms order_card
