/- The tied card of wicketlaw8.CanonCompares is proved: whatever the two Docs, the call returns true, and they read afterwards as before. Condition: the listed package-level variables read as their text lays them (the card ties them). -/
import Derived.Test.YthknekoamnnhhaaGreatDoorGZ5ay
import Derived.LaidMore
import Derived.Lib.LaidU8
import Derived.Stop.LaidErr
import Derived.Lay
import Derived.Deep.OwnShut
import Derived.Test.YthknekoamnnhhaaGreatDoorCards
import Derived.Test.YthknekoamnnhhaaGreatDoorTie
set_option linter.unusedVariables false
set_option linter.unusedSimpArgs false
set_option maxRecDepth 100000
namespace Go.Proofs.YthknekoamnnhhaaGreatDoor
open Go.ChangeShapes Go.WideShapes Go.ChangeAt Go.WideMaps Go.WideElems Go.RowKit Go.Shelf Go.Lib
variable {args:Array Value}{hs hs':List Int}{xs ys:List UInt8}{us:List Value}{base c cap fuel g m n:Nat}{e:TypeId}{u v x:Value}{W W' w:World}
abbrev fU:List (String×DataW Unit):=Rows.canonComparesRow.laid
theorem lQ:Tryz.prog.cellsOf 429=1:=by kernel_rfl
theorem kL:Tryz.prog.cellsOf 9=1:=by kernel_rfl
theorem yc:∀u,Tryz.prog.typeName? 3 u=some "*errors.errorString" ->u=427:=typeName_ptr_named (nm:= "errors.errorString") (by kernel_rfl) (by kernel_rfl) (by decide)
theorem vw {H:Type}{enc:TypeId×Value->H}{P:Program}{sp:Nat->Bool}{a0:Bool}{t:TypeId}{cs:List Value}{ds:List (DataW H)}{p:List MemPlace}
  (ht:P.underlying t=some (.array n e)) (a3:P.cellsOf e=c) (a4:P.cellsOf t=n*c) (h:DataW.trod enc P w base sp a0 (fuel+1) t cs=some (.agg ds,p)) :
  ds.length=n/\∀ (i:Nat) (d:DataW H),ds[i]?=some d->∃q,DataW.trod enc P w base sp a0 fuel e ((cs.drop (i*c)).take c)=some (d,q):=by
 simp only[DataW.trod,ht,a3,a4] at h
 split at h
 ·obtain⟨xs,hm,hx⟩:=Option.map_eq_some_iff.1 h;have a1:xs.map (·.1)=ds:=by
   have:=congrArg Prod.fst hx;simpa using this
  have a2:xs.length=n:=by simpa using mapM_length hm
  refine⟨by rw[<-a1];simpa using a2,fun i d hd=>?_⟩;have hi:i<n:=by
   rw[<-a1] at hd;have:=(List.getElem?_eq_some_iff.1 hd).1;simpa [a2] using this
  obtain⟨b,hb,hf⟩:=mapM_at hm i i (by simp[hi]);rw[<-a1,List.getElem?_map,hb] at hd;obtain rfl:=Zh hd;exact⟨b.2,hf⟩
 ·cases h
section
variable {W:World}
theorem gP {n:String}{text:List UInt8}(h:laidMet Tryz.prog [(n,.iface "*errors.errorString" (.ptr (.agg [.lit (.string text)])))] W)(hg:Tryz.prog.globalNamed n=some g)(ht:(Tryz.prog.globals[g]?).map (·.type)=some 49):bC W g:=by
 obtain⟨a,s,hv,-⟩:=laid_sentinel h hg ht Tryz.underlying49 yc Tryz.underlying427 Tryz.underlying429 rfl rfl Tryz.underlying9 lQ kL;exact⟨a,by simpa using World.var?_cell hg hv 0⟩
theorem ej {n:String}{d:DataW Unit}(h:laidMet Tryz.prog fU W)(hl:fU.filter (fun x=>x.1==n) = [(n,d)]):laidMet Tryz.prog [(n,d)] W:=by
 rw[<-hl];exact h.filter _
theorem Dv {n:String}{d:DataW Unit}{t:TypeId}(h:laidMet Tryz.prog [(n,d)] W)(hg:Tryz.prog.globalNamed n=some g)(ht:(Tryz.prog.globals[g]?).map (·.type)=some t):∃ (cs:Array Value) (fuel:Nat) (p:List MemPlace),(∀i:Nat,W.cell? ⟨g,i,none⟩=cs[i]?)/\DataW.trod (fun _=>()) Tryz.prog W 0 (fun _=>true) false fuel t cs.toList=some (d,p):=by
 obtain⟨ps,⟨g',t',cs,fuel,p,q,a2,a1,a0,hd,_,_⟩,_⟩:=h;obtain rfl:=Zh (hg.symm.trans a2);obtain rfl:=Zh (ht.symm.trans a1);exact⟨cs,fuel,p,fun i=>World.var?_cell hg a0 i,hd⟩
theorem nH {n:String}{l:List (List UInt8)}{t:TypeId}(h:laidMet Tryz.prog [(n,.agg (l.map fun s=>.lit (.string s)))] W)(hg:Tryz.prog.globalNamed n=some g)(ht:(Tryz.prog.globals[g]?).map (·.type)=some t)(hu:Tryz.prog.underlying t=some (.array m 9))(hc:Tryz.prog.cellsOf t=m*1) :
  ∀ (i:Nat) (s:List UInt8),l[i]?=some s->W.cell? ⟨g,i,none⟩=some (.string ⟨s.toArray⟩):=by
 obtain⟨cs,fuel,p,a0,hd⟩:=Dv h hg ht;intro i s hs
 cases fuel with
 |zero=>simp[DataW.trod] at hd
 |succ fuel=>
  obtain⟨-,hat⟩:=vw hu kL hc hd;obtain⟨q,hq⟩:=hat i (.lit (.string s)) (by rw[List.getElem?_map,hs];rfl);obtain⟨z,e1,e2,-⟩:=DataW.trod_string Tryz.underlying9 hq;have hz:s=z.data.toList:=by
   have:=congrArg Prod.fst e2;simpa using this
  rw[a0];have:=congrArg (·[0]?) e1;rw[hz];simpa [List.getElem?_take,List.getElem?_drop] using this
theorem Fc (h:laidMet Tryz.prog fU W):oA W:=by
 obtain⟨cs,fuel,p,a0,hd⟩:=Dv (g:=15) (t:=389) (ej h (n:= "wicket/dec.goes") (d:=Rows.laid_wicket_dec_goes) (by kernel_rfl)) (by kernel_rfl) (by kernel_rfl)
 cases fuel with
 |zero=>simp[DataW.trod] at hd
 |succ fuel=>
  rw[show(Rows.laid_wicket_dec_goes:DataW Unit) =.agg ((List.range 9).map fun i=>tabData .u8 ((List.range 6).map fun k=>((oO.getD (i*6+k) 9:Nat):Int))) by kernel_rfl] at hd;obtain⟨-,hat⟩:=vw (c:=6) Tryz.underlying389 (by kernel_rfl) (by kernel_rfl) hd;intro i hi;obtain⟨q,hq⟩:=hat (i/6) (tabData .u8 ((List.range 6).map fun k=>((oO.getD (i/6*6+k) 9:Nat):Int))) (by rw[List.getElem?_map,List.getElem?_range (by omega)];rfl);have e:=cells_of_tab Tryz.underlying388 Tryz.underlying5 (by kernel_rfl) (by kernel_rfl) hq;have:=congrArg (·[i % 6]?) e;simp only[List.getElem?_take,List.getElem?_drop,List.getElem?_map,if_pos (show i % 6<6 by omega),List.getElem?_range (show i % 6<6 by omega),Option.map_some,show i/6*6+i % 6=i by omega] at this;rw[a0,<-Array.getElem?_toList];exact this
theorem Ar (h:laidMet Tryz.prog fU W):lV W:=by
 have hs:=nH (l:=py) (g:=9) (t:=353) (m:=6) (n:= "wicket/lex.begins") (ej h (by kernel_rfl)) (by kernel_rfl) (by kernel_rfl) Tryz.underlying353 (by kernel_rfl);intro i hi;refine hs i (py.getD i []) ?_;rw[List.getD_eq_getElem?_getD,Zc (by exact hi)];rfl
theorem EN (h:laidMet Tryz.prog fU W):kR W:=by
 have hs:=nH (l:=(List.range 8).map AN) (g:=8) (t:=335) (m:=8) (n:= "wicket/parse.may") (ej h (by kernel_rfl)) (by kernel_rfl) (by kernel_rfl) Tryz.underlying335 (by kernel_rfl);intro i hi;exact hs i (AN i) (by rw[List.getElem?_map,List.getElem?_range hi];rfl)
theorem GT (h:laidMet Tryz.prog fU W):du W:=by
 have h1:=ej h (n:= "internal/strconv.uint64pow10") (d:=tabData .u64 pow10Tab) (by kernel_rfl);exact tabIs_of_head (g:=11) (t:=367) (e:=277) (n:=20) (by kernel_rfl) (by kernel_rfl) Tryz.underlying367 Tryz.underlying277 (by kernel_rfl) (by kernel_rfl) h1
theorem Et (h:laidMet Tryz.prog fU W):∃aU aE,cR W aU aE:=by
 have h:laidMet Tryz.prog [("wicket/api.ErrUTF",Rows.laid_wicket_api_ErrUTF),("wicket/api.ErrEnd",Rows.laid_wicket_api_ErrEnd),("wicket/utf.lengths",Rows.laid_wicket_utf_lengths)] W:=by
  have:=h.filter fun x=>x.1 == "wicket/api.ErrUTF" || (x.1 == "wicket/api.ErrEnd" || x.1 == "wicket/utf.lengths")
  rwa[show(fU.filter fun x=>x.1 == "wicket/api.ErrUTF" || (x.1 == "wicket/api.ErrEnd" || x.1 == "wicket/utf.lengths")) = [("wicket/api.ErrUTF",Rows.laid_wicket_api_ErrUTF),("wicket/api.ErrEnd",Rows.laid_wicket_api_ErrEnd),("wicket/utf.lengths",Rows.laid_wicket_utf_lengths)] by kernel_rfl] at this
 have gUTF:Tryz.prog.globalNamed "wicket/api.ErrUTF" = some 5:=by kernel_rfl
 have gEnd:Tryz.prog.globalNamed "wicket/api.ErrEnd" = some 4:=by kernel_rfl
 have gLen:Tryz.prog.globalNamed "wicket/utf.lengths" = some 7:=by kernel_rfl
 have tUTF:(Tryz.prog.globals[5]?).map (·.type)=some 49:=by kernel_rfl
 have tEnd:(Tryz.prog.globals[4]?).map (·.type)=some 49:=by kernel_rfl
 have tLen:(Tryz.prog.globals[7]?).map (·.type)=some 332:=by kernel_rfl
 obtain⟨ps,⟨g0,t0,cs0,f0,p0,q0,a3,b6,a7,b9,⟨g1,t1,cs1,f1,p1,q1,a4,b5,b0,b3,⟨g2,t2,cs2,f2,p2,q2,a9,b7,b4,b8,c3,e2⟩,e1⟩,e0⟩,b2,a2⟩:=h;obtain rfl:=Zh (gUTF.symm.trans a3);obtain rfl:=Zh (gEnd.symm.trans a4);obtain rfl:=Zh (gLen.symm.trans a9);obtain rfl:=Zh (tUTF.symm.trans b6);obtain rfl:=Zh (tEnd.symm.trans b5);obtain rfl:=Zh (tLen.symm.trans b7);have a6:q2 = []:=c3;subst a6 e2 e1 e0;obtain⟨l0⟩:=cs0;obtain⟨l1⟩:=cs1;obtain⟨l2⟩:=cs2;have ok0:∀u v,l0 = [.iface u v]->Value.okWide Tryz.prog W .any 0 u v:=fun u v e=>by
  subst e;exact(a2 5 0 (by simp[MemPlace.row])).2 u v (by simpa using World.var?_cell a3 a7 0)
 have ok1:∀u v,l1 = [.iface u v]->Value.okWide Tryz.prog W .any 0 u v:=fun u v e=>by
  subst e;exact(a2 4 0 (by simp[MemPlace.row])).2 u v (by simpa using World.var?_cell a4 b0 0)
 obtain⟨a0,s0,rfl,c7,c4,c5,rfl⟩:=errorString_of_trod Tryz.underlying49 yc Tryz.underlying427 Tryz.underlying429 rfl rfl Tryz.underlying9 lQ kL b9 ok0;obtain⟨a1,s1,rfl,c8,c9,c6,rfl⟩:=errorString_of_trod Tryz.underlying49 yc Tryz.underlying427 Tryz.underlying429 rfl rfl Tryz.underlying9 lQ kL b3 ok1;obtain⟨c0,t0,c2⟩:=(a2 a0.block a0.off (by simp[MemPlace.row])).1;obtain⟨c1,t1,b1⟩:=(a2 a1.block a1.off (by simp[MemPlace.row])).1;have a5:=cells_of_tab (zs:=fj) Tryz.underlying332 Tryz.underlying331 (by kernel_rfl) (by kernel_rfl) b8;subst a5;refine⟨a0,a1,by simpa using World.var?_cell a3 a7 0,by simpa using World.var?_cell a4 b0 0,fun i hi=>?_,⟨c0,t0,c2⟩,⟨c1,t1,b1⟩,?_⟩
 ·have:=World.var?_cell a9 b4 i;rw[this];have:i<fj.length:=hi;simp[Zc this]
 ·rintro rfl;simp[MemPlace.row] at b2
theorem GQ (h:laidMetH Tryz.prog fU W):yj W:=by
 rw[MakeChecks.laidMetH_plain _ _ _ (by kernel_rfl)] at h;obtain⟨aU,aE,hg⟩:=Et h;exact⟨⟨aU,aE,⟨hg,Fc h,Ar h,gP (g:=12) (ej h (n:= "wicket/api.ErrNumber") (d:=Rows.laid_wicket_api_ErrNumber) (by kernel_rfl)) (by kernel_rfl) (by kernel_rfl),gP (g:=13) (ej h (n:= "wicket/api.ErrExponent") (d:=Rows.laid_wicket_api_ErrExponent) (by kernel_rfl)) (by kernel_rfl) (by kernel_rfl),gP (g:=14) (ej h (n:= "wicket/api.ErrQuote") (d:=Rows.laid_wicket_api_ErrQuote) (by kernel_rfl)) (by kernel_rfl) (by kernel_rfl),gP (g:=19) (ej h (n:= "wicket/api.ErrEscape") (d:=Rows.laid_wicket_api_ErrEscape) (by kernel_rfl)) (by kernel_rfl) (by kernel_rfl),gP (g:=20) (ej h (n:= "wicket/api.ErrSurrogate") (d:=Rows.laid_wicket_api_ErrSurrogate) (by kernel_rfl)) (by kernel_rfl) (by kernel_rfl),gP (g:=18) (ej h (n:= "wicket/api.ErrControl") (d:=Rows.laid_wicket_api_ErrControl) (by kernel_rfl)) (by kernel_rfl) (by kernel_rfl)⟩⟩,EN h,GT h,gP (g:=0) (ej h (n:= "wicket/api.ErrNil") (d:=Rows.laid_wicket_api_ErrNil) (by kernel_rfl)) (by kernel_rfl) (by kernel_rfl),gP (g:=2) (ej h (n:= "wicket/api.ErrTwice") (d:=Rows.laid_wicket_api_ErrTwice) (by kernel_rfl)) (by kernel_rfl) (by kernel_rfl),gP (g:=1) (ej h (n:= "wicket/api.ErrHidden") (d:=Rows.laid_wicket_api_ErrHidden) (by kernel_rfl)) (by kernel_rfl) (by kernel_rfl),gP (g:=3) (ej h (n:= "wicket/api.ErrSyntax") (d:=Rows.laid_wicket_api_ErrSyntax) (by kernel_rfl)) (by kernel_rfl) (by kernel_rfl)⟩
end
theorem Tryz.laidOut:laidOutB Tryz.prog=true:=by kernel_rfl
theorem Tryz.own:ownKnob Tryz.prog.godebug=none:=by kernel_rfl
theorem J4:mapsRowed Tryz.prog=true:=by kernel_rfl
theorem Jz:Tryz.prog.stopsHeard=true:=by kernel_rfl
theorem Ji:Tryz.prog.mayEnter=true:=by kernel_rfl
theorem dY {a b:Bool}(ha:a=true)(hb:b=true):(a&&b)=true:=by rw[ha,hb];rfl
theorem Ej:Tryz.prog.cellsOf 5=1:=by kernel_rfl
theorem CL:Tryz.prog.cellsOf 3=1:=by kernel_rfl
section
variable {H:Type}{enc:TypeId×Value->H}
theorem uy {a:Addr}{len:Nat}(hlen:us.length=len)(hl:len<=cap)(hm:len<=9223372036854775807)(h:∀i u,us[i]?=some u->W.cell? (a.add i)=some u)(hn:len<=n):Sl W (.slice (some a) len cap) us:=by
 refine⟨by omega,some a,cap,by rw[hlen],by omega,fun h0=>?_⟩;obtain⟨u0,a1⟩:∃u,us[0]?=some u:=⟨_,Zc h0⟩;have a0:=h 0 u0 a1;obtain⟨b,o,sp⟩:=a;have a2:sp=none:=by
  cases sp with
  |none=>rfl
  |some s=>exfalso;simp[Addr.add,World.cell?] at a0;split at a0 <;> simp at a0
 subst a2;refine⟨b,o,rfl,fun i u hi=>?_⟩;have h1:=h i u hi;have e1:(⟨b,o,none⟩:Addr).add i= ⟨b,o+i,none⟩:=by unfold Addr.add;split <;> simp_all
 rwa[e1] at h1
theorem xd {d:DataW H×List MemPlace}(hf:DataW.trod enc Tryz.prog W 0 (fun _=>true) true fuel 22 [x]=some d):∃xs,Bs W x xs:=by
 rcases open_ints Tryz.underlying22 Tryz.underlying5 Ej hf with ⟨a3,hx⟩|⟨a,len',cap',zs,a3,_,hl,hm,hz,hx,a0,a5⟩
 ·obtain rfl:=List.cons.inj a3 |>.1;exact⟨[],⟨by simp,none,0,rfl,Za _,fun h=>by simp at h⟩⟩
 ·obtain rfl:=List.cons.inj a3 |>.1;simp only[if_true] at hz;have a1:((zs.take len').map fun z=>UInt8.ofNat z.toNat).length=len':=by simp;omega
  have a2:∀i,i<zs.length->W.cell? (a.add i)=some (.int .u8 (zs.getD i 0)):=a0;refine⟨(zs.take len').map fun z=>UInt8.ofNat z.toNat,⟨by rw[a1];unfold maxLen at hm;omega,some a,cap',by rw[a1],by rw[a1];exact hl,fun h0=>?_⟩⟩;rw[a1] at h0;have a4:=a0 0 (by omega);obtain⟨b,o,sp⟩:=a;have a6:sp=none:=by
   cases sp with
   |none=>rfl
   |some s=>exfalso;simp[Addr.add,World.cell?] at a4;split at a4 <;> simp at a4
  subst a6;refine⟨b,o,rfl,fun i hi=>?_⟩;rw[a1] at hi;have h1:=a0 i (by omega);have e1:(⟨b,o,none⟩:Addr).add i= ⟨b,o+i,none⟩:=by unfold Addr.add;split <;> simp_all
  rw[e1] at h1;rw[h1];have a7:0<=zs.getD i 0/\zs.getD i 0<=255:=bounds_u8 (a5 (zs.getD i 0) (by rw[List.getD_eq_getElem?_getD,Zc (show i<zs.length by omega)];exact List.getElem_mem _));have e2:(((ap ((zs.take len').map fun z=>UInt8.ofNat z.toNat) i:Nat)):Int)=zs.getD i 0:=by
   unfold ap;have:((zs.take len').map fun z=>UInt8.ofNat z.toNat).getD i 0=UInt8.ofNat (zs.getD i 0).toNat:=by
    simp[List.getElem?_take,hi,Zc (show i<zs.length by omega)]
   rw[this];exact aI _ (by omega)
  rw[e2]
theorem lj {d:DataW H×List MemPlace}(hf:DataW.trod enc Tryz.prog W 0 (fun _=>true) true fuel 23 [x]=some d):∃zs:List Int,Sl W x (zs.map iV)/\∀z∈zs,-9223372036854775808<=z/\z<=9223372036854775807:=by
 rcases open_ints Tryz.underlying23 Tryz.underlying3 CL hf with ⟨a2,hx⟩|⟨a,len',cap',zs,a2,_,hl,hm,hz,hx,a1,a4⟩
 ·obtain rfl:=List.cons.inj a2 |>.1;exact⟨[],⟨Zj _,none,0,rfl,Za _,fun h=>by simp at h⟩,fun z hz=>by cases hz⟩
 ·obtain rfl:=List.cons.inj a2 |>.1;simp only[if_true] at hz;have a3:(zs.take len').length=len':=by simp;omega
  have a0:∀i,i<zs.length->W.cell? (a.add i)=some (.int .i64 (zs.getD i 0)):=a1;refine⟨zs.take len',uy (n:=len') (by rw[List.length_map];exact a3) hl (by unfold maxLen at hm;omega) (fun i u hi=>?_) (Za _),fun z hz=>bounds_i64 (a4 z (List.mem_of_mem_take hz))⟩;have hlt:=(List.getElem?_eq_some_iff.1 hi).1;rw[List.length_map,a3] at hlt;rw[a0 i (by omega)];rw[List.getElem?_map,List.getElem?_take,if_pos hlt,Zc (by omega)] at hi;rw[List.getD_eq_getElem?_getD,Zc (by omega)];simpa [iV] using hi
structure BS (W:World) (v:Value) (xs:List UInt8) (hs bs:List Int):Prop where
 ex:∃ta th tb,v =.agg #[ta,th,tb]/\Bs W ta xs/\Sl W th (hs.map iV)/\Sl W tb (bs.map iV)
 hb:∀z∈hs,-9223372036854775808<=z/\z<=9223372036854775807
 bb:∀z∈bs,-9223372036854775808<=z/\z<=9223372036854775807
theorem l9 {d:DataW H}{ps:List MemPlace}(hv:Value.okWide Tryz.prog W .any base 25 v)(hj:DataW.Trod enc Tryz.prog W 0 (fun _=>true) true 25 v d ps):∃xs hs bs,BS W v xs hs bs:=by
 obtain⟨cs,rfl,hsz⟩:=okWide_struct Tryz.underlying25 hv;obtain⟨fuel,hf⟩:=hj;obtain⟨y0,y1,y2,n,hy,hl,h0,h1,h2⟩:=Deep.trod_struct3 Tryz.underlying25 hf;obtain⟨l⟩:=cs;rw[show Tryz.prog.cellsOf 25=3 by kernel_rfl] at hsz
 match l,hsz with
 | [a,b,c],_=>
  obtain⟨xs,hx⟩:=xd (x:=a) h0;obtain⟨hs,hh,a0⟩:=lj (x:=b) h1;obtain⟨bs,hb,a1⟩:=lj (x:=c) h2;exact⟨xs,hs,bs,⟨a,b,c,rfl,hx,hh,hb⟩,a0,a1⟩
theorem IK {t:TypeId}(hr:Tryz.prog.readableRec t=true)(a1:t<Tryz.prog.types.size){d:DataW H}{ps before:List MemPlace}
  (h:DataW.Trod enc Tryz.prog W 0 (fun _=>true) true t v d ps) (hb:Below W.heap.size W W') (hlt:∀x∈ps,x.block<W.heap.size) (sp:Nat->Bool) (a0:∀x∈ps,x∈before) (a2:∀p∈before,sp p.block=true) :
  DataW.Trod enc Tryz.prog W' 0 sp true t v d ps:=
 Trod_stays Tryz.laidOut hr a1 h (fun x hx=>hb.same (hlt x hx)) (fun x hx=>a2 x (a0 x hx))
end
section
variable {H:Type}{enc:TypeId×Value->H}{P:Program}
theorem pC {f:Func}{s:ChangeSpec}{apart fresh a0 again:Bool}{ds gs:List (DataW H)}{before pa pv:List MemPlace}
  (hW:DataW.Whole enc P f.params.toList s.vars apart W args.toList ds gs before)
  (a3:∀ (b:Nat) (sp:Nat->Bool) (hd:Bool),DataW.TrodAll enc P W' b sp hd f.resultTypes.toList (v.resultList f.resultTypes.size) (s.fn H (ds++gs)).results [])
  (a1:∀sp:Nat->Bool,(∀p∈before,sp p.block=true)->DataW.TrodAll enc P W' 0 sp true f.params.toList args.toList (s.fn H (ds++gs)).args pa)
  (a2:∀sp:Nat->Bool,(∀p∈before,sp p.block=true)->DataW.TrodVars enc P W' sp s.vars (s.fn H (ds++gs)).vars pv)
  (a5:before=pa++pv) (hb:Below W.heap.size W W')
  (a6:∀ (j:Nat) (t:TypeId) (r:Value),f.resultTypes[j]?=some t->(v.resultList f.resultTypes.size)[j]?=some r->Value.okWide P W' .any 0 t r) :
  s.post enc P f apart fresh a0 again W args v W':=by
 have hlt:∀p∈before,p.block<W.heap.size:=fun p hp=>hW.lt p hp
 have a4:∀p∈before,(fun b=>decide (b<W.heap.size)) p.block=true:=fun p hp=>by simpa using hlt p hp
 refine⟨ds,gs,before, [],pa,pv,hW,a3 _ _ _,a1 _ a4,a2 _ a4,World.keptBut_mono (fun p hp=>⟨hp,?_⟩) (hb.frame (· ∈before)),fun _=>?_⟩
 ·rw[a5,List.mem_append] at hp;exact Or.inr hp
 ·obtain⟨_,_,_,_,_,hz,hn⟩:=hW;refine⟨a6,_,_,([]++pa)++pv,⟨[]++pa,pv,trodAll_append (a1 _ (fun _ _=>rfl)) (a3 ..),a2 _ (fun _ _=>rfl),rfl,?_,?_⟩,?_⟩
  ·intro b off hp;have hin:MemPlace.cell b off∈before:=by rw[a5];simpa using hp
   rw[hb.frozen (hlt _ hin)];exact hz b off hin
  ·intro ha;have:=hn ha;rw[a5] at this;simpa using this
  ·intro p hp _;rw[a5];simpa using hp
end
theorem B7 (os:Os)(args:Array Value):laidMetH Tryz.prog fU ((World.laidAll Tryz.prog os fU).forCall (fun _ _=>0) ⟨#[],args, []⟩).memory:=by
 rw[MakeChecks.laidMetH_plain _ _ _ (by kernel_rfl)];exact laidMet_laidAll _ (by kernel_rfl) (by kernel_rfl)
theorem tK (hL:yj W){bs bs':List Int}(h1:BS W v xs hs bs)(h2:BS W u ys hs' bs'):Calls Tryz.prog 3 #[v,u] W (JE W):=by
 obtain⟨ta,th,tb,rfl,x1,x2,x3⟩:=h1.ex;obtain⟨ua,uh,ub,rfl,y1,y2,y3⟩:=h2.ex;exact ld hL x1 x2 x3 h1.hb h1.bb y1 y2 y3 h2.hb h2.bb
theorem vb:(Rows.canonComparesRow.wf (OpenSpec.ofChange Rows.canonComparesSpec))=true:=by kernel_rfl
theorem tj:(Tryz.f3.params.all (Tryz.prog.readableRec ·))=true:=by kernel_rfl
theorem uX:(namedTie Tryz.prog Rows.canonComparesRow.named Rows.canonComparesSpec.vars)=true:=by kernel_rfl
theorem vX:((Rows.canonComparesRow.stops == []))=true:=by kernel_rfl
theorem wu:((Tryz.prog.stops == []))=true:=by kernel_rfl
theorem vW:((Rows.canonComparesRow.knobs == []))=true:=by kernel_rfl
theorem uD:((Tryz.prog.stopKnobs == []))=true:=by kernel_rfl
theorem vB:((Rows.canonComparesRow.inPlace==Tryz.prog.inPlace 3))=true:=by kernel_rfl
theorem sP:((Rows.canonComparesRow.unfollowed==Tryz.prog.unfollowed 3))=true:=by kernel_rfl
theorem sH:((Rows.canonComparesRow.recurses==Tryz.prog.recurses 3))=true:=by kernel_rfl
theorem rW:((Rows.canonComparesRow.named==Tryz.prog.varsNamed 3))=true:=by kernel_rfl
theorem sk:((Rows.canonComparesRow.maps== (Tryz.f3.params.toList++Rows.canonComparesSpec.plain.varTypes Tryz.prog).any (Tryz.prog.mapsRec ·)))=true:=by kernel_rfl
theorem rS:((Rows.canonComparesRow.ifaces== (Tryz.f3.params.toList++Rows.canonComparesSpec.plain.varTypes Tryz.prog).any (Tryz.prog.ifacesRec ·)))=true:=by kernel_rfl
theorem se:((Rows.canonComparesRow.mapsOut==Tryz.prog.mapsAmong Tryz.f3.resultTypes.toList))=true:=by kernel_rfl
theorem r8:((Rows.canonComparesRow.loops== (Tryz.f3.params.toList++Rows.canonComparesSpec.plain.varTypes Tryz.prog).any (Tryz.prog.loopsFrom ·)))=true:=by kernel_rfl
theorem sm:((Rows.canonComparesRow.wideKeys== (Tryz.f3.params.toList++Rows.canonComparesSpec.plain.varTypes Tryz.prog++Tryz.f3.resultTypes.toList).any (Tryz.prog.wideKeysFrom ·)))=true:=by kernel_rfl
theorem rz:(Rows.canonComparesSpec.vars.all (Tryz.prog.varReadable ·))=true:=by kernel_rfl
theorem rJ:(Tryz.f3.resultTypes.all (fun t=>Tryz.prog.readableRec t&&decide (t<Tryz.prog.types.size)))=true:=by kernel_rfl
theorem rl:((Rows.canonComparesRow.ifacesOut==Tryz.f3.resultTypes.toList.any (Tryz.prog.ifacesRec ·)))=true:=by kernel_rfl
theorem rq:((Rows.canonComparesRow.loopsOut==Tryz.f3.resultTypes.toList.any (Tryz.prog.loopsFrom ·)))=true:=by kernel_rfl
theorem ro:((Rows.canonComparesRow.plainKeys==Tryz.prog.plainKeys))=true:=by kernel_rfl
theorem qS:(Rows.canonComparesRow.shortTexts.isNone)=true:=by kernel_rfl
theorem sr:((Rows.canonComparesRow.lifted==Tryz.prog.liftsFinal))=true:=by kernel_rfl
theorem re:((Tryz.prog.make==some Rows.canonComparesRow.make))=true:=by kernel_rfl
theorem rV:((Rows.canonComparesRow.kinds== (if Rows.canonComparesRow.domain.isEmpty then [] else Tryz.f3.params.toList.map fun t=>match Tryz.prog.underlying t with|some (.int k)=>some k|_=>none)))=true:=by kernel_rfl
theorem sL:((Rows.canonComparesRow.pinned==Rows.canonComparesRow.pinnedBy))=true:=by kernel_rfl
theorem sW:((Rows.canonComparesRow.veiled== (Tryz.f3.params.toList++Rows.canonComparesSpec.plain.varTypes Tryz.prog++Tryz.f3.resultTypes.toList).any (Tryz.prog.veiledRec ·)))=true:=by kernel_rfl
theorem ri:(Rows.canonComparesRow.veiledFits Tryz.prog Tryz.f3.params.toList (Tryz.f3.params.toList++Rows.canonComparesSpec.plain.varTypes Tryz.prog++Tryz.f3.resultTypes.toList))=true:=by kernel_rfl
theorem pn:Tryz.prog.funcNamed Rows.canonComparesRow.func=some 3:=by kernel_rfl
theorem mO:joinedFacts Tryz.prog 3 Tryz.f3 Rows.canonComparesSpec Rows.canonComparesRow=true:=dY (dY (dY (dY (dY (dY (dY (dY (dY (dY (dY (dY (dY (dY (dY (dY (dY (dY (dY (dY (dY (dY (dY (dY (dY (dY (dY (dY (dY (dY (dY vb Tryz.laidOut) J4) tj) uX) vX) wu) vW) uD) vB) sP) sH) rW) sk) rS) se) r8) sm) rz) rJ) rl) rq) ro) qS) Jz) Ji) sr) re) rV) sL) sW) ri
theorem mK (os:Os)(started:os.Started)(H:Type)(enc:TypeId×Value->H) :
  ReturnsInHanded {} Tryz.checked os 3 .any (fun w args=>(Rows.canonComparesSpec.pre enc Tryz.prog Tryz.f3 [] false w args/\laidMetH Tryz.prog fU w)/\sizedMet enc Tryz.prog Tryz.f3 (OpenSpec.ofChange Rows.canonComparesSpec) false w args)
   (Rows.canonComparesSpec.post enc Tryz.prog Tryz.f3 false true false false):=by
 refine returnsInHanded_of_change_and (C:=Tryz.checked) (X:=fun w _=>laidMetH Tryz.prog fU w) (fun _ _ _ hh h=>h.of_heap hh) Tryz.own started (by kernel_rfl) Tryz.func3
  (ChangeSpec.witness_shaped (enc:=enc) (C:=Tryz.checked) (os:=os) (X:=fun w _=>laidMetH Tryz.prog fU w) false (World.laidAll Tryz.prog os fU) #[.agg #[.slice none 0 0,.slice none 0 0,.slice none 0 0],.agg #[.slice none 0 0,.slice none 0 0,.slice none 0 0]] 8 rfl (World.shaped_of_ZipB (by kernel_rfl) (by kernel_rfl)) (by kernel_rfl) (by kernel_rfl) (by kernel_rfl) (B7 os _)) ?_
 intro W base args ds gs before a0 hW _ _ hL _;have a1:∀ (j:Nat) t v,Tryz.f3.params[j]?=some t->args[j]?=some v->Value.okWide Tryz.prog W .any base t v:=a0;have a4:=hW;have hlt:∀p∈before,p.block<W.heap.size:=fun p hp=>hW.lt p hp
 obtain⟨p,q,a2,hV,rfl,a7,a5⟩:=hW;have hA:DataW.TrodAll enc Tryz.prog W 0 (fun _=>true) true Tryz.f3.params.toList args.toList ds p:=a2;rw[Tryz.params3] at hA a1;obtain⟨v0,v1,d0,d1,p0,p1,rfl,rfl,rfl,h0,h1⟩:=trodAll_two hA;obtain⟨rfl,rfl⟩:=trodVars_none hV;obtain⟨xs0,a6,bs0,s0⟩:=l9 (a1 0 25 v0 rfl rfl) h0;obtain⟨xs1,a9,bs1,s1⟩:=l9 (a1 1 25 v1 rfl rfl) h1;clear a2 a0;simp only[List.append_nil,List.nil_append] at a4 hlt;refine(tK (GQ hL) s0 s1).mono fun e W' ⟨he,hb⟩=>?_
 subst he;exact⟨_,rfl,pC (pa:=p0++p1) (pv:= []) a4 (fun _ _ _=>trodAll_mk1 (shut_bool Tryz.underlying4 true))
  (fun sp a3=>by
   have:=trodAll_mk2 (IK (by kernel_rfl) (of_decide_eq_true (by kernel_rfl)) h0 hb (fun x hx=>hlt x (by simp[hx])) sp (fun x hx=>by simp[hx]) a3) (IK (by kernel_rfl) (of_decide_eq_true (by kernel_rfl)) h1 hb (fun x hx=>hlt x (by simp[hx])) sp (fun x hx=>by simp[hx]) a3)
   try simp only[List.append_nil,List.nil_append] at this
   exact this)
   (fun _ _=>rfl) (by simp) hb (ok_one (by kernel_rfl) rfl (okWide_bool_mk Tryz.underlying4 true))⟩
theorem sO:Rows.CanonComparesSaid:=
 OpenClaim.holds_of_wide 3 Tryz.f3 rfl rfl rfl rfl rfl rfl rfl ⟨rfl,rfl,rfl,rfl,rfl⟩ rfl rfl rfl rfl rfl pn Tryz.func3 mO
  (of_decide_eq_true (by kernel_rfl)) (by unfold Func.isWrapper;rw[if_neg (of_decide_eq_false (by kernel_rfl))];exact⟨rfl,rfl⟩)
  (fun os started H enc _=>mK os started H enc)
open Go
theorem nx (f:FuncId)(fn:Func)(hf:Tryz.pinned.checked.prog.funcNamed "wicket/wicketlaw8.CanonCompares" = some f)(a1:Tryz.pinned.checked.prog.funcs[f]?=some fn) :
  true=Tryz.pinned.checked.prog.looks []/\∀ (j:Nat) t,fn.params[j]?=some t->Tryz.pinned.checked.prog.wantsStandIn t=false:=by
 obtain rfl:f=3:=Zh ((show Tryz.prog.funcNamed "wicket/wicketlaw8.CanonCompares" = some 3 by kernel_rfl).symm.trans hf) |>.symm;obtain rfl:fn=Tryz.f3:=(Zh (Tryz.func3.symm.trans a1)).symm;refine⟨by kernel_rfl,fun j t ht=>?_⟩;rw[Tryz.params3] at ht;have hm:t∈ [25,25]:=by simpa using Array.mem_of_getElem? ht
 have a0:([25,25].all fun u=> !Tryz.prog.wantsStandIn u)=true:=by kernel_rfl
 exact(show Tryz.prog.wantsStandIn t=false by simpa using List.all_eq_true.1 a0 t hm)
theorem compares_card:Rows.CanonComparesCardSaid:=
 Claim7.holds_tied_plain_at .later [] _ _ _ _ sO (fun _ h=>by cases h) (by kernel_rfl) (fun _ h=>by cases h) canonCompares_row_tie rfl ⟨rfl,rfl⟩ (by kernel_rfl) rfl nx (by kernel_rfl)
#print axioms compares_card
