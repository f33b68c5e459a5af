import Derived.Test.YtgkkffeagolnpaaGreatDoorGZ16bl
import Derived.LaidMore
import Derived.LaidOnce
import Derived.LaidSub
import Derived.Lib.LaidU8
import Derived.Stop.LaidErr
set_option linter.unusedVariables false
set_option linter.unusedSimpArgs false
set_option maxHeartbeats 64000000
set_option maxRecDepth 100000
namespace Go.Proofs.YtgkkffeagolnpaaGreatDoor
open Go.ChangeShapes Go.WideShapes Go.ChangeAt Go.WideMaps Go.WideElems Go.RowKit Go.Shelf Go.Lib
variable {j:JV}{ns:List ByteArray}{ks:List JV}{us:List Value}{base c fuel g i n p q:Nat}{P:Nat->Prop}{A:Option Addr}{e:TypeId}{v x:Value}{w w' w1:World}
abbrev dP:List (String×DataW Unit):=Rows.reportBackRow.laid
theorem kc:Tryz.prog.cellsOf 410=1:=by kernel_rfl
theorem jG:Tryz.prog.cellsOf 9=1:=by kernel_rfl
theorem vK:∀u,Tryz.prog.typeName? 3 u=some "*errors.errorString" ->u=408:=typeName_ptr_named (nm:= "errors.errorString") (by kernel_rfl) (by kernel_rfl) (by decide)
theorem sY {H:Type}{enc:TypeId×Value->H}{P:Program}{sp:Nat->Bool}{held:Bool}{t:TypeId}{cs:List Value}{ds:List (DataW H)}{p:List MemPlace}
  (ht:P.underlying t=some (.array n e)) (a2:P.cellsOf e=c) (a3:P.cellsOf t=n*c) (h:DataW.trod enc P w base sp held (fuel+1) t cs=some (.agg ds,p)) :
  ds.length=n/\∀ (i:Nat) (d:DataW H),ds[i]?=some d->∃q,DataW.trod enc P w base sp held fuel e ((cs.drop (i*c)).take c)=some (d,q):=by
 simp only[DataW.trod,ht,a2,a3] at h
 split at h
 ·obtain⟨xs,hm,hx⟩:=Option.map_eq_some_iff.1 h;have a0:xs.map (·.1)=ds:=by
   have:=congrArg Prod.fst hx;simpa using this
  have a1:xs.length=n:=by simpa using mapM_length hm
  refine⟨by rw[<-a0];simpa using a1,fun i d hd=>?_⟩;have hi:i<n:=by
   rw[<-a0] at hd;have:=(List.getElem?_eq_some_iff.1 hd).1;simpa [a1] using this
  obtain⟨b,hb,hf⟩:=mapM_at hm i i (by simp[hi]);rw[<-a0,List.getElem?_map,hb] at hd;obtain rfl:=Zi hd;exact⟨b.2,hf⟩
 ·cases h
section
variable {W:World}
theorem dA {n:String}{text:List UInt8}(h:laidMet Tryz.prog [(n,.iface "*errors.errorString" (.ptr (.agg [.lit (.string text)])))] W)(hg:Tryz.prog.globalNamed n=some g)(ht:(Tryz.prog.globals[g]?).map (·.type)=some 30):aO W g:=by
 obtain⟨a,s,hv,-⟩:=laid_sentinel h hg ht Tryz.underlying30 vK Tryz.underlying408 Tryz.underlying410 rfl rfl Tryz.underlying9 kc jG;exact⟨a,by simpa using World.var?_cell hg hv 0⟩
theorem cr {n:String}{d:DataW Unit}(h:laidMet Tryz.prog dP W)(hl:dP.filter (fun x=>x.1==n) = [(n,d)]):laidMet Tryz.prog [(n,d)] W:=by
 rw[<-hl];exact h.filter _
theorem BN {n:String}{d:DataW Unit}{t:TypeId}(h:laidMet Tryz.prog [(n,d)] W)(hg:Tryz.prog.globalNamed n=some g)(ht:(Tryz.prog.globals[g]?).map (·.type)=some t):∃ (cs:Array Value) (fuel:Nat) (p:List MemPlace),(∀i:Nat,W.cell? ⟨g,i,none⟩=cs[i]?)/\DataW.trod (fun _=>()) Tryz.prog W 0 (fun _=>true) false fuel t cs.toList=some (d,p):=by
 obtain⟨ps,⟨g',t',cs,fuel,p,q,a2,a1,a0,hd,_,_⟩,_⟩:=h;obtain rfl:=Zi (hg.symm.trans a2);obtain rfl:=Zi (ht.symm.trans a1);exact⟨cs,fuel,p,fun i=>World.var?_cell hg a0 i,hd⟩
theorem fH {n:String}{l:List (List UInt8)}{m:Nat}{t:TypeId}(h:laidMet Tryz.prog [(n,.agg (l.map fun s=>.lit (.string s)))] W)(hg:Tryz.prog.globalNamed n=some g)(ht:(Tryz.prog.globals[g]?).map (·.type)=some t)(hu:Tryz.prog.underlying t=some (.array m 9))(hc:Tryz.prog.cellsOf t=m*1) :
  ∀ (i:Nat) (s:List UInt8),l[i]?=some s->W.cell? ⟨g,i,none⟩=some (.string ⟨s.toArray⟩):=by
 obtain⟨cs,fuel,p,a0,hd⟩:=BN h hg ht;intro i s hs
 cases fuel with
 |zero=>simp[DataW.trod] at hd
 |succ fuel=>
  obtain⟨-,a1⟩:=sY hu jG hc hd;obtain⟨q,hq⟩:=a1 i (.lit (.string s)) (by rw[List.getElem?_map,hs];rfl);obtain⟨z,e1,e2,-⟩:=DataW.trod_string Tryz.underlying9 hq;have hz:s=z.data.toList:=by
   have:=congrArg Prod.fst e2;simpa using this
  rw[a0];have:=congrArg (·[0]?) e1;rw[hz];simpa [List.getElem?_take,List.getElem?_drop] using this
theorem EX (h:laidMet Tryz.prog dP W):ma W:=by
 obtain⟨cs,fuel,p,a0,hd⟩:=BN (g:=23) (t:=375) (cr h (n:= "wicket/dec.goes") (d:=Rows.laid_wicket_dec_goes) (by kernel_rfl)) (by kernel_rfl) (by kernel_rfl)
 cases fuel with
 |zero=>simp[DataW.trod] at hd
 |succ fuel=>
  rw[show(Rows.laid_wicket_dec_goes:DataW Unit) =.agg ((List.range 9).map fun i=>tabData .u8 ((List.range 6).map fun k=>((mA.getD (i*6+k) 9:Nat):Int))) by kernel_rfl] at hd;obtain⟨-,a1⟩:=sY (c:=6) Tryz.underlying375 (by kernel_rfl) (by kernel_rfl) hd;intro i hi;obtain⟨q,hq⟩:=a1 (i/6) (tabData .u8 ((List.range 6).map fun k=>((mA.getD (i/6*6+k) 9:Nat):Int))) (by rw[List.getElem?_map,List.getElem?_range (by omega)];rfl);have e:=cells_of_tab Tryz.underlying374 Tryz.underlying5 (by kernel_rfl) (by kernel_rfl) hq;have:=congrArg (·[i % 6]?) e;simp only[List.getElem?_take,List.getElem?_drop,List.getElem?_map,if_pos (show i % 6<6 by omega),List.getElem?_range (show i % 6<6 by omega),Option.map_some,show i/6*6+i % 6=i by omega] at this;rw[a0,<-Array.getElem?_toList];exact this
theorem zf (h:laidMet Tryz.prog dP W):km W:=by
 have hs:=fH (l:=nC) (g:=17) (t:=69) (m:=6) (n:= "wicket/lex.begins") (cr h (by kernel_rfl)) (by kernel_rfl) (by kernel_rfl) Tryz.underlying69 (by kernel_rfl);intro i hi;refine hs i (nC.getD i []) ?_;rw[List.getD_eq_getElem?_getD,Zd (by exact hi)];rfl
theorem Eu (h:laidMet Tryz.prog dP W):iE W:=by
 have hs:=fH (l:=(List.range 8).map rl) (g:=13) (t:=307) (m:=8) (n:= "wicket/parse.may") (cr h (by kernel_rfl)) (by kernel_rfl) (by kernel_rfl) Tryz.underlying307 (by kernel_rfl);intro i hi;exact hs i (rl i) (by rw[List.getElem?_map,List.getElem?_range hi];rfl)
theorem GI (h:laidMet Tryz.prog dP W):ek W:=by
 have h1:=cr h (n:= "internal/strconv.uint64pow10") (d:=tabData .u64 pow10Tab) (by kernel_rfl);exact tabIs_of_head (g:=21) (t:=365) (e:=197) (n:=20) (by kernel_rfl) (by kernel_rfl) Tryz.underlying365 Tryz.underlying197 (by kernel_rfl) (by kernel_rfl) h1
theorem E5 (h:laidMet Tryz.prog dP W):∃aU aE,cD W aU aE:=by
 have h:laidMet Tryz.prog [("wicket/api.ErrUTF",Rows.laid_wicket_api_ErrUTF),("wicket/api.ErrEnd",Rows.laid_wicket_api_ErrEnd),("wicket/utf.lengths",Rows.laid_wicket_utf_lengths)] W:=by
  have:=h.filter fun x=>x.1 == "wicket/api.ErrUTF" || (x.1 == "wicket/api.ErrEnd" || x.1 == "wicket/utf.lengths")
  rwa[show(dP.filter fun x=>x.1 == "wicket/api.ErrUTF" || (x.1 == "wicket/api.ErrEnd" || x.1 == "wicket/utf.lengths")) = [("wicket/api.ErrUTF",Rows.laid_wicket_api_ErrUTF),("wicket/api.ErrEnd",Rows.laid_wicket_api_ErrEnd),("wicket/utf.lengths",Rows.laid_wicket_utf_lengths)] by kernel_rfl] at this
 have gUTF:Tryz.prog.globalNamed "wicket/api.ErrUTF" = some 10:=by kernel_rfl
 have gEnd:Tryz.prog.globalNamed "wicket/api.ErrEnd" = some 9:=by kernel_rfl
 have gLen:Tryz.prog.globalNamed "wicket/utf.lengths" = some 11:=by kernel_rfl
 have tUTF:(Tryz.prog.globals[10]?).map (·.type)=some 30:=by kernel_rfl
 have tEnd:(Tryz.prog.globals[9]?).map (·.type)=some 30:=by kernel_rfl
 have tLen:(Tryz.prog.globals[11]?).map (·.type)=some 259:=by kernel_rfl
 obtain⟨ps,⟨g0,t0,cs0,f0,p0,q0,a9,b9,b2,b8,⟨g1,t1,cs1,f1,p1,q1,a3,c2,b1,c7,⟨g2,t2,cs2,f2,p2,q2,b0,c6,c3,b5,c5,e2⟩,e1⟩,e0⟩,b3,a2⟩:=h;obtain rfl:=Zi (gUTF.symm.trans a9);obtain rfl:=Zi (gEnd.symm.trans a3);obtain rfl:=Zi (gLen.symm.trans b0);obtain rfl:=Zi (tUTF.symm.trans b9);obtain rfl:=Zi (tEnd.symm.trans c2);obtain rfl:=Zi (tLen.symm.trans c6);have a4:q2 = []:=c5;subst a4 e2 e1 e0;obtain⟨l0⟩:=cs0;obtain⟨l1⟩:=cs1;obtain⟨l2⟩:=cs2;have ok0:∀u v,l0 = [.iface u v]->Value.okWide Tryz.prog W .any 0 u v:=fun u v e=>by
  subst e;exact(a2 10 0 (by simp[MemPlace.row])).2 u v (by simpa using World.var?_cell a9 b2 0)
 have ok1:∀u v,l1 = [.iface u v]->Value.okWide Tryz.prog W .any 0 u v:=fun u v e=>by
  subst e;exact(a2 9 0 (by simp[MemPlace.row])).2 u v (by simpa using World.var?_cell a3 b1 0)
 obtain⟨a0,s0,rfl,c9,d1,d0,rfl⟩:=errorString_of_trod Tryz.underlying30 vK Tryz.underlying408 Tryz.underlying410 rfl rfl Tryz.underlying9 kc jG b8 ok0;obtain⟨a1,s1,rfl,c8,d3,d2,rfl⟩:=errorString_of_trod Tryz.underlying30 vK Tryz.underlying408 Tryz.underlying410 rfl rfl Tryz.underlying9 kc jG c7 ok1;obtain⟨c0,t0,b4⟩:=(a2 a0.block a0.off (by simp[MemPlace.row])).1;obtain⟨c1,t1,c4⟩:=(a2 a1.block a1.off (by simp[MemPlace.row])).1;have a5:=cells_of_tab (zs:=dU) Tryz.underlying259 Tryz.underlying258 (by kernel_rfl) (by kernel_rfl) b5;subst a5;refine⟨a0,a1,by simpa using World.var?_cell a9 b2 0,by simpa using World.var?_cell a3 b1 0,fun i hi=>?_,⟨c0,t0,b4⟩,⟨c1,t1,c4⟩,?_⟩
 ·have:=World.var?_cell b0 c3 i;rw[this];have:i<dU.length:=hi;simp[Zd this]
 ·rintro rfl;simp[MemPlace.row] at b3
theorem zY (h:laidMet Tryz.prog dP W):∀ (i:Nat) p,bP[i]?=some p->W.cell? ⟨4,i,none⟩=some (.string p):=by
 have hs:=fH (l:=bP.map fun r=>r.data.toList) (g:=4) (t:=119) (m:=32) (n:= "wicket/words.rules") (cr h (by kernel_rfl)) (by kernel_rfl) (by kernel_rfl) Tryz.underlying119 (by kernel_rfl);intro i p hp;exact hs i p.data.toList (by rw[List.getElem?_map,hp];rfl)
theorem Dt (h:laidMet Tryz.prog dP W):∀ (i:Nat) p,cH[i]?=some p->W.cell? ⟨2,i,none⟩=some (.string p):=by
 have hs:=fH (l:=cH.map fun r=>r.data.toList) (g:=2) (t:=69) (m:=6) (n:= "wicket/report.outcomes") (cr h (by kernel_rfl)) (by kernel_rfl) (by kernel_rfl) Tryz.underlying69 (by kernel_rfl);intro i p hp;exact hs i p.data.toList (by rw[List.getElem?_map,hp];rfl)
theorem ES (h:laidMetH Tryz.prog dP W)(hm:j2 W):jt W:=by
 rw[MakeChecks.laidMetH_plain _ _ _ (by kernel_rfl)] at h;obtain⟨aU,aE,hg⟩:=E5 h;exact⟨⟨⟨⟨aU,aE,hg⟩,(dA (g:=7) (cr h (n:= "wicket/api.ErrPointer") (d:=Rows.laid_wicket_api_ErrPointer) (by kernel_rfl)) (by kernel_rfl) (by kernel_rfl)),hm⟩,zY h,Dt h,(dA (g:=0) (cr h (n:= "wicket/api.ErrReport") (d:=Rows.laid_wicket_api_ErrReport) (by kernel_rfl)) (by kernel_rfl) (by kernel_rfl))⟩,⟨⟨aU,aE,hg⟩,(dA (g:=6) (cr h (n:= "wicket/api.ErrTwice") (d:=Rows.laid_wicket_api_ErrTwice) (by kernel_rfl)) (by kernel_rfl) (by kernel_rfl)),GI h⟩,⟨aU,aE,⟨hg,EX h,zf h,dA (g:=19) (cr h (n:= "wicket/api.ErrNumber") (d:=Rows.laid_wicket_api_ErrNumber) (by kernel_rfl)) (by kernel_rfl) (by kernel_rfl),dA (g:=20) (cr h (n:= "wicket/api.ErrExponent") (d:=Rows.laid_wicket_api_ErrExponent) (by kernel_rfl)) (by kernel_rfl) (by kernel_rfl),dA (g:=22) (cr h (n:= "wicket/api.ErrQuote") (d:=Rows.laid_wicket_api_ErrQuote) (by kernel_rfl)) (by kernel_rfl) (by kernel_rfl),dA (g:=27) (cr h (n:= "wicket/api.ErrEscape") (d:=Rows.laid_wicket_api_ErrEscape) (by kernel_rfl)) (by kernel_rfl) (by kernel_rfl),dA (g:=28) (cr h (n:= "wicket/api.ErrSurrogate") (d:=Rows.laid_wicket_api_ErrSurrogate) (by kernel_rfl)) (by kernel_rfl) (by kernel_rfl),dA (g:=24) (cr h (n:= "wicket/api.ErrControl") (d:=Rows.laid_wicket_api_ErrControl) (by kernel_rfl)) (by kernel_rfl) (by kernel_rfl)⟩⟩,Eu h,(dA (g:=1) (cr h (n:= "wicket/api.ErrNil") (d:=Rows.laid_wicket_api_ErrNil) (by kernel_rfl)) (by kernel_rfl) (by kernel_rfl))⟩
end
structure Dl (ns:List ByteArray) (t:ByteArray) (i:Nat):Prop where
 le:i<=ns.length
 ok:∀n∈ns,dd n
 lt:∀h n,ns[h]?=some n->h<i->aJ (nm n) (nm t)<0
 ge:∀h n,ns[h]?=some n->i<=h->¬aJ (nm n) (nm t)<0
 ne:∀h n,ns[h]?=some n->i<h->n≠t
theorem yC (hr:ns.Pairwise iC)(hk:∀n∈ns,dd n)(t:ByteArray):∃i,Dl ns t i:=by
 induction ns with
 |nil=>exact⟨0,⟨Zb _,by simp,by simp,by simp,by simp⟩⟩
 |cons a ns ih=>
  rw[List.pairwise_cons] at hr
  by_cases ha:iC a t
  ·obtain⟨i,h⟩:=ih hr.2 fun n hn=>hk n (by simp[hn])
   refine⟨i+1,⟨by have:=h.le;simp;omega,hk,fun j n hj hlt=>?_,fun j n hj a0=>?_,fun j n hj a0=>?_⟩⟩
   ·cases j with
    |zero=>cases hj;exact ha
    |succ j=>exact h.lt j n hj (by omega)
   ·cases j with
    |zero=>omega
    |succ j=>exact h.ge j n hj (by omega)
   ·cases j with
    |zero=>omega
    |succ j=>exact h.ne j n hj (by omega)
  ·have a1:∀n∈ns,¬iC n t:=fun n hn h=>ha (fk (hr.1 n hn) h)
   refine⟨0,⟨Zj _,hk,fun j n hj hlt=>by omega,fun j n hj a0=>?_,fun j n hj a0=>?_⟩⟩
   ·cases j with
    |zero=>cases hj;exact ha
    |succ j=>exact a1 n (Zk hj)
   ·cases j with
    |zero=>omega
    |succ j=>
     rintro rfl;exact ha (hr.1 n (Zk hj))
def JO (ns:List ByteArray)(t:ByteArray)(i:Nat)(w:World)(e:Ending)(w':World):Prop:= ∃b:Bool,e =.returned (.tuple #[.int .i64 i,.bool b])/\(b=true↔ns[i]?=some t)/\Below w.heap.size w w'
def Jj (ns:List ByteArray)(us:List Value)(t:ByteArray)(w:World)(e:Ending)(w':World):Prop:=(∃ (i:Nat) (u:Value),ns[i]?=some t/\us[i]?=some u/\e =.returned (.tuple #[u,.bool true])/\Below w.heap.size w w')\/(e =.returned (.tuple #[.nilIface,.bool false])/\t∉ns/\Below w.heap.size w w')
theorem DT {t:ByteArray}(hr:bO P w 82 2 A us.length c (sU ns us))(hk:∀u∈us,∃T x,u =.iface T x)(hl:ns.length=us.length)(hs:Dl ns t i)(ht:dd t)(hm:us.length<=1000000) :
  Calls Tryz.prog 83 #[.slice A us.length c,.string t,.func (.func 84) #[] #[]] w (JO ns t i w):=by
 have a2:∀h,h<us.length->∃b n T x,A=some ⟨b,0,none⟩/\ns[h]?=some n/\dd n/\w.cell? ⟨b,h*2,none⟩=some (.string n)/\w.cell? ⟨b,h*2+1,none⟩=some (.iface T x):=by
  intro h hh;obtain⟨b,rfl,-⟩:=hr.ptr (by omega);have h1:ns[h]?=some ns[h]:=Zd (by omega);have h2:us[h]?=some us[h]:=Zd hh;obtain⟨T,x,e⟩:=hk us[h] (List.getElem_mem hh);have h3:=iz ns us h _ _ h1 h2;exact⟨b,ns[h],T,x,rfl,h1,hs.ok _ (List.getElem_mem _),(hr.cell _ (by omega)).trans h3.1,(hr.cell _ (by omega)).trans (by rw[h3.2,e])⟩
 have HC:=Qa a2;have HS:=Qa hs;have Ht:=Qa ht;have Hlu:=Qa (show i<=us.length by rw[<-hl];exact hs.le);have Hl:=Qa hl;clear a2 hs hr hk hl ht;go_enter Tryz.func83,Tryz.ntmps83;go_wp2
 go_loopg [9,10] us.length (fun kx s9 s10 wr=> ∃lo hi:Nat,s9 =.int .i64 lo/\s10 =.int .i64 hi/\lo<=i/\i<=hi/\hi<=us.length/\hi - lo<=kx/\Hid (Below w.heap.size w wr))
 case atStart=>exact⟨0,us.length,rfl,rfl,Zj _,Hlu.out,Zb _,by omega,Qa (Ze _ _)⟩
 case round=>
  obtain⟨lo,hi,rfl,rfl,a5,a4,hin,hg,Hb⟩:=hrel
  by_cases hlt:lo<hi
  ·obtain⟨b,n,T,x,rfl,hn,a0,d1,d2⟩:=HC.out ((lo+hi)/2) (by omega);have c1:=Zg Hb.out d1;have c2:=Zg Hb.out d2;have hc:=jJ (w:=wr) (T:=T) (x:=x) a0 Ht.out;have Hn:=Qa hn;clear d1 d2 a0 hn
   by_cases hyx:aJ (nm n) (nm t)<0
   ·have Hy:=Qa (show ¬i<=(lo+hi)/2 from fun h=>HS.out.ge _ _ Hn.out h hyx);generalize aJ (nm n) (nm t)=z at *;go_wp2_with fail;refine hc.mono ?_;rintro e w' ⟨rfl,a1⟩;have a3:=Qa (aj Hb.out a1);clear a1 c1 c2 hc;go_wp2_with fail;go_roundg (hi - ((lo+hi)/2+1))
    case measure=>omega
    case rel=>
     have:=Hy.out;exact⟨(lo+hi)/2+1,hi,by rw[show((lo:Int)+ (hi:Int))/2+1= (((lo+hi)/2+1:Nat):Int) by omega],rfl,by omega,a4,hin,Zb _,a3⟩
   ·have Hy:=Qa (show ¬ (lo+hi)/2<i from fun h=>hyx (HS.out.lt _ _ Hn.out h));generalize aJ (nm n) (nm t)=z at *;go_wp2_with fail;refine hc.mono ?_;rintro e w' ⟨rfl,a1⟩;have a3:=Qa (aj Hb.out a1);clear a1 c1 c2 hc;go_wp2_with fail;go_roundg ((lo+hi)/2 - lo)
    case measure=>omega
    case rel=>
     have:=Hy.out;exact⟨lo,(lo+hi)/2,rfl,by rw[show((lo:Int)+ (hi:Int))/2= (((lo+hi)/2:Nat):Int) by omega],a5,by omega,by omega,Zb _,a3⟩
  ·obtain rfl:lo=i:=by omega
   by_cases hlu:lo<us.length
   ·obtain⟨b,n,T,x,rfl,hn,a0,d1,d2⟩:=HC.out lo hlu;have c1:=Zg Hb.out d1;have c2:=Zg Hb.out d2;have hc:=jJ (w:=wr) (T:=T) (x:=x) a0 Ht.out;have Hn:=Qa (show(aJ (nm n) (nm t)==0)=true↔ns[lo]?=some t from by
     rw[hn,beq_iff_eq];exact⟨fun h=>by rw[qt (ik h)],fun h=>by rw[Zi h,ev]⟩)
    generalize aJ (nm n) (nm t)=z at *;clear d1 d2 a0 hn hg a4;go_wp2_with fail;refine hc.mono ?_;rintro e w' ⟨rfl,a1⟩;have a3:=Qa (aj Hb.out a1);clear a1 c1 c2 hc;go_wp2_with fail;go_ret2;exact⟨_,rfl,Hn.out,a3.out⟩
   ·have a9:¬ (lo:Int)<us.length:=by omega
    have Hn:=Qa (show ¬ns[lo]?=some t from fun h=>by have:=(List.getElem?_eq_some_iff.1 h).1;have:=Hl.out;omega);clear hg a4 a5 hin;go_wp2_with fail;go_ret2;exact⟨false,rfl,⟨fun h=>(by cases h),fun h=>absurd h Hn.out⟩,Hb.out⟩
theorem xa {t:ByteArray}(h:eJ P w A us ns ks)(hk:∀u∈us,∃T x,u =.iface T x)(a9:ns.Pairwise iC)(a4:∀n∈ns,dd n)(ht:dd t)(hm:us.length<=1000000) :
  Calls Tryz.prog 51 #[.pointer A,.string t] w (Jj ns us t w):=by
 obtain⟨i,hs⟩:=yC a9 a4 t;obtain⟨g,R,c,rfl,hg,hr,h1,h2⟩:=h;have H:=Qa (DT hr hk (by omega) hs ht hm);have c0:w.cell? ⟨g,0,none⟩=some (.slice R us.length c):=ac hg (j:=0) rfl;have C0:=Qa c0;have HS:=Qa hs;have a0:=Qa (fun (e:ns[i]?=some t)=>show ∃b u,R=some ⟨b,0,none⟩/\us[i]?=some u/\w.cell? ⟨b,i*2+1,none⟩=some u from by
  have hi:=(List.getElem?_eq_some_iff.1 e).1;have hu:us[i]?=some us[i]:=Zd (by omega);obtain⟨b,rfl,-⟩:=hr.ptr (by omega);exact⟨b,_,rfl,hu,(hr.cell (i*2+1) (by omega)).trans (iz ns us i _ _ e hu).2⟩)
 clear hg hr hs hm h1 h2 a9 a4 ht hk;go_enter Tryz.func51,Tryz.ntmps51;go_wp2_with fail;refine Za H ?_;rintro e w1 ⟨b,rfl,a5,a2⟩;have c2:=Zg a2 C0.out;have a3:=Qa a2;have b0:=Qa a5;clear a2 c0 a5
 cases b with
 |false=>
  go_wp2_with fail;go_ret2;refine .inr ⟨rfl,fun hm=>?_,a3.out⟩;obtain⟨h,hh⟩:=List.getElem?_of_mem hm;rcases Nat.lt_trichotomy h i with h1|rfl|h1
  ·have:=HS.out.lt h t hh h1;rw[ev] at this;omega
  ·exact absurd (b0.out.2 hh) (by simp)
  ·exact HS.out.ne h t hh h1 rfl
 |true=>
  have a1:=b0.out.1 (by trivial);obtain⟨b,u,rfl,hu,k1⟩:=a0.out a1;have b1:(0:Int)<=i/\(i:Int)<us.length:=by have:=(List.getElem?_eq_some_iff.1 hu).1;omega
  have c3:=Zg a3.out k1;have Hu:=Qa (And.intro a1 hu);clear k1 hu a1;go_wp2_with fail;go_ret2;exact .inl ⟨i,u,Hu.out.1,Hu.out.2,rfl,a3.out⟩
def lW (v:Value)(a:TypeId):Prop:= ∀w,∃cs,(Instr.typeAssert v 80 a false).run Tryz.prog w =.halt (.panic (.iface 15 (.pointer (some ⟨w.heap.size,0,none⟩)))) (w.alloc (.cells cs 412))
theorem xz (h:VW P w v j)(hk:j.kindOf≠6):lW v 95:=by
 cases h with
 |null=>exact fun w=>⟨#[typeHandle Tryz.prog 80,typeHandle Tryz.prog 343,typeHandle Tryz.prog 95,.string ⟨#[]⟩],by kernel_rfl⟩
 |bool b=>exact fun w=>⟨#[typeHandle Tryz.prog 80,typeHandle Tryz.prog 341,typeHandle Tryz.prog 95,.string ⟨#[]⟩],by kernel_rfl⟩
 |num d=>exact fun w=>⟨#[typeHandle Tryz.prog 80,typeHandle Tryz.prog 313,typeHandle Tryz.prog 95,.string ⟨#[]⟩],by kernel_rfl⟩
 |text s=>exact fun w=>⟨#[typeHandle Tryz.prog 80,typeHandle Tryz.prog 78,typeHandle Tryz.prog 95,.string ⟨#[]⟩],by kernel_rfl⟩
 |bare=>exact fun w=>⟨#[typeHandle Tryz.prog 80,typeHandle Tryz.prog 104,typeHandle Tryz.prog 95,.string ⟨#[]⟩],by kernel_rfl⟩
 |list g A c us ks hp hg hr hl hk2=>exact fun w=>⟨#[typeHandle Tryz.prog 80,typeHandle Tryz.prog 104,typeHandle Tryz.prog 95,.string ⟨#[]⟩],by kernel_rfl⟩
 |obj g A c us ns ks hp hg hr hl hn hk2=>exact absurd rfl hk
theorem wF (h:VW P w v j)(hk:j.kindOf≠4):lW v 78:=by
 cases h with
 |null=>exact fun w=>⟨#[typeHandle Tryz.prog 80,typeHandle Tryz.prog 343,typeHandle Tryz.prog 78,.string ⟨#[]⟩],by kernel_rfl⟩
 |bool b=>exact fun w=>⟨#[typeHandle Tryz.prog 80,typeHandle Tryz.prog 341,typeHandle Tryz.prog 78,.string ⟨#[]⟩],by kernel_rfl⟩
 |num d=>exact fun w=>⟨#[typeHandle Tryz.prog 80,typeHandle Tryz.prog 313,typeHandle Tryz.prog 78,.string ⟨#[]⟩],by kernel_rfl⟩
 |text s=>exact absurd rfl hk
 |bare=>exact fun w=>⟨#[typeHandle Tryz.prog 80,typeHandle Tryz.prog 104,typeHandle Tryz.prog 78,.string ⟨#[]⟩],by kernel_rfl⟩
 |list g A c us ks hp hg hr hl hk2=>exact fun w=>⟨#[typeHandle Tryz.prog 80,typeHandle Tryz.prog 104,typeHandle Tryz.prog 78,.string ⟨#[]⟩],by kernel_rfl⟩
 |obj g A c us ns ks hp hg hr hl hn hk2=>exact fun w=>⟨#[typeHandle Tryz.prog 80,typeHandle Tryz.prog 95,typeHandle Tryz.prog 78,.string ⟨#[]⟩],by kernel_rfl⟩
theorem Am:lW .nilIface 78:=fun w=>⟨#[typeHandle Tryz.prog 80,.pointer none,typeHandle Tryz.prog 78,.string ⟨#[]⟩],by kernel_rfl⟩
theorem Ek (h:VW P w v j)(hk:j.kindOf≠5):lW v 104:=by
 cases h with
 |null=>exact fun w=>⟨#[typeHandle Tryz.prog 80,typeHandle Tryz.prog 343,typeHandle Tryz.prog 104,.string ⟨#[]⟩],by kernel_rfl⟩
 |bool b=>exact fun w=>⟨#[typeHandle Tryz.prog 80,typeHandle Tryz.prog 341,typeHandle Tryz.prog 104,.string ⟨#[]⟩],by kernel_rfl⟩
 |num d=>exact fun w=>⟨#[typeHandle Tryz.prog 80,typeHandle Tryz.prog 313,typeHandle Tryz.prog 104,.string ⟨#[]⟩],by kernel_rfl⟩
 |text s=>exact fun w=>⟨#[typeHandle Tryz.prog 80,typeHandle Tryz.prog 78,typeHandle Tryz.prog 104,.string ⟨#[]⟩],by kernel_rfl⟩
 |bare=>exact absurd rfl hk
 |list g A c us ks hp hg hr hl hk2=>exact absurd rfl hk
 |obj g A c us ns ks hp hg hr hl hn hk2=>exact fun w=>⟨#[typeHandle Tryz.prog 80,typeHandle Tryz.prog 95,typeHandle Tryz.prog 104,.string ⟨#[]⟩],by kernel_rfl⟩
theorem Dh:lW .nilIface 104:=fun w=>⟨#[typeHandle Tryz.prog 80,.pointer none,typeHandle Tryz.prog 104,.string ⟨#[]⟩],by kernel_rfl⟩
def GW (w:World)(e:Ending)(w':World):Prop:= ∃x,e =.panicked [{v:=.iface 15 x,recovered:=false}]/\Below w.heap.size w w'
def VO (w:World)(v:Value):Prop:=v =.nilIface\/∃ (P:Nat->Prop) (j:JV),VW P w v j
def AI (q:Nat)(w w':World):Prop:= ∃t y,w'.heap[q]?=some (.cells #[.iface t y] 30 (0,0))/\aP (fun i=>i=q) w w'
theorem DJ (hb:Below w.heap.size w w1)(h1:w1.heap[q]?=some (.cells #[.nilIface] 30 (0,0)))(t:TypeId)(y:Value):AI q w (w1.setCell ⟨q,0,none⟩ (.iface t y)):=
 ⟨t,y,ar h1 0 _,(aP.of_below hb).trans (aP.set q 0 _) fun i e=>.inl e⟩
theorem gA {k:Int}(hv:VO w v)(hq:w.heap[q]?=some (.cells #[.nilIface] 30 (0,0))):Calls Tryz.prog 81 #[v,.int .i64 k,.pointer (some ⟨q,0,none⟩),.iface 15 x] w fun e w'=>e =.returned (.tuple #[])/\AI q w w':=by
 have hne:∀W,(binOp .eql 20 (.iface 15 x) .nilIface).run Tryz.prog W =.ok (.bool false) W:=fun W=>by kernel_rfl
 rcases hv with rfl|⟨P,j,hv⟩
 ·have hb:=aa w (.cells #[.int .i64 k,.int .i64 0] 206);have h1:=ah hq hb;have c1:=ac h1 (j:=0) (u:=.nilIface) rfl;have f1:=al h1 0;have HF:=Qa (fun t y=>DJ hb h1 t y);clear hb h1 hq;go_enter Tryz.func81,Tryz.ntmps81;go_wp2_with fail;go_end0;exact⟨rfl,HF.out _ _⟩
 ·have Hv:=Qa hv;have Hq:=Qa hq;obtain⟨T,y,rfl⟩:=hv.iface;clear hv hq;go_enter Tryz.func81,Tryz.ntmps81;go_wp2_with fail;refine zD Hv.out rfl fun w1 a0=>?_
  have hb:=aa w1 (.cells #[.int .i64 k,.int .i64 j.kindOf] 206);have h1:=ah (ah Hq.out a0) hb;have c1:=ac h1 (j:=0) (u:=.nilIface) rfl;have f1:=al h1 0;have HF:=Qa (fun t y=>DJ (aj a0 hb) h1 t y);clear hb h1 a0;go_wp2_with fail;go_end0;exact⟨rfl,HF.out _ _⟩
theorem VO.below (h:VO w v)(hb:Below w.heap.size w w'):VO w' v:=by
 rcases h with h|⟨P,j,h⟩
 ·exact .inl h
 ·exact .inr ⟨_,j,h.later hb⟩
def mP (z:Value)(w:World)(e:Ending)(w':World):Prop:= ∃t y,e =.returned (.tuple #[z,.iface t y])/\Below w.heap.size w w'
theorem Ez (hv:VO w v)(hc:w.cell? ⟨p,0,none⟩=some v)(hq:w.heap[q]?=some (.cells #[.nilIface] 30 (0,0)))(older:List PanicEntry):CallsD Tryz.prog 80 #[.pointer (some ⟨p,0,none⟩),.pointer (some ⟨q,0,none⟩)] (.panicking ({v:=.iface 15 x,recovered:=false}::older)) w fun e u' w'=>
  e =.returned (.tuple #[])/\u' =.panicking ({v:=.iface 15 x,recovered:=true}::older)/\AI q w w':=by
 have Hf:=Qa (gA (w:=w.drew) (v:=v) (k:=6) (q:=q) (x:=x) (by
  rcases hv with h|⟨P,j,h⟩
  ·exact .inl h
  ·exact .inr ⟨_,j,h.later (Ze _ _).drew⟩) hq)
 refine callsD_of_wpS Tryz.func80 rfl fun c₀ cs hu=>?_
 refine eA (by kernel_rfl) (by kernel_rfl) (by kernel_rfl) (by kernel_rfl) (by kernel_rfl) (by kernel_rfl) fun l hl=>?_
 rcases hl with rfl|rfl
 all_goals
  simp[wpOpsS,go_sem,recoverD,hu,Tryz.ntmps80,Exit.thenS,hc];refine Za Hf ?_;rintro e w' ⟨rfl,t,y,h1,h2⟩;refine⟨rfl,_,rfl,.tuple #[],?_,rfl,rfl,t,y,h1,⟨h2.os,h2.tape,h2.output,h2.size,h2.block⟩⟩;simp[results,Tryz.results80,go_sem]
theorem sC (h:lW v 95)(w:World):Calls Tryz.prog 82 #[v] w (GW w):=by
 obtain⟨cs,hr⟩:=h w;go_enter Tryz.func82,Tryz.ntmps82;go_wp2_with fail;exact⟨rfl,_,rfl,aa _ _⟩
theorem xd (hv:VO w v)(hn:lW v 95):Calls Tryz.prog 49 #[v] w (mP (.pointer none) w):=by
 have b1:∀ (fn:Fn) (first cap:Array Value) (w:World),(Instr.makeFunc fn first cap).run Tryz.prog w =.ok (.func fn first cap) w:=fun _ _ _ _=>rfl
 have a4:=aa w (.cells #[v] 80);have a2:=aj a4 (aa _ (.cells #[.nilIface] 30));have c0:((w.alloc (.cells #[v] 80)).alloc (.cells #[.nilIface] 30)).cell? ⟨w.heap.size,0,none⟩=some v:=ac ((Below.heap_alloc _ _ _ (by simp)).trans (Zf w _)) (j:=0) rfl;have h1:((w.alloc (.cells #[v] 80)).alloc (.cells #[.nilIface] 30)).heap[w.heap.size+1]?=some (.cells #[.nilIface] 30 (0,0)):=by
  have:=Zf (w.alloc (.cells #[v] 80)) (.cells #[.nilIface] 30)
  rwa[World.size_alloc] at this
 have a3:=Qa a2;have C0:=Qa c0;have H1:=Qa h1;have Hv:=Qa hv;have Hn:=Qa hn;have a9:v =.nilIface\/∃T y,v =.iface T y:=by
  rcases hv with h|⟨P,j,h⟩
  ·exact .inl h
  ·exact .inr h.iface
 clear a4 a2 h1 hv hn c0;rcases a9 with rfl|⟨T,y,rfl⟩
 all_goals
  have c0:=C0.out;go_enter_defers Tryz.func49,Tryz.ntmps49;go_wp2_with fail;clear c0;refine(sC Hn.out _).mono ?_;rintro e w2 ⟨x,rfl,a0⟩;have C2:=Qa (Zg a0 C0.out);have H2:=Qa (ah H1.out a0);have a5:=Qa (aj a3.out a0);have HV:=Qa (Hv.out.below (aj a3.out a0));clear a0;go_wp2_with fail;refine leaves_cons (f:=80) (args:= #[.pointer (some ⟨w.heap.size,0,none⟩),.pointer (some ⟨w.heap.size+1,0,none⟩)]) (by simp) (by simp[go_sem]) ?_;refine(Ez HV.out C2.out H2.out []).mono ?_;rintro e u' w'' ⟨rfl,rfl,t,z,g1,b0⟩;have d1:=ac g1 (j:=0) (u:=.iface t z) rfl;have a1:mP (.pointer none) w (.returned (.tuple #[.pointer none,.iface t z])) w'':=⟨t,z,rfl,a5.out.trans (b0.below a5.out.size fun i hi=>by rw[hi];omega)⟩;simp[Leaves,settle,results,Tryz.results49,go_sem,d1];exact a1
theorem Ed (hv:VO w v)(hc:w.cell? ⟨p,0,none⟩=some v)(hq:w.heap[q]?=some (.cells #[.nilIface] 30 (0,0)))(older:List PanicEntry):CallsD Tryz.prog 86 #[.pointer (some ⟨p,0,none⟩),.pointer (some ⟨q,0,none⟩)] (.panicking ({v:=.iface 15 x,recovered:=false}::older)) w fun e u' w'=>
  e =.returned (.tuple #[])/\u' =.panicking ({v:=.iface 15 x,recovered:=true}::older)/\AI q w w':=by
 have Hf:=Qa (gA (w:=w.drew) (v:=v) (k:=4) (q:=q) (x:=x) (by
  rcases hv with h|⟨P,j,h⟩
  ·exact .inl h
  ·exact .inr ⟨_,j,h.later (Ze _ _).drew⟩) hq)
 refine callsD_of_wpS Tryz.func86 rfl fun c₀ cs hu=>?_
 refine eA (by kernel_rfl) (by kernel_rfl) (by kernel_rfl) (by kernel_rfl) (by kernel_rfl) (by kernel_rfl) fun l hl=>?_
 rcases hl with rfl|rfl
 all_goals
  simp[wpOpsS,go_sem,recoverD,hu,Tryz.ntmps86,Exit.thenS,hc];refine Za Hf ?_;rintro e w' ⟨rfl,t,y,h1,h2⟩;refine⟨rfl,_,rfl,.tuple #[],?_,rfl,rfl,t,y,h1,⟨h2.os,h2.tape,h2.output,h2.size,h2.block⟩⟩;simp[results,Tryz.results86,go_sem]
theorem tk (h:lW v 78)(w:World):Calls Tryz.prog 87 #[v] w (GW w):=by
 obtain⟨cs,hr⟩:=h w;go_enter Tryz.func87,Tryz.ntmps87;go_wp2_with fail;exact⟨rfl,_,rfl,aa _ _⟩
theorem pm (hv:VO w v)(hn:lW v 78):Calls Tryz.prog 52 #[v] w (mP (.string ⟨#[]⟩) w):=by
 have b1:∀ (fn:Fn) (first cap:Array Value) (w:World),(Instr.makeFunc fn first cap).run Tryz.prog w =.ok (.func fn first cap) w:=fun _ _ _ _=>rfl
 have a4:=aa w (.cells #[v] 80);have a2:=aj a4 (aa _ (.cells #[.nilIface] 30));have c0:((w.alloc (.cells #[v] 80)).alloc (.cells #[.nilIface] 30)).cell? ⟨w.heap.size,0,none⟩=some v:=ac ((Below.heap_alloc _ _ _ (by simp)).trans (Zf w _)) (j:=0) rfl;have h1:((w.alloc (.cells #[v] 80)).alloc (.cells #[.nilIface] 30)).heap[w.heap.size+1]?=some (.cells #[.nilIface] 30 (0,0)):=by
  have:=Zf (w.alloc (.cells #[v] 80)) (.cells #[.nilIface] 30)
  rwa[World.size_alloc] at this
 have a3:=Qa a2;have C0:=Qa c0;have H1:=Qa h1;have Hv:=Qa hv;have Hn:=Qa hn;have a9:v =.nilIface\/∃T y,v =.iface T y:=by
  rcases hv with h|⟨P,j,h⟩
  ·exact .inl h
  ·exact .inr h.iface
 clear a4 a2 h1 hv hn c0;rcases a9 with rfl|⟨T,y,rfl⟩
 all_goals
  have c0:=C0.out;go_enter_defers Tryz.func52,Tryz.ntmps52;go_wp2_with fail;clear c0;refine(tk Hn.out _).mono ?_;rintro e w2 ⟨x,rfl,a0⟩;have C2:=Qa (Zg a0 C0.out);have H2:=Qa (ah H1.out a0);have a5:=Qa (aj a3.out a0);have HV:=Qa (Hv.out.below (aj a3.out a0));clear a0;go_wp2_with fail;refine leaves_cons (f:=86) (args:= #[.pointer (some ⟨w.heap.size,0,none⟩),.pointer (some ⟨w.heap.size+1,0,none⟩)]) (by simp) (by simp[go_sem]) ?_;refine(Ed HV.out C2.out H2.out []).mono ?_;rintro e u' w'' ⟨rfl,rfl,t,z,g1,b0⟩;have d1:=ac g1 (j:=0) (u:=.iface t z) rfl;have a1:mP (.string ⟨#[]⟩) w (.returned (.tuple #[.string ⟨#[]⟩,.iface t z])) w'':=⟨t,z,rfl,a5.out.trans (b0.below a5.out.size fun i hi=>by rw[hi];omega)⟩;simp[Leaves,settle,results,Tryz.results52,go_sem,d1];exact a1
theorem FH (hv:VO w v)(hc:w.cell? ⟨p,0,none⟩=some v)(hq:w.heap[q]?=some (.cells #[.nilIface] 30 (0,0)))(older:List PanicEntry):CallsD Tryz.prog 88 #[.pointer (some ⟨p,0,none⟩),.pointer (some ⟨q,0,none⟩)] (.panicking ({v:=.iface 15 x,recovered:=false}::older)) w fun e u' w'=>
  e =.returned (.tuple #[])/\u' =.panicking ({v:=.iface 15 x,recovered:=true}::older)/\AI q w w':=by
 have Hf:=Qa (gA (w:=w.drew) (v:=v) (k:=5) (q:=q) (x:=x) (by
  rcases hv with h|⟨P,j,h⟩
  ·exact .inl h
  ·exact .inr ⟨_,j,h.later (Ze _ _).drew⟩) hq)
 refine callsD_of_wpS Tryz.func88 rfl fun c₀ cs hu=>?_
 refine eA (by kernel_rfl) (by kernel_rfl) (by kernel_rfl) (by kernel_rfl) (by kernel_rfl) (by kernel_rfl) fun l hl=>?_
 rcases hl with rfl|rfl
 all_goals
  simp[wpOpsS,go_sem,recoverD,hu,Tryz.ntmps88,Exit.thenS,hc];refine Za Hf ?_;rintro e w' ⟨rfl,t,y,h1,h2⟩;refine⟨rfl,_,rfl,.tuple #[],?_,rfl,rfl,t,y,h1,⟨h2.os,h2.tape,h2.output,h2.size,h2.block⟩⟩;simp[results,Tryz.results88,go_sem]
theorem qP (h:lW v 104)(w:World):Calls Tryz.prog 89 #[v] w (GW w):=by
 obtain⟨cs,hr⟩:=h w;go_enter Tryz.func89,Tryz.ntmps89;go_wp2_with fail;exact⟨rfl,_,rfl,aa _ _⟩
theorem Ew (hv:VO w v)(hn:lW v 104):Calls Tryz.prog 54 #[v] w (mP (.pointer none) w):=by
 have b1:∀ (fn:Fn) (first cap:Array Value) (w:World),(Instr.makeFunc fn first cap).run Tryz.prog w =.ok (.func fn first cap) w:=fun _ _ _ _=>rfl
 have a4:=aa w (.cells #[v] 80);have a2:=aj a4 (aa _ (.cells #[.nilIface] 30));have c0:((w.alloc (.cells #[v] 80)).alloc (.cells #[.nilIface] 30)).cell? ⟨w.heap.size,0,none⟩=some v:=ac ((Below.heap_alloc _ _ _ (by simp)).trans (Zf w _)) (j:=0) rfl;have h1:((w.alloc (.cells #[v] 80)).alloc (.cells #[.nilIface] 30)).heap[w.heap.size+1]?=some (.cells #[.nilIface] 30 (0,0)):=by
  have:=Zf (w.alloc (.cells #[v] 80)) (.cells #[.nilIface] 30)
  rwa[World.size_alloc] at this
 have a3:=Qa a2;have C0:=Qa c0;have H1:=Qa h1;have Hv:=Qa hv;have Hn:=Qa hn;have a9:v =.nilIface\/∃T y,v =.iface T y:=by
  rcases hv with h|⟨P,j,h⟩
  ·exact .inl h
  ·exact .inr h.iface
 clear a4 a2 h1 hv hn c0;rcases a9 with rfl|⟨T,y,rfl⟩
 all_goals
  have c0:=C0.out;go_enter_defers Tryz.func54,Tryz.ntmps54;go_wp2_with fail;clear c0;refine(qP Hn.out _).mono ?_;rintro e w2 ⟨x,rfl,a0⟩;have C2:=Qa (Zg a0 C0.out);have H2:=Qa (ah H1.out a0);have a5:=Qa (aj a3.out a0);have HV:=Qa (Hv.out.below (aj a3.out a0));clear a0;go_wp2_with fail;refine leaves_cons (f:=88) (args:= #[.pointer (some ⟨w.heap.size,0,none⟩),.pointer (some ⟨w.heap.size+1,0,none⟩)]) (by simp) (by simp[go_sem]) ?_;refine(FH HV.out C2.out H2.out []).mono ?_;rintro e u' w'' ⟨rfl,rfl,t,z,g1,b0⟩;have d1:=ac g1 (j:=0) (u:=.iface t z) rfl;have a1:mP (.pointer none) w (.returned (.tuple #[.pointer none,.iface t z])) w'':=⟨t,z,rfl,a5.out.trans (b0.below a5.out.size fun i hi=>by rw[hi];omega)⟩;simp[Leaves,settle,results,Tryz.results54,go_sem,d1];exact a1
