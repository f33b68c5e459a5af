import Derived.Test.YtgkkffeagolnpaaGreatDoorGZ16bg
set_option linter.unusedVariables false
set_option linter.unusedSimpArgs false
set_option maxHeartbeats 64000000
set_option maxRecDepth 100000
namespace Go.Proofs.YtgkkffeagolnpaaGreatDoor
open Go.RowKit Go.Shelf
variable {ms:List (ByteArray×JV)}{ns y:List ByteArray}{its ks:List JV}{us:List Value}{L c i id oc:Nat}{P:Nat->Prop}{A:Option Addr}{u v x xv yv:Value}{w w0:World}
theorem DH:¬TW 45:=by rintro(((h|h|h|h)|h|h)|h|h) <;> exact absurd h (by decide)
theorem fy {o:Bool}{nm:Option ByteArray}(h1:its.length<=1000000)(h2:ms.length<=1000000):EA ⟨o,its,ms,nm⟩:=⟨by show its.length<=_;omega,by show ms.length<=_;omega⟩
def Ip (e:En):Array Value:= #[.string ⟨#[97,116]⟩,.iface 78 (.string e.eAt),.string ⟨#[107,101,121,119,111,114,100]⟩,.iface 78 (.string e.eKw),.string ⟨#[115,99,104,101,109,97]⟩,.iface 78 (.string e.eSch)]
theorem GN {e:En}(hr:w.heap[L]?=some (.cells (Ip e) 82 (0,0))){p:ByteArray×ByteArray}(h:(e8 e)[i]?=some p):w.cell? ⟨L,i*2,none⟩=some (.string p.1)/\w.cell? ⟨L,i*2+1,none⟩=some (.iface 78 (.string p.2)):=by
 match i,h with
 |0,h=>cases h;exact⟨ac hr rfl,ac hr rfl⟩
 |1,h=>cases h;exact⟨ac hr rfl,ac hr rfl⟩
 |2,h=>cases h;exact⟨ac hr rfl,ac hr rfl⟩
 |(i+3),h=>simp[e8] at h
theorem wI {es:List En}(hR:kn w0)(hW:zG w0)(hv:qV w0 v es)(ho:1<=oc/\oc<6)(b5:∀e∈es,e9 e)(b9:∀e∈es,e.eAt.size<=1000000000/\e.eSch.size<=1000000000)(hlen:(bU oc es).txt.length<=140737488355328)(c7:Sz (bU oc es)) :
  Calls Tryz.prog 22 #[.int .i64 oc,v] w0 fun e w'=>Ea (bU oc es).txt w0 e w':=by
 obtain⟨tl,b1⟩:∃tl,(bU oc es).txt=tl:=⟨_,rfl⟩;rw[b1] at hlen ⊢;have c6:=Qa b1;clear b1;obtain⟨⟨aU,aE,hG⟩,hT,hP⟩:=hW;have HG:=Qa hG;have HT:=Qa hT;have HP:=Qa hP;have HR:=Qa hR;have HV:=Qa hv;have HE:=Qa b5;have HB:=Qa b9;have HN:=Qa hlen;have HZ:=Qa c7;have HO:=Qa ho;obtain⟨e6,A,c,rfl,-,d6⟩:=hv;have f0:=Qa d6;clear hG hT hP hR b5 b9 hlen c7 ho d6;have e0:bi ⟨#[111,117,116,99,111,109,101]⟩:=bk.2.2.2.2;have f1:bi ⟨#[101,110,116,114,105,101,115]⟩:=bk.2.2.2.1;have f4:∀ (fn:Fn) (first cap:Array Value) (w:World),(Instr.makeFunc fn first cap).run Tryz.prog w =.ok (.func fn first cap) w:=fun _ _ _ _=>rfl
 go_enter Tryz.func22,Tryz.ntmps22;go_wp2_with fail;refine nw.mono ?_;rintro e w1 ⟨rfl,c0,c9⟩;have S1:=Qa (e7.new c0 c9);clear c0 c9;go_wp2_with fail;generalize w1.alloc (.cells #[.nilIface] 30)=wa at *;generalize w1.heap.size=fb at *;refine(S1.out.open_table rfl (by decide)).mono ?_;rintro e w2 ⟨rfl,s2,k2⟩;have S2:=Qa s2;have Kp:=Qa k2;clear s2 k2;go_wp2_with fail;refine(S2.out.do).mono ?_;rintro e wd ⟨rfl,rfl⟩;go_wp2_with fail;refine(S2.out.name HG.out HT.out (s:=⟨#[111,117,116,99,111,109,101]⟩) e0 (by decide) (by simp) (by decide) (by decide)).mono ?_;rintro e w3 ⟨rfl,s3,k3⟩;have S3:=Qa s3;have Kp:=Qa k3;clear s3 k3;go_wp2_with fail;refine(S3.out.do).mono ?_;rintro e wd ⟨rfl,rfl⟩;go_wp2_with fail;refine(gT (HR.out.below S3.out.low) HO.out.2).mono ?_;rintro e ww ⟨rfl,m,rfl⟩;have Sw:=Qa (S3.out.below (ap (Ze _ _) m));go_wp2_with fail;refine(Sw.out.put rfl HP.out HG.out (dl oc).1 (by have:=(dl oc).2;omega) (by decide) (fun f hf=>by rw[List.mem_singleton.1 hf];exact fy (by decide) (by decide))).mono ?_;rintro e w4 ⟨rfl,s4,k4⟩;have S4:=Qa s4;have Kp:=Qa k4;clear s4 k4;go_wp2_with fail;refine(S4.out.do).mono ?_;rintro e wd ⟨rfl,rfl⟩;rw[show(bD [⟨true, [], [],some ⟨#[111,117,116,99,111,109,101]⟩⟩] (aZ (bw oc))).frs = [⟨true, [], [(lH,aZ (bw oc))],none⟩] from rfl,show(bD [⟨true, [], [],some ⟨#[111,117,116,99,111,109,101]⟩⟩] (aZ (bw oc))).done=none from rfl] at S4;go_wp2_with fail;refine(S4.out.name HG.out HT.out (s:=⟨#[101,110,116,114,105,101,115]⟩) f1 (by decide) (by simp;decide) (by decide) (by simp)).mono ?_;rintro e w5 ⟨rfl,s5,k5⟩;have S5:=Qa s5;have Kp:=Qa k5;clear s5 k5;go_wp2_with fail;refine(S5.out.do).mono ?_;rintro e wd ⟨rfl,rfl⟩;go_wp2_with fail;refine(S5.out.open_row rfl (by simp)).mono ?_;rintro e w6 ⟨rfl,s6,k6⟩;have S6:=Qa s6;have Kp:=Qa k6;clear s6 k6;go_wp2_with fail;refine(S6.out.do).mono ?_;rintro e wd ⟨rfl,rfl⟩;go_wp2_with fail;generalize w6=w9 at *;obtain⟨fs,a4⟩:∃fs, [(⟨true, [], [(lH,aZ (bw oc))],some ⟨#[101,110,116,114,105,101,115]⟩⟩:Fr)]=fs:=⟨_,rfl⟩;have S9:=Qa (show e7 w0 Bh fb (⟨false,(es.take 0).map dJ, [],none⟩::fs) none w9 by rw[<-a4];exact S6.out);have f2:=Qa a4;have a1:=Qa (show fs.length<=10/\wJ fs none=true/\∀f∈fs,EA f by
  subst a4;exact⟨by simp,rfl,fun f hf=>by rw[List.mem_singleton.1 hf];exact fy (by decide) (by simp)⟩)
 clear a4 S1 S2 S3 S4 S5 S6 Sw Kp
 go_loopg [40] es.length (fun m s40 wr=> ∃i:Nat,m+i=es.length/\s40 =.int .i64 i/\Hid (e7 w0 Bh fb (⟨false,(es.take i).map dJ, [],none⟩::fs) none wr))
 case atStart=>exact⟨0,rfl,rfl,S9⟩
 case round=>
  clear S9;obtain⟨i,hm,rfl,S⟩:=hrel;have Hm:=Qa hm
  by_cases hlt:i<es.length
  ·have b4:(i:Int)<es.length:=by omega
   obtain⟨p,hp⟩:∃p,es[i]?=some p:=⟨_,Zd hlt⟩;obtain⟨g,o,rfl,q1,q2,q3⟩:=f0.out i p hp;have c1:=Zg S.out.low q1;have c2:=Zg S.out.low q2;have c3:=Zg S.out.low q3;have a9:=Qa (Zf wr (.cells #[.string p.eAt,.string p.eSch,.string p.eKw] 45));have Sa:=Qa (S.out.below (aa wr (.cells #[.string p.eAt,.string p.eSch,.string p.eKw] 45)));have d0:=Qa (And.intro (HE.out p (Zk hp)) (HB.out p (Zk hp)));have Htk:=Qa (show es.take (i+1)=es.take i ++ [p] by
    obtain⟨h1,h3⟩:=List.getElem?_eq_some_iff.1 hp;rw[List.take_succ_eq_append_getElem h1,h3])
   have b0:=Qa (show((es.take i).map dJ).length<=1000000 by simp;omega);clear hm hp q1 q2 q3 S;obtain⟨its,a2⟩:∃its,(es.take i).map dJ=its:=⟨_,rfl⟩;rw[a2] at Sa b0;have Hits:=Qa a2;clear a2;go_wp2_with fail;generalize wr.alloc (.cells #[.string p.eAt,.string p.eSch,.string p.eKw] 45)=wa at *;obtain⟨nb,d9⟩:∃nb,wr.heap.size=nb:=⟨_,rfl⟩;rw[d9] at a9 ⊢;clear d9 c1 c2 c3;have e5:=a1.out.1;refine(Sa.out.open_table rfl (by simp;omega)).mono ?_;rintro e w7 ⟨rfl,s7,k7⟩;have S7:=Qa s7;have Kp:=Qa k7;clear s7 k7;go_wp2_with fail;refine(S7.out.do).mono ?_;rintro e wd ⟨rfl,rfl⟩;have hb:=Kp.out.2 _ _ _ _ a9.out DH;have d1:=ac hb (j:=0) (u:=.string p.eAt) rfl;have d2:=ac hb (j:=1) (u:=.string p.eSch) rfl;have d3:=ac hb (j:=2) (u:=.string p.eKw) rfl;have a0:=Zf w7 (.cells (Ip p) 82);have Sm:=Qa (S7.out.add (aa _ _) (Zb _) a0);have f3:=Qa a0;clear hb a0 a9 Sa e5;unfold Ip at Sm;go_wp2_with fail;generalize hwb:w7.alloc (.cells #[.string ⟨#[97,116]⟩,.iface 78 (.string p.eAt),.string ⟨#[107,101,121,119,111,114,100]⟩,.iface 78 (.string p.eKw),.string ⟨#[115,99,104,101,109,97]⟩,.iface 78 (.string p.eSch)] 82)=wb at *;have Sm2:=Qa (show e7 w0 (IB Bh w7.heap.size (Ip p)) fb (⟨true, [],jk ((e8 p).take 0),none⟩:: ⟨false,its, [],none⟩::fs) none wb from Sm.out);obtain⟨L,hL⟩:∃L,w7.heap.size=L:=⟨_,rfl⟩;rw[hL] at Sm2 ⊢;clear hL hwb Sm d1 d2 d3 S7 Kp f3
   go_loopg [62] 3 (fun m s62 wr=> ∃k:Nat,m+k=3/\s62 =.int .i64 k/\Hid (e7 w0 (IB Bh L (Ip p)) fb (⟨true, [],jk ((e8 p).take k),none⟩:: ⟨false,its, [],none⟩::fs) none wr))
   case atStart=>exact⟨0,rfl,rfl,Sm2⟩
   case round=>
    clear Sm2;obtain⟨k,hk,rfl,S⟩:=hrel;have Hk:=Qa hk
    by_cases hk3:k<3
    ·have e4:(k:Int)<3:=by omega
     obtain⟨q,hq⟩:∃q,(e8 p)[k]?=some q:=⟨_,Zd (by show k<3;exact hk3)⟩;obtain⟨c1,c2⟩:=GN S.out.lone hq;have Hq:=Qa (EO hq d0.out.1 d0.out.2);have b3:=Qa (show jk ((e8 p).take (k+1))=jk ((e8 p).take k) ++ [(q.1,aZ q.2)] by
      obtain⟨h1,h3⟩:=List.getElem?_eq_some_iff.1 hq;rw[List.take_succ_eq_append_getElem h1,h3];simp[jk])
     have a0:=Zf wr (.cells #[.string q.1,.iface 78 (.string q.2)] 82);have Sq:=Qa (S.out.add (aa _ _) (Zb _) a0);have a5:=Qa (show(jk ((e8 p).take k)).length<=1000 by simp[jk,e8];omega);have e3:=Qa (show q.1∉(jk ((e8 p).take k)).map Prod.fst by
      have h5:=Hq.out.2.2.2.2;simpa [jk,Function.comp_def] using h5)
     have f5:k<=3:=by omega
     clear hk hq a0 S hk3;generalize jk ((e8 p).take k)=ms at *;go_wp2_with fail;generalize wr.alloc (.cells #[.string q.1,.iface 78 (.string q.2)] 82)=wc at *;obtain⟨nq,c8⟩:∃nq,wr.heap.size=nq:=⟨_,rfl⟩;rw[c8] at Sq ⊢;have c4:=Sq.out.lone;have e1:=ac c4 (j:=0) (u:=.string q.1) rfl;clear c8 c1 c2 c4;go_wp2_with fail;refine(Sq.out.name HG.out HT.out Hq.out.1 Hq.out.2.1 e3.out (by have:=a1.out.1;simp;omega) (by have:=a5.out;omega)).mono ?_;rintro e w8 ⟨rfl,s8,k8⟩;have S8:=Qa s8;have Kp:=Qa k8;clear s8 k8;go_wp2_with fail;refine(S8.out.do).mono ?_;rintro e wd ⟨rfl,rfl⟩;have b8:=S8.out.lone;have e2:=ac b8 (j:=1) (u:=.iface 78 (.string q.2)) rfl;clear b8 e1;go_wp2_with fail;(with_reducible refine(S8.out.put rfl HP.out HG.out Hq.out.2.2.1 Hq.out.2.2.2.1 (by have:=a1.out.1;simp;omega) (fun f hf=>by rcases List.mem_cons.1 hf with rfl|hf;(· exact fy (by simp) (by have:=a5.out;omega));rcases List.mem_cons.1 hf with rfl|hf;(· exact fy b0.out (by simp));exact a1.out.2.2 f hf)).mono ?_);rintro e w9 ⟨rfl,s9,k9⟩;have S9:=Qa s9;have Kp:=Qa k9;clear s9 k9;go_wp2_with fail;refine(S9.out.do).mono ?_;rintro e wd ⟨rfl,rfl⟩;have Sn:=Qa (show e7 w0 (IB Bh L (Ip p)) fb (⟨true, [],jk ((e8 p).take (k+1)),none⟩:: ⟨false,its, [],none⟩::fs) none w9 from by
      rw[b3.out];exact S9.out.sub fun _ _ h=>.inl h)
     clear S9 S8 Sq Kp e2;go_wp2_with fail;go_roundg (3 - (k+1))
     case measure=>have:=Hk.out;omega
     case rel=>exact⟨k+1,by omega,by go_num,Sn⟩
    ·obtain rfl:k=3:=by omega
     have Sc:=Qa (show e7 w0 Bh fb (⟨true, [],jk (e8 p),none⟩:: ⟨false,its, [],none⟩::fs) none wr from S.out.sub fun _ _ h=>.inl h);have e4:¬ ((3:Nat):Int)<3:=by omega
     have Hj:=Qa (Cd p);have a3:=Qa (show(jk (e8 p)).map Prod.fst = [ia,gq,gR] from rfl);clear hk S hk3;go_wp2_with fail;(with_reducible refine(Sc.out.close_table rfl (by have:=a1.out.1;simp;omega) (fun f hf=>by rcases List.mem_cons.1 hf with rfl|hf;(· exact fy b0.out (by simp));exact a1.out.2.2 f hf) (by simp[jk,e8]) (fun s hs=>by rw[a3.out] at hs;simp only[List.mem_cons,List.mem_nil_iff,or_false] at hs;rcases hs with rfl|rfl|rfl;(· exact fv bk.1 (by decide));(· exact fv bk.2.1 (by decide));exact fv bk.2.2.1 (by decide)) (by rw[a3.out];decide)).mono ?_);rintro e w10 ⟨rfl,s10,k10⟩;have S10:=Qa s10;have Kp:=Qa k10;clear s10 k10;go_wp2_with fail;refine(S10.out.do).mono ?_;rintro e wd ⟨rfl,rfl⟩;rw[Hj.out] at S10;have Sn:=Qa (show e7 w0 Bh fb (⟨false,its ++ [dJ p], [],none⟩::fs) none w10 from S10.out);clear S10 Sc Kp;go_wp2_with fail;go_roundg (es.length - (i+1))
     case measure=>have:=Hm.out;omega
     case rel=>exact⟨i+1,by omega,by go_num,Qa (by rw[Htk.out,List.map_append,Hits.out];exact Sn.out)⟩
  ·obtain rfl:i=es.length:=by have:=Hm.out;omega
   have b4:¬ (es.length:Int)<es.length:=by omega
   rw[List.take_length] at S;have a5:=Qa (show(es.map dJ).length<=1000000 by rw[List.length_map];exact e6);clear hm hlt;go_wp2_with fail;refine(S.out.close_row a1.out.2.1 (by have:=a1.out.1;omega) a1.out.2.2 (by have:=a5.out;omega)).mono ?_;rintro e w11 ⟨rfl,s11,k11⟩;have S11:=Qa s11;have Kp:=Qa k11;clear s11 k11;go_wp2_with fail;refine(S11.out.do).mono ?_;rintro e wd ⟨rfl,rfl⟩;have Sx:=Qa (show e7 w0 Bh fb (⟨true, [], [(lH,aZ (bw oc)),(lU,cJ (es.map dJ))],none⟩:: []) none w11 by
    have h5:=S11.out;rw[<-f2.out] at h5;exact h5)
   clear S11 S Kp;go_wp2_with fail;(with_reducible refine(Sx.out.close_table rfl (by decide) (by simp) (by simp) (fun s hs=>by simp only[List.map_cons,List.map_nil,List.mem_cons,List.mem_nil_iff,or_false] at hs;rcases hs with rfl|rfl;(· exact fv bk.2.2.2.2 (by decide));exact fv bk.2.2.2.1 (by decide)) (by simp;decide)).mono ?_);rintro e w12 ⟨rfl,s12,k12⟩;have S12:=Qa s12;have Kp:=Qa k12;clear s12 k12;go_wp2_with fail;refine(S12.out.do).mono ?_;rintro e wd ⟨rfl,rfl⟩;rw[II] at S12;have Sz:=Qa (show e7 w0 Bh fb [] (some (bU oc es)) w12 from S12.out);have cz:=ac Sz.out.2.1 (j:=0) (u:=.nilIface) rfl;clear S12 Sx Kp;have c5:=Qa (show Calls Tryz.prog 39 #[.pointer (some ⟨w0.heap.size,0,none⟩)] w12 (fun e w'=>Ea (bU oc es).txt w12 e w') from tL Sz.out.1.choose_spec (HP.out.below Sz.out.low) (HG.out.below Sz.out.low) (qw HE.out) HZ.out (by rw[c6.out];exact HN.out));rw[c6.out] at c5;go_wp2_with fail;refine Za c5 ?_;rintro e wy ⟨v,rfl,b2,d5⟩;have d4:=Qa (And.intro b2 d5);obtain⟨A2,q2,rfl,-⟩:=ag b2;clear b2 d5;go_wp2_with fail;go_ret2;exact⟨_,rfl,bj d4.out.1 Sz.out.low.size,aj Sz.out.low d4.out.2⟩
structure dM (x:List En) (y:List ByteArray):Prop where
 bl:∀e∈x,gI e/\FM 1000000 e
 pl:∀p∈y,aW p/\p.size<=1000000
 xy:x.length+y.length<=600000
theorem dM.bls {x:List En}(h:dM x y):∀e∈x,FW e:=fun e he=>⟨(h.bl e he).1,by have:=(h.bl e he).2.1;omega,by have:=(h.bl e he).2.2;omega⟩
theorem dM.pls {x:List En}(h:dM x y):∀p∈y,gp p:=fun p hp=>⟨(h.pl p hp).1,by have:=(h.pl p hp).2;omega⟩
theorem yf {l:List En}:∀ {m:List En},l.Nodup->(∀x∈l,x∈m)->l.length<=m.length:=by
 induction l with
 |nil=>intro m _ _;simp
 |cons a l ih=>
  intro m h1 h2;rw[List.nodup_cons] at h1;have ha:=h2 a (by simp);have:=ih (m:=m.erase a) h1.2 fun x hx=>(List.mem_erase_of_ne (fun e=>h1.1 (by rw[<-e];exact hx))).2 (h2 x (by simp[hx]))
  rw[List.length_erase_of_mem ha] at this;have:=List.length_pos_of_mem ha;simp;omega
theorem dM.ents {x:List En}{es:List En}(h:dM x y)(k:bu x y es):(∀e∈es,e9 e)/\(∀e∈es,FM 1000000 e)/\es.length<=600000:=by
 refine⟨k.ok (fun e he=>(h.bl e he).1) (fun p hp=>(h.pl p hp).1),fun e he=>?_,?_⟩
 ·rcases co.1 ((k.mem e).1 he) with h1|⟨p,hp,-,rfl⟩
  ·exact(h.bl e h1.1).2
  ·exact⟨(h.pl p hp).2,by show(0:Nat)<=_;omega⟩
 ·have h1:=k.nodup;have h2:es.length<=(fu x y).length:=yf h1 fun e he=>(k.mem e).1 he
  have h3:=xu x y;have:=h.xy;omega
theorem dM.rep {x:List En}{es:List En}(h:dM x y)(k:bu x y es)(oc:Nat):(bU oc es).txt.length<=140737488355328/\Sz (bU oc es)/\(∀e∈es,e.eAt.size<=1000000000/\e.eSch.size<=1000000000):=by
 obtain⟨h1,h2,h3⟩:=h.ents k;refine⟨?_,GM (by decide) h1 h2,fun e he=>⟨by have:=(h2 e he).1;omega,by have:=(h2 e he).2;omega⟩⟩;have h4:=E2 (o:=oc) (by decide) h1 h2;have h5:(4*es.length+3)* (12*1000000+40)<=2400003*12000040:=Nat.mul_le_mul (by omega) (by decide);omega
def zI (x:List En)(y:List ByteArray)(oc:Nat)(w:World)(e:Ending)(w':World):Prop:= ∃es v,bu x y es/\e =.returned (.tuple #[v,.nilIface])/\aq w' w.heap.size v (bU oc es).txt/\Below w.heap.size w w'
theorem pS (h:1<=oc/\oc<6):¬ (bw oc).toList = []:=by
 rw[ByteArray.toList_eq]
 match oc,h with
 |1,_=>decide
 |2,_=>decide
 |3,_=>decide
 |4,_=>decide
 |5,_=>decide
theorem dT {x:List En}(hR:kn w)(hW:zG w)(hx:qV w xv x)(hy:kh w yv y)(hin:dM x y)(ho:1<=oc/\oc<6)(hq:oc=2↔0<x.length+y.length) :
  Calls Tryz.prog 7 #[.int .i64 oc,xv,yv] w (zI x y oc w):=by
 have HR:=Qa hR;have HW:=Qa hW;have c9:=Qa (fun (e:En) (he:e∈x) w1 (hb:Below w.heap.size w w1)=>lh (hR.below hb) (hin.bls e he));have c4:=Qa (fun (p:ByteArray) (hp:p∈y) w1 (hb:Below w.heap.size w w1)=>ii (hR.p.below hb) (hin.pls p hp));have c6:=Qa (fun w1 (hb:Below w.heap.size w w1)=>zd (hR.p.below hb) (hx.below hb) (hy.below hb) hin.bls hin.pls (by have:=hin.xy;omega) (by have:=hin.xy;omega) hin.xy);have b2:=Qa hin;have d6:x.length<=600000:=by have:=hin.xy;omega
 have d0:y.length<=600000:=by have:=hin.xy;omega
 obtain⟨-,Ax,cx,rfl,-,-⟩:=id hx;obtain⟨-,Ay,cy,rfl,-,-⟩:=id hy;have Hx:=Qa hx.rd.2;have Hy:=Qa hy.rd.2.2;have c8:=Qa (gT hR ho.2);have c7:=pS ho;have d5:(bw oc).toList.isEmpty=false:=by cases h:(bw oc).toList with|nil=>exact absurd h c7|cons a l=>rfl
 have HO:=Qa ho;have HQ:=Qa hq;clear hR hW hx hy hin ho hq;generalize bw oc=wd at *;go_enter Tryz.func7,Tryz.ntmps7;go_wp2_with fail;refine Za c8 ?_;rintro e w1 ⟨rfl,m,rfl⟩;have Hb1:=Qa (ap (Ze w.heap.size w) m);generalize w.drewN m=w1 at *;go_wp2_with fail
 go_loopg [18] x.length (fun m s18 wr=> ∃i:Nat,m+i=x.length/\s18 =.int .i64 i/\Hid (Below w.heap.size w wr))
 case atStart=>exact⟨0,rfl,rfl,Hb1⟩
 case round=>
  clear Hb1;obtain⟨i,hm,rfl,Hb⟩:=hrel;have Hm:=Qa hm
  by_cases hlt:i<x.length
  ·have a4:(i:Int)<x.length:=by omega
   obtain⟨p,hp⟩:∃p,x[i]?=some p:=⟨_,Zd hlt⟩;obtain⟨g,o,rfl,q1,q2,q3⟩:=Hx.out i p hp;have c1:=Zg Hb.out q1;have c2:=Zg Hb.out q2;have c3:=Zg Hb.out q3;have b3:=Zf wr (.cells #[.string p.eAt,.string p.eSch,.string p.eKw] 45);have c0:=Qa (aj Hb.out (aa wr (.cells #[.string p.eAt,.string p.eSch,.string p.eKw] 45)));have HB:=Qa (c9.out p (Zk hp) _ c0.out);have d1:=ac b3 (j:=0) (u:=.string p.eAt) rfl;have d2:=ac b3 (j:=1) (u:=.string p.eSch) rfl;have d3:=ac b3 (j:=2) (u:=.string p.eKw) rfl;clear hp q1 q2 q3 hm b3;go_wp2_with fail;refine Za HB ?_;rintro e w2 ⟨rfl,a9⟩;have Hb2:=Qa (aj c0.out a9);clear a9 d1 d2 d3 c1 c2 c3;go_wp2_with fail;go_roundg (x.length - (i+1))
   case measure=>have:=Hm.out;omega
   case rel=>exact⟨i+1,by omega,by go_num,Hb2⟩
  ·obtain rfl:i=x.length:=by omega
   have a4:¬ (x.length:Int)<x.length:=by omega
   clear hm hlt Hm;go_wp2_with fail
   go_loopg [29] y.length (fun m s29 wr=> ∃i:Nat,m+i=y.length/\s29 =.int .i64 i/\Hid (Below w.heap.size w wr))
   case atStart=>exact⟨0,rfl,rfl,Hb⟩
   case round=>
    clear Hb;obtain⟨i,hm,rfl,Hb⟩:=hrel;have Hm:=Qa hm
    by_cases hlt:i<y.length
    ·have a4:(i:Int)<y.length:=by omega
     obtain⟨p,hp⟩:∃p,y[i]?=some p:=⟨_,Zd hlt⟩;obtain⟨g,o,rfl,q1⟩:=Hy.out i p hp;have c1:=Zg Hb.out q1;have HB:=Qa (c4.out p (Zk hp) _ Hb.out);clear hp q1 hm;go_wp2_with fail;refine Za HB ?_;rintro e w2 ⟨rfl,a9⟩;have Hb2:=Qa (aj Hb.out a9);clear a9 c1;go_wp2_with fail;go_roundg (y.length - (i+1))
     case measure=>have:=Hm.out;omega
     case rel=>exact⟨i+1,by omega,by go_num,Hb2⟩
    ·obtain rfl:i=y.length:=by omega
     have a4:¬ (y.length:Int)<y.length:=by omega
     clear hm hlt Hm;have HE:=Qa (c6.out wr Hb.out)
     by_cases h2:oc=2
     ·subst h2;have b8:=HQ.out.1 rfl;have c5:(0:Int)<x.length+y.length:=by omega
      clear b8;go_wp2_with fail;refine Za HE ?_;rintro e w3 ⟨v,es,rfl,a0,a2,a5⟩;have a1:=Qa (aj Hb.out a5);obtain⟨e1,e2,e3⟩:=b2.out.ents a0;obtain⟨f1,f2,f3⟩:=b2.out.rep a0 2;have b9:=Qa (show Calls Tryz.prog 22 #[.int .i64 2,v] w3 _ from wI (oc:=2) (HR.out.below a1.out) (HW.out.below a1.out) (a2.sl (by omega)) HO.out e1 f3 f1 f2);generalize hve:(bU 2 es).txt=tl at *;have b4:=Qa hve;clear hve;have b5:=Qa a0;obtain⟨A,q,rfl,-⟩:=ag a2;clear a5 a2 a0 e1 e2 e3 f1 f2 f3;go_wp2_with fail;refine Za b9 ?_;rintro e w4 ⟨v,rfl,a3,b1⟩;have b0:=Qa (And.intro a3 b1);obtain⟨A2,q2,rfl,-⟩:=ag a3;clear a3 b1;go_wp2_with fail;go_ret2;have ht:=b4.out;subst ht;exact⟨es,_,b5.out,rfl,bj b0.out.1 a1.out.size,aj a1.out b0.out.2⟩
     ·have b8:x.length+y.length=0:=by have:=HQ.out;omega
      have c5:¬ (0:Int)<x.length+y.length:=by omega
      have d4:((oc:Int)==2)=false:=by rw[beq_eq_false_iff_ne];omega
      clear b8 h2;go_wp2_with fail;refine Za HE ?_;rintro e w3 ⟨v,es,rfl,a0,a2,a5⟩;have a1:=Qa (aj Hb.out a5);obtain⟨e1,e2,e3⟩:=b2.out.ents a0;obtain⟨f1,f2,f3⟩:=b2.out.rep a0 oc;have b9:=Qa (wI (oc:=oc) (HR.out.below a1.out) (HW.out.below a1.out) (a2.sl (by omega)) HO.out e1 f3 f1 f2);generalize hve:(bU oc es).txt=tl at *;have b4:=Qa hve;clear hve;have b5:=Qa a0;obtain⟨A,q,rfl,-⟩:=ag a2;clear a5 a2 a0 e1 e2 e3 f1 f2 f3;go_wp2_with fail;refine Za b9 ?_;rintro e w4 ⟨v,rfl,a3,b1⟩;have b0:=Qa (And.intro a3 b1);obtain⟨A2,q2,rfl,-⟩:=ag a3;clear a3 b1;go_wp2_with fail;go_ret2;have ht:=b4.out;subst ht;exact⟨es,_,b5.out,rfl,bj b0.out.1 a1.out.size,aj a1.out b0.out.2⟩
theorem lC {P:Program}{ops:Array Oper}{Q:Exit->Act->List Frame->World->Prop}{a:Act}{cs:List Frame}
  (h:∀t,wpOpsS P ops Q (Region.schedule (P.follows .mixedOrders) ops t) a cs {w with drawn:=w.drawn+1}):(Code.region id ops true).wpS P Q a cs w:=
 fun b k hb hr=>let ⟨e,a',cs',w',q,r⟩:=wp_opsS _ a cs _ (h _) b k hb hr;⟨e,a',cs',w',q,.of_steps (.one step_region_draw) r⟩
theorem ft {ops:Array Oper}{rs:List Nat}{t:Nat}{L:Array Bool}(h:Region.ready .any ops L=rs)(hi:rs[t % rs.length]?=some i)(fuel:Nat)(acc:List Nat) :
  Region.linearise.go .any ops (fuel+1) t L acc=Region.linearise.go .any ops fuel (t/rs.length) (L.setIfInBounds i true) (i::acc):=by
 subst h;simp only[Region.linearise.go];change (match (Region.ready .any ops L)[t % (Region.ready .any ops L).length]? with|some i=>Region.linearise.go .any ops fuel (t/ (Region.ready .any ops L).length) (L.setIfInBounds i true) (i::acc)|none=>acc.reverse)=_;rw[hi]
theorem GA {ops:Array Oper}(hs:ops.size=3)(e0:Region.ready .any ops #[false,false,false] = [0,1])(e1:Region.ready .any ops #[true,false,false] = [1])(e2:Region.ready .any ops #[false,true,false] = [0])(e3:Region.ready .any ops #[true,true,false] = [2])(t:Nat) :
  Region.schedule true ops t = [0,1,2]\/Region.schedule true ops t = [1,0,2]:=by
 show Region.linearise.go .any ops ops.size t (Array.replicate ops.size false) []=_\/Region.linearise.go .any ops ops.size t (Array.replicate ops.size false) []=_
 rw[hs];rcases Nat.mod_two_eq_zero_or_one t with h|h
 ·left
  rw[show Array.replicate 3 false = #[false,false,false] from rfl,ft e0 (i:=0) (by simp[h]),show(#[false,false,false]:Array Bool).setIfInBounds 0 true = #[true,false,false] from rfl,ft e1 (i:=1) (by simp[Nat.mod_one]),show(#[true,false,false]:Array Bool).setIfInBounds 1 true = #[true,true,false] from rfl,ft e3 (i:=2) (by simp[Nat.mod_one])];rfl
 ·right
  rw[show Array.replicate 3 false = #[false,false,false] from rfl,ft e0 (i:=1) (by simp[h]),show(#[false,false,false]:Array Bool).setIfInBounds 1 true = #[false,true,false] from rfl,ft e2 (i:=0) (by simp[Nat.mod_one]),show(#[false,true,false]:Array Bool).setIfInBounds 0 true = #[true,true,false] from rfl,ft e3 (i:=2) (by simp[Nat.mod_one])];rfl
theorem eA {P:Program}{ops:Array Oper}{Q:Exit->Act->List Frame->World->Prop}{a:Act}{cs:List Frame}(hm:P.follows .mixedOrders=true)(hs:ops.size=3)(e0:Region.ready .any ops #[false,false,false] = [0,1])(e1:Region.ready .any ops #[true,false,false] = [1])(e2:Region.ready .any ops #[false,true,false] = [0])(e3:Region.ready .any ops #[true,true,false] = [2])
  (h:∀l,l = [0,1,2]\/l = [1,0,2]->wpOpsS P ops Q l a cs w.drew):(Code.region id ops true).wpS P Q a cs w:=
 lC fun t=>by rw[hm];exact h _ (GA hs e0 e1 e2 e3 t)
theorem gJ (v k p:Value)(w:World):Calls Tryz.prog 81 #[v,k,p,.nilIface] w fun e w'=>e =.returned (.tuple #[])/\w'=w:=by
 have hq:(binOp .eql 20 .nilIface .nilIface).run Tryz.prog w =.ok (.bool true) w:=by kernel_rfl
 go_enter Tryz.func81,Tryz.ntmps81;go_wp2_with fail;(try simp only[Exit.inBlock,Exit.then]);exact Zh (results_none rfl ..) rfl ⟨rfl,rfl⟩
theorem Gl {p q:Addr}(hc:w.cell? p=some v):CallsD Tryz.prog 80 #[.pointer (some p),.pointer (some q)] .returning w fun e u' w'=>e =.returned (.tuple #[])/\u' =.returning/\w'=w.drew:=by
 refine callsD_of_wpS Tryz.func80 rfl fun c₀ cs hu=>?_
 refine eA (by kernel_rfl) (by kernel_rfl) (by kernel_rfl) (by kernel_rfl) (by kernel_rfl) (by kernel_rfl) fun l hl=>?_
 rcases hl with rfl|rfl
 all_goals
  simp[wpOpsS,go_sem,recoverD,hu,Tryz.ntmps80,Exit.thenS,hc];refine(gJ _ _ _ _).mono ?_;rintro e w' ⟨rfl,rfl⟩
  cases c₀
  simp_all [bodyPostS,results,Tryz.results80]
theorem Ja (x:Value)(w:World):Calls Tryz.prog 82 #[.iface 95 x] w fun e w'=>e =.returned x/\w'=w:=by
 have hq:(Instr.typeAssert (.iface 95 x) 80 95 false).run Tryz.prog w =.ok x w:=by kernel_rfl
 go_enter Tryz.func82,Tryz.ntmps82;go_wp2_with fail;exact Zh (results_tmp rfl ..) rfl ⟨rfl,rfl⟩
theorem CK (x:Value)(w:World):Calls Tryz.prog 49 #[.iface 95 x] w fun e w'=>e =.returned (.tuple #[x,.nilIface])/\Below w.heap.size w w':=by
 have a3:∀ (fn:Fn) (first cap:Array Value) (w:World),(Instr.makeFunc fn first cap).run Tryz.prog w =.ok (.func fn first cap) w:=fun _ _ _ _=>rfl
 have a1:=aa w (.cells #[.iface 95 x] 80);have a0:=aj a1 (aa _ (.cells #[.nilIface] 30));have c0:((w.alloc (.cells #[.iface 95 x] 80)).alloc (.cells #[.nilIface] 30)).cell? ⟨w.heap.size,0,none⟩=some (.iface 95 x):=ac ((Below.heap_alloc _ _ _ (by simp)).trans (Zf w _)) (j:=0) rfl;have h1:((w.alloc (.cells #[.iface 95 x] 80)).alloc (.cells #[.nilIface] 30)).heap[w.heap.size+1]?=some (.cells #[.nilIface] 30 (0,0)):=by
  have:=Zf (w.alloc (.cells #[.iface 95 x] 80)) (.cells #[.nilIface] 30)
  rwa[World.size_alloc] at this
 have c1:=ac h1 (j:=0) rfl;have a2:=Qa a0;have C0:=Qa c0;have C1:=Qa c1;clear a1 a0 c0 h1 c1;go_enter_defers Tryz.func49,Tryz.ntmps49;go_wp2_with fail;refine(Ja x _).mono ?_;rintro e w' ⟨rfl,rfl⟩;go_wp2_with fail;generalize (w.alloc (.cells #[.iface 95 x] 80)).alloc (.cells #[.nilIface] 30)=w1 at *;refine leaves_cons (f:=80) (args:= #[.pointer (some ⟨w.heap.size,0,none⟩),.pointer (some ⟨w.heap.size+1,0,none⟩)]) (by simp) (by simp[go_sem]) ?_;refine(Gl (v:=.iface 95 x) ?_).mono ?_
 ·exact C0.out
 rintro e u' w'' ⟨rfl,rfl,rfl⟩;have c1:=C1.out;refine⟨.tuple #[x,.nilIface],?_,rfl,?_⟩
 ·simp[results,Tryz.results49,go_sem,c1]
 ·exact aj a2.out (Ze _ _).drew
theorem GV {p q:Addr}(hc:w.cell? p=some v):CallsD Tryz.prog 86 #[.pointer (some p),.pointer (some q)] .returning w fun e u' w'=>e =.returned (.tuple #[])/\u' =.returning/\w'=w.drew:=by
 refine callsD_of_wpS Tryz.func86 rfl fun c₀ cs hu=>?_
 refine eA (by kernel_rfl) (by kernel_rfl) (by kernel_rfl) (by kernel_rfl) (by kernel_rfl) (by kernel_rfl) fun l hl=>?_
 rcases hl with rfl|rfl
 all_goals
  simp[wpOpsS,go_sem,recoverD,hu,Tryz.ntmps86,Exit.thenS,hc];refine(gJ _ _ _ _).mono ?_;rintro e w' ⟨rfl,rfl⟩
  cases c₀
  simp_all [bodyPostS,results,Tryz.results86]
theorem IW (x:Value)(w:World):Calls Tryz.prog 87 #[.iface 78 x] w fun e w'=>e =.returned x/\w'=w:=by
 have hq:(Instr.typeAssert (.iface 78 x) 80 78 false).run Tryz.prog w =.ok x w:=by kernel_rfl
 go_enter Tryz.func87,Tryz.ntmps87;go_wp2_with fail;exact Zh (results_tmp rfl ..) rfl ⟨rfl,rfl⟩
theorem FB (x:Value)(w:World):Calls Tryz.prog 52 #[.iface 78 x] w fun e w'=>e =.returned (.tuple #[x,.nilIface])/\Below w.heap.size w w':=by
 have a3:∀ (fn:Fn) (first cap:Array Value) (w:World),(Instr.makeFunc fn first cap).run Tryz.prog w =.ok (.func fn first cap) w:=fun _ _ _ _=>rfl
 have a1:=aa w (.cells #[.iface 78 x] 80);have a0:=aj a1 (aa _ (.cells #[.nilIface] 30));have c0:((w.alloc (.cells #[.iface 78 x] 80)).alloc (.cells #[.nilIface] 30)).cell? ⟨w.heap.size,0,none⟩=some (.iface 78 x):=ac ((Below.heap_alloc _ _ _ (by simp)).trans (Zf w _)) (j:=0) rfl;have h1:((w.alloc (.cells #[.iface 78 x] 80)).alloc (.cells #[.nilIface] 30)).heap[w.heap.size+1]?=some (.cells #[.nilIface] 30 (0,0)):=by
  have:=Zf (w.alloc (.cells #[.iface 78 x] 80)) (.cells #[.nilIface] 30)
  rwa[World.size_alloc] at this
 have c1:=ac h1 (j:=0) rfl;have a2:=Qa a0;have C0:=Qa c0;have C1:=Qa c1;clear a1 a0 c0 h1 c1;go_enter_defers Tryz.func52,Tryz.ntmps52;go_wp2_with fail;refine(IW x _).mono ?_;rintro e w' ⟨rfl,rfl⟩;go_wp2_with fail;generalize (w.alloc (.cells #[.iface 78 x] 80)).alloc (.cells #[.nilIface] 30)=w1 at *;refine leaves_cons (f:=86) (args:= #[.pointer (some ⟨w.heap.size,0,none⟩),.pointer (some ⟨w.heap.size+1,0,none⟩)]) (by simp) (by simp[go_sem]) ?_;refine(GV (v:=.iface 78 x) ?_).mono ?_
 ·exact C0.out
 rintro e u' w'' ⟨rfl,rfl,rfl⟩;have c1:=C1.out;refine⟨.tuple #[x,.nilIface],?_,rfl,?_⟩
 ·simp[results,Tryz.results52,go_sem,c1]
 ·exact aj a2.out (Ze _ _).drew
theorem Gm {p q:Addr}(hc:w.cell? p=some v):CallsD Tryz.prog 88 #[.pointer (some p),.pointer (some q)] .returning w fun e u' w'=>e =.returned (.tuple #[])/\u' =.returning/\w'=w.drew:=by
 refine callsD_of_wpS Tryz.func88 rfl fun c₀ cs hu=>?_
 refine eA (by kernel_rfl) (by kernel_rfl) (by kernel_rfl) (by kernel_rfl) (by kernel_rfl) (by kernel_rfl) fun l hl=>?_
 rcases hl with rfl|rfl
 all_goals
  simp[wpOpsS,go_sem,recoverD,hu,Tryz.ntmps88,Exit.thenS,hc];refine(gJ _ _ _ _).mono ?_;rintro e w' ⟨rfl,rfl⟩
  cases c₀
  simp_all [bodyPostS,results,Tryz.results88]
theorem Ix (x:Value)(w:World):Calls Tryz.prog 89 #[.iface 104 x] w fun e w'=>e =.returned x/\w'=w:=by
 have hq:(Instr.typeAssert (.iface 104 x) 80 104 false).run Tryz.prog w =.ok x w:=by kernel_rfl
 go_enter Tryz.func89,Tryz.ntmps89;go_wp2_with fail;exact Zh (results_tmp rfl ..) rfl ⟨rfl,rfl⟩
theorem I1 (x:Value)(w:World):Calls Tryz.prog 54 #[.iface 104 x] w fun e w'=>e =.returned (.tuple #[x,.nilIface])/\Below w.heap.size w w':=by
 have a3:∀ (fn:Fn) (first cap:Array Value) (w:World),(Instr.makeFunc fn first cap).run Tryz.prog w =.ok (.func fn first cap) w:=fun _ _ _ _=>rfl
 have a1:=aa w (.cells #[.iface 104 x] 80);have a0:=aj a1 (aa _ (.cells #[.nilIface] 30));have c0:((w.alloc (.cells #[.iface 104 x] 80)).alloc (.cells #[.nilIface] 30)).cell? ⟨w.heap.size,0,none⟩=some (.iface 104 x):=ac ((Below.heap_alloc _ _ _ (by simp)).trans (Zf w _)) (j:=0) rfl;have h1:((w.alloc (.cells #[.iface 104 x] 80)).alloc (.cells #[.nilIface] 30)).heap[w.heap.size+1]?=some (.cells #[.nilIface] 30 (0,0)):=by
  have:=Zf (w.alloc (.cells #[.iface 104 x] 80)) (.cells #[.nilIface] 30)
  rwa[World.size_alloc] at this
 have c1:=ac h1 (j:=0) rfl;have a2:=Qa a0;have C0:=Qa c0;have C1:=Qa c1;clear a1 a0 c0 h1 c1;go_enter_defers Tryz.func54,Tryz.ntmps54;go_wp2_with fail;refine(Ix x _).mono ?_;rintro e w' ⟨rfl,rfl⟩;go_wp2_with fail;generalize (w.alloc (.cells #[.iface 104 x] 80)).alloc (.cells #[.nilIface] 30)=w1 at *;refine leaves_cons (f:=88) (args:= #[.pointer (some ⟨w.heap.size,0,none⟩),.pointer (some ⟨w.heap.size+1,0,none⟩)]) (by simp) (by simp[go_sem]) ?_;refine(Gm (v:=.iface 104 x) ?_).mono ?_
 ·exact C0.out
 rintro e u' w'' ⟨rfl,rfl,rfl⟩;have c1:=C1.out;refine⟨.tuple #[x,.nilIface],?_,rfl,?_⟩
 ·simp[results,Tryz.results54,go_sem,c1]
 ·exact aj a2.out (Ze _ _).drew
theorem jJ {n t:ByteArray}{T:TypeId}(hs:dd n)(ht:dd t):Calls Tryz.prog 84 #[.agg #[.string n,.iface T x],.string t] w fun e w'=>e =.returned (.int .i64 (aJ (nm n) (nm t)))/\Below w.heap.size w w':=by
 have H:=Qa (fun w=>oO (w:=w) hs ht);have Hb:=Qa (aa w (.cells #[.string n,.iface T x] 82));clear hs ht;go_enter Tryz.func84,Tryz.ntmps84;go_wp2_with fail;refine(H.out _).mono ?_;rintro e w1 ⟨rfl,a0⟩;have a1:=Qa (aj Hb.out a0.b);clear a0;go_wp2_with fail;go_ret;exact⟨rfl,a1.out⟩
structure gV (ns:List ByteArray) (t:ByteArray) (i:Nat):Prop where
 at_:ns[i]?=some t
 ok:∀n∈ns,dd n
 lt:∀h n,ns[h]?=some n->h<i->aJ (nm n) (nm t)<0
 ge:∀h n,ns[h]?=some n->i<=h->¬aJ (nm n) (nm t)<0
theorem FJ {t:ByteArray}(hr:bO P w 82 2 A us.length c (sU ns us))(hk:∀u∈us,∃T x,u =.iface T x)(hl:ns.length=us.length)(hs:gV ns t i)(hm:us.length<=1000000) :
  Calls Tryz.prog 83 #[.slice A us.length c,.string t,.func (.func 84) #[] #[]] w fun e w'=>e =.returned (.tuple #[.int .i64 i,.bool true])/\Below w.heap.size w w':=by
 have hlt:=(List.getElem?_eq_some_iff.1 hs.at_).1;have hlu:i<us.length:=by omega
 obtain⟨b,rfl,-⟩:=hr.ptr (by omega);have a2:∀h,h<us.length->∃n T x,ns[h]?=some n/\dd n/\w.cell? ⟨b,h*2,none⟩=some (.string n)/\w.cell? ⟨b,h*2+1,none⟩=some (.iface T x):=by
  intro h hh;have h1:ns[h]?=some ns[h]:=Zd (by omega);have h2:us[h]?=some us[h]:=Zd hh;obtain⟨T,x,e⟩:=hk us[h] (List.getElem_mem hh);have h3:=iz ns us h _ _ h1 h2;exact⟨ns[h],T,x,h1,hs.ok _ (List.getElem_mem _),(hr.cell _ (by omega)).trans h3.1,(hr.cell _ (by omega)).trans (by rw[h3.2,e])⟩
 have HC:=Qa a2;have HS:=Qa hs;have Ht:=Qa (hs.ok t (Zk hs.at_));have Hlu:=Qa hlu;clear a2 hs hr hk hlt hlu hl;go_enter Tryz.func83,Tryz.ntmps83;go_wp2
 go_loopg [9,10] us.length (fun kx s9 s10 wr=> ∃lo hi:Nat,s9 =.int .i64 lo/\s10 =.int .i64 hi/\lo<=i/\i<=hi/\hi<=us.length/\hi - lo<=kx/\Hid (Below w.heap.size w wr))
 case atStart=>exact⟨0,us.length,rfl,rfl,Zj _,Nat.le_of_lt Hlu.out,Zb _,by omega,Qa (Ze _ _)⟩
 case round=>
  obtain⟨lo,hi,rfl,rfl,a5,a4,hin,hg,Hb⟩:=hrel
  by_cases hlt:lo<hi
  ·obtain⟨n,T,x,hn,a0,d1,d2⟩:=HC.out ((lo+hi)/2) (by omega);have c1:=Zg Hb.out d1;have c2:=Zg Hb.out d2;have hc:=jJ (w:=wr) (T:=T) (x:=x) a0 Ht.out;have Hn:=Qa hn;clear d1 d2 a0 hn
   by_cases hyx:aJ (nm n) (nm t)<0
   ·have Hy:=Qa (show ¬i<=(lo+hi)/2 from fun h=>HS.out.ge _ _ Hn.out h hyx);generalize aJ (nm n) (nm t)=z at *;go_wp2_with fail;refine hc.mono ?_;rintro e w' ⟨rfl,a1⟩;have a3:=Qa (aj Hb.out a1);clear a1 c1 c2 hc;go_wp2_with fail;go_roundg (hi - ((lo+hi)/2+1))
    case measure=>omega
    case rel=>
     have:=Hy.out;exact⟨(lo+hi)/2+1,hi,by rw[show((lo:Int)+ (hi:Int))/2+1= (((lo+hi)/2+1:Nat):Int) by omega],rfl,by omega,a4,hin,Zb _,a3⟩
   ·have Hy:=Qa (show ¬ (lo+hi)/2<i from fun h=>hyx (HS.out.lt _ _ Hn.out h));generalize aJ (nm n) (nm t)=z at *;go_wp2_with fail;refine hc.mono ?_;rintro e w' ⟨rfl,a1⟩;have a3:=Qa (aj Hb.out a1);clear a1 c1 c2 hc;go_wp2_with fail;go_roundg ((lo+hi)/2 - lo)
    case measure=>omega
    case rel=>
     have:=Hy.out;exact⟨lo,(lo+hi)/2,rfl,by rw[show((lo:Int)+ (hi:Int))/2= (((lo+hi)/2:Nat):Int) by omega],a5,by omega,by omega,Zb _,a3⟩
  ·obtain rfl:lo=i:=by omega
   have hlu:=Hlu.out;obtain⟨n,T,x,hn,a0,d1,d2⟩:=HC.out lo hlu;obtain rfl:n=t:=by rw[HS.out.at_] at hn;exact(Zi hn).symm
   have c1:=Zg Hb.out d1;have c2:=Zg Hb.out d2;have hc:=jJ (w:=wr) (T:=T) (x:=x) a0 Ht.out;rw[ev] at hc;clear d1 d2 a0 hn hg a4;go_wp2_with fail;refine hc.mono ?_;rintro e w' ⟨rfl,a1⟩;have a3:=Qa (aj Hb.out a1);clear a1 c1 c2 hc;go_wp2_with fail;go_ret2;exact⟨rfl,a3.out⟩
theorem pX {t:ByteArray}(h:eJ P w A us ns ks)(hk:∀u∈us,∃T x,u =.iface T x)(hs:gV ns t i)(hu:us[i]?=some u)(hm:us.length<=1000000) :
  Calls Tryz.prog 51 #[.pointer A,.string t] w fun e w'=>e =.returned (.tuple #[u,.bool true])/\Below w.heap.size w w':=by
 obtain⟨g,R,c,rfl,hg,hr,h1,h2⟩:=h;have H:=Qa (FJ hr hk (by omega) hs hm);have hi:=(List.getElem?_eq_some_iff.1 hu).1;have a2:(0:Int)<=i/\(i:Int)<us.length:=by omega
 have c0:w.cell? ⟨g,0,none⟩=some (.slice R us.length c):=ac hg (j:=0) rfl;have C0:=Qa c0;obtain⟨b,rfl,-⟩:=hr.ptr (by omega);have C1:=Qa ((hr.cell (i*2+1) (by omega)).trans (iz ns us i _ u hs.at_ hu).2);clear hg hr hk hs hu hm h1 h2;go_enter Tryz.func51,Tryz.ntmps51;go_wp2_with fail;refine Za H ?_;rintro e w1 ⟨rfl,a0⟩;have c2:=Zg a0 C0.out;have c3:=Zg a0 C1.out;have a1:=Qa a0;clear a0 c0;go_wp2_with fail;go_ret2;exact⟨rfl,a1.out⟩
