import Derived.Test.YtgkkffeagolnpaaGreatDoorGZ16bf
set_option linter.unusedVariables false
set_option linter.unusedSimpArgs false
set_option maxHeartbeats 64000000
set_option maxRecDepth 100000
namespace Go.Proofs.YtgkkffeagolnpaaGreatDoor
open Go.RowKit Go.Shelf
variable {cs cur:Array Value}{ms:List (ByteArray×JV)}{l y:List ByteArray}{fs:List Fr}{its:List JV}{L base c g i n:Nat}{A:Option Addr}{v xv yv:Value}{w w':World}
theorem EV (l:List ByteArray)(p:ByteArray):(l.any fun q=> !decide (q=p)&&cV p q)= !rY l p:=by simp[rY]
theorem qV.rd {l:List En}(h:qV w (.slice A n c) l):n=l.length/\∀ (i:Nat) e,l[i]?=some e->∃g o,A=some ⟨g,o,none⟩/\w.cell? ⟨g,o+i*3,none⟩=some (.string e.eAt)/\w.cell? ⟨g,o+i*3+1,none⟩=some (.string e.eSch)/\w.cell? ⟨g,o+i*3+2,none⟩=some (.string e.eKw):=by
 obtain⟨_,A',c',e,_,h4⟩:=h;obtain⟨rfl,rfl,rfl⟩:=Value.slice.inj e;exact⟨rfl,h4⟩
theorem kh.rd (h:kh w (.slice A n c) l):n=l.length/\l.length<=c/\∀ (i:Nat) e,l[i]?=some e->∃g o,A=some ⟨g,o,none⟩/\w.cell? ⟨g,o+i,none⟩=some (.string e):=by
 obtain⟨_,A',c',e,h3,h4⟩:=h;obtain⟨rfl,rfl,rfl⟩:=Value.slice.inj e;exact⟨rfl,h3,h4⟩
def iP (x:List En)(y:List ByteArray):List En:=x.filter fun b=> !dV b.eAt y
theorem uD (x:List En)(y:List ByteArray)(e:En):iP (x ++ [e]) y=iP x y++if dV e.eAt y then [] else [e]:=by
 unfold iP;rw[List.filter_append]
 congr 1
 cases h:dV e.eAt y <;> simp[h]
theorem DC {p:ByteArray}(hp:y[i]?=some p):eC y (i+1)=if rY y p&& !(y.take i).any (fun q=>decide (q=p)) then eC y i ++ [p] else eC y i:=by
 have e:y.getD i ⟨#[]⟩=p:=by rw[List.getD_eq_getElem?_getD,hp];rfl
 rw[eC,e]
theorem nf (x:List En)(y:List ByteArray):(iP x y).length<=x.length:=List.length_filter_le _ _
theorem xu (x:List En)(y:List ByteArray):(fu x y).length<=x.length+y.length:=by
 have h1:=nf x y;have h2:=l4 y y.length;unfold iP at h1;unfold fu;simp only[List.length_append,List.length_map];omega
theorem Fa {x:List En}(hx:∀e∈x,FW e)(hy:∀p∈y,gp p):∀e∈fu x y,FO e:=fun e he=>by
 rcases co.1 he with h|⟨p,hp,-,rfl⟩
 ·exact⟨(hx e h.1).at,(hx e h.1).sch⟩
 ·exact⟨hy p hp,.nil⟩
theorem bG.of_rd {l:List En}(h1:base<=g)(h2:l.length<=c)(h3:c<=maxLen)(h4:w.heap[g]?=some (.cells cur 45 (0,0)))(h5:cur.size=c*3)(h6:J7 w g l):bG w base (.slice (some ⟨g,0,none⟩) l.length c) l:=by
 refine .of h1 h2 h3 h4 h5 (List.ext_getElem? fun j=>?_)
 by_cases hj:j<l.length*3
 ·obtain⟨p,hp⟩:∃p,l[j/3]?=some p:=⟨_,Zd (by omega)⟩;have hc:∀k u,w.cell? ⟨g,k,none⟩=some u->cur.toList[k]?=some u:=fun k u hu=>by
   unfold World.cell? at hu;simp only[h4] at hu;simpa using hu
  obtain⟨k1,k2,k3⟩:=h6 _ _ hp;obtain⟨f1,f2,f3⟩:=it l _ _ hp;rw[List.getElem?_take,if_pos hj];rcases IV j with hm|hm|hm
  ·rw[show j=j/3*3 by omega,f1];exact hc _ _ k1
  ·rw[show j=j/3*3+1 by omega,f2];exact hc _ _ k2
  ·rw[show j=j/3*3+2 by omega,f3];exact hc _ _ k3
 ·rw[List.getElem?_eq_none (by simp;omega),List.getElem?_eq_none (by rw[fE];omega)]
theorem uc {f:Value}:Calls Tryz.prog 101 #[.slice none 0 0,.int .i64 0,.int .i64 0,f] w fun e w'=>e =.returned (.tuple #[])/\w=w':=by
 go_enter Tryz.func101,Tryz.ntmps101;go_wp2_with fail
 go_loopg [8] 0 (fun _ s8 wr=>s8 =.int .i64 1/\wr=w)
 case atStart=>exact⟨rfl,rfl⟩
 case round=>
  obtain⟨rfl,rfl⟩:=hrel;go_wp2_with fail;go_end0;exact⟨rfl,rfl⟩
theorem vj {f:Value}{n:Int}:Calls Tryz.prog 73 #[.slice none 0 0,.int .i64 0,.int .i64 0,.int .i64 n,f] w fun e w'=>e =.returned (.tuple #[])/\w=w':=by
 go_enter Tryz.func73,Tryz.ntmps73;go_wp2_with fail
 go_loopg [1,2] 0 (fun _ s1 s2 wr=>s1 =.int .i64 0/\s2 =.int .i64 0/\wr=w)
 case atStart=>exact⟨rfl,rfl,rfl⟩
 case round=>
  obtain⟨rfl,rfl,rfl⟩:=hrel;go_wp2_with fail;refine uc.mono ?_;rintro e w1 ⟨rfl,rfl⟩;go_wp2_with fail;(try simp only[Exit.inBlock,Exit.then]);refine Zh (results_none rfl ..) rfl ?_;exact⟨rfl,rfl⟩
theorem qA {f:Value}:Calls Tryz.prog 45 #[.slice none 0 0,f] w fun e w'=>e =.returned (.tuple #[])/\w=w':=by
 have hl:Calls Tryz.prog 74 #[.int .u64 0] w fun e w'=>e =.returned (.int .i64 (Lib.bitLen 0:Nat))/\w'=w:=by
  have h:=Any.bits_Len (SlLaysF0.n15.bits (P:=Tryz.prog) (ρ:=iU) {oS with}) 0 w (by omega) (by omega);exact h
 have H:=Qa hl;clear hl;go_enter Tryz.func45,Tryz.ntmps45;go_wp2_with fail;refine Za H ?_;rintro e w1 ⟨rfl,rfl⟩;go_wp2_with fail;refine vj.mono ?_;rintro e w1 ⟨rfl,rfl⟩;go_wp2_with fail;go_end0;exact⟨rfl,rfl⟩
theorem wv:Calls Tryz.prog 47 #[.slice none 0 0] w fun e w'=>e =.returned (.slice none 0 0)/\w=w':=by
 go_enter Tryz.func47,Tryz.ntmps47;go_wp2_with fail;go_ret;exact⟨rfl,rfl⟩
def JL (x:List En)(y:List ByteArray)(w:World)(e:Ending)(w':World):Prop:= ∃v es,e =.returned v/\bu x y es/\bG w' w.heap.size v es/\Below w.heap.size w w'
theorem zd {x:List En}(hL:fP w)(hx:qV w xv x)(hy:kh w yv y)(d0:∀e∈x,FW e)(b8:∀p∈y,gp p)(h7:x.length<=600000)(g7:y.length<=600000)(h4:x.length+y.length<=600000):Calls Tryz.prog 23 #[xv,yv] w (JL x y w):=by
 have c8:=Qa (fun (e:En) (he:e∈x) w1 (hb:Below w.heap.size w w1)=>si (hL.below hb) (d0 e he).at b8 (hy.below hb));have d9:=Qa (fun (p:ByteArray) (hp:p∈y) (g:Nat) w1 (hb:Below w.heap.size w w1) (hg:w1.cell? ⟨g,0,none⟩=some (.string p))=>oh (w:=w1) (v:=yv) (l:=y) (g:=42) (lb:= #[.pointer (some ⟨g,0,none⟩)]) (p:=fun q=> !decide (q=p)&&cV p q) vE (fun W q hq hW=>DA (hL.below (aj hb hW)) (b8 p hp) (b8 q hq) (Zg hW hg)) (hy.below hb));simp only[EV] at d9;obtain⟨-,Ax,cx,rfl,-,-⟩:=id hx;obtain⟨-,Ay,cy,rfl,-,-⟩:=id hy;have f9:=Qa (fun (p:ByteArray) (i:Nat) (hi:i<=y.length) w1 (hb:Below w.heap.size w w1)=>qg (s:=p) ((hy.below hb).take i hi));have Hx:=Qa hx.rd.2;have Hy:=Qa hy.rd.2;have d5:=Qa d0;have d3:=Qa b8;have HL:=Qa hL;clear hL hx hy d0 b8;have d4:∀ (fn:Fn) (first cap:Array Value) (w:World),(Instr.makeFunc fn first cap).run Tryz.prog w =.ok (.func fn first cap) w:=fun _ _ _ _=>rfl
 go_enter Tryz.func23,Tryz.ntmps23;go_wp2_with fail
 go_loopg [5,12] x.length (fun m s5 s12 wr=> ∃i:Nat,m+i=x.length/\s12 =.int .i64 i/\Hid (bG wr w.heap.size s5 (iP (x.take i) y))/\Hid (Below w.heap.size w wr))
 case atStart=>exact⟨0,rfl,rfl,Qa (bG.nil _ _),Qa (Ze _ _)⟩
 case round=>
  obtain⟨i,hm,rfl,HE,Hb⟩:=hrel;have Hm:=Qa hm
  by_cases hlt:i<x.length
  ·have a1:(i:Int)<x.length:=by omega
   obtain⟨e,he⟩:∃e,x[i]?=some e:=⟨_,Zd hlt⟩;obtain⟨g,o,rfl,k1,k2,k3⟩:=Hx.out i e he;have c1:=Zg Hb.out k1;have c2:=Zg Hb.out k2;have c3:=Zg Hb.out k3;have a2:=aa wr (.cells #[.string e.eAt,.string e.eSch,.string e.eKw] 45);have b9:=Qa (Zf wr (.cells #[.string e.eAt,.string e.eSch,.string e.eKw] 45));have HC:=Qa (c8.out e (Zk he) _ (aj Hb.out a2));have Hba:=Qa (aj Hb.out a2);have HEa:=Qa (show bG (wr.alloc (.cells #[.string e.eAt,.string e.eSch,.string e.eKw] 45)) w.heap.size u5 (iP (x.take i) y) from ai HE.out a2 (Zb _));have g1:=Qa (show x.take (i+1)=x.take i ++ [e] by
    obtain⟨h1,h3⟩:=List.getElem?_eq_some_iff.1 he;rw[List.take_succ_eq_append_getElem h1,h3])
   clear a2 he k1 k2 k3 hm;go_wp2_with fail;generalize wr.alloc (.cells #[.string e.eAt,.string e.eSch,.string e.eKw] 45)=wa at *;refine Za HC ?_;rintro r w1 ⟨rfl,a5⟩;have Hb1:=Qa (aj Hba.out a5);have HE1:=Qa (show bG w1 w.heap.size u5 (iP (x.take i) y) from ai HEa.out a5 (Zb _));have c4:=ah b9.out a5;have b1:=ac c4 (j:=0) (u:=.string e.eAt) rfl;have b2:=ac c4 (j:=1) (u:=.string e.eSch) rfl;have b3:=ac c4 (j:=2) (u:=.string e.eKw) rfl;have Hsn:=Qa (uD (x.take i) y e);rw[<-g1.out] at Hsn;clear a5 c4 c1 c2 c3
   cases hq:dV e.eAt y with
   |true=>
    rw[hq,if_pos rfl,List.append_nil] at Hsn;clear hq;go_wp2_with fail;go_roundg (x.length - (i+1))
    case measure=>have:=Hm.out;omega
    case rel=>exact⟨i+1,by omega,by go_num,Qa (by rw[Hsn.out];exact HE1.out),Hb1⟩
   |false=>
    rw[hq,if_neg (by decide)] at Hsn;clear hq;have c5:=Qa (av w1 (dW e) 45);have b4:=Qa (show bG (w1.alloc (.cells #[.string e.eAt,.string e.eSch,.string e.eKw] 45)) w.heap.size u5 (iP (x.take i) y) from ai HE1.out (aa _ _) (Zb _));have a4:=Qa (aj Hb1.out (aa w1 (.cells #[.string e.eAt,.string e.eSch,.string e.eKw] 45)));have d1:=nf (x.take i) y;rw[List.length_take] at d1;have c0:=Qa d1;clear d1;go_wp2_with (at_builtin;refine j3 tz b4.out c5.out a4.out.size ?_ (h1:=(by simp[dW,Value.oneCell'])) (hlen:=by have:=c0.out;unfold maxLen;omega) (hby:=by have:=c0.out;omega);intro v' w5 p1 p2 p3;have c7:=Qa p1;have c9:=Qa (aF a4.out b4.out a4.out.size p2);clear p1 p2 p3);go_roundg (x.length - (i+1))
    case measure=>have:=Hm.out;omega
    case rel=>
     refine⟨i+1,by omega,by go_num,Qa ?_,c9⟩;rw[Hsn.out];unfold bG;rw[<-de,List.length_append];exact c7.out
  ·have a1:¬ (i:Int)<x.length:=by omega
   obtain rfl:i=x.length:=by have:=Hm.out;omega
   rw[List.take_length] at HE;clear hm;go_wp2_with fail;obtain⟨F,hF⟩:∃F,iP x y=F:=⟨_,rfl⟩;rw[hF] at HE;have HF:=Qa hF;have c0:=Qa (show F.length<=x.length by rw[<-hF];exact nf x y);clear hF Hm hlt a1 d4;have d4:∀ (fn:Fn) (first cap:Array Value) (w:World),(Instr.makeFunc fn first cap).run Tryz.prog w =.ok (.func fn first cap) w:=fun _ _ _ _=>rfl
   go_loopg [5,28] y.length (fun m s5 s28 wr=> ∃i:Nat,m+i=y.length/\s28 =.int .i64 i/\Hid (bG wr w.heap.size s5 (F++ (eC y i).map eH))/\Hid (Below w.heap.size w wr))
   case atStart=>exact⟨0,rfl,rfl,Qa (by simpa [eC] using HE.out),Hb⟩
   case round=>
    clear HE Hb;obtain⟨i,hm,rfl,HE,Hb⟩:=hrel;have Hm:=Qa hm
    by_cases hlt:i<y.length
    ·have a1:(i:Int)<y.length:=by omega
     obtain⟨p,hp⟩:∃p,y[i]?=some p:=⟨_,Zd hlt⟩;obtain⟨g,o,rfl,k1⟩:=Hy.out.2 i p hp;have c1:=Zg Hb.out k1;have a2:=aa wr (.cells #[.string p] 9);have b9:=Qa (Zf wr (.cells #[.string p] 9));have Hba:=Qa (aj Hb.out a2);have HEa:=Qa (show bG (wr.alloc (.cells #[.string p] 9)) w.heap.size u5 (F++ (eC y i).map eH) from ai HE.out a2 (Zb _));have e4:=Zk hp;have Hs:=Qa (DC hp);have b5:=Qa (d9.out p e4 wr.heap.size);have g2:=Qa (f9.out p i (by omega));have f7:=Qa (l4 y i);have g8:(i:Int)<=cy:=by have:=Hy.out.1;omega
     have h6:i<=cy:=by have:=Hy.out.1;omega
     clear a2 hp k1 hm e4;generalize (y.take i).any (fun q=>decide (q=p))=b2 at *;go_wp2_with fail;generalize hwa:wr.alloc (.cells #[.string p] 9)=wa at *;obtain⟨nb,f4⟩:∃nb,wr.heap.size=nb:=⟨_,rfl⟩;rw[f4] at b5 b9 ⊢;have HS:=Qa (fun w' (h:Below wa.heap.size wa w')=>(show Below wa.heap.size wa w'/\w'.cell? ⟨nb,0,none⟩=some (.string p) from⟨h,ac (ah b9.out h) (j:=0) rfl⟩));clear hwa f4
     cases hq:rY y p with
     |false=>
      rw[hq] at b5 Hs;rw[if_neg (by simp)] at Hs;clear hq;refine bF (fun w'=>Hid (Below wa.heap.size wa w')/\w'.cell? ⟨nb,0,none⟩=some (.string p)) ((have h:=HS.out _ (ap (Ze _ _) 1);⟨Qa h.1,h.2⟩)) fun a0=>?_
      refine tH 0 a0 ?_
      try simp only[Act.put,jP,jQ,jR]
      refine rH 1 fun K hK=>?_
      go_simp;refine hK.out _ _ (a0) (fun a0=>?_);clear hK K
      try simp only[Act.put,jP,jQ,jR]
      refine rH 2 fun K hK=>?_
      go_simp;refine(b5.out _ (aj Hba.out a0.1.out) a0.2).mono ?_;rintro r w2 ⟨rfl,a9⟩;refine hK.out _ _ ((have h:=HS.out _ (aj a0.1.out a9);⟨Qa h.1,h.2⟩)) (fun a0=>?_);clear hK K
      try simp only[Act.put,jP,jQ,jR]
      refine tH 3 a0 ?_;refine tH 4 a0 ?_;refine uH 5 a0 ?_;refine uH 6 a0 ?_;refine uH 7 a0 ?_;refine uH 8 a0 ?_
      try simp only[Act.put,jP,jQ,jR]
      refine rH 9 fun K hK=>?_
      go_simp;refine hK.out _ _ (a0) (fun a0=>?_);clear hK K
      try simp only[Act.put,jP,jQ,jR]
      refine uH 10 a0 ?_;refine tH 11 a0 ?_
      try simp only[Act.put,jP,jQ,jR]
      refine wpAnyH_done (by kernel_rfl) (NoPanic.normal ?_) _;have Hh:=Qa a0.1.out;clear a0;go_wp2_with fail;go_roundg (y.length - (i+1))
      case measure=>have:=Hm.out;omega
      case rel=>exact⟨i+1,by omega,by go_num,Qa (by rw[Hs.out];exact ai HEa.out Hh.out (Zb _)),Qa (aj Hba.out Hh.out)⟩
     |true=>
      rw[hq] at b5 Hs;clear hq;refine bF (fun w'=>Hid (Below wa.heap.size wa w')/\w'.cell? ⟨nb,0,none⟩=some (.string p)) ((have h:=HS.out _ (ap (Ze _ _) 1);⟨Qa h.1,h.2⟩)) fun a0=>?_
      refine tH 0 a0 ?_
      try simp only[Act.put,jP,jQ,jR]
      refine rH 1 fun K hK=>?_
      go_simp;refine hK.out _ _ (a0) (fun a0=>?_);clear hK K
      try simp only[Act.put,jP,jQ,jR]
      refine rH 2 fun K hK=>?_
      go_simp;refine(b5.out _ (aj Hba.out a0.1.out) a0.2).mono ?_;rintro r w2 ⟨rfl,a9⟩;refine hK.out _ _ ((have h:=HS.out _ (aj a0.1.out a9);⟨Qa h.1,h.2⟩)) (fun a0=>?_);clear hK K
      try simp only[Act.put,jP,jQ,jR]
      refine tH 3 a0 ?_;refine tH 4 a0 ?_;refine tH 5 a0 ?_;refine tH 6 a0 ?_;refine tH 7 a0 ?_;refine tH 8 a0 ?_
      try simp only[Act.put,jP,jQ,jR]
      refine rH 9 fun K hK=>?_
      go_simp;refine(g2.out _ (aj Hba.out a0.1.out)).mono ?_;rintro r w3 ⟨rfl,rfl⟩;refine hK.out _ _ (a0) (fun a0=>?_);clear hK K
      try simp only[Act.put,jP,jQ,jR]
      refine tH 10 a0 ?_;refine tH 11 a0 ?_
      try simp only[Act.put,jP,jQ,jR]
      refine wpAnyH_done (by kernel_rfl) (NoPanic.normal ?_) _;have Hh:=Qa a0.1.out;have cb:=a0.2;clear a0
      cases b2 with
      |true=>
       rw[if_neg (by simp)] at Hs;go_wp2_with fail;go_roundg (y.length - (i+1))
       case measure=>have:=Hm.out;omega
       case rel=>exact⟨i+1,by omega,by go_num,Qa (by rw[Hs.out];exact ai HEa.out Hh.out (Zb _)),Qa (aj Hba.out Hh.out)⟩
      |false=>
       rw[if_pos (by simp)] at Hs;go_wp2_with fail;refine mh.mono ?_;rintro r w4 ⟨rfl,d2⟩;have f6:=Qa (aj (aj Hba.out Hh.out) d2);have g4:=Qa (show bG w4 w.heap.size u5 (F++ (eC y i).map eH) from ai HEa.out (aj Hh.out d2) (Zb _));have c5:=Qa (av w4 (dW (eH p)) 45);have b4:=Qa (show bG (w4.alloc (.cells #[.string p,.string ⟨#[]⟩,.string ⟨#[120,45,115,101,99,114,101,116]⟩] 45)) w.heap.size u5 (F++ (eC y i).map eH) from ai g4.out (aa _ _) (Zb _));have a4:=Qa (aj f6.out (aa w4 (.cells #[.string p,.string ⟨#[]⟩,.string ⟨#[120,45,115,101,99,114,101,116]⟩] 45)));have e6:=Qa (show(F++ (eC y i).map eH).length<=1000000 by have h1:=c0.out;have h2:=f7.out;simp;omega);clear d2 cb;go_wp2_with (at_builtin;refine j3 tz b4.out c5.out a4.out.size ?_ (h1:=(by simp[dW,Value.oneCell'])) (hlen:=by have:=e6.out;unfold maxLen;omega) (hby:=by have:=e6.out;omega);intro v' w5 p1 p2 p3;have c7:=Qa p1;have c9:=Qa (aF a4.out b4.out a4.out.size p2);clear p1 p2 p3);go_roundg (y.length - (i+1))
       case measure=>have:=Hm.out;omega
       case rel=>
        refine⟨i+1,by omega,by go_num,Qa ?_,c9⟩;rw[Hs.out,List.map_append,<-List.append_assoc];unfold bG
        show World.ownsRow _ _ _ _ _ _ (bJ (F++ (eC y i).map eH ++ [eH p]))
        rw[<-de];have h5:=c7.out;rw[show(F++ (eC y i).map eH++List.map eH [p]).length= (F++ (eC y i).map eH).length+1 by simp;omega];exact h5
    ·have a1:¬ (i:Int)<y.length:=by omega
     obtain rfl:i=y.length:=by have:=Hm.out;omega
     have HR:=Qa (show F++ (eC y y.length).map eH=fu x y by rw[<-HF.out];rfl);rw[HR.out] at HE;clear hm;go_wp2_with fail;have e3:=Qa (xu x y);have g3:=Qa (Fa d5.out d3.out);rcases(HE.out).2 with ⟨rfl,h0⟩|⟨g,cap,cur,rfl,f3,b0,f1,d6,e5,g5⟩
     ·have Hn:=Qa (List.eq_nil_of_length_eq_zero h0);clear h0;refine qA.mono ?_;rintro e w1 ⟨rfl,rfl⟩;go_wp2_with fail;refine wv.mono ?_;rintro e w1 ⟨rfl,rfl⟩;go_wp2_with fail;go_ret;exact⟨_, [],rfl,⟨List.Pairwise.nil,fun e=>by rw[Hn.out]⟩,bG.nil _ _,Hb.out⟩
     ·have Hg:=Qa (And.intro f3 (And.intro f1 (And.intro d6 (And.intro b0 e5))));have f8:=Qa (ta HE.out g3.out HL.out Hb.out (by have:=e3.out;omega));clear f3 b0 f1 d6 e5 g5;refine Za f8 ?_;rintro e w1 ⟨S,e0,c6,rfl,e1,⟨cur1,e2,cur0,a3,f5⟩,a5⟩;have f2:(fu x y).length=S.length:=c6.length_eq.symm;have f0:bG w1 w.heap.size (.slice (some ⟨g,0,none⟩) (fu x y).length cap) S:=by
       rw[f2];have h5:=Hg.out;rw[h5.2.2.2.1] at a3;injection a3 with a3
       injection a3 with a3
       exact bG.of_rd h5.1 (by omega) h5.2.2.1 e2 (by rw[f5,<-a3];exact h5.2.2.2.2) e1
      have HC:=Qa (rM f0 (by have:=e3.out;omega));have g6:=Qa (Hb.out.trans a5);have g0:=Qa (bu.of_sort (x:=x) (y:=y) (fun a ha=>by
       rcases co.1 ha with h|⟨p,hp,-,rfl⟩
       ·exact(d5.out a h.1).1.en.enp
       ·exact(Cs (d3.out p hp).1).enp) c6 e0)
      clear e0 c6 e1 e2 a3 f5 a5 f0 f2;go_wp2_with fail;refine Za HC ?_;rintro e w2 ⟨v,rfl,hv,a9⟩;have Hv:=Qa (And.intro hv (g6.out.trans a9));obtain⟨A,q,rfl,-⟩:=ag hv;clear hv a9;go_wp2_with fail;go_ret;exact⟨_,_,rfl,g0.out,Hv.out.1,Hv.out.2⟩
theorem Co:¬TW 30:=by rintro(((h|h|h|h)|h|h)|h|h) <;> exact absurd h (by decide)
theorem C9 {t:TypeId}(h:w.heap[g]?=some (.cells #[v] t (0,0))):w.setCell ⟨g,0,none⟩ v=w:=by
 rw[setCell_eq_setRow w g 0 #[v] t (0,0) v h];exact setRow_self w g #[v] t (0,0) h
def e7 (w0:World)(Q:Nat->Array Value->Prop)(fb:Nat)(frs:List Fr)(done:Option JV)(w:World):Prop:=(∃bs,lm w0.heap.size Q w w0.heap.size frs done bs)/\w.heap[fb]?=some (.cells #[.nilIface] 30 (0,0))/\Below w0.heap.size w0 w
section
variable {w0 w w':World}{Q:Nat->Array Value->Prop}{fb:Nat}{frs frs':List Fr}{done done':Option JV}{e:Ending}{aU aE:Addr}
theorem e7.ok (h:e7 w0 Q fb frs done w)(k:Gh w0.heap.size Q w0.heap.size frs' done' w e w'):e =.returned .nilIface/\e7 w0 Q fb frs' done' w'/\bL TW w w':=by
 obtain⟨h1,h2,h3⟩:=k;exact⟨h1,⟨h3,h2.keep.2 fb _ _ _ h.2.1 Co,h.2.2.trans h2.b⟩,h2.keep⟩
theorem e7.below (h:e7 w0 Q fb frs done w)(hb:Below w.heap.size w w'):e7 w0 Q fb frs done w':=by
 obtain⟨⟨bs,h1⟩,h2,h3⟩:=h;exact⟨⟨bs,h1.below hb⟩,ah h2 hb,h3.trans (hb.mono h3.size)⟩
theorem e7.sub {Q':Nat->Array Value->Prop}(h:e7 w0 Q fb frs done w)(hq:∀k cs,Q' k cs->Q k cs):e7 w0 Q' fb frs done w:=⟨⟨_,h.1.choose_spec.sub hq⟩,h.2⟩
def IB (Q:Nat->Array Value->Prop)(L:Nat)(cs:Array Value):Nat->Array Value->Prop:=fun k c=>Q k c\/(k=L/\c=cs)
theorem e7.add (h:e7 w0 Q fb frs done w)(hb:Below w.heap.size w w')(hL:w.heap.size<=L)(hr:w'.heap[L]?=some (.cells cs 82 (0,0))):e7 w0 (IB Q L cs) fb frs done w':=
 ⟨⟨_,h.1.choose_spec.add hb hL hr⟩,(h.below hb).2⟩
theorem e7.lone (h:e7 w0 (IB Q L cs) fb frs done w):w.heap[L]?=some (.cells cs 82 (0,0)):=h.1.choose_spec.lone (.inr ⟨rfl,rfl⟩)
theorem e7.low (h:e7 w0 Q fb frs done w):Below w0.heap.size w0 w:=h.2.2
def Iw (w0:World)(Q:Nat->Array Value->Prop)(fb:Nat)(frs:List Fr)(done:Option JV)(w:World)(e:Ending)(w':World):Prop:=e =.returned .nilIface/\e7 w0 Q fb frs done w'/\bL TW w w'
theorem e7.do (h:e7 w0 Q fb frs done w):Calls Tryz.prog 34 #[.nilIface,.pointer (some ⟨fb,0,none⟩)] w fun e w'=>e =.returned (.tuple #[])/\w=w':=by
 have c:=ac h.2.1 (j:=0) rfl;have fz:=al h.2.1 0;have Hs:=Qa (C9 h.2.1);clear h;go_enter Tryz.func34,Tryz.ntmps34;go_wp2_with fail;rw[Hs.out];go_end0;exact⟨rfl,rfl⟩
theorem e7.open_table (h:e7 w0 Q fb frs none w)(ht:wJ frs none=true)(hl:frs.length<=1000000000):Calls Tryz.prog 35 #[.pointer (some ⟨w0.heap.size,0,none⟩),.int .u8 123] w (Iw w0 Q fb (⟨true, [], [],none⟩::frs) none w):=
 (tm h.1.choose_spec ht h.2.2.size hl).mono fun _ _ k=>h.ok k
theorem e7.open_row (h:e7 w0 Q fb frs none w)(ht:wJ frs none=true)(hl:frs.length<=1000000000):Calls Tryz.prog 35 #[.pointer (some ⟨w0.heap.size,0,none⟩),.int .u8 91] w (Iw w0 Q fb (⟨false, [], [],none⟩::frs) none w):=
 (yL h.1.choose_spec ht h.2.2.size hl).mono fun _ _ k=>h.ok k
theorem e7.name {s:ByteArray}(h:e7 w0 Q fb (⟨true, [],ms,none⟩::fs) none w)(hG:cD w0 aU aE)(hT:aO w0 6)(hs:bi s)(a0:s.size<=1000000000)(hn:s∉ms.map Prod.fst)(hl:fs.length<1000000000)(a1:ms.length<=1000000000) :
  Calls Tryz.prog 36 #[.pointer (some ⟨w0.heap.size,0,none⟩),.string s] w (Iw w0 Q fb (⟨true, [],ms,some s⟩::fs) none w):=by
 obtain⟨a,ha⟩:=hT.below h.2.2;refine(zo h.1.choose_spec hs (hG.below h.2.2) a0 ha h.2.2.size hl a1).mono fun e w' k=>?_
 rcases k with ⟨k,-⟩|⟨-,k⟩
 ·exact absurd k hn
 ·exact h.ok k
theorem e7.put (h:e7 w0 Q fb frs none w)(ht:wJ frs none=true)(hP:ek w0)(hG:cD w0 aU aE){s:ByteArray}(hs:bi s)(a0:s.size<=1000000000)(hl:frs.length<=1000000000)(hi:∀f∈frs,EA f) :
  Calls Tryz.prog 37 #[.pointer (some ⟨w0.heap.size,0,none⟩),.iface 78 (.string s)] w fun e w'=>Iw w0 Q fb (bD frs (aZ s)).frs (bD frs (aZ s)).done w e w':=
 (B6 h.1.choose_spec ht (.text s) (hP.below h.2.2) (hG.below h.2.2) (.text s hs) (ib a0) (by
  have:=eG hs;have e:(aZ s).txt=bW s:=by simp[aZ,JV.txt]
  show(aZ s).txt.length<=_
  rw[e];omega) h.2.2.size hl hi).mono fun _ _ k=>h.ok k
theorem e7.close_row (h:e7 w0 Q fb (⟨false,its, [],none⟩::fs) none w)(ht:wJ fs none=true)(hl:fs.length<1000000000)(hi:∀f∈fs,EA f)(hn:its.length<=1000000000) :
  Calls Tryz.prog 38 #[.pointer (some ⟨w0.heap.size,0,none⟩)] w fun e w'=>Iw w0 Q fb (bD fs (cJ its)).frs (bD fs (cJ its)).done w e w':=
 (uK h.1.choose_spec ht h.2.2.size hl hi hn).mono fun _ _ k=>h.ok k
theorem e7.close_table (h:e7 w0 Q fb (⟨true, [],ms,none⟩::fs) none w)(ht:wJ fs none=true)(hl:fs.length<1000000000)(hi:∀f∈fs,EA f)(hn:ms.length<=1000000000)(a1:∀s∈ms.map Prod.fst,dd s)(a0:(ms.map Prod.fst).Nodup) :
  Calls Tryz.prog 38 #[.pointer (some ⟨w0.heap.size,0,none⟩)] w fun e w'=>Iw w0 Q fb (bD fs (fV (cW ms))).frs (bD fs (fV (cW ms))).done w e w':=
 (pe h.1.choose_spec ht h.2.2.size hl hi hn a1 a0).mono fun _ _ k=>h.ok k
theorem e7.new (h:w'.heap[w0.heap.size]?=some (.cells #[.slice none 0 0,.nilIface] 128 (0,0)))(hb:Below w0.heap.size w0 w'):e7 w0 Bh w'.heap.size [] none (w'.alloc (.cells #[.nilIface] 30)):=by
 have hW:lm w0.heap.size Bh w' w0.heap.size [] none []:=⟨none,0,.nilIface, [],h,Zb _,⟨rfl,.inl ⟨rfl,rfl⟩⟩,ch.nil _,rfl,List.nodup_nil,rfl,fun _ _ h=>h.elim⟩;exact⟨⟨_,hW.below (aa _ _)⟩,Zf _ _,aj hb (aa _ _)⟩
end
theorem Jf (a b c:JV):cW [(ia,a),(gq,b),(gR,c)] = [(ia,a),(gq,b),(gR,c)]:=by
 have e2:aJ (nm gq) (nm gR) = -1:=rfl;have e1:aJ (nm ia) (nm gq) = -1:=rfl;simp[cW,ml,e1,e2]
theorem II (a b:JV):cW [(lH,a),(lU,b)] = [(lU,b),(lH,a)]:=by
 have e1:aJ (nm lH) (nm lU)=1:=rfl;simp[cW,ml,e1]
theorem fv {s:ByteArray}(h:bi s)(hs:s.size<=1000000000):dd s:=⟨h,by omega⟩
def e8 (e:En):List (ByteArray×ByteArray):= [(ia,e.eAt),(gq,e.eKw),(gR,e.eSch)]
def jk (l:List (ByteArray×ByteArray)):List (ByteArray×JV):=l.map fun p=>(p.1,aZ p.2)
theorem Cd (e:En):fV (cW (jk (e8 e)))=dJ e:=by
 show fV (cW [(ia,aZ e.eAt),(gq,aZ e.eKw),(gR,aZ e.eSch)])=_
 rw[Jf];rfl
structure zG (w:World):Prop where
 glob:∃aU aE,cD w aU aE
 twice:aO w 6
 pow:ek w
theorem zG.below (h:zG w)(hb:Below w.heap.size w w'):zG w':=by
 obtain⟨⟨aU,aE,h1⟩,h2,h3⟩:=h;exact⟨⟨aU,aE,h1.below hb⟩,h2.below hb,h3.below hb⟩
theorem EO {e:En}{p:ByteArray×ByteArray}(h:(e8 e)[i]?=some p)(he:e9 e)(hb:e.eAt.size<=1000000000/\e.eSch.size<=1000000000) :
  bi p.1/\p.1.size<=1000000000/\bi p.2/\p.2.size<=1000000000/\p.1∉((e8 e).take i).map Prod.fst:=by
 obtain⟨n1,n2,n3,-⟩:=bk
 match i,h with
 |0,h=>cases h;exact⟨n1,(by decide:ia.size<=1000000000),he.1.utf,hb.1,by simp⟩
 |1,h=>cases h;exact⟨n2,(by decide:gq.size<=1000000000),he.2.2.2,by have:=he.2.2.1;show e.eKw.size<=_;omega,by simp[e8];decide⟩
 |2,h=>cases h;exact⟨n3,(by decide:gR.size<=1000000000),he.2.1.utf,hb.2,by simp[e8];decide⟩
 |(i+3),h=>simp[e8] at h
