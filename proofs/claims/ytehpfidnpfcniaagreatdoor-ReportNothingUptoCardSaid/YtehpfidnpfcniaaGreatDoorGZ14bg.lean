import Derived.Test.YtehpfidnpfcniaaGreatDoorGZ14bf
set_option linter.unusedVariables false
set_option linter.unusedSimpArgs false
set_option maxHeartbeats 64000000
set_option maxRecDepth 100000
namespace Go.Proofs.YtehpfidnpfcniaaGreatDoor
open Go.RowKit Go.Shelf
variable {cs cur:Array Value}{p:ByteArray}{ms:List (ByteArray×JV)}{l y:List ByteArray}{fs:List Fr}{its:List JV}{L base c g i n:Nat}{A:Option Addr}{v xv yv:Value}{w w':World}
theorem Dk (l:List ByteArray)(p:ByteArray):(l.any fun q=> !decide (q=p)&&cr p q)= !qk l p:=by simp[qk]
theorem vv.rd {l:List En}(h:vv w (.slice A n c) l):n=l.length/\∀ (i:Nat) e,l[i]?=some e->∃g o,A=some ⟨g,o,none⟩/\w.cell? ⟨g,o+i*3,none⟩=some (.string e.eAt)/\w.cell? ⟨g,o+i*3+1,none⟩=some (.string e.eSch)/\w.cell? ⟨g,o+i*3+2,none⟩=some (.string e.eKw):=by
 obtain⟨_,A',c',e,_,h4⟩:=h;obtain⟨rfl,rfl,rfl⟩:=Value.slice.inj e;exact⟨rfl,h4⟩
theorem mE.rd (h:mE w (.slice A n c) l):n=l.length/\l.length<=c/\∀ (i:Nat) e,l[i]?=some e->∃g o,A=some ⟨g,o,none⟩/\w.cell? ⟨g,o+i,none⟩=some (.string e):=by
 obtain⟨_,A',c',e,h3,h4⟩:=h;obtain⟨rfl,rfl,rfl⟩:=Value.slice.inj e;exact⟨rfl,h3,h4⟩
def gI (x:List En)(y:List ByteArray):List En:=x.filter fun b=> !dA b.eAt y
theorem tg (x:List En)(y:List ByteArray)(e:En):gI (x ++ [e]) y=gI x y++if dA e.eAt y then [] else [e]:=by
 unfold gI;rw[List.filter_append]
 congr 1
 cases h:dA e.eAt y <;> simp[h]
theorem Bv (hp:y[i]?=some p):d8 y (i+1)=if qk y p&& !(y.take i).any (fun q=>decide (q=p)) then d8 y i ++ [p] else d8 y i:=by
 have e:y.getD i ⟨#[]⟩=p:=by rw[List.getD_eq_getElem?_getD,hp];rfl
 rw[d8,e]
theorem ld (x:List En)(y:List ByteArray):(gI x y).length<=x.length:=List.length_filter_le _ _
theorem vu (x:List En)(y:List ByteArray):(eV x y).length<=x.length+y.length:=by
 have h1:=ld x y;have h2:=lB y y.length;unfold gI at h1;unfold eV;simp only[List.length_append,List.length_map];omega
theorem C6 {x:List En}(hx:∀e∈x,DR e)(hy:∀p∈y,fw p):∀e∈eV x y,DN e:=fun e he=>by
 rcases ci.1 he with h|⟨p,hp,-,rfl⟩
 ·exact⟨(hx e h.1).at,(hx e h.1).sch⟩
 ·exact⟨hy p hp,.nil⟩
theorem bJ.of_rd {l:List En}(h1:base<=g)(h2:l.length<=c)(h3:c<=maxLen)(h4:w.heap[g]?=some (.cells cur 34 (0,0)))(h5:cur.size=c*3)(h6:GI w g l):bJ w base (.slice (some ⟨g,0,none⟩) l.length c) l:=by
 refine .of h1 h2 h3 h4 h5 (List.ext_getElem? fun j=>?_)
 by_cases hj:j<l.length*3
 ·obtain⟨p,hp⟩:∃p,l[j/3]?=some p:=⟨_,Zd (by omega)⟩;have hc:∀k u,w.cell? ⟨g,k,none⟩=some u->cur.toList[k]?=some u:=fun k u hu=>by
   unfold World.cell? at hu;simp only[h4] at hu;simpa using hu
  obtain⟨k1,k2,k3⟩:=h6 _ _ hp;obtain⟨f1,f2,f3⟩:=gc l _ _ hp;rw[List.getElem?_take,if_pos hj];rcases Fu j with hm|hm|hm
  ·rw[show j=j/3*3 by omega,f1];exact hc _ _ k1
  ·rw[show j=j/3*3+1 by omega,f2];exact hc _ _ k2
  ·rw[show j=j/3*3+2 by omega,f3];exact hc _ _ k3
 ·rw[List.getElem?_eq_none (by simp;omega),List.getElem?_eq_none (by rw[eL];omega)]
theorem uP {f:Value}:Calls Tryz.prog 103 #[.slice none 0 0,.int .i64 0,.int .i64 0,f] w fun e w'=>e =.returned (.tuple #[])/\w=w':=by
 go_enter Tryz.func103,Tryz.ntmps103;go_wp2_with fail
 go_loopg [8] 0 (fun _ s8 wr=>s8 =.int .i64 1/\wr=w)
 case atStart=>exact⟨rfl,rfl⟩
 case round=>
  obtain⟨rfl,rfl⟩:=hrel;go_wp2_with fail;go_end0;exact⟨rfl,rfl⟩
theorem sZ {f:Value}{n:Int}:Calls Tryz.prog 74 #[.slice none 0 0,.int .i64 0,.int .i64 0,.int .i64 n,f] w fun e w'=>e =.returned (.tuple #[])/\w=w':=by
 go_enter Tryz.func74,Tryz.ntmps74;go_wp2_with fail
 go_loopg [1,2] 0 (fun _ s1 s2 wr=>s1 =.int .i64 0/\s2 =.int .i64 0/\wr=w)
 case atStart=>exact⟨rfl,rfl,rfl⟩
 case round=>
  obtain⟨rfl,rfl,rfl⟩:=hrel;go_wp2_with fail;refine uP.mono ?_;rintro e w1 ⟨rfl,rfl⟩;go_wp2_with fail;(try simp only[Exit.inBlock,Exit.then]);refine Zh (results_none rfl ..) rfl ?_;exact⟨rfl,rfl⟩
theorem po {f:Value}:Calls Tryz.prog 45 #[.slice none 0 0,f] w fun e w'=>e =.returned (.tuple #[])/\w=w':=by
 have hl:Calls Tryz.prog 75 #[.int .u64 0] w fun e w'=>e =.returned (.int .i64 (Lib.bitLen 0:Nat))/\w'=w:=by
  have h:=Any.bits_Len (SlLaysF0.n15.bits (P:=Tryz.prog) (ρ:=gK) {nD with}) 0 w (by omega) (by omega);exact h
 have H:=H8 hl;clear hl;go_enter Tryz.func45,Tryz.ntmps45;go_wp2_with fail;refine Za H ?_;rintro e w1 ⟨rfl,rfl⟩;go_wp2_with fail;refine sZ.mono ?_;rintro e w1 ⟨rfl,rfl⟩;go_wp2_with fail;go_end0;exact⟨rfl,rfl⟩
theorem uN:Calls Tryz.prog 47 #[.slice none 0 0] w fun e w'=>e =.returned (.slice none 0 0)/\w=w':=by
 go_enter Tryz.func47,Tryz.ntmps47;go_wp2_with fail;go_ret;exact⟨rfl,rfl⟩
def GD (x:List En)(y:List ByteArray)(w:World)(e:Ending)(w':World):Prop:= ∃v es,e =.returned v/\bF x y es/\bJ w' w.heap.size v es/\Below w.heap.size w w'
theorem xm {x:List En}(hL:fv w)(hx:vv w xv x)(hy:mE w yv y)(c8:∀e∈x,DR e)(b5:∀p∈y,fw p)(h4:x.length<=100000)(g8:y.length<=100000):Calls Tryz.prog 22 #[xv,yv] w (GD x y w):=by
 have c5:=H8 (fun (e:En) (he:e∈x) w1 (hb:Below w.heap.size w w1)=>sg (hL.below hb) (c8 e he).at b5 (hy.below hb));have d6:=H8 (fun (p:ByteArray) (hp:p∈y) (g:Nat) w1 (hb:Below w.heap.size w w1) (hg:w1.cell? ⟨g,0,none⟩=some (.string p))=>mX (w:=w1) (v:=yv) (l:=y) (g:=43) (lb:= #[.pointer (some ⟨g,0,none⟩)]) (p:=fun q=> !decide (q=p)&&cr p q) ug (fun W q hq hW=>Ap (hL.below (ak hb hW)) (b5 p hp) (b5 q hq) (Zg hW hg)) (hy.below hb));simp only[Dk] at d6;obtain⟨-,Ax,cx,rfl,-,-⟩:=id hx;obtain⟨-,Ay,cy,rfl,-,-⟩:=id hy;have f7:=H8 (fun (p:ByteArray) (i:Nat) (hi:i<=y.length) w1 (hb:Below w.heap.size w w1)=>oR (s:=p) ((hy.below hb).take i hi));have Hx:=H8 hx.rd.2;have Hy:=H8 hy.rd.2;have d4:=H8 c8;have f2:=H8 b5;have HL:=H8 hL;clear hL hx hy c8 b5;have e1:∀ (fn:Fn) (first cap:Array Value) (w:World),(Instr.makeFunc fn first cap).run Tryz.prog w =.ok (.func fn first cap) w:=fun _ _ _ _=>rfl
 go_enter Tryz.func22,Tryz.ntmps22;go_wp2_with fail
 go_loopg [5,12] x.length (fun m s5 s12 wr=> ∃i:Nat,m+i=x.length/\s12 =.int .i64 i/\Hid (bJ wr w.heap.size s5 (gI (x.take i) y))/\Hid (Below w.heap.size w wr))
 case atStart=>exact⟨0,rfl,rfl,H8 (bJ.nil _ _),H8 (Ze _ _)⟩
 case round=>
  obtain⟨i,hm,rfl,HE,Hb⟩:=hrel;have Hm:=H8 hm
  by_cases hlt:i<x.length
  ·have a1:(i:Int)<x.length:=by omega
   obtain⟨e,he⟩:∃e,x[i]?=some e:=⟨_,Zd hlt⟩;obtain⟨g,o,rfl,k1,k2,k3⟩:=Hx.out i e he;have c1:=Zg Hb.out k1;have c2:=Zg Hb.out k2;have c3:=Zg Hb.out k3;have a2:=ac wr (.cells #[.string e.eAt,.string e.eSch,.string e.eKw] 34);have c4:=H8 (Zf wr (.cells #[.string e.eAt,.string e.eSch,.string e.eKw] 34));have HC:=H8 (c5.out e (Zk he) _ (ak Hb.out a2));have Hba:=H8 (ak Hb.out a2);have HEa:=H8 (show bJ (wr.alloc (.cells #[.string e.eAt,.string e.eSch,.string e.eKw] 34)) w.heap.size u5 (gI (x.take i) y) from ag HE.out a2 (Zb _));have f9:=H8 (show x.take (i+1)=x.take i ++ [e] by
    obtain⟨h1,h3⟩:=List.getElem?_eq_some_iff.1 he;rw[List.take_succ_eq_append_getElem h1,h3])
   clear a2 he k1 k2 k3 hm;go_wp2_with fail;generalize wr.alloc (.cells #[.string e.eAt,.string e.eSch,.string e.eKw] 34)=wa at *;refine Za HC ?_;rintro r w1 ⟨rfl,a5⟩;have Hb1:=H8 (ak Hba.out a5);have HE1:=H8 (show bJ w1 w.heap.size u5 (gI (x.take i) y) from ag HEa.out a5 (Zb _));have c0:=ai c4.out a5;have b1:=aa c0 (j:=0) (u:=.string e.eAt) rfl;have b2:=aa c0 (j:=1) (u:=.string e.eSch) rfl;have b3:=aa c0 (j:=2) (u:=.string e.eKw) rfl;have Hsn:=H8 (tg (x.take i) y e);rw[<-f9.out] at Hsn;clear a5 c0 c1 c2 c3
   cases hq:dA e.eAt y with
   |true=>
    rw[hq,if_pos rfl,List.append_nil] at Hsn;clear hq;go_wp2_with fail;go_roundg (x.length - (i+1))
    case measure=>have:=Hm.out;omega
    case rel=>exact⟨i+1,by omega,by go_num,H8 (by rw[Hsn.out];exact HE1.out),Hb1⟩
   |false=>
    rw[hq,if_neg (by decide)] at Hsn;clear hq;have d2:=H8 (ar w1 (dh e) 34);have b8:=H8 (show bJ (w1.alloc (.cells #[.string e.eAt,.string e.eSch,.string e.eKw] 34)) w.heap.size u5 (gI (x.take i) y) from ag HE1.out (ac _ _) (Zb _));have a3:=H8 (ak Hb1.out (ac w1 (.cells #[.string e.eAt,.string e.eSch,.string e.eKw] 34)));have c6:=ld (x.take i) y;rw[List.length_take] at c6;have b9:=H8 c6;clear c6;go_wp2_with (at_builtin;refine mb sV b8.out d2.out a3.out.size ?_ (h1:=(by simp[dh,Value.oneCell'])) (hlen:=by have:=b9.out;unfold maxLen;omega) (hby:=by have:=b9.out;omega);intro v' w5 p1 p2 p3;have c7:=H8 p1;have c9:=H8 (aA a3.out b8.out a3.out.size p2);clear p1 p2 p3);go_roundg (x.length - (i+1))
    case measure=>have:=Hm.out;omega
    case rel=>
     refine⟨i+1,by omega,by go_num,H8 ?_,c9⟩;rw[Hsn.out];unfold bJ;rw[<-eO,List.length_append];exact c7.out
  ·have a1:¬ (i:Int)<x.length:=by omega
   obtain rfl:i=x.length:=by have:=Hm.out;omega
   rw[List.take_length] at HE;clear hm;go_wp2_with fail;obtain⟨F,hF⟩:∃F,gI x y=F:=⟨_,rfl⟩;rw[hF] at HE;have HF:=H8 hF;have b9:=H8 (show F.length<=x.length by rw[<-hF];exact ld x y);clear hF Hm hlt a1 e1;have e1:∀ (fn:Fn) (first cap:Array Value) (w:World),(Instr.makeFunc fn first cap).run Tryz.prog w =.ok (.func fn first cap) w:=fun _ _ _ _=>rfl
   go_loopg [5,28] y.length (fun m s5 s28 wr=> ∃i:Nat,m+i=y.length/\s28 =.int .i64 i/\Hid (bJ wr w.heap.size s5 (F++ (d8 y i).map fZ))/\Hid (Below w.heap.size w wr))
   case atStart=>exact⟨0,rfl,rfl,H8 (by simpa [d8] using HE.out),Hb⟩
   case round=>
    clear HE Hb;obtain⟨i,hm,rfl,HE,Hb⟩:=hrel;have Hm:=H8 hm
    by_cases hlt:i<y.length
    ·have a1:(i:Int)<y.length:=by omega
     obtain⟨p,hp⟩:∃p,y[i]?=some p:=⟨_,Zd hlt⟩;obtain⟨g,o,rfl,k1⟩:=Hy.out.2 i p hp;have c1:=Zg Hb.out k1;have a2:=ac wr (.cells #[.string p] 9);have c4:=H8 (Zf wr (.cells #[.string p] 9));have Hba:=H8 (ak Hb.out a2);have HEa:=H8 (show bJ (wr.alloc (.cells #[.string p] 9)) w.heap.size u5 (F++ (d8 y i).map fZ) from ag HE.out a2 (Zb _));have e4:=Zk hp;have Hs:=H8 (Bv hp);have b4:=H8 (d6.out p e4 wr.heap.size);have f6:=H8 (f7.out p i (by omega));have g5:=H8 (lB y i);have g7:(i:Int)<=cy:=by have:=Hy.out.1;omega
     have h6:i<=cy:=by have:=Hy.out.1;omega
     clear a2 hp k1 hm e4;generalize (y.take i).any (fun q=>decide (q=p))=b2 at *;go_wp2_with fail;generalize hwa:wr.alloc (.cells #[.string p] 9)=wa at *;obtain⟨nb,d9⟩:∃nb,wr.heap.size=nb:=⟨_,rfl⟩;rw[d9] at b4 c4 ⊢;have HS:=H8 (fun w' (h:Below wa.heap.size wa w')=>(show Below wa.heap.size wa w'/\w'.cell? ⟨nb,0,none⟩=some (.string p) from⟨h,aa (ai c4.out h) (j:=0) rfl⟩));clear hwa d9
     cases hq:qk y p with
     |false=>
      rw[hq] at b4 Hs;rw[if_neg (by simp)] at Hs;clear hq;refine bp (fun w'=>Hid (Below wa.heap.size wa w')/\w'.cell? ⟨nb,0,none⟩=some (.string p)) ((have h:=HS.out _ (ap (Ze _ _) 1);⟨H8 h.1,h.2⟩)) fun a0=>?_
      refine tH 0 a0 ?_
      try simp only[Act.put,jP,jQ,jR]
      refine rH 1 fun K hK=>?_
      go_simp;refine hK.out _ _ (a0) (fun a0=>?_);clear hK K
      try simp only[Act.put,jP,jQ,jR]
      refine rH 2 fun K hK=>?_
      go_simp;refine(b4.out _ (ak Hba.out a0.1.out) a0.2).mono ?_;rintro r w2 ⟨rfl,a9⟩;refine hK.out _ _ ((have h:=HS.out _ (ak a0.1.out a9);⟨H8 h.1,h.2⟩)) (fun a0=>?_);clear hK K
      try simp only[Act.put,jP,jQ,jR]
      refine tH 3 a0 ?_;refine tH 4 a0 ?_;refine uH 5 a0 ?_;refine uH 6 a0 ?_;refine uH 7 a0 ?_;refine uH 8 a0 ?_
      try simp only[Act.put,jP,jQ,jR]
      refine rH 9 fun K hK=>?_
      go_simp;refine hK.out _ _ (a0) (fun a0=>?_);clear hK K
      try simp only[Act.put,jP,jQ,jR]
      refine uH 10 a0 ?_;refine tH 11 a0 ?_
      try simp only[Act.put,jP,jQ,jR]
      refine wpAnyH_done (by kernel_rfl) (NoPanic.normal ?_) _;have Hh:=H8 a0.1.out;clear a0;go_wp2_with fail;go_roundg (y.length - (i+1))
      case measure=>have:=Hm.out;omega
      case rel=>exact⟨i+1,by omega,by go_num,H8 (by rw[Hs.out];exact ag HEa.out Hh.out (Zb _)),H8 (ak Hba.out Hh.out)⟩
     |true=>
      rw[hq] at b4 Hs;clear hq;refine bp (fun w'=>Hid (Below wa.heap.size wa w')/\w'.cell? ⟨nb,0,none⟩=some (.string p)) ((have h:=HS.out _ (ap (Ze _ _) 1);⟨H8 h.1,h.2⟩)) fun a0=>?_
      refine tH 0 a0 ?_
      try simp only[Act.put,jP,jQ,jR]
      refine rH 1 fun K hK=>?_
      go_simp;refine hK.out _ _ (a0) (fun a0=>?_);clear hK K
      try simp only[Act.put,jP,jQ,jR]
      refine rH 2 fun K hK=>?_
      go_simp;refine(b4.out _ (ak Hba.out a0.1.out) a0.2).mono ?_;rintro r w2 ⟨rfl,a9⟩;refine hK.out _ _ ((have h:=HS.out _ (ak a0.1.out a9);⟨H8 h.1,h.2⟩)) (fun a0=>?_);clear hK K
      try simp only[Act.put,jP,jQ,jR]
      refine tH 3 a0 ?_;refine tH 4 a0 ?_;refine tH 5 a0 ?_;refine tH 6 a0 ?_;refine tH 7 a0 ?_;refine tH 8 a0 ?_
      try simp only[Act.put,jP,jQ,jR]
      refine rH 9 fun K hK=>?_
      go_simp;refine(f6.out _ (ak Hba.out a0.1.out)).mono ?_;rintro r w3 ⟨rfl,rfl⟩;refine hK.out _ _ (a0) (fun a0=>?_);clear hK K
      try simp only[Act.put,jP,jQ,jR]
      refine tH 10 a0 ?_;refine tH 11 a0 ?_
      try simp only[Act.put,jP,jQ,jR]
      refine wpAnyH_done (by kernel_rfl) (NoPanic.normal ?_) _;have Hh:=H8 a0.1.out;have cb:=a0.2;clear a0
      cases b2 with
      |true=>
       rw[if_neg (by simp)] at Hs;go_wp2_with fail;go_roundg (y.length - (i+1))
       case measure=>have:=Hm.out;omega
       case rel=>exact⟨i+1,by omega,by go_num,H8 (by rw[Hs.out];exact ag HEa.out Hh.out (Zb _)),H8 (ak Hba.out Hh.out)⟩
      |false=>
       rw[if_pos (by simp)] at Hs;go_wp2_with fail;refine lY.mono ?_;rintro r w4 ⟨rfl,d0⟩;have g3:=H8 (ak (ak Hba.out Hh.out) d0);have g2:=H8 (show bJ w4 w.heap.size u5 (F++ (d8 y i).map fZ) from ag HEa.out (ak Hh.out d0) (Zb _));have d2:=H8 (ar w4 (dh (fZ p)) 34);have b8:=H8 (show bJ (w4.alloc (.cells #[.string p,.string ⟨#[]⟩,.string ⟨#[120,45,115,101,99,114,101,116]⟩] 34)) w.heap.size u5 (F++ (d8 y i).map fZ) from ag g2.out (ac _ _) (Zb _));have a3:=H8 (ak g3.out (ac w4 (.cells #[.string p,.string ⟨#[]⟩,.string ⟨#[120,45,115,101,99,114,101,116]⟩] 34)));have e2:=H8 (show(F++ (d8 y i).map fZ).length<=200000 by have h1:=b9.out;have h2:=g5.out;simp;omega);clear d0 cb;go_wp2_with (at_builtin;refine mb sV b8.out d2.out a3.out.size ?_ (h1:=(by simp[dh,Value.oneCell'])) (hlen:=by have:=e2.out;unfold maxLen;omega) (hby:=by have:=e2.out;omega);intro v' w5 p1 p2 p3;have c7:=H8 p1;have c9:=H8 (aA a3.out b8.out a3.out.size p2);clear p1 p2 p3);go_roundg (y.length - (i+1))
       case measure=>have:=Hm.out;omega
       case rel=>
        refine⟨i+1,by omega,by go_num,H8 ?_,c9⟩;rw[Hs.out,List.map_append,<-List.append_assoc];unfold bJ
        show World.ownsRow _ _ _ _ _ _ (bk (F++ (d8 y i).map fZ ++ [fZ p]))
        rw[<-eO];have h5:=c7.out;rw[show(F++ (d8 y i).map fZ++List.map fZ [p]).length= (F++ (d8 y i).map fZ).length+1 by simp;omega];exact h5
    ·have a1:¬ (i:Int)<y.length:=by omega
     obtain rfl:i=y.length:=by have:=Hm.out;omega
     have HR:=H8 (show F++ (d8 y y.length).map fZ=eV x y by rw[<-HF.out];rfl);rw[HR.out] at HE;clear hm;go_wp2_with fail;have e0:=H8 (vu x y);have g6:=H8 (C6 d4.out f2.out);rcases(HE.out).2 with ⟨rfl,h0⟩|⟨g,cap,cur,rfl,f4,b0,f5,f3,e6,g1⟩
     ·have Hn:=H8 (List.eq_nil_of_length_eq_zero h0);clear h0;refine po.mono ?_;rintro e w1 ⟨rfl,rfl⟩;go_wp2_with fail;refine uN.mono ?_;rintro e w1 ⟨rfl,rfl⟩;go_wp2_with fail;go_ret;exact⟨_, [],rfl,⟨List.Pairwise.nil,fun e=>by rw[Hn.out]⟩,bJ.nil _ _,Hb.out⟩
     ·have Hg:=H8 (And.intro f4 (And.intro f5 (And.intro f3 (And.intro b0 e6))));have g0:=H8 (pD HE.out g6.out HL.out Hb.out (by have:=e0.out;omega));clear f4 b0 f5 f3 e6 g1;refine Za g0 ?_;rintro e w1 ⟨S,e5,d1,rfl,d5,⟨cur1,d3,cur0,a4,f1⟩,a5⟩;have e3:(eV x y).length=S.length:=d1.length_eq.symm;have f0:bJ w1 w.heap.size (.slice (some ⟨g,0,none⟩) (eV x y).length cap) S:=by
       rw[e3];have h5:=Hg.out;rw[h5.2.2.2.1] at a4;injection a4 with a4
       injection a4 with a4
       exact bJ.of_rd h5.1 (by omega) h5.2.2.1 d3 (by rw[f1,<-a4];exact h5.2.2.2.2) d5
      have HC:=H8 (re f0 (by have:=e0.out;omega));have g4:=H8 (Hb.out.trans a5);have f8:=H8 (bF.of_sort (x:=x) (y:=y) (fun a ha=>by
       rcases ci.1 ha with h|⟨p,hp,-,rfl⟩
       ·exact(d4.out a h.1).1.en.enp
       ·exact(zg (f2.out p hp).1).enp) d1 e5)
      clear e5 d1 d5 d3 a4 f1 a5 f0 e3;go_wp2_with fail;refine Za HC ?_;rintro e w2 ⟨v,rfl,hv,a9⟩;have Hv:=H8 (And.intro hv (g4.out.trans a9));obtain⟨A,q,rfl,-⟩:=af hv;clear hv a9;go_wp2_with fail;go_ret;exact⟨_,_,rfl,f8.out,Hv.out.1,Hv.out.2⟩
theorem zY:¬TW 30:=by rintro(((h|h|h|h)|h|h)|h|h) <;> exact absurd h (by decide)
theorem AJ {t:TypeId}(h:w.heap[g]?=some (.cells #[v] t (0,0))):w.setCell ⟨g,0,none⟩ v=w:=by
 rw[setCell_eq_setRow w g 0 #[v] t (0,0) v h];exact setRow_self w g #[v] t (0,0) h
def ep (w0:World)(Q:Nat->Array Value->Prop)(fb:Nat)(frs:List Fr)(done:Option JV)(w:World):Prop:=(∃bs,j5 w0.heap.size Q w w0.heap.size frs done bs)/\w.heap[fb]?=some (.cells #[.nilIface] 30 (0,0))/\Below w0.heap.size w0 w
section
variable {w0 w w':World}{Q:Nat->Array Value->Prop}{fb:Nat}{frs frs':List Fr}{done done':Option JV}{e:Ending}{aU aE:Addr}
theorem ep.ok (h:ep w0 Q fb frs done w)(k:ET w0.heap.size Q w0.heap.size frs' done' w e w'):e =.returned .nilIface/\ep w0 Q fb frs' done' w'/\bw TW w w':=by
 obtain⟨h1,h2,h3⟩:=k;exact⟨h1,⟨h3,h2.keep.2 fb _ _ _ h.2.1 zY,h.2.2.trans h2.b⟩,h2.keep⟩
theorem ep.below (h:ep w0 Q fb frs done w)(hb:Below w.heap.size w w'):ep w0 Q fb frs done w':=by
 obtain⟨⟨bs,h1⟩,h2,h3⟩:=h;exact⟨⟨bs,h1.below hb⟩,ai h2 hb,h3.trans (hb.mono h3.size)⟩
theorem ep.sub {Q':Nat->Array Value->Prop}(h:ep w0 Q fb frs done w)(hq:∀k cs,Q' k cs->Q k cs):ep w0 Q' fb frs done w:=⟨⟨_,h.1.choose_spec.sub hq⟩,h.2⟩
def FW (Q:Nat->Array Value->Prop)(L:Nat)(cs:Array Value):Nat->Array Value->Prop:=fun k c=>Q k c\/(k=L/\c=cs)
theorem ep.add (h:ep w0 Q fb frs done w)(hb:Below w.heap.size w w')(hL:w.heap.size<=L)(hr:w'.heap[L]?=some (.cells cs 87 (0,0))):ep w0 (FW Q L cs) fb frs done w':=
 ⟨⟨_,h.1.choose_spec.add hb hL hr⟩,(h.below hb).2⟩
theorem ep.lone (h:ep w0 (FW Q L cs) fb frs done w):w.heap[L]?=some (.cells cs 87 (0,0)):=h.1.choose_spec.lone (.inr ⟨rfl,rfl⟩)
theorem ep.low (h:ep w0 Q fb frs done w):Below w0.heap.size w0 w:=h.2.2
def Fb (w0:World)(Q:Nat->Array Value->Prop)(fb:Nat)(frs:List Fr)(done:Option JV)(w:World)(e:Ending)(w':World):Prop:=e =.returned .nilIface/\ep w0 Q fb frs done w'/\bw TW w w'
theorem ep.do (h:ep w0 Q fb frs done w):Calls Tryz.prog 35 #[.nilIface,.pointer (some ⟨fb,0,none⟩)] w fun e w'=>e =.returned (.tuple #[])/\w=w':=by
 have c:=aa h.2.1 (j:=0) rfl;have fz:=aj h.2.1 0;have Hs:=H8 (AJ h.2.1);clear h;go_enter Tryz.func35,Tryz.ntmps35;go_wp2_with fail;rw[Hs.out];go_end0;exact⟨rfl,rfl⟩
theorem ep.open_table (h:ep w0 Q fb frs none w)(ht:vp frs none=true)(hl:frs.length<=1000000000):Calls Tryz.prog 36 #[.pointer (some ⟨w0.heap.size,0,none⟩),.int .u8 123] w (Fb w0 Q fb (⟨true, [], [],none⟩::frs) none w):=
 (rA h.1.choose_spec ht h.2.2.size hl).mono fun _ _ k=>h.ok k
theorem ep.open_row (h:ep w0 Q fb frs none w)(ht:vp frs none=true)(hl:frs.length<=1000000000):Calls Tryz.prog 36 #[.pointer (some ⟨w0.heap.size,0,none⟩),.int .u8 91] w (Fb w0 Q fb (⟨false, [], [],none⟩::frs) none w):=
 (yf h.1.choose_spec ht h.2.2.size hl).mono fun _ _ k=>h.ok k
theorem ep.name {s:ByteArray}(h:ep w0 Q fb (⟨true, [],ms,none⟩::fs) none w)(hG:cd w0 aU aE)(hT:a7 w0 7)(hs:bf s)(a0:s.size<=1000000000)(hn:s∉ms.map Prod.fst)(hl:fs.length<1000000000)(a1:ms.length<=1000000000) :
  Calls Tryz.prog 37 #[.pointer (some ⟨w0.heap.size,0,none⟩),.string s] w (Fb w0 Q fb (⟨true, [],ms,some s⟩::fs) none w):=by
 obtain⟨a,ha⟩:=hT.below h.2.2;refine(xz h.1.choose_spec hs (hG.below h.2.2) a0 ha h.2.2.size hl a1).mono fun e w' k=>?_
 rcases k with ⟨k,-⟩|⟨-,k⟩
 ·exact absurd k hn
 ·exact h.ok k
theorem ep.put (h:ep w0 Q fb frs none w)(ht:vp frs none=true)(hP:dI w0)(hG:cd w0 aU aE){s:ByteArray}(hs:bf s)(a0:s.size<=1000000000)(hl:frs.length<=1000000000)(hi:∀f∈frs,Cf f) :
  Calls Tryz.prog 38 #[.pointer (some ⟨w0.heap.size,0,none⟩),.iface 83 (.string s)] w fun e w'=>Fb w0 Q fb (bt frs (aY s)).frs (bt frs (aY s)).done w e w':=
 (Ac h.1.choose_spec ht (.text s) (hP.below h.2.2) (hG.below h.2.2) (.text s hs) (fY a0) (by
  have:=kQ hs;have e:(aY s).txt=cY s:=by simp[aY,JV.txt]
  show(aY s).txt.length<=_
  rw[e];omega) h.2.2.size hl hi).mono fun _ _ k=>h.ok k
theorem ep.close_row (h:ep w0 Q fb (⟨false,its, [],none⟩::fs) none w)(ht:vp fs none=true)(hl:fs.length<1000000000)(hi:∀f∈fs,Cf f)(hn:its.length<=1000000000) :
  Calls Tryz.prog 39 #[.pointer (some ⟨w0.heap.size,0,none⟩)] w fun e w'=>Fb w0 Q fb (bt fs (cD its)).frs (bt fs (cD its)).done w e w':=
 (uv h.1.choose_spec ht h.2.2.size hl hi hn).mono fun _ _ k=>h.ok k
theorem ep.close_table (h:ep w0 Q fb (⟨true, [],ms,none⟩::fs) none w)(ht:vp fs none=true)(hl:fs.length<1000000000)(hi:∀f∈fs,Cf f)(hn:ms.length<=1000000000)(a0:∀s∈ms.map Prod.fst,ey s)(a1:(ms.map Prod.fst).Nodup) :
  Calls Tryz.prog 39 #[.pointer (some ⟨w0.heap.size,0,none⟩)] w fun e w'=>Fb w0 Q fb (bt fs (fQ (cF ms))).frs (bt fs (fQ (cF ms))).done w e w':=
 (oV h.1.choose_spec ht h.2.2.size hl hi hn a0 a1).mono fun _ _ k=>h.ok k
theorem ep.new (h:w'.heap[w0.heap.size]?=some (.cells #[.slice none 0 0,.nilIface] 130 (0,0)))(hb:Below w0.heap.size w0 w'):ep w0 zL w'.heap.size [] none (w'.alloc (.cells #[.nilIface] 30)):=by
 have hW:j5 w0.heap.size zL w' w0.heap.size [] none []:=⟨none,0,.nilIface, [],h,Zb _,⟨rfl,.inl ⟨rfl,rfl⟩⟩,bY.nil _,rfl,List.nodup_nil,rfl,fun _ _ h=>h.elim⟩;exact⟨⟨_,hW.below (ac _ _)⟩,Zf _ _,ak hb (ac _ _)⟩
end
theorem FV (a b c:JV):cF [(iA,a),(ib,b),(iB,c)] = [(iA,a),(ib,b),(iB,c)]:=by
 have e2:aJ (nm ib) (nm iB) = -1:=rfl;have e1:aJ (nm iA) (nm ib) = -1:=rfl;simp[cF,lJ,e1,e2]
theorem Fp (a b:JV):cF [(mc,a),(mZ,b)] = [(mZ,b),(mc,a)]:=by
 have e1:aJ (nm mc) (nm mZ)=1:=rfl;simp[cF,lJ,e1]
theorem eW {s:ByteArray}(h:bf s)(hs:s.size<=1000000000):ey s:=⟨h,by omega⟩
def eu (e:En):List (ByteArray×ByteArray):= [(iA,e.eAt),(ib,e.eKw),(iB,e.eSch)]
def g9 (l:List (ByteArray×ByteArray)):List (ByteArray×JV):=l.map fun p=>(p.1,aY p.2)
theorem yC (e:En):fQ (cF (g9 (eu e)))=ec e:=by
 show fQ (cF [(iA,aY e.eAt),(ib,aY e.eKw),(iB,aY e.eSch)])=_
 rw[FV];rfl
structure wO (w:World):Prop where
 glob:∃aU aE,cd w aU aE
 twice:a7 w 7
 pow:dI w
theorem wO.below (h:wO w)(hb:Below w.heap.size w w'):wO w':=by
 obtain⟨⟨aU,aE,h1⟩,h2,h3⟩:=h;exact⟨⟨aU,aE,h1.below hb⟩,h2.below hb,h3.below hb⟩
theorem Di {e:En}{p:ByteArray×ByteArray}(h:(eu e)[i]?=some p)(he:fS e)(hb:e.eAt.size<=1000000000/\e.eSch.size<=1000000000) :
  bf p.1/\p.1.size<=1000000000/\bf p.2/\p.2.size<=1000000000/\p.1∉((eu e).take i).map Prod.fst:=by
 obtain⟨n1,n2,n3,-⟩:=bg
 match i,h with
 |0,h=>cases h;exact⟨n1,(by decide:iA.size<=1000000000),he.1.utf,hb.1,by simp⟩
 |1,h=>cases h;exact⟨n2,(by decide:ib.size<=1000000000),he.2.2.2,by have:=he.2.2.1;show e.eKw.size<=_;omega,by simp[eu];decide⟩
 |2,h=>cases h;exact⟨n3,(by decide:iB.size<=1000000000),he.2.1.utf,hb.2,by simp[eu];decide⟩
 |(i+3),h=>simp[eu] at h
