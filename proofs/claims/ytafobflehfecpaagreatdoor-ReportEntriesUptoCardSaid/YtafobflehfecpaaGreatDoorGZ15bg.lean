import Derived.Test.YtafobflehfecpaaGreatDoorGZ15bf
set_option linter.unusedVariables false
set_option linter.unusedSimpArgs false
set_option maxHeartbeats 64000000
set_option maxRecDepth 100000
namespace Go.Proofs.YtafobflehfecpaaGreatDoor
open Go.RowKit Go.Shelf
variable {cs cur:Array Value}{p:ByteArray}{ms:List (ByteArray×JV)}{l y:List ByteArray}{fs:List Fr}{its:List JV}{L base c g i n:Nat}{A:Option Addr}{v xv yv:Value}{w w':World}
theorem nr (hg:w.grownBy w' (some g))(h:base<=g)(hlt:g<w.heap.size):Below base w w':=
 ⟨hg.os,hg.tape,hg.output,hg.size,fun k hk=>hg.block k (by omega) (fun e=>by injection e with e;omega)⟩
theorem bS.drawn {l:List En}(h:bS w base v l)(q:Nat):bS (w.drewN q) base v l:=h
def FG (w:World)(base:Nat)(s:List En)(e:Ending)(w':World):Prop:= ∃v,e =.returned v/\bS w' base v (nU s)/\Below base w w'
theorem qg {s:List En}(h:bS w base (.slice (some ⟨g,0,none⟩) n c) s)(hl:s.length<=1000000):Calls Tryz.prog 51 #[.slice (some ⟨g,0,none⟩) n c] w (FG w base s):=by
 obtain⟨rfl,d6,hc,c6,cur0,a1,-⟩:=h.full;have a9:=ag a1;have H:=Qa h;have b9:=Qa d6;have c5:=Qa a9;have f5:=Qa c6;clear h d6 a1 a9 c6
 by_cases h2:s.length<2
 ·have e6:(s.length:Int)<2:=by omega
  have Hs:=Qa (show nU s=s by
   match s,h2 with
   | [],_=>rfl
   | [x],_=>rfl)
  go_enter Tryz.func51,Tryz.ntmps51;go_wp2_with fail;go_ret;exact⟨_,rfl,by rw[Hs.out];exact H.out,Ze _ _⟩
 ·have e6:¬ (s.length:Int)<2:=by omega
  have Hc1:=Qa (Ed s (by omega));have H2:=Qa h2;clear h2;go_enter Tryz.func51,Tryz.ntmps51;go_wp2_with fail
  go_loopg [3] s.length (fun m s3 wr=> ∃k q:Nat,m+k=s.length+1/\1<=k/\k<=s.length/\s3 =.int .i64 k/\Hid (cu s k=s.take k)/\wr=w.drewN q)
  case atStart=>exact⟨1,0,rfl,Zb _,by have:=H2.out;omega,rfl,Hc1,rfl⟩
  case round=>
   obtain⟨k,q,hm,e0,hkl,rfl,a4,rfl⟩:=hrel;have Hm:=Qa (And.intro hm hkl);clear hm hkl Hc1
   by_cases hlt:k<s.length
   ·have a0:(k:Int)<s.length:=by omega
    obtain⟨x,hx⟩:∃x,s[k]?=some x:=⟨_,Zd hlt⟩;obtain⟨y,hy⟩:∃y,s[k - 1]?=some y:=⟨_,Zd (by omega)⟩;obtain⟨c1,c2,c3⟩:=H.out.rd hx;obtain⟨d1,d2,d3⟩:=H.out.rd hy;have a2:=vI (s:=s) (n:=k - 1) (x:=x) (y:=y) (by rw[show k - 1+1=k by omega];exact hx) hy;rw[show k - 1+2=k+1 by omega,show k - 1+1=k by omega] at a2;have a3:=Qa a2;have Hx:=Qa hx;have b0:(1:Int)<=k:=by omega
    have f6:=Qa e0;clear a2 hx hy
    by_cases hdup:x=y
    ·have heq:∀W,(binOp .eql 40 (.agg #[.string x.eAt,.string x.eSch,.string x.eKw]) (.agg #[.string y.eAt,.string y.eSch,.string y.eKw])).run Tryz.prog W =.ok (.bool true) W:=fun W=>by rw[show(true:Bool)=decide (x=y) from(decide_eq_true hdup).symm];exact tG x y W
     have Hcu2:=Qa (show cu s (k+1)=s.take k by rw[a3.out,if_pos hdup.symm,List.append_nil,a4.out]);clear hdup;go_wp2_with fail;go_quiet (fail);go_wp2_with fail;clear heq c1 c2 c3 d1 d2 d3;have Hb0:=Qa (show Below base w (w.drewN (q+nq)) from ap (Ze _ _) _);have HE0:=Qa (H.out.drawn (q+nq));have Hcu1:=Qa (And.intro a4.out Hcu2.out);clear a3 Hx a4 Hcu2 a0 b0;generalize w.drewN (q+nq)=w1 at *
     go_loopg [3,5] (s.length - k) (fun m s3 s5 wr=> ∃ (i k2:Nat) (M:List En),m+ (k+k2)=s.length+1/\1<=k2/\k+k2<=s.length/\s3 =.int .i64 i/\s5 =.int .i64 k2/\Hid (bS wr base (.slice (some ⟨g,0,none⟩) s.length c) M/\M.length=s.length/\M.take i=cu s (k+k2)/\i<k+k2/\(∀j,k+k2<=j+1->M[j]?=s[j]?)/\Below base w wr))
     case atStart=>exact⟨k,1,s,by omega,Zb _,by omega,rfl,rfl,Qa ⟨HE0.out,rfl,Hcu1.out.2.symm,by omega,fun _ _=>rfl,Hb0.out⟩⟩
     case round=>
      obtain⟨i,k2,M,hm,f1,b5,rfl,rfl,HI⟩:=hrel;clear HE0 Hb0;have Hm2:=Qa (And.intro hm b5);obtain⟨hE,d4,d0,c7,c8,c0⟩:=HI.out;have b4:i<M.length:=by omega
      have f7:(i:Int)<s.length:=by omega
      have f2:(i:Int)<=s.length:=by omega
      have f3:i<=s.length:=by omega
      have f4:(i:Int)<=c:=by omega
      have f9:i<=c:=by omega
      have HE:=Qa hE;have HR:=Qa (And.intro d4 (And.intro d0 (And.intro c7 (And.intro c8 c0))));have d9:=Qa (And.intro c7 b4);clear HI hE d4 d0 c8 c0
      by_cases hlt2:k+k2<s.length
      ·obtain⟨u,hu⟩:∃u,s[k+k2]?=some u:=⟨_,Zd hlt2⟩;obtain⟨v,hv⟩:∃v,s[k+k2 - 1]?=some v:=⟨_,Zd (by omega)⟩;obtain⟨c1,c2,c3⟩:=HE.out.rd (show M[k+k2]?=some u by rw[HR.out.2.2.2.1 _ (by omega)];exact hu);obtain⟨d1,d2,d3⟩:=HE.out.rd (show M[k+k2 - 1]?=some v by rw[HR.out.2.2.2.1 _ (by omega)];exact hv);rw[show(k+k2)*3=k*3+k2*3 by omega] at c1 c2 c3;rw[show(k+k2 - 1)*3=k*3+ (k2 - 1)*3 by omega] at d1 d2 d3;have a2:=vI (s:=s) (n:=k+k2 - 1) (x:=u) (y:=v) (by rw[show k+k2 - 1+1=k+k2 by omega];exact hu) hv;rw[show k+k2 - 1+2=k+ (k2+1) by omega,show k+k2 - 1+1=k+k2 by omega] at a2;have a3:=Qa a2;have a0:(k2:Int)< ((s.length - k:Nat):Int):=by omega
       have e5:(1:Int)<=k2:=by omega
       have g0:=aj (HE.out.full.2.2.2.2.choose_spec.1);clear a2 hu hv hm b5
       by_cases hdup:u=v
       ·have heq:∀W,(binOp .neq 40 (.agg #[.string u.eAt,.string u.eSch,.string u.eKw]) (.agg #[.string v.eAt,.string v.eSch,.string v.eKw])).run Tryz.prog W =.ok (.bool false) W:=fun W=>by rw[show(false:Bool)= !decide (u=v) by rw[decide_eq_true hdup];rfl];exact Bw u v W
        have Hcu2:=Qa (show M.take i=cu s (k+ (k2+1)) by rw[a3.out,if_pos hdup.symm,List.append_nil];exact HR.out.2.1);clear hdup;go_wp2_with fail;go_quiet (fail);go_wp2_with fail;go_roundg (s.length - (k+k2))
        case measure=>have:=Hm2.out;omega
        case rel=>
         have h5:=HR.out;exact⟨i,k2+1,M,by omega,by omega,by omega,rfl,by go_num,Qa ⟨HE.out.drawn _,h5.1,Hcu2.out,by omega,fun j hj=>h5.2.2.2.1 j (by omega),ap h5.2.2.2.2 _⟩⟩
       ·have heq:∀W,(binOp .neq 40 (.agg #[.string u.eAt,.string u.eSch,.string u.eKw]) (.agg #[.string v.eAt,.string v.eSch,.string v.eKw])).run Tryz.prog W =.ok (.bool true) W:=fun W=>by rw[show(true:Bool)= !decide (u=v) by rw[decide_eq_false hdup];rfl];exact Bw u v W
        have Hcu2:=Qa (show M.take i ++ [u]=cu s (k+ (k2+1)) by rw[a3.out,if_neg (fun e=>hdup e.symm),<-HR.out.2.1]);clear hdup;go_wp2_with fail;go_quiet (fail);obtain⟨cur,b2,f0,a5⟩:=(HE.out.drawn nq).put b4 u;have b3:=Qa a5;have b1:=Qa b2;clear a5;go_wp2_with (refine jX b1.out ?_ f0);have e4:=Qa (aB (wr.drewN nq) g (cur.toList.take (i*3)++d7 u++cur.toList.drop (i*3+3)).toArray);go_roundg (s.length - (k+k2))
        case measure=>have:=Hm2.out;omega
        case rel=>
         have h5:=HR.out;have e3:=h5.2.2.2.2.size;have ew:∀A B:List Value,A++Value.string u.eAt::Value.string u.eSch::Value.string u.eKw::B=A++d7 u++B:=fun A B=>by simp[d7]
         simp only[ew];refine⟨i+1,k2+1,M.set i u,by omega,by omega,by omega,by go_num,by go_num,Qa ⟨b3.out,by simpa using h5.1,?_,by omega,fun j hj=>?_,(ap h5.2.2.2.2 nq).trans (nr e4.out b9.out (by have:=c5.out;exact Nat.lt_of_lt_of_le this e3))⟩⟩
         ·rw[<-Hcu2.out,List.take_succ_eq_append_getElem (by simpa using d9.out.2),List.getElem_set_self,List.take_set_of_le (Zb _)]
         ·rw[List.getElem?_set_ne (by omega)];exact h5.2.2.2.1 j (by omega)
      ·have a0:¬ (k2:Int)< ((s.length - k:Nat):Int):=by omega
       have d5:k+k2=s.length:=by omega
       obtain⟨wz,f8,c9,c4⟩:=zU HE.out b4;have Hz:=Qa (And.intro c9 (HR.out.2.2.2.2.trans ((nr c4 b9.out (by have:=HR.out.2.2.2.2.size;have:=c5.out;omega)).mono (Zb _))));have b8:=Qa (show M.take i=nU s by rw[HR.out.2.1,d5,zV]);clear c9 c4 hm b5 d5;go_wp2_with fail;go_ret;exact⟨_,rfl,by rw[<-b8.out];exact Hz.out.1,Hz.out.2⟩
    ·have heq:∀W,(binOp .eql 40 (.agg #[.string x.eAt,.string x.eSch,.string x.eKw]) (.agg #[.string y.eAt,.string y.eSch,.string y.eKw])).run Tryz.prog W =.ok (.bool false) W:=fun W=>by rw[show(false:Bool)=decide (x=y) from(decide_eq_false hdup).symm];exact tG x y W
     have Hcu2:=Qa (show cu s (k+1)=s.take (k+1) by
      obtain⟨h1,h3⟩:=List.getElem?_eq_some_iff.1 Hx.out;rw[a3.out,if_neg (fun e=>hdup e.symm),a4.out,List.take_succ_eq_append_getElem h1,h3])
     clear hdup;go_wp2_with fail;go_quiet (fail);go_wp2_with fail;go_roundg (s.length - k)
     case measure=>have:=Hm.out;omega
     case rel=>exact⟨k+1,_,by omega,by omega,by omega,by go_num,Hcu2,rfl⟩
   ·have a0:¬ (k:Int)<s.length:=by omega
    have Hs:=Qa (show nU s=s by
     have e1:=zV s;have e2:=a4.out;rw[List.take_of_length_le (by omega)] at e2;rw[<-e1];have hle:s.length=k:=by have:=Hm.out;omega
     rw[hle];exact e2)
    go_wp2_with fail;go_ret;exact⟨_,rfl,by rw[Hs.out];exact H.out.drawn _,ap (Ze _ _) _⟩
theorem Db (l:List ByteArray)(p:ByteArray):(l.any fun q=> !decide (q=p)&&bE p q)= !sc l p:=by simp[sc]
theorem uC.rd {l:List En}(h:uC w (.slice A n c) l):n=l.length/\∀ (i:Nat) e,l[i]?=some e->∃g o,A=some ⟨g,o,none⟩/\w.cell? ⟨g,o+i*3,none⟩=some (.string e.eAt)/\w.cell? ⟨g,o+i*3+1,none⟩=some (.string e.eSch)/\w.cell? ⟨g,o+i*3+2,none⟩=some (.string e.eKw):=by
 obtain⟨_,A',c',e,_,h4⟩:=h;obtain⟨rfl,rfl,rfl⟩:=Value.slice.inj e;exact⟨rfl,h4⟩
theorem mo.rd (h:mo w (.slice A n c) l):n=l.length/\l.length<=c/\∀ (i:Nat) e,l[i]?=some e->∃g o,A=some ⟨g,o,none⟩/\w.cell? ⟨g,o+i,none⟩=some (.string e):=by
 obtain⟨_,A',c',e,h3,h4⟩:=h;obtain⟨rfl,rfl,rfl⟩:=Value.slice.inj e;exact⟨rfl,h3,h4⟩
def gS (x:List En)(y:List ByteArray):List En:=x.filter fun b=> !dq b.eAt y
theorem tL (x:List En)(y:List ByteArray)(e:En):gS (x ++ [e]) y=gS x y++if dq e.eAt y then [] else [e]:=by
 unfold gS;rw[List.filter_append]
 congr 1
 cases h:dq e.eAt y <;> simp[h]
theorem yX (hp:y[i]?=some p):d8 y (i+1)=if sc y p&& !(y.take i).any (fun q=>decide (q=p)) then d8 y i ++ [p] else d8 y i:=by
 have e:y.getD i ⟨#[]⟩=p:=by rw[List.getD_eq_getElem?_getD,hp];rfl
 rw[d8,e]
theorem lZ (x:List En)(y:List ByteArray):(gS x y).length<=x.length:=List.length_filter_le _ _
theorem nX (x:List En)(y:List ByteArray):(eA x y).length<=x.length+y.length:=by
 have h1:=lZ x y;have h2:=lx y y.length;unfold gS at h1;unfold eA;simp only[List.length_append,List.length_map];omega
theorem Cw {x:List En}(hx:∀e∈x,DN e)(hy:∀p∈y,eR p):∀e∈eA x y,Be e:=fun e he=>by
 rcases bM.1 he with h|⟨p,hp,-,rfl⟩
 ·exact⟨(hx e h.1).at,(hx e h.1).sch⟩
 ·exact⟨hy p hp,.nil⟩
theorem bS.of_rd {l:List En}(h1:base<=g)(h2:l.length<=c)(h3:c<=maxLen)(h4:w.heap[g]?=some (.cells cur 40 (0,0)))(h5:cur.size=c*3)(h6:GS w g l):bS w base (.slice (some ⟨g,0,none⟩) l.length c) l:=by
 refine .of h1 h2 h3 h4 h5 (List.ext_getElem? fun j=>?_)
 by_cases hj:j<l.length*3
 ·obtain⟨p,hp⟩:∃p,l[j/3]?=some p:=⟨_,Zd (by omega)⟩;have hc:∀k u,w.cell? ⟨g,k,none⟩=some u->cur.toList[k]?=some u:=fun k u hu=>by
   unfold World.cell? at hu;simp only[h4] at hu;simpa using hu
  obtain⟨k1,k2,k3⟩:=h6 _ _ hp;obtain⟨f1,f2,f3⟩:=gq l _ _ hp;rw[List.getElem?_take,if_pos hj];rcases FM j with hm|hm|hm
  ·rw[show j=j/3*3 by omega,f1];exact hc _ _ k1
  ·rw[show j=j/3*3+1 by omega,f2];exact hc _ _ k2
  ·rw[show j=j/3*3+2 by omega,f3];exact hc _ _ k3
 ·rw[List.getElem?_eq_none (by simp;omega),List.getElem?_eq_none (by rw[eD];omega)]
theorem un {f:Value}:Calls Tryz.prog 114 #[.slice none 0 0,.int .i64 0,.int .i64 0,f] w fun e w'=>e =.returned (.tuple #[])/\w=w':=by
 go_enter Tryz.func114,Tryz.ntmps114;go_wp2_with fail
 go_loopg [8] 0 (fun _ s8 wr=>s8 =.int .i64 1/\wr=w)
 case atStart=>exact⟨rfl,rfl⟩
 case round=>
  obtain⟨rfl,rfl⟩:=hrel;go_wp2_with fail;go_end0;exact⟨rfl,rfl⟩
theorem ut {f:Value}{n:Int}:Calls Tryz.prog 84 #[.slice none 0 0,.int .i64 0,.int .i64 0,.int .i64 n,f] w fun e w'=>e =.returned (.tuple #[])/\w=w':=by
 go_enter Tryz.func84,Tryz.ntmps84;go_wp2_with fail
 go_loopg [1,2] 0 (fun _ s1 s2 wr=>s1 =.int .i64 0/\s2 =.int .i64 0/\wr=w)
 case atStart=>exact⟨rfl,rfl,rfl⟩
 case round=>
  obtain⟨rfl,rfl,rfl⟩:=hrel;go_wp2_with fail;refine un.mono ?_;rintro e w1 ⟨rfl,rfl⟩;go_wp2_with fail;(try simp only[Exit.inBlock,Exit.then]);refine Zh (results_none rfl ..) rfl ?_;exact⟨rfl,rfl⟩
theorem qT {f:Value}:Calls Tryz.prog 50 #[.slice none 0 0,f] w fun e w'=>e =.returned (.tuple #[])/\w=w':=by
 have hl:Calls Tryz.prog 85 #[.int .u64 0] w fun e w'=>e =.returned (.int .i64 (Lib.bitLen 0:Nat))/\w'=w:=by
  have h:=Any.bits_Len (SlLaysF0.n15.bits (P:=Tryz.prog) (ρ:=gF) {nO with}) 0 w (by omega) (by omega);exact h
 have H:=Qa hl;clear hl;go_enter Tryz.func50,Tryz.ntmps50;go_wp2_with fail;refine Za H ?_;rintro e w1 ⟨rfl,rfl⟩;go_wp2_with fail;refine ut.mono ?_;rintro e w1 ⟨rfl,rfl⟩;go_wp2_with fail;go_end0;exact⟨rfl,rfl⟩
theorem tT:Calls Tryz.prog 51 #[.slice none 0 0] w fun e w'=>e =.returned (.slice none 0 0)/\w=w':=by
 go_enter Tryz.func51,Tryz.ntmps51;go_wp2_with fail;go_ret;exact⟨rfl,rfl⟩
def Gx (x:List En)(y:List ByteArray)(w:World)(e:Ending)(w':World):Prop:= ∃v es,e =.returned v/\br x y es/\bS w' w.heap.size v es/\Below w.heap.size w w'
theorem xg {x:List En}(hL:fe w)(hx:uC w xv x)(hy:mo w yv y)(c7:∀e∈x,DN e)(b5:∀p∈y,eR p)(g8:x.length<=100000)(h4:y.length<=100000):Calls Tryz.prog 24 #[xv,yv] w (Gx x y w):=by
 have c8:=Qa (fun (e:En) (he:e∈x) w1 (hb:Below w.heap.size w w1)=>qX (hL.below hb) (c7 e he).at b5 (hy.below hb));have e6:=Qa (fun (p:ByteArray) (hp:p∈y) (g:Nat) w1 (hb:Below w.heap.size w w1) (hg:w1.cell? ⟨g,0,none⟩=some (.string p))=>mO (w:=w1) (v:=yv) (l:=y) (g:=48) (lb:= #[.pointer (some ⟨g,0,none⟩)]) (p:=fun q=> !decide (q=p)&&bE p q) uJ (fun W q hq hW=>Bp (hL.below (ak hb hW)) (b5 p hp) (b5 q hq) (Zg hW hg)) (hy.below hb));simp only[Db] at e6;obtain⟨-,Ax,cx,rfl,-,-⟩:=id hx;obtain⟨-,Ay,cy,rfl,-,-⟩:=id hy;have g6:=Qa (fun (p:ByteArray) (i:Nat) (hi:i<=y.length) w1 (hb:Below w.heap.size w w1)=>oV (s:=p) ((hy.below hb).take i hi));have Hx:=Qa hx.rd.2;have Hy:=Qa hy.rd.2;have d9:=Qa c7;have f5:=Qa b5;have HL:=Qa hL;clear hL hx hy c7 b5;have d5:∀ (fn:Fn) (first cap:Array Value) (w:World),(Instr.makeFunc fn first cap).run Tryz.prog w =.ok (.func fn first cap) w:=fun _ _ _ _=>rfl
 go_enter Tryz.func24,Tryz.ntmps24;go_wp2_with fail
 go_loopg [5,12] x.length (fun m s5 s12 wr=> ∃i:Nat,m+i=x.length/\s12 =.int .i64 i/\Hid (bS wr w.heap.size s5 (gS (x.take i) y))/\Hid (Below w.heap.size w wr))
 case atStart=>exact⟨0,rfl,rfl,Qa (bS.nil _ _),Qa (Ze _ _)⟩
 case round=>
  obtain⟨i,hm,rfl,HE,Hb⟩:=hrel;have Hm:=Qa hm
  by_cases hlt:i<x.length
  ·have a1:(i:Int)<x.length:=by omega
   obtain⟨e,he⟩:∃e,x[i]?=some e:=⟨_,Zd hlt⟩;obtain⟨g,o,rfl,k1,k2,k3⟩:=Hx.out i e he;have c1:=Zg Hb.out k1;have c2:=Zg Hb.out k2;have c3:=Zg Hb.out k3;have a2:=ac wr (.cells #[.string e.eAt,.string e.eSch,.string e.eKw] 40);have c4:=Qa (Zf wr (.cells #[.string e.eAt,.string e.eSch,.string e.eKw] 40));have HC:=Qa (c8.out e (Zk he) _ (ak Hb.out a2));have Hba:=Qa (ak Hb.out a2);have HEa:=Qa (show bS (wr.alloc (.cells #[.string e.eAt,.string e.eSch,.string e.eKw] 40)) w.heap.size u5 (gS (x.take i) y) from ai HE.out a2 (Zb _));have f7:=Qa (show x.take (i+1)=x.take i ++ [e] by
    obtain⟨h1,h3⟩:=List.getElem?_eq_some_iff.1 he;rw[List.take_succ_eq_append_getElem h1,h3])
   clear a2 he k1 k2 k3 hm;go_wp2_with fail;generalize wr.alloc (.cells #[.string e.eAt,.string e.eSch,.string e.eKw] 40)=wa at *;refine Za HC ?_;rintro r w1 ⟨rfl,a4⟩;have Hb1:=Qa (ak Hba.out a4);have HE1:=Qa (show bS w1 w.heap.size u5 (gS (x.take i) y) from ai HEa.out a4 (Zb _));have b9:=ah c4.out a4;have b1:=aa b9 (j:=0) (u:=.string e.eAt) rfl;have b2:=aa b9 (j:=1) (u:=.string e.eSch) rfl;have b3:=aa b9 (j:=2) (u:=.string e.eKw) rfl;have Hsn:=Qa (tL (x.take i) y e);rw[<-f7.out] at Hsn;clear a4 b9 c1 c2 c3
   cases hq:dq e.eAt y with
   |true=>
    rw[hq,if_pos rfl,List.append_nil] at Hsn;clear hq;go_wp2_with fail;go_roundg (x.length - (i+1))
    case measure=>have:=Hm.out;omega
    case rel=>exact⟨i+1,by omega,by go_num,Qa (by rw[Hsn.out];exact HE1.out),Hb1⟩
   |false=>
    rw[hq,if_neg (by decide)] at Hsn;clear hq;have c6:=Qa (av w1 (d7 e) 40);have b8:=Qa (show bS (w1.alloc (.cells #[.string e.eAt,.string e.eSch,.string e.eKw] 40)) w.heap.size u5 (gS (x.take i) y) from ai HE1.out (ac _ _) (Zb _));have a3:=Qa (ak Hb1.out (ac w1 (.cells #[.string e.eAt,.string e.eSch,.string e.eKw] 40)));have d2:=lZ (x.take i) y;rw[List.length_take] at d2;have c0:=Qa d2;clear d2;go_wp2_with (at_builtin;refine kC ye b8.out c6.out a3.out.size ?_ (h1:=(by simp[d7,Value.oneCell'])) (hlen:=by have:=c0.out;unfold maxLen;omega) (hby:=by have:=c0.out;omega);intro v' w5 p1 p2 p3;have d0:=Qa p1;have c5:=Qa (aJ a3.out b8.out a3.out.size p2);clear p1 p2 p3);go_roundg (x.length - (i+1))
    case measure=>have:=Hm.out;omega
    case rel=>
     refine⟨i+1,by omega,by go_num,Qa ?_,c5⟩;rw[Hsn.out];unfold bS;rw[<-dW,List.length_append];exact d0.out
  ·have a1:¬ (i:Int)<x.length:=by omega
   obtain rfl:i=x.length:=by have:=Hm.out;omega
   rw[List.take_length] at HE;clear hm;go_wp2_with fail;obtain⟨F,hF⟩:∃F,gS x y=F:=⟨_,rfl⟩;rw[hF] at HE;have HF:=Qa hF;have c0:=Qa (show F.length<=x.length by rw[<-hF];exact lZ x y);clear hF Hm hlt a1 d5;have d5:∀ (fn:Fn) (first cap:Array Value) (w:World),(Instr.makeFunc fn first cap).run Tryz.prog w =.ok (.func fn first cap) w:=fun _ _ _ _=>rfl
   go_loopg [5,28] y.length (fun m s5 s28 wr=> ∃i:Nat,m+i=y.length/\s28 =.int .i64 i/\Hid (bS wr w.heap.size s5 (F++ (d8 y i).map fC))/\Hid (Below w.heap.size w wr))
   case atStart=>exact⟨0,rfl,rfl,Qa (by simpa [d8] using HE.out),Hb⟩
   case round=>
    clear HE Hb;obtain⟨i,hm,rfl,HE,Hb⟩:=hrel;have Hm:=Qa hm
    by_cases hlt:i<y.length
    ·have a1:(i:Int)<y.length:=by omega
     obtain⟨p,hp⟩:∃p,y[i]?=some p:=⟨_,Zd hlt⟩;obtain⟨g,o,rfl,k1⟩:=Hy.out.2 i p hp;have c1:=Zg Hb.out k1;have a2:=ac wr (.cells #[.string p] 9);have c4:=Qa (Zf wr (.cells #[.string p] 9));have Hba:=Qa (ak Hb.out a2);have HEa:=Qa (show bS (wr.alloc (.cells #[.string p] 9)) w.heap.size u5 (F++ (d8 y i).map fC) from ai HE.out a2 (Zb _));have e2:=Zk hp;have Hs:=Qa (yX hp);have b4:=Qa (e6.out p e2 wr.heap.size);have g2:=Qa (g6.out p i (by omega));have g3:=Qa (lx y i);have g7:(i:Int)<=cy:=by have:=Hy.out.1;omega
     have h6:i<=cy:=by have:=Hy.out.1;omega
     clear a2 hp k1 hm e2;generalize (y.take i).any (fun q=>decide (q=p))=b2 at *;go_wp2_with fail;generalize hwa:wr.alloc (.cells #[.string p] 9)=wa at *;obtain⟨nb,f0⟩:∃nb,wr.heap.size=nb:=⟨_,rfl⟩;rw[f0] at b4 c4 ⊢;have HS:=Qa (fun w' (h:Below wa.heap.size wa w')=>(show Below wa.heap.size wa w'/\w'.cell? ⟨nb,0,none⟩=some (.string p) from⟨h,aa (ah c4.out h) (j:=0) rfl⟩));clear hwa f0
     cases hq:sc y p with
     |false=>
      rw[hq] at b4 Hs;rw[if_neg (by simp)] at Hs;clear hq;refine bm (fun w'=>Hid (Below wa.heap.size wa w')/\w'.cell? ⟨nb,0,none⟩=some (.string p)) ((have h:=HS.out _ (ap (Ze _ _) 1);⟨Qa h.1,h.2⟩)) fun a0=>?_
      refine tH 0 a0 ?_
      try simp only[Act.put,jP,jQ,jR]
      refine rH 1 fun K hK=>?_
      go_simp;refine hK.out _ _ (a0) (fun a0=>?_);clear hK K
      try simp only[Act.put,jP,jQ,jR]
      refine rH 2 fun K hK=>?_
      go_simp;refine(b4.out _ (ak Hba.out a0.1.out) a0.2).mono ?_;rintro r w2 ⟨rfl,a9⟩;refine hK.out _ _ ((have h:=HS.out _ (ak a0.1.out a9);⟨Qa h.1,h.2⟩)) (fun a0=>?_);clear hK K
      try simp only[Act.put,jP,jQ,jR]
      refine tH 3 a0 ?_;refine tH 4 a0 ?_;refine uH 5 a0 ?_;refine uH 6 a0 ?_;refine uH 7 a0 ?_;refine uH 8 a0 ?_
      try simp only[Act.put,jP,jQ,jR]
      refine rH 9 fun K hK=>?_
      go_simp;refine hK.out _ _ (a0) (fun a0=>?_);clear hK K
      try simp only[Act.put,jP,jQ,jR]
      refine uH 10 a0 ?_;refine tH 11 a0 ?_
      try simp only[Act.put,jP,jQ,jR]
      refine wpAnyH_done (by kernel_rfl) (NoPanic.normal ?_) _;have Hh:=Qa a0.1.out;clear a0;go_wp2_with fail;go_roundg (y.length - (i+1))
      case measure=>have:=Hm.out;omega
      case rel=>exact⟨i+1,by omega,by go_num,Qa (by rw[Hs.out];exact ai HEa.out Hh.out (Zb _)),Qa (ak Hba.out Hh.out)⟩
     |true=>
      rw[hq] at b4 Hs;clear hq;refine bm (fun w'=>Hid (Below wa.heap.size wa w')/\w'.cell? ⟨nb,0,none⟩=some (.string p)) ((have h:=HS.out _ (ap (Ze _ _) 1);⟨Qa h.1,h.2⟩)) fun a0=>?_
      refine tH 0 a0 ?_
      try simp only[Act.put,jP,jQ,jR]
      refine rH 1 fun K hK=>?_
      go_simp;refine hK.out _ _ (a0) (fun a0=>?_);clear hK K
      try simp only[Act.put,jP,jQ,jR]
      refine rH 2 fun K hK=>?_
      go_simp;refine(b4.out _ (ak Hba.out a0.1.out) a0.2).mono ?_;rintro r w2 ⟨rfl,a9⟩;refine hK.out _ _ ((have h:=HS.out _ (ak a0.1.out a9);⟨Qa h.1,h.2⟩)) (fun a0=>?_);clear hK K
      try simp only[Act.put,jP,jQ,jR]
      refine tH 3 a0 ?_;refine tH 4 a0 ?_;refine tH 5 a0 ?_;refine tH 6 a0 ?_;refine tH 7 a0 ?_;refine tH 8 a0 ?_
      try simp only[Act.put,jP,jQ,jR]
      refine rH 9 fun K hK=>?_
      go_simp;refine(g2.out _ (ak Hba.out a0.1.out)).mono ?_;rintro r w3 ⟨rfl,rfl⟩;refine hK.out _ _ (a0) (fun a0=>?_);clear hK K
      try simp only[Act.put,jP,jQ,jR]
      refine tH 10 a0 ?_;refine tH 11 a0 ?_
      try simp only[Act.put,jP,jQ,jR]
      refine wpAnyH_done (by kernel_rfl) (NoPanic.normal ?_) _;have Hh:=Qa a0.1.out;have cb:=a0.2;clear a0
      cases b2 with
      |true=>
       rw[if_neg (by simp)] at Hs;go_wp2_with fail;go_roundg (y.length - (i+1))
       case measure=>have:=Hm.out;omega
       case rel=>exact⟨i+1,by omega,by go_num,Qa (by rw[Hs.out];exact ai HEa.out Hh.out (Zb _)),Qa (ak Hba.out Hh.out)⟩
      |false=>
       rw[if_pos (by simp)] at Hs;go_wp2_with fail;refine kV.mono ?_;rintro r w4 ⟨rfl,c9⟩;have g0:=Qa (ak (ak Hba.out Hh.out) c9);have g5:=Qa (show bS w4 w.heap.size u5 (F++ (d8 y i).map fC) from ai HEa.out (ak Hh.out c9) (Zb _));have c6:=Qa (av w4 (d7 (fC p)) 40);have b8:=Qa (show bS (w4.alloc (.cells #[.string p,.string ⟨#[]⟩,.string ⟨#[120,45,115,101,99,114,101,116]⟩] 40)) w.heap.size u5 (F++ (d8 y i).map fC) from ai g5.out (ac _ _) (Zb _));have a3:=Qa (ak g0.out (ac w4 (.cells #[.string p,.string ⟨#[]⟩,.string ⟨#[120,45,115,101,99,114,101,116]⟩] 40)));have e4:=Qa (show(F++ (d8 y i).map fC).length<=200000 by have h1:=c0.out;have h2:=g3.out;simp;omega);clear c9 cb;go_wp2_with (at_builtin;refine kC ye b8.out c6.out a3.out.size ?_ (h1:=(by simp[d7,Value.oneCell'])) (hlen:=by have:=e4.out;unfold maxLen;omega) (hby:=by have:=e4.out;omega);intro v' w5 p1 p2 p3;have d0:=Qa p1;have c5:=Qa (aJ a3.out b8.out a3.out.size p2);clear p1 p2 p3);go_roundg (y.length - (i+1))
       case measure=>have:=Hm.out;omega
       case rel=>
        refine⟨i+1,by omega,by go_num,Qa ?_,c5⟩;rw[Hs.out,List.map_append,<-List.append_assoc];unfold bS
        show World.ownsRow _ _ _ _ _ _ (bw (F++ (d8 y i).map fC ++ [fC p]))
        rw[<-dW];have h5:=d0.out;rw[show(F++ (d8 y i).map fC++List.map fC [p]).length= (F++ (d8 y i).map fC).length+1 by simp;omega];exact h5
    ·have a1:¬ (i:Int)<y.length:=by omega
     obtain rfl:i=y.length:=by have:=Hm.out;omega
     have HR:=Qa (show F++ (d8 y y.length).map fC=eA x y by rw[<-HF.out];rfl);rw[HR.out] at HE;clear hm;go_wp2_with fail;have f4:=Qa (nX x y);have f6:=Qa (Cw d9.out f5.out);rcases(HE.out).2 with ⟨rfl,h0⟩|⟨g,cap,cur,rfl,e1,b0,d3,d4,e5,g1⟩
     ·have Hn:=Qa (List.eq_nil_of_length_eq_zero h0);clear h0;refine qT.mono ?_;rintro e w1 ⟨rfl,rfl⟩;go_wp2_with fail;refine tT.mono ?_;rintro e w1 ⟨rfl,rfl⟩;go_wp2_with fail;go_ret;exact⟨_, [],rfl,⟨List.Pairwise.nil,fun e=>by rw[Hn.out]⟩,bS.nil _ _,Hb.out⟩
     ·have Hg:=Qa (And.intro e1 (And.intro d3 (And.intro d4 (And.intro b0 e5))));have g4:=Qa (sa HE.out f6.out HL.out Hb.out (by have:=f4.out;omega));clear e1 b0 d3 d4 e5 g1;refine Za g4 ?_;rintro e w1 ⟨S,d6,d1,rfl,f2,⟨cur1,e3,cur0,a5,e0⟩,a4⟩;have f1:(eA x y).length=S.length:=d1.length_eq.symm;have f3:bS w1 w.heap.size (.slice (some ⟨g,0,none⟩) (eA x y).length cap) S:=by
       rw[f1];have h5:=Hg.out;rw[h5.2.2.2.1] at a5;injection a5 with a5
       injection a5 with a5
       exact bS.of_rd h5.1 (by omega) h5.2.2.1 e3 (by rw[e0,<-a5];exact h5.2.2.2.2) f2
      have HC:=Qa (qg f3 (by have:=f4.out;omega));have f9:=Qa (Hb.out.trans a4);have f8:=Qa (br.of_sort (x:=x) (y:=y) (fun a ha=>by
       rcases bM.1 ha with h|⟨p,hp,-,rfl⟩
       ·exact(d9.out a h.1).1.en.enp
       ·exact(Bc (f5.out p hp).1).enp) d1 d6)
      clear d6 d1 f2 e3 a5 e0 a4 f3 f1;go_wp2_with fail;refine Za HC ?_;rintro e w2 ⟨v,rfl,hv,a9⟩;have Hv:=Qa (And.intro hv (f9.out.trans a9));obtain⟨A,q,rfl,-⟩:=af hv;clear hv a9;go_wp2_with fail;go_ret;exact⟨_,_,rfl,f8.out,Hv.out.1,Hv.out.2⟩
theorem Ar:¬TW 30:=by rintro(((h|h|h|h)|h|h)|h|h) <;> exact absurd h (by decide)
theorem Au {t:TypeId}(h:w.heap[g]?=some (.cells #[v] t (0,0))):w.setCell ⟨g,0,none⟩ v=w:=by
 rw[setCell_eq_setRow w g 0 #[v] t (0,0) v h];exact setRow_self w g #[v] t (0,0) h
def ev (w0:World)(Q:Nat->Array Value->Prop)(fb:Nat)(frs:List Fr)(done:Option JV)(w:World):Prop:=(∃bs,kf w0.heap.size Q w w0.heap.size frs done bs)/\w.heap[fb]?=some (.cells #[.nilIface] 30 (0,0))/\Below w0.heap.size w0 w
section
variable {w0 w w':World}{Q:Nat->Array Value->Prop}{fb:Nat}{frs frs':List Fr}{done done':Option JV}{e:Ending}{aU aE:Addr}
theorem ev.ok (h:ev w0 Q fb frs done w)(k:EU w0.heap.size Q w0.heap.size frs' done' w e w'):e =.returned .nilIface/\ev w0 Q fb frs' done' w'/\bz TW w w':=by
 obtain⟨h1,h2,h3⟩:=k;exact⟨h1,⟨h3,h2.keep.2 fb _ _ _ h.2.1 Ar,h.2.2.trans h2.b⟩,h2.keep⟩
theorem ev.below (h:ev w0 Q fb frs done w)(hb:Below w.heap.size w w'):ev w0 Q fb frs done w':=by
 obtain⟨⟨bs,h1⟩,h2,h3⟩:=h;exact⟨⟨bs,h1.below hb⟩,ah h2 hb,h3.trans (hb.mono h3.size)⟩
theorem ev.sub {Q':Nat->Array Value->Prop}(h:ev w0 Q fb frs done w)(hq:∀k cs,Q' k cs->Q k cs):ev w0 Q' fb frs done w:=⟨⟨_,h.1.choose_spec.sub hq⟩,h.2⟩
def F7 (Q:Nat->Array Value->Prop)(L:Nat)(cs:Array Value):Nat->Array Value->Prop:=fun k c=>Q k c\/(k=L/\c=cs)
theorem ev.add (h:ev w0 Q fb frs done w)(hb:Below w.heap.size w w')(hL:w.heap.size<=L)(hr:w'.heap[L]?=some (.cells cs 88 (0,0))):ev w0 (F7 Q L cs) fb frs done w':=
 ⟨⟨_,h.1.choose_spec.add hb hL hr⟩,(h.below hb).2⟩
theorem ev.lone (h:ev w0 (F7 Q L cs) fb frs done w):w.heap[L]?=some (.cells cs 88 (0,0)):=h.1.choose_spec.lone (.inr ⟨rfl,rfl⟩)
theorem ev.low (h:ev w0 Q fb frs done w):Below w0.heap.size w0 w:=h.2.2
def Fm (w0:World)(Q:Nat->Array Value->Prop)(fb:Nat)(frs:List Fr)(done:Option JV)(w:World)(e:Ending)(w':World):Prop:=e =.returned .nilIface/\ev w0 Q fb frs done w'/\bz TW w w'
theorem ev.do (h:ev w0 Q fb frs done w):Calls Tryz.prog 40 #[.nilIface,.pointer (some ⟨fb,0,none⟩)] w fun e w'=>e =.returned (.tuple #[])/\w=w':=by
 have c:=aa h.2.1 (j:=0) rfl;have fz:=aj h.2.1 0;have Hs:=Qa (Au h.2.1);clear h;go_enter Tryz.func40,Tryz.ntmps40;go_wp2_with fail;rw[Hs.out];go_end0;exact⟨rfl,rfl⟩
theorem ev.open_table (h:ev w0 Q fb frs none w)(ht:vC frs none=true)(hl:frs.length<=1000000000):Calls Tryz.prog 41 #[.pointer (some ⟨w0.heap.size,0,none⟩),.int .u8 123] w (Fm w0 Q fb (⟨true, [], [],none⟩::frs) none w):=
 (sk h.1.choose_spec ht h.2.2.size hl).mono fun _ _ k=>h.ok k
theorem ev.open_row (h:ev w0 Q fb frs none w)(ht:vC frs none=true)(hl:frs.length<=1000000000):Calls Tryz.prog 41 #[.pointer (some ⟨w0.heap.size,0,none⟩),.int .u8 91] w (Fm w0 Q fb (⟨false, [], [],none⟩::frs) none w):=
 (xF h.1.choose_spec ht h.2.2.size hl).mono fun _ _ k=>h.ok k
theorem ev.name {s:ByteArray}(h:ev w0 Q fb (⟨true, [],ms,none⟩::fs) none w)(hG:cf w0 aU aE)(hT:a6 w0 8)(hs:bf s)(a1:s.size<=1000000000)(hn:s∉ms.map Prod.fst)(hl:fs.length<1000000000)(a0:ms.length<=1000000000) :
  Calls Tryz.prog 42 #[.pointer (some ⟨w0.heap.size,0,none⟩),.string s] w (Fm w0 Q fb (⟨true, [],ms,some s⟩::fs) none w):=by
 obtain⟨a,ha⟩:=hT.below h.2.2;refine(xZ h.1.choose_spec hs (hG.below h.2.2) a1 ha h.2.2.size hl a0).mono fun e w' k=>?_
 rcases k with ⟨k,-⟩|⟨-,k⟩
 ·exact absurd k hn
 ·exact h.ok k
theorem ev.put (h:ev w0 Q fb frs none w)(ht:vC frs none=true)(hP:dE w0)(hG:cf w0 aU aE){s:ByteArray}(hs:bf s)(a0:s.size<=1000000000)(hl:frs.length<=1000000000)(hi:∀f∈frs,CG f) :
  Calls Tryz.prog 43 #[.pointer (some ⟨w0.heap.size,0,none⟩),.iface 86 (.string s)] w fun e w'=>Fm w0 Q fb (bu frs (aY s)).frs (bu frs (aY s)).done w e w':=
 (zu h.1.choose_spec ht (.text s) (hP.below h.2.2) (hG.below h.2.2) (.text s hs) (fV a0) (by
  have:=kS hs;have e:(aY s).txt=cY s:=by simp[aY,JV.txt]
  show(aY s).txt.length<=_
  rw[e];omega) h.2.2.size hl hi).mono fun _ _ k=>h.ok k
theorem ev.close_row (h:ev w0 Q fb (⟨false,its, [],none⟩::fs) none w)(ht:vC fs none=true)(hl:fs.length<1000000000)(hi:∀f∈fs,CG f)(hn:its.length<=1000000000) :
  Calls Tryz.prog 44 #[.pointer (some ⟨w0.heap.size,0,none⟩)] w fun e w'=>Fm w0 Q fb (bu fs (cD its)).frs (bu fs (cD its)).done w e w':=
 (uq h.1.choose_spec ht h.2.2.size hl hi hn).mono fun _ _ k=>h.ok k
theorem ev.close_table (h:ev w0 Q fb (⟨true, [],ms,none⟩::fs) none w)(ht:vC fs none=true)(hl:fs.length<1000000000)(hi:∀f∈fs,CG f)(hn:ms.length<=1000000000)(a1:∀s∈ms.map Prod.fst,eC s)(a0:(ms.map Prod.fst).Nodup) :
  Calls Tryz.prog 44 #[.pointer (some ⟨w0.heap.size,0,none⟩)] w fun e w'=>Fm w0 Q fb (bu fs (fU (cF ms))).frs (bu fs (fU (cF ms))).done w e w':=
 (oX h.1.choose_spec ht h.2.2.size hl hi hn a1 a0).mono fun _ _ k=>h.ok k
theorem ev.new (h:w'.heap[w0.heap.size]?=some (.cells #[.slice none 0 0,.nilIface] 144 (0,0)))(hb:Below w0.heap.size w0 w'):ev w0 Aj w'.heap.size [] none (w'.alloc (.cells #[.nilIface] 30)):=by
 have hW:kf w0.heap.size Aj w' w0.heap.size [] none []:=⟨none,0,.nilIface, [],h,Zb _,⟨rfl,.inl ⟨rfl,rfl⟩⟩,cd.nil _,rfl,List.nodup_nil,rfl,fun _ _ h=>h.elim⟩;exact⟨⟨_,hW.below (ac _ _)⟩,Zf _ _,ak hb (ac _ _)⟩
end
theorem FJ (a b c:JV):cF [(iC,a),(ij,b),(iD,c)] = [(iC,a),(ij,b),(iD,c)]:=by
 have e2:aI (nm ij) (nm iD) = -1:=rfl;have e1:aI (nm iC) (nm ij) = -1:=rfl;simp[cF,lG,e1,e2]
theorem F8 (a b:JV):cF [(mh,a),(nh,b)] = [(nh,b),(mh,a)]:=by
 have e1:aI (nm mh) (nm nh)=1:=rfl;simp[cF,lG,e1]
theorem eS {s:ByteArray}(h:bf s)(hs:s.size<=1000000000):eC s:=⟨h,by omega⟩
def ep (e:En):List (ByteArray×ByteArray):= [(iC,e.eAt),(ij,e.eKw),(iD,e.eSch)]
def gX (l:List (ByteArray×ByteArray)):List (ByteArray×JV):=l.map fun p=>(p.1,aY p.2)
theorem BP (e:En):fU (cF (gX (ep e)))=ee e:=by
 show fU (cF [(iC,aY e.eAt),(ij,aY e.eKw),(iD,aY e.eSch)])=_
 rw[FJ];rfl
structure wR (w:World):Prop where
 glob:∃aU aE,cf w aU aE
 twice:a6 w 8
 pow:dE w
theorem wR.below (h:wR w)(hb:Below w.heap.size w w'):wR w':=by
 obtain⟨⟨aU,aE,h1⟩,h2,h3⟩:=h;exact⟨⟨aU,aE,h1.below hb⟩,h2.below hb,h3.below hb⟩
theorem Da {e:En}{p:ByteArray×ByteArray}(h:(ep e)[i]?=some p)(he:ff e)(hb:e.eAt.size<=1000000000/\e.eSch.size<=1000000000) :
  bf p.1/\p.1.size<=1000000000/\bf p.2/\p.2.size<=1000000000/\p.1∉((ep e).take i).map Prod.fst:=by
 obtain⟨n1,n2,n3,-⟩:=bg
 match i,h with
 |0,h=>cases h;exact⟨n1,(by decide:iC.size<=1000000000),he.1.utf,hb.1,by simp⟩
 |1,h=>cases h;exact⟨n2,(by decide:ij.size<=1000000000),he.2.2.2,by have:=he.2.2.1;show e.eKw.size<=_;omega,by simp[ep];decide⟩
 |2,h=>cases h;exact⟨n3,(by decide:iD.size<=1000000000),he.2.1.utf,hb.2,by simp[ep];decide⟩
 |(i+3),h=>simp[ep] at h
