import Derived.Test.YtgkkffeagolnpaaGreatDoorGZ16am
import Derived.Laws.EntriesVeiled
import Derived.Test.YtgkkffeagolnpaaGreatDoorGZ16af
import Derived.Shelf.Strings.Replace
set_option linter.unusedVariables false
set_option linter.unusedSimpArgs false
set_option maxHeartbeats 64000000
set_option maxRecDepth 100000
namespace Go.Proofs.YtgkkffeagolnpaaGreatDoor
open Go.RowKit Go.Shelf
variable {aE aU:Addr}{l:List ByteArray}{xs:List UInt8}{i p:Nat}{t0 t1 t2:TypeId}{v x0 x1 x2:Value}{w w' w2:World}
theorem ux (a:Addr)(W:World):(Instr.typeAssert (.iface 122 (.pointer (some a))) 20 122 true).run Tryz.prog W =.ok (.tuple #[.pointer (some a),.bool true]) W:=by kernel_rfl
theorem lz (a:Addr)(w:World):Calls Tryz.prog 216 #[.iface 122 (.pointer (some a))] w fun e w'=>e =.returned (.iface 122 (.pointer (some a)))/\w=w':=by
 go_enter Tryz.func216,Tryz.ntmps216;have q:=ux a w;go_wp2_with fail;go_ret;exact⟨rfl,rfl⟩
theorem BW (p q r:Value)(w:World):CallsD Tryz.prog 215 #[p,q,r] .returning w fun e u' w'=>e =.returned (.tuple #[])/\u' =.returning/\w'=w:=by
 refine callsD_of_wpS Tryz.func215 rfl fun c₀ cs hu=>?_
 apply wpS_seq
 apply wpS_region
 simp[wpOpsS,go_sem,recoverD,hu,Tryz.ntmps215,Exit.thenS];apply wpS_seq;apply wpS_region;simp[wpOpsS,go_sem,Exit.thenS];refine wpS_cond (t:=false) (by simp[Act.eval,Array.replicate]) ?_;simp only[Bool.false_eq_true,if_false];refine wpS_of_wp (wp_skip ?_)
 cases c₀
 simp_all [bodyPostS,results,Tryz.results215]
theorem xY (h0:w.heap[p]?=some (.cells #[x0] t0 (0,0)))(h1:w.heap[p+1]?=some (.cells #[x1] t1 (0,0)))(h2:w.heap[p+1+1]?=some (.cells #[x2] t2 (0,0)))(a:Addr)(older:List PanicEntry) :
  CallsD Tryz.prog 215 #[.pointer (some ⟨p,0,none⟩),.pointer (some ⟨p+1,0,none⟩),.pointer (some ⟨p+1+1,0,none⟩)] (.panicking ({v:=.iface 122 (.pointer (some a)),recovered:=false}::older)) w fun e u' w'=>
   e =.returned (.tuple #[])/\u' =.panicking ({v:=.iface 122 (.pointer (some a)),recovered:=true}::older)/\w'= ((w.setCell ⟨p,0,none⟩ (.string ⟨#[]⟩)).setCell ⟨p+1,0,none⟩ (.int .i64 0)).setCell ⟨p+1+1,0,none⟩ (.iface 122 (.pointer (some a))):=by
 have c0:=ac h0 (j:=0) rfl;have f0:=al h0 0;have c1:=ac h1 (j:=0) rfl;have f1:=al h1 0;have c2:=ac h2 (j:=0) rfl;have f2:=al h2 0;clear h0 h1 h2;refine callsD_of_wpS Tryz.func215 rfl fun c₀ cs hu=>?_
 apply wpS_seq
 apply wpS_region
 simp[wpOpsS,go_sem,recoverD,hu,Tryz.ntmps215,Exit.thenS];apply wpS_seq;apply wpS_region;simp[wpOpsS,go_sem,Exit.thenS];refine wpS_cond (t:=true) (by simp[Act.eval,Array.replicate]) ?_;simp only[if_true];refine wpS_of_wp ?_;go_wp2_with fail;refine(lz _ _).mono ?_;rintro e w' ⟨rfl,rfl⟩;go_wp2_with fail;refine⟨rfl,_,rfl,.tuple #[],?_,rfl,rfl,rfl⟩;simp[results,Tryz.results215,go_sem]
theorem nY (h0:w2.heap[w.heap.size]?=some (.cells #[x0] t0 (0,0)))(h1:w2.heap[w.heap.size+1]?=some (.cells #[x1] t1 (0,0)))(h2:w2.heap[w.heap.size+1+1]?=some (.cells #[x2] t2 (0,0)))(hb:Below w.heap.size w w2)(y0 y1 y2:Value) :
  Below w.heap.size w (((w2.setCell ⟨w.heap.size,0,none⟩ y0).setCell ⟨w.heap.size+1,0,none⟩ y1).setCell ⟨w.heap.size+1+1,0,none⟩ y2)/\(((w2.setCell ⟨w.heap.size,0,none⟩ y0).setCell ⟨w.heap.size+1,0,none⟩ y1).setCell ⟨w.heap.size+1+1,0,none⟩ y2).cell? ⟨w.heap.size,0,none⟩=some y0/\
   (((w2.setCell ⟨w.heap.size,0,none⟩ y0).setCell ⟨w.heap.size+1,0,none⟩ y1).setCell ⟨w.heap.size+1+1,0,none⟩ y2).cell? ⟨w.heap.size+1,0,none⟩=some y1/\(((w2.setCell ⟨w.heap.size,0,none⟩ y0).setCell ⟨w.heap.size+1,0,none⟩ y1).setCell ⟨w.heap.size+1+1,0,none⟩ y2).cell? ⟨w.heap.size+1+1,0,none⟩=some y2:=by
 have a0:=ar h0 0 y0;have a1:=au w2 (w.heap.size+1) w.heap.size 0 y0 _ _ (by omega) h1;have a2:=au w2 (w.heap.size+1+1) w.heap.size 0 y0 _ _ (by omega) h2;have b0:=au _ w.heap.size (w.heap.size+1) 0 y1 _ _ (by omega) a0;have b1:=ar a1 0 y1;have b2:=au _ (w.heap.size+1+1) (w.heap.size+1) 0 y1 _ _ (by omega) a2;have d0:=au _ w.heap.size (w.heap.size+1+1) 0 y2 _ _ (by omega) b0;have d1:=au _ (w.heap.size+1) (w.heap.size+1+1) 0 y2 _ _ (by omega) b1;have d2:=ar b2 0 y2;refine⟨((hb.setCell (p:=⟨w.heap.size,0,none⟩) (Zb _) _).setCell (p:=⟨w.heap.size+1,0,none⟩) (Nat.le_succ _) _).setCell (p:=⟨w.heap.size+1+1,0,none⟩) (by show w.heap.size<=w.heap.size+1+1;omega) _,ac d0 (j:=0) rfl,ac d1 (j:=0) rfl,ac d2 (j:=0) rfl⟩
def Js (r:Option (List UInt8×Nat))(w:World)(e:Ending)(w':World):Prop:=(∃p,r=some p/\e =.returned (DV p)/\Below w.heap.size w w')\/(r=none/\∃v,e =.returned (.tuple #[.string ⟨#[]⟩,.int .i64 0,v])/\EU w' v/\Below w.heap.size w w')
theorem jS (hb:Bs w v xs)(hG:cD w aU aE)(hQ:aO w 22)(hS:aO w 27)(hU:aO w 28)(hC:aO w 24)(hl:xs.length<=1000000000):Calls Tryz.prog 204 #[v] w (Js (jI xs) w):=by
 have b0:∀ (fn:Fn) (first cap:Array Value) (w:World),(Instr.makeFunc fn first cap).run Tryz.prog w =.ok (.func fn first cap) w:=fun _ _ _ _=>rfl
 have a1:Below w.heap.size w (((w.alloc (.cells #[.string ⟨#[]⟩] 9)).alloc (.cells #[.int .i64 0] 3)).alloc (.cells #[.nilIface] 30)):=(((Ze _ _).alloc (Zb _) _).alloc (by simp) _).alloc (by simp only[World.size_alloc];omega) _;have h0:(((w.alloc (.cells #[.string ⟨#[]⟩] 9)).alloc (.cells #[.int .i64 0] 3)).alloc (.cells #[.nilIface] 30)).heap[w.heap.size]?=some (.cells #[.string ⟨#[]⟩] 9 (0,0)):=(Below.heap_alloc _ _ _ (by simp only[World.size_alloc];omega)).trans ((Below.heap_alloc _ _ _ (by simp)).trans (Zf w _));have h1:(((w.alloc (.cells #[.string ⟨#[]⟩] 9)).alloc (.cells #[.int .i64 0] 3)).alloc (.cells #[.nilIface] 30)).heap[w.heap.size+1]?=some (.cells #[.int .i64 0] 3 (0,0)):=by
  have:=Zf (w.alloc (.cells #[.string ⟨#[]⟩] 9)) (.cells #[.int .i64 0] 3);rw[World.size_alloc] at this;exact(Below.heap_alloc _ _ _ (by simp)).trans this
 have h2:(((w.alloc (.cells #[.string ⟨#[]⟩] 9)).alloc (.cells #[.int .i64 0] 3)).alloc (.cells #[.nilIface] 30)).heap[w.heap.size+1+1]?=some (.cells #[.nilIface] 30 (0,0)):=by
  have:=Zf ((w.alloc (.cells #[.string ⟨#[]⟩] 9)).alloc (.cells #[.int .i64 0] 3)) (.cells #[.nilIface] 30)
  rwa[World.size_alloc,World.size_alloc] at this
 have hz:(((w.alloc (.cells #[.string ⟨#[]⟩] 9)).alloc (.cells #[.int .i64 0] 3)).alloc (.cells #[.nilIface] 30)).heap.size=w.heap.size+3:=by simp
 have a2:=Qa a1;have H0:=Qa h0;have H1:=Qa h1;have H2:=Qa h2;have Hz:=Qa hz;have a9:=Qa (o9 (hb.below a1) (hG.below a1) (hQ.below a1) (hS.below a1) (hU.below a1) (hC.below a1) hl);clear a1 h0 h1 h2 hz hb hG hQ hS hU hC;go_enter_defers Tryz.func204,Tryz.ntmps204;go_wp2_with fail;generalize ((w.alloc (.cells #[.string ⟨#[]⟩] 9)).alloc (.cells #[.int .i64 0] 3)).alloc (.cells #[.nilIface] 30)=w1 at *;refine Za a9 ?_;rintro e w2 (⟨p,hp,rfl,a0⟩|⟨hn,vP,rfl,hv,a0⟩)
 ·have Hp:=Qa hp;have g0:=ah H0.out a0;have g1:=ah H1.out a0;have g2:=ah H2.out a0;have a4:=Qa (a2.out.trans (a0.mono a2.out.size));have G0:=Qa g0;have G1:=Qa g1;have G2:=Qa g2;have c0:=ac g0 (j:=0) rfl;have f0:=al g0 0;have c1:=ac g1 (j:=0) rfl;have f1:=al g1 0;have c2:=ac g2 (j:=0) rfl;have f2:=al g2 0;clear hp a0 g0 g1 g2;rw[show DV p =.tuple #[.string ⟨p.1.toArray⟩,.int .i64 p.2,.nilIface] from rfl];go_wp2_with fail;obtain⟨a3,d0,d1,d2⟩:=nY G0.out G1.out G2.out a4.out (.string ⟨p.1.toArray⟩) (.int .i64 p.2) .nilIface;clear c0 c1 c2 f0 f1 f2;generalize ((w2.setCell ⟨w.heap.size,0,none⟩ (.string ⟨p.1.toArray⟩)).setCell ⟨w.heap.size+1,0,none⟩ (.int .i64 p.2)).setCell ⟨w.heap.size+1+1,0,none⟩ .nilIface=w3 at *;refine leaves_cons (f:=215) (args:= #[.pointer (some ⟨w.heap.size,0,none⟩),.pointer (some ⟨w.heap.size+1,0,none⟩),.pointer (some ⟨w.heap.size+1+1,0,none⟩)]) (by simp) (by simp[go_sem]) ?_;refine(BW _ _ _ _).mono ?_;rintro e u' w'' ⟨rfl,rfl,rfl⟩;simp[Leaves,settle,results,Tryz.results204,go_sem,d0,d1,d2];exact .inl ⟨p,Hp.out,rfl,a3⟩
 ·obtain⟨g,pz,a,rfl,hg⟩:=hv;have Hn:=Qa hn;have Hg:=Qa hg;have G0:=Qa (ah H0.out a0);have G1:=Qa (ah H1.out a0);have G2:=Qa (ah H2.out a0);have a4:=Qa (a2.out.trans (a0.mono a2.out.size));clear hn hg a0;go_wp2_with fail;obtain⟨a3,d0,d1,d2⟩:=nY G0.out G1.out G2.out a4.out (.string ⟨#[]⟩) (.int .i64 0) (.iface 122 (.pointer (some ⟨g,0,none⟩)));refine leaves_cons (f:=215) (args:= #[.pointer (some ⟨w.heap.size,0,none⟩),.pointer (some ⟨w.heap.size+1,0,none⟩),.pointer (some ⟨w.heap.size+1+1,0,none⟩)]) (by simp) (by simp[go_sem]) ?_;refine(xY G0.out G1.out G2.out ⟨g,0,none⟩ []).mono ?_;rintro e u' w'' ⟨rfl,rfl,rfl⟩;have hne:∀ {i:Nat} {x:Value} {t:TypeId},w2.heap[i]?=some (.cells #[x] t (0,0))->g≠i:=fun hi e=>by
   subst e;have h:=Hg.out.symm.trans hi;injection h with h
   injection h with h
   simp at h
  have a5:=au _ g (w.heap.size+1+1) 0 (.iface 122 (.pointer (some ⟨g,0,none⟩))) _ _ (hne G2.out) (au _ g (w.heap.size+1) 0 (.int .i64 0) _ _ (hne G1.out) (au w2 g w.heap.size 0 (.string ⟨#[]⟩) _ _ (hne G0.out) Hg.out));simp[Leaves,settle,results,Tryz.results204,go_sem,d0,d1,d2];exact .inr ⟨Hn.out,_,rfl,⟨g,pz,a,rfl,a5⟩,a3⟩
theorem FX (W:World)(s:ByteArray)(hs:s.size<=9223372036854775807):∃W2 cap,(convert 9 28 (.string s)).run Tryz.prog W =.ok (.slice (some ⟨W.heap.size,0,none⟩) s.size cap) W2/\
  Below W.heap.size W W2/\Bs W2 (.slice (some ⟨W.heap.size,0,none⟩) s.size cap) s.data.toList:=by
 refine⟨Lib.bytesWorld W 5 s,grownCap W s.size 0 5,Lib.run_convert_string_bytes W 9 28 5 s Tryz.underlying9 Tryz.underlying28 Tryz.underlying5,?_,?_⟩
 ·exact⟨rfl,rfl,rfl,by rw[Lib.bytesWorld_size];omega,fun k hk=>Lib.bytesWorld_at_old _ _ _ _ hk⟩
 ·have hl:s.data.toList.length=s.size:=by simp
  refine⟨by omega,_,_,by rw[hl],by rw[hl];exact grownCap_ge _ _ _ _,fun _=>⟨_,0,rfl,fun i hi=>?_⟩⟩;rw[Nat.zero_add];exact Lib.bytesWorld_cell W 5 s i (by omega)
def Kh (s:ByteArray)(er:Value):Prop:=(aW s/\er =.nilIface)\/(¬aW s/\∃a,er=bp a)
def I9 (s:ByteArray)(w:World)(e:Ending)(w':World):Prop:= ∃ (i:Int) (er:Value),e =.returned (.tuple #[.int .i64 i,er])/\Kh s er/\Below w.heap.size w w'
theorem rF (s:ByteArray)(i:Nat):(s.extract i s.size).data.toList=s.data.toList.drop i:=by
 have hl:s.data.toList.length=s.size:=by simp
 rw[ByteArray.data_extract,Array.toList_extract,List.extract_eq_take_drop,List.take_of_length_le (by rw[List.length_drop];omega)]
theorem yp {s:ByteArray}{a:Addr}(hG:cD w aU aE)(hP:w.cell? ⟨7,0,none⟩=some (bp a))(hs:s.size<=1000000000):Calls Tryz.prog 63 #[.string s] w (I9 s w):=by
 have hl:s.data.toList.length=s.size:=by simp
 cases hc:s.data.toList with
 |nil=>
  obtain rfl:s= ⟨#[]⟩:=by cases s with|mk d=>simp at hc;rw[hc]
  clear hG hP hs hl hc;go_enter Tryz.func63,Tryz.ntmps63;go_wp2_with fail
  go_loopg [4] 0 (fun _ s4 wr=>s4 =.int .i64 0/\wr=w)
  case atStart=>exact⟨rfl,rfl⟩
  case round=>
   obtain⟨rfl,rfl⟩:=hrel;go_wp2_with fail;go_ret2;exact⟨0,.nilIface,rfl,.inl ⟨ig,rfl⟩,Ze _ _⟩
 |cons c t=>
  have hne:¬s.toList = []:=by
   rw[ByteArray.toList_eq,hc];simp
  have c7:s.toList.isEmpty=false:=by
   rw[ByteArray.toList_eq,hc];rfl
  have c3:∀w',(Instr.index 9 (.string s) (.int .i64 0)).run Tryz.prog w' =.ok (.int .u8 c.toNat) w':=ff (k:=.i64) (s:=s) (p:=0) (x:=c) (by rw[hc];rfl)
  by_cases h47:c=47
  ·have Hc:=Qa hc;have b9:((c.toNat:Int) !=47)=false:=by rw[h47];rfl
   have c2:=Qa (fun (p:Nat) (x:UInt8) (h:s.data.toList[p]?=some x) (w':World)=>ff (k:=.i64) h w');have Hl:=Qa hl;have HG:=Qa hG;have HP:=Qa hP;have Hs:=Qa hs;have H0:=Qa (show aW s↔ym s.data.toList by
    unfold aW;rw[hc,h47];simp)
   clear hc h47 hl hG hP hs;go_enter Tryz.func63,Tryz.ntmps63;go_wp2_with fail
   go_loopg [4] s.size (fun m s4 wr=> ∃i:Nat,m+i=s.size/\s4 =.int .i64 i/\Below w.heap.size w wr/\Hid (ym (s.data.toList.drop i)↔aW s))
   case atStart=>exact⟨0,rfl,rfl,Ze _ _,Qa H0.out.symm⟩
   case round=>
    obtain⟨i,hm,rfl,hb,Hk⟩:=hrel;have Hb:=Qa hb;have Hm:=Qa hm;have hs:=Hs.out;clear c3 b9 hne c7
    by_cases hlt:i<s.size
    ·have b4:(i:Int)<s.size:=by omega
     obtain⟨x,hx⟩:∃x,s.data.toList[i]?=some x:=⟨_,Zd (by rw[Hl.out];exact hlt)⟩;have c3:=c2.out i x hx;have b0:(s.extract i s.size).size=s.size - i:=by simp
     obtain⟨W2,cap,a9,c1,b1⟩:=FX wr (s.extract i s.size) (by rw[b0];omega);rw[rF,b0] at b1;rw[b0] at a9;have c0:=Qa (hb.trans (c1.mono hb.size));have Hd:=Qa (fR b1 (HG.out.below c0.out));have hne:s.data.toList.drop i≠ []:=fun e=>by have:=congrArg List.length e;rw[List.length_drop,Hl.out] at this;simp at this;omega
     have h0:(s.data.toList.drop i)[0]?=some x:=by rw[List.getElem?_drop];exact hx
     have h1:(s.data.toList.drop i)[1]?=s.data.toList[i+1]?:=by rw[List.getElem?_drop]
     have a1:=Qa (show(bg (s.data.toList.drop i)).2.2≠0->¬ym (s.data.toList.drop i) from fun h=>Fg hne h);have a0:=Qa (show(bg (s.data.toList.drop i)).2.2=0->(x=126->s.data.toList[i+1]?=some 48\/s.data.toList[i+1]?=some 49)->(ym (s.data.toList.drop i)↔ym ((s.data.toList.drop i).drop (bg (s.data.toList.drop i)).2.1)) from fun h h'=>B8 hne h (by rw[h0,h1];intro e;exact h' (Zi e)));have a5:=Qa (show x=126->¬ (s.data.toList[i+1]?=some 48\/s.data.toList[i+1]?=some 49)->¬ym (s.data.toList.drop i) from fun h h'=>zn (by rw[h0,h]) (by rw[h1];exact h'));have a2:=Qa (show(bg (s.data.toList.drop i)).2.2=0->1<=(bg (s.data.toList.drop i)).2.1 from ei);have b2:=Qa (dR s.data.toList i (by rw[Hl.out];omega));rw[Hl.out] at b2;have c6:=Qa (pd (s.data.toList.drop i));have Hx:=Qa hx;clear hb c1 b1 hne h0 h1 hx hm b0;generalize bg (s.data.toList.drop i)=R at *;obtain⟨cp,n,k⟩:=R
     dsimp only at a1 a0 a2 b2 c6
     go_wp2_with fail;refine Za Hd ?_;rintro e w3 ⟨rfl,m3,rfl⟩;obtain⟨w3,b3⟩:∃w3,W2.drewN m3=w3:=⟨_,rfl⟩;have Hb3:=Qa (show Below w.heap.size w w3 by rw[<-b3];exact ap c0.out m3);rw[b3];clear b3
     by_cases hk:k=0
     ·subst hk;have he:iT (b6 aU) (b6 aE) 0 =.nilIface:=rfl;have hle:=b2.out;have c8:=a2.out rfl;unfold qB
      dsimp only
      rw[he]
      by_cases hx126:x=126
      ·have a3:((x.toNat:Int)==126)=true:=by rw[hx126];rfl
       by_cases hend:i+1=s.size
       ·have c4:((i:Int)+1== (s.size:Int))=true:=by rw[beq_iff_eq];omega
        have cP:=Zg Hb3.out HP.out;have Hf:=Qa (show ¬aW s from fun h=>a5.out hx126 (by rw[List.getElem?_eq_none (by rw[Hl.out];omega)];simp) (Hk.out.2 h));clear hx126 hend;go_wp2_with fail;go_quiet (fail);go_wp2_with fail;go_ret2;exact⟨_,bp a,rfl,.inr ⟨Hf.out,a,rfl⟩,ap Hb3.out _⟩
       ·have c4:((i:Int)+1== (s.size:Int))=false:=by rw[beq_eq_false_iff_ne];omega
        obtain⟨y,hy⟩:∃y,s.data.toList[i+1]?=some y:=⟨_,Zd (by rw[Hl.out];omega)⟩;have c5:=c2.out (i+1) y hy;rw[show((i+1:Nat):Int)= (i:Int)+1 by omega] at c5;have cP:=Zg Hb3.out HP.out
        by_cases h48:y=48
        ·have a4:((y.toNat:Int) !=48)=false:=by rw[h48];rfl
         have Hq:=Qa ((a0.out rfl (fun _=>.inl (by rw[hy,h48]))).symm.trans Hk.out);clear hx126 hend h48 hy cP;go_wp2_with fail;go_roundg (s.size - (i+n))
         case measure=>have:=Hm.out;omega
         case rel=>exact⟨i+n,by omega,by go_num,Hb3.out,Qa (by rw[<-List.drop_drop];exact Hq.out)⟩
        ·by_cases h49:y=49
         ·have a4:((y.toNat:Int) !=48)=true:=by rw[h49];rfl
          have b5:((y.toNat:Int) !=49)=false:=by rw[h49];rfl
          have Hq:=Qa ((a0.out rfl (fun _=>.inr (by rw[hy,h49]))).symm.trans Hk.out);clear hx126 hend h48 h49 hy cP;go_wp2_with fail;go_roundg (s.size - (i+n))
          case measure=>have:=Hm.out;omega
          case rel=>exact⟨i+n,by omega,by go_num,Hb3.out,Qa (by rw[<-List.drop_drop];exact Hq.out)⟩
         ·have a4:((y.toNat:Int) !=48)=true:=by rw[bne_iff_ne];intro e;exact h48 (UInt8.toNat_inj.1 (by show y.toNat=48;omega))
          have b5:((y.toNat:Int) !=49)=true:=by rw[bne_iff_ne];intro e;exact h49 (UInt8.toNat_inj.1 (by show y.toNat=49;omega))
          have Hf:=Qa (show ¬aW s from fun h=>a5.out hx126 (by rw[hy];simp[h48,h49]) (Hk.out.2 h));clear hx126 hend h48 h49 hy;go_wp2_with fail;go_quiet (fail);go_wp2_with fail;go_ret2;exact⟨_,bp a,rfl,.inr ⟨Hf.out,a,rfl⟩,ap Hb3.out _⟩
      ·have a3:((x.toNat:Int)==126)=false:=by rw[beq_eq_false_iff_ne];intro e;exact hx126 (UInt8.toNat_inj.1 (by show x.toNat=126;omega))
       have Hq:=Qa ((a0.out rfl (fun h=>absurd h hx126)).symm.trans Hk.out);clear hx126;go_wp2_with fail;go_roundg (s.size - (i+n))
       case measure=>have:=Hm.out;omega
       case rel=>exact⟨i+n,by omega,by go_num,Hb3.out,Qa (by rw[<-List.drop_drop];exact Hq.out)⟩
     ·have Hf:=Qa (show ¬aW s from fun h=>a1.out hk (Hk.out.2 h));obtain⟨ae,b8⟩:∃ae,iT (b6 aU) (b6 aE) k=bp ae:=by
       unfold iT;rw[if_neg hk]
       split
       ·exact⟨aE,rfl⟩
       ·exact⟨aU,rfl⟩
      unfold qB
      dsimp only
      rw[b8];clear hk b8;go_wp2_with fail;go_ret2;exact⟨_,bp ae,rfl,.inr ⟨Hf.out,ae,rfl⟩,Hb3.out⟩
    ·obtain rfl:i=s.size:=by omega
     have b4:¬ (s.size:Int)<s.size:=by omega
     have Hf:=Qa (show aW s from Hk.out.1 (by rw[List.drop_of_length_le (by rw[Hl.out];exact Zb _)];exact EB));clear hb hm hlt;go_wp2_with fail;go_ret2;exact⟨0,.nilIface,rfl,.inl ⟨Hf.out,rfl⟩,Hb.out⟩
  ·have b9:((c.toNat:Int) !=47)=true:=by rw[bne_iff_ne];intro e;exact h47 (UInt8.toNat_inj.1 (by show c.toNat=47;omega))
   have Hf:=Qa (show ¬aW s by
    unfold aW;rw[hc];simp[h47])
   clear hG hs hl hc h47;go_enter Tryz.func63,Tryz.ntmps63;go_wp2_with fail;go_quiet (fail);go_wp2_with fail;go_ret2;exact⟨0,bp a,rfl,.inr ⟨Hf.out,a,rfl⟩,ap (Ze _ _) _⟩
def nr:Go.Shelf.Ren:=⟨fun|146=>93|221=>121|268=>151|138=>152|143=>153|195=>174|197=>156|218=>175|219=>176|260=>179|217=>195|225=>196|224=>197|267=>198|266=>209|314=>210|n=>n,fun|9=>9|31=>23|3=>3|4=>4|0=>0|105=>264|21=>21|5=>5|46=>147|119=>325|139=>328|138=>327|146=>346|51=>195|n=>n,fun|1=>14|3=>15|4=>16|n=>n⟩
theorem zw:Go.Proofs.Lays.n146 Tryz.prog nr:={
 mixed:=by kernel_rfl
 f138:=Tryz.func152.trans (congrArg some (by kernel_rfl))
 f143:=Tryz.func153.trans (congrArg some (by kernel_rfl))
 f146:=Tryz.func93.trans (congrArg some (by kernel_rfl))
 f195:=Tryz.func174.trans (congrArg some (by kernel_rfl))
 f197:=Tryz.func156.trans (congrArg some (by kernel_rfl))
 f217:=Tryz.func195.trans (congrArg some (by kernel_rfl))
 f218:=Tryz.func175.trans (congrArg some (by kernel_rfl))
 f219:=Tryz.func176.trans (congrArg some (by kernel_rfl))
 f221:=Tryz.func121.trans (congrArg some (by kernel_rfl))
 f224:=Tryz.func197.trans (congrArg some (by kernel_rfl))
 f225:=Tryz.func196.trans (congrArg some (by kernel_rfl))
 f260:=Tryz.func179.trans (congrArg some (by kernel_rfl))
 f266:=Tryz.func209.trans (congrArg some (by kernel_rfl))
 f267:=Tryz.func198.trans (congrArg some (by kernel_rfl))
 f268:=Tryz.func151.trans (congrArg some (by kernel_rfl))
 f314:=Tryz.func210.trans (congrArg some (by kernel_rfl))
 t0:=Tryz.underlying0
 a0:=Tryz.isAgg0
 z0:=Tryz.sizeOf0
 v0:=Tryz.zeroValue0
 t3:=Tryz.underlying3
 a3:=Tryz.isAgg3
 z3:=Tryz.sizeOf3
 v3:=Tryz.zeroValue3
 t4:=Tryz.underlying4
 a4:=Tryz.isAgg4
 z4:=Tryz.sizeOf4
 v4:=Tryz.zeroValue4
 t5:=Tryz.underlying5
 a5:=Tryz.isAgg5
 z5:=Tryz.sizeOf5
 v5:=Tryz.zeroValue5
 t9:=Tryz.underlying9
 a9:=Tryz.isAgg9
 z9:=Tryz.sizeOf9
 v9:=Tryz.zeroValue9
 t21:=Tryz.underlying21
 a21:=Tryz.isAgg21
 z21:=Tryz.sizeOf21
 v21:=Tryz.zeroValue21
 t31:=Tryz.underlying23
 a31:=Tryz.isAgg23
 z31:=Tryz.sizeOf23
 v31:=Tryz.zeroValue23
 t46:=Tryz.underlying147
 a46:=Tryz.isAgg147
 z46:=Tryz.sizeOf147
 v46:=Tryz.zeroValue147
 t51:=Tryz.underlying195
 a51:=Tryz.isAgg195
 z51:=Tryz.sizeOf195
 v51:=Tryz.zeroValue195
 t105:=Tryz.underlying264
 a105:=Tryz.isAgg264
 z105:=Tryz.sizeOf264
 v105:=Tryz.zeroValue264
 t119:=Tryz.underlying325
 a119:=Tryz.isAgg325
 z119:=Tryz.sizeOf325
 t138:=Tryz.underlying327
 a138:=Tryz.isAgg327
 z138:=Tryz.sizeOf327
 v138:=Tryz.zeroValue327
 t139:=Tryz.underlying328
 a139:=Tryz.isAgg328
 z139:=Tryz.sizeOf328
 v139:=Tryz.zeroValue328
 t146:=Tryz.underlying346
 a146:=Tryz.isAgg346
 z146:=Tryz.sizeOf346
 v146:=Tryz.zeroValue346
 g1:=by kernel_rfl
 g3:=by kernel_rfl
 g4:=by kernel_rfl
}
def jB:Go.Shelf.Ren:=⟨fun|155=>94|154=>122|138=>152|165=>154|143=>153|166=>155|197=>156|169=>157|195=>174|218=>175|240=>177|241=>178|219=>176|260=>179|276=>199|277=>200|217=>195|225=>196|224=>197|267=>198|266=>209|314=>210|n=>n,fun|9=>9|3=>3|4=>4|72=>263|0=>0|76=>120|105=>264|21=>21|5=>5|70=>261|20=>20|37=>28|75=>30|127=>303|164=>322|46=>147|119=>325|139=>328|138=>327|146=>346|51=>195|80=>54|n=>n,fun|1=>14|3=>15|4=>16|n=>n⟩
theorem Dz:Go.Proofs.Lays.n155 Tryz.prog jB:={
 mixed:=by kernel_rfl
 f138:=Tryz.func152.trans (congrArg some (by kernel_rfl))
 f143:=Tryz.func153.trans (congrArg some (by kernel_rfl))
 f154:=Tryz.func122.trans (congrArg some (by kernel_rfl))
 f155:=Tryz.func94.trans (congrArg some (by kernel_rfl))
 f165:=Tryz.func154.trans (congrArg some (by kernel_rfl))
 f166:=Tryz.func155.trans (congrArg some (by kernel_rfl))
 f169:=Tryz.func157.trans (congrArg some (by kernel_rfl))
 f195:=Tryz.func174.trans (congrArg some (by kernel_rfl))
 f197:=Tryz.func156.trans (congrArg some (by kernel_rfl))
 f217:=Tryz.func195.trans (congrArg some (by kernel_rfl))
 f218:=Tryz.func175.trans (congrArg some (by kernel_rfl))
 f219:=Tryz.func176.trans (congrArg some (by kernel_rfl))
 f224:=Tryz.func197.trans (congrArg some (by kernel_rfl))
 f225:=Tryz.func196.trans (congrArg some (by kernel_rfl))
 f240:=Tryz.func177.trans (congrArg some (by kernel_rfl))
 f241:=Tryz.func178.trans (congrArg some (by kernel_rfl))
 f260:=Tryz.func179.trans (congrArg some (by kernel_rfl))
 f266:=Tryz.func209.trans (congrArg some (by kernel_rfl))
 f267:=Tryz.func198.trans (congrArg some (by kernel_rfl))
 f276:=Tryz.func199.trans (congrArg some (by kernel_rfl))
 f277:=Tryz.func200.trans (congrArg some (by kernel_rfl))
 f314:=Tryz.func210.trans (congrArg some (by kernel_rfl))
 t0:=Tryz.underlying0
 a0:=Tryz.isAgg0
 z0:=Tryz.sizeOf0
 v0:=Tryz.zeroValue0
 t3:=Tryz.underlying3
 a3:=Tryz.isAgg3
 z3:=Tryz.sizeOf3
 v3:=Tryz.zeroValue3
 t4:=Tryz.underlying4
 a4:=Tryz.isAgg4
 z4:=Tryz.sizeOf4
 v4:=Tryz.zeroValue4
 t5:=Tryz.underlying5
 a5:=Tryz.isAgg5
 z5:=Tryz.sizeOf5
 v5:=Tryz.zeroValue5
 t9:=Tryz.underlying9
 a9:=Tryz.isAgg9
 z9:=Tryz.sizeOf9
 v9:=Tryz.zeroValue9
 t20:=Tryz.underlying20
 a20:=Tryz.isAgg20
 z20:=Tryz.sizeOf20
 v20:=Tryz.zeroValue20
 t21:=Tryz.underlying21
 a21:=Tryz.isAgg21
 z21:=Tryz.sizeOf21
 v21:=Tryz.zeroValue21
 t37:=Tryz.underlying28
 a37:=Tryz.isAgg28
 z37:=Tryz.sizeOf28
 v37:=Tryz.zeroValue28
 t46:=Tryz.underlying147
 a46:=Tryz.isAgg147
 z46:=Tryz.sizeOf147
 v46:=Tryz.zeroValue147
 t51:=Tryz.underlying195
 a51:=Tryz.isAgg195
 z51:=Tryz.sizeOf195
 v51:=Tryz.zeroValue195
 t70:=Tryz.underlying261
 a70:=Tryz.isAgg261
 z70:=Tryz.sizeOf261
 v70:=Tryz.zeroValue261
 t72:=Tryz.underlying263
 a72:=Tryz.isAgg263
 z72:=Tryz.sizeOf263
 v72:=Tryz.zeroValue263
 t75:=Tryz.underlying30
 a75:=Tryz.isAgg30
 z75:=Tryz.sizeOf30
 v75:=Tryz.zeroValue30
 t76:=Tryz.underlying120
 a76:=Tryz.isAgg120
 z76:=Tryz.sizeOf120
 v76:=Tryz.zeroValue120
 t105:=Tryz.underlying264
 a105:=Tryz.isAgg264
 z105:=Tryz.sizeOf264
 v105:=Tryz.zeroValue264
 t119:=Tryz.underlying325
 a119:=Tryz.isAgg325
 z119:=Tryz.sizeOf325
 t127:=Tryz.underlying303
 a127:=Tryz.isAgg303
 z127:=Tryz.sizeOf303
 v127:=Tryz.zeroValue303
 t138:=Tryz.underlying327
 a138:=Tryz.isAgg327
 z138:=Tryz.sizeOf327
 v138:=Tryz.zeroValue327
 t139:=Tryz.underlying328
 a139:=Tryz.isAgg328
 z139:=Tryz.sizeOf328
 v139:=Tryz.zeroValue328
 t146:=Tryz.underlying346
 a146:=Tryz.isAgg346
 z146:=Tryz.sizeOf346
 v146:=Tryz.zeroValue346
 t164:=Tryz.underlying322
 a164:=Tryz.isAgg322
 z164:=Tryz.sizeOf322
 v164:=Tryz.zeroValue322
 g1:=by kernel_rfl
 g3:=by kernel_rfl
 g4:=by kernel_rfl
}
theorem zB:Builder.Extra Tryz.prog jB where
 sizeBuilder:=by kernel_rfl
 liesBuilder:=by kernel_rfl
 t5:=Tryz.underlying5
 a5:=Tryz.isAgg5
 z5:=Tryz.sizeOf5
 v5:=Tryz.zeroValue5
 infoByte:=by kernel_rfl
 cellsByte:=by kernel_rfl
 sizeByte:=by kernel_rfl
 neB5:=by decide
def j2 (w:World):Prop:= ∃m,w.cell? ⟨14,0,none⟩=some (.int .i64 m)
theorem j2.below (h:j2 w)(hb:Below w.heap.size w w'):j2 w':=by obtain⟨m,h⟩:=h;exact⟨m,Zg hb h⟩
theorem yD {s:ByteArray}(hM:j2 w)(hs:s.size<=1000000000):Calls Tryz.prog 93 #[.string s,.string ⟨#[47]⟩] w fun e w'=>
  ∃l:List ByteArray,l.map (·.data.toList)=ci s.data.toList/\e =.returned (.slice (some ⟨w.heap.size,0,none⟩) l.length l.length)/\w'=w.alloc (.cells (l.map cn).toArray 9):=by
 obtain⟨m,hm⟩:=hM;refine(Any.strings_Split zw (by kernel_rfl) s ⟨#[47]⟩ m w (by omega) hm (by decide)).mono ?_;rintro e w' ⟨rfl,rfl⟩;have h:=Lib.splitB_all ⟨#[47]⟩ (by decide) 0 _ s rfl;refine⟨Lib.splitB ⟨#[47]⟩ 0 (Lib.countB s ⟨#[47]⟩) s,?_,by rw[h],rfl⟩;rw[Lib.splitB_data,<-um];rfl
theorem ti {s:ByteArray}(hM:j2 w)(hs:s.size<=1000000000)(b c:UInt8):Calls Tryz.prog 94 #[.string s,.string ⟨#[126,b]⟩,.string ⟨#[c]⟩] w fun e w'=>
  e =.returned (.string ⟨(cG b c s.data.toList).toArray⟩)/\Below w.heap.size w w':=by
 obtain⟨m,hm⟩:=hM;have hc:=Lib.countB_mul_le ⟨#[126,b]⟩ (by show 1<=2;decide) s.size s (Zb _);have h2:(⟨#[126,b]⟩:ByteArray).size=2:=rfl;have h1:(⟨#[c]⟩:ByteArray).size=1:=rfl;refine(Any.strings_ReplaceAll Dz zB s ⟨#[126,b]⟩ ⟨#[c]⟩ m w (by omega) hm (by show 1<=2;decide) (by rw[h1];rw[h2] at hc;omega)).mono ?_;rintro e w' ⟨rfl,hb⟩;refine⟨?_,hb⟩;rw[<-lE]
def IC (l:List (List UInt8))(w:World)(e:Ending)(w':World):Prop:= ∃ (v:Value) (ps:List ByteArray),e =.returned v/\ps.map (·.data.toList)=l/\aV w' w.heap.size v ps/\Below w.heap.size w w'
theorem my (b c:UInt8):∀ (n:Nat) (l:List UInt8),l.length<=n->(cG b c l).length<=l.length:=by
 intro n
 induction n with
 |zero=>intro l h;obtain rfl:=List.eq_nil_of_length_eq_zero (show l.length=0 by omega);simp[cG]
 |succ n ih=>
  intro l h
  match l with
  | []=>simp[cG]
  | [x]=>simp[cG]
  |x::y::t=>
   rw[cG];simp only[List.length_cons] at h
   split
   ·have:=ih t (by omega);simp;omega
   ·have:=ih (y::t) (by simp;omega);simp at this ⊢;omega
theorem qC (s:List UInt8):(ci s).length<=s.length+1/\∀p∈ci s,p.length<=s.length:=by
 induction s with
 |nil=>simp[ci]
 |cons c t ih=>
  unfold ci
  split
  ·refine⟨by have:=ih.1;simp;omega,fun p hp=>?_⟩;rcases List.mem_cons.1 hp with rfl|hp
   ·simp
   ·have:=ih.2 p hp;simp;omega
  ·split
   ·next a r e=>
    rw[e] at ih;refine⟨by have:=ih.1;simp at this ⊢;omega,fun p hp=>?_⟩;rcases List.mem_cons.1 hp with rfl|hp
    ·have:=ih.2 a (by simp);simp;omega
    ·have:=ih.2 p (by simp[hp]);simp;omega
   ·simp
def tW (p:ByteArray):ByteArray:=⟨(ru p.data.toList).toArray⟩
def ko (l:List ByteArray)(i:Nat):List ByteArray:=(l.take i).map tW++l.drop i
theorem FL (l:List ByteArray)(i:Nat):(ko l i).length=l.length:=by simp[ko];omega
theorem E6 (h:i<l.length):(ko l i)[i]?=l[i]?:=by
 unfold ko;rw[List.getElem?_append_right (by simp;omega)];simp[List.length_take,Nat.min_eq_left (Nat.le_of_lt h)]
theorem ET {p:ByteArray}(h:l[i]?=some p):(ko l i).set i (tW p)=ko l (i+1):=by
 obtain⟨hi,he⟩:=List.getElem?_eq_some_iff.1 h;unfold ko;have e:((l.take i).map tW).length=i:=by simp;omega
 rw[List.set_append_right _ _ (by omega),e,Nat.sub_self,List.drop_eq_getElem_cons hi,List.set_cons_zero,List.take_succ_eq_append_getElem hi,List.map_append,he];simp
theorem kz {s:ByteArray}(hM:j2 w)(hs:s.size<=1000000000):Calls Tryz.prog 64 #[.string s] w (IC (bq s.data.toList) w):=by
 cases hc:s.data.toList with
 |nil=>
  obtain rfl:s= ⟨#[]⟩:=by cases s with|mk d=>simp at hc;rw[hc]
  clear hM hs hc;go_enter Tryz.func64,Tryz.ntmps64;go_wp2_with fail;go_ret;exact⟨_, [],rfl,rfl,aV.nil _ _,Ze _ _⟩
 |cons c t=>
  have hl:s.data.toList.length=s.size:=by simp
  have c5:s.toList.isEmpty=false:=by
   rw[ByteArray.toList_eq,hc];rfl
  have he:(s.extract 1 s.size).data.toList=t:=by rw[rF,hc];rfl
  have h1:1<=s.size:=by rw[<-hl,hc];simp
  have b3:(s.extract 1 s.size).size<=1000000000:=by simp;omega
  have a5:=Qa (yD hM b3);rw[he] at a5;have HM:=Qa hM;have b2:=Qa (qC t);have b1:=Qa (show t.length<1000000000 by rw[hc] at hl;simp at hl;omega);clear hM hs hc hl he b3
  show Calls _ _ _ _ fun e w'=>IC ((ci t).map ru) w e w'
  generalize ci t=L at *;go_enter Tryz.func64,Tryz.ntmps64;go_wp2_with fail;refine Za a5 ?_;rintro e w1 ⟨l,hl,rfl,rfl⟩;have Hl:=Qa hl;clear hl a5;go_wp2_with fail;have a0:∀i,((ko l i).map cn).length=l.length:=fun i=>by rw[List.length_map,FL]
  have Hn:=Qa (Zf w (.cells (l.map cn).toArray 9));have Hba:=Qa (aa w (.cells (l.map cn).toArray 9));have a3:=Qa (show l.length<=1000000000 by have h2:=congrArg List.length Hl.out;rw[List.length_map] at h2;have:=b2.out.1;have:=b1.out;omega);have b8:=Qa a0;clear a0;generalize w.alloc (.cells (l.map cn).toArray 9)=w1 at *
  go_loopg [13] l.length (fun m s13 wr=> ∃i:Nat,m+i=l.length/\s13 =.int .i64 i/\Hid (wr.heap[w.heap.size]?=some (.cells ((ko l i).map cn).toArray 9 (0,0)))/\Below w.heap.size w wr)
  case atStart=>exact⟨0,rfl,rfl,Qa (by simpa [ko] using Hn.out),Hba.out⟩
  case round=>
   obtain⟨i,hm,rfl,Hr,hb⟩:=hrel;have Hb:=Qa hb;have Hm:=Qa hm;have hlen:=a3.out;clear hb hm
   by_cases hlt:i<l.length
   ·have a9:(i:Int)<l.length:=by omega
    obtain⟨p,hp⟩:∃p,l[i]?=some p:=⟨_,Zd hlt⟩;have hg:((ko l i).map cn).toArray[i]?=some (Value.string p):=by rw[List.getElem?_toArray,List.getElem?_map,E6 hlt,hp];rfl
    have c1:=ac Hr.out hg;have b4:p.data.toList.length<=1000000000:=by
     have h2:p.data.toList∈L:=by rw[<-Hl.out];exact List.mem_map.2 ⟨p,Zk hp,rfl⟩
     have:=b2.out.2 _ h2;have:=b1.out;omega
    have hpz:p.data.toList.length=p.size:=by simp
    have H1:=Qa (ti (HM.out.below Hb.out) (s:=p) (by omega) 49 47);have c0:=Qa (my 49 47 _ p.data.toList (Zb _));have Hp:=Qa hp;have c2:=Qa b4;have Hg:=Qa hg;clear hp b4 hpz hg;go_wp2_with fail;refine Za H1 ?_;rintro e w2 ⟨rfl,b0⟩;have a4:=Qa (Hb.out.trans (b0.mono Hb.out.size));have b9:=Qa (ah Hr.out b0);have H2:=Qa (ti (HM.out.below a4.out) (s:=⟨(cG 49 47 p.data.toList).toArray⟩) (by show(cG 49 47 p.data.toList).toArray.size<=_;rw[List.size_toArray];have:=c0.out;have:=c2.out;omega) 48 126);clear b0 H1 c1;go_wp2_with fail;refine Za H2 ?_;rintro e w3 ⟨rfl,a2⟩;have c4:=Qa (a4.out.trans (a2.mono a4.out.size));have a1:=ah b9.out a2;have c3:=ac a1 Hg.out;have f3:=al a1 i;have b5:=Qa a1;clear a2 H2 a1;go_wp2_with fail;go_roundg (l.length - (i+1))
    case measure=>have:=Hm.out;omega
    case rel=>
     refine⟨i+1,by omega,by go_num,Qa ?_,c4.out.setCell (p:=⟨w.heap.size,i,none⟩) (Zb _) _⟩;rw[ar b5.out i];have h5:=ET Hp.out;rw[<-h5,List.map_set];simp[tW,cn,ru]
   ·obtain rfl:i=l.length:=by have:=Hm.out;omega
    have a9:¬ (l.length:Int)<l.length:=by omega
    go_wp2_with fail;go_ret;refine⟨_,l.map tW,rfl,?_,?_,Hb.out⟩
    ·rw[List.map_map,<-Hl.out,List.map_map];refine List.map_congr_left fun p _=>?_
     simp[tW]
    ·have hr:=Hr.out;have hz:=b8.out l.length;have e1:ko l l.length=l.map tW:=by simp[ko]
     have:=kR (k:=1) (n:=l.length) hr (Zb w.heap.size) (by unfold maxLen;omega) (by rw[List.size_toArray,hz,Nat.mul_one]);rw[e1] at this;unfold aV;rw[List.length_map];exact this
theorem Fq (s p:ByteArray)(h:p.size<=s.size):p.data.toList.isPrefixOf s.data.toList= ((s.extract 0 p.size).toList==p.toList):=by
 have hl:p.data.toList.length=p.size:=by simp
 rw[eo,Bool.eq_iff_iff,List.isPrefixOf_iff_prefix,decide_eq_true_iff,List.prefix_iff_eq_take,hl];have he:(s.extract 0 p.size).data.toList=s.data.toList.take p.size:=by
  rw[ByteArray.data_extract,Array.toList_extract,List.extract_eq_take_drop];simp
 constructor
 ·intro e;rw[<-he] at e
  cases hx:s.extract 0 p.size with|mk d=>cases p with|mk q=>rw[hx] at e;simp only[ByteArray.mk.injEq];exact(Array.toList_inj.1 e).symm
 ·intro e;rw[<-he,e]
theorem rE (w:World)(s p:ByteArray):Calls Tryz.prog 100 #[.string s,.string p] w fun e w'=>e =.returned (.bool (p.data.toList.isPrefixOf s.data.toList))/\w=w':=by
 obtain⟨b,hb⟩:∃b,p.data.toList.isPrefixOf s.data.toList=b:=⟨_,rfl⟩;rw[hb]
 by_cases h:p.size<=s.size
 ·have h3:¬ (s.size:Int)<p.size:=by omega
  have a0:(p.size:Int)<=s.size:=by omega
  have He:=Qa (hb.symm.trans (Fq s p h));clear hb;go_enter Tryz.func100,Tryz.ntmps100;go_wp2_with fail;go_ret;exact⟨by rw[He.out];rfl,rfl⟩
 ·have h3:(s.size:Int)<p.size:=by omega
  have a0:¬ (p.size:Int)<=s.size:=by omega
  have He:=Qa (show b=false by
   rw[<-hb,Bool.eq_false_iff,Ne,List.isPrefixOf_iff_prefix];intro k;have:=k.length_le;simp at this;omega)
  clear hb;go_enter Tryz.func100,Tryz.ntmps100;go_wp2_with fail;go_ret;exact⟨by rw[He.out];rfl,rfl⟩
theorem t8 (w:World)(s p:ByteArray):Calls Tryz.prog 72 #[.string s,.string p] w fun e w'=>e =.returned (.bool (p.data.toList.isPrefixOf s.data.toList))/\w=w':=by
 have H:=Qa (rE w s p);generalize p.data.toList.isPrefixOf s.data.toList=b at *;go_enter Tryz.func72,Tryz.ntmps72;go_wp2_with fail;refine Za H ?_;rintro e w' ⟨rfl,rfl⟩;go_wp2_with fail;go_ret;exact⟨rfl,rfl⟩
structure fP (w:World):Prop where
 glob:∃aU aE,cD w aU aE
 ptr:aO w 7
 max:j2 w
theorem fP.below (h:fP w)(hb:Below w.heap.size w w'):fP w':=by
 obtain⟨⟨aU,aE,h1⟩,h2,h3⟩:=h;exact⟨⟨aU,aE,h1.below hb⟩,h2.below hb,h3.below hb⟩
def DP (b:Bool)(w:World)(e:Ending)(w':World):Prop:=e =.returned (.bool b)/\Below w.heap.size w w'
theorem fP.fault (h:fP w){s:ByteArray}(hs:s.size<=1000000000):Calls Tryz.prog 63 #[.string s] w (I9 s w):=by
 obtain⟨⟨aU,aE,h1⟩,⟨a,h2⟩,-⟩:=h;exact yp h1 h2 hs
theorem ow {a r:ByteArray}(hL:fP w)(ha:aW a)(hr:aW r)(a4:a.size<=1000000000)(a3:r.size<=1000000000):Calls Tryz.prog 43 #[.string a,.string r] w (DP (cV a r) w):=by
 have H1:=Qa (hL.fault a4);have HL:=Qa hL;have Ha:=Qa ha;have Hr:=Qa hr;have Hs:=Qa a3;have Hp:=Qa (fun w=>t8 w a (r++ ⟨#[47]⟩));have Hu:=Qa (show cV a r= (decide (a=r)||(r++ ⟨#[47]⟩:ByteArray).data.toList.isPrefixOf a.data.toList) by
  unfold cV;rw[ByteArray.data_append,Array.toList_append])
 generalize (r++ ⟨#[47]⟩:ByteArray).data.toList.isPrefixOf a.data.toList=b at *
 by_cases he:a=r
 ·have b0:(a.toList==r.toList)=true:=by rw[he];simp
  have He:=Qa he;clear he hL ha hr a4 a3;go_enter Tryz.func43,Tryz.ntmps43;go_wp2_with fail;refine Za H1 ?_;rintro e w1 ⟨i,er,rfl,⟨-,rfl⟩|⟨hn,-⟩,a0⟩
  rotate_left
  ·exact absurd Ha.out hn
  have a5:=Qa a0;have H2:=Qa ((HL.out.below a0).fault Hs.out);clear a0;go_wp2_with fail;refine Za H2 ?_;rintro e w2 ⟨i,er,rfl,⟨-,rfl⟩|⟨hn,-⟩,a1⟩
  rotate_left
  ·exact absurd Hr.out hn
  have a2:=Qa (aj a5.out a1);clear a1;go_wp2_with fail;go_ret;refine⟨?_,a2.out⟩;rw[Hu.out,decide_eq_true He.out];rfl
 ·have b0:(a.toList==r.toList)=false:=by rw[eo];simpa using he
  have a9:¬9223372036854775807<r.size+1:=by omega
  have He:=Qa he;clear he hL ha hr a4 a3;go_enter Tryz.func43,Tryz.ntmps43;go_wp2_with fail;refine Za H1 ?_;rintro e w1 ⟨i,er,rfl,⟨-,rfl⟩|⟨hn,-⟩,a0⟩
  rotate_left
  ·exact absurd Ha.out hn
  have a5:=Qa a0;have H2:=Qa ((HL.out.below a0).fault Hs.out);clear a0;go_wp2_with fail;refine Za H2 ?_;rintro e w2 ⟨i,er,rfl,⟨-,rfl⟩|⟨hn,-⟩,a1⟩
  rotate_left
  ·exact absurd Hr.out hn
  have a2:=Qa (aj a5.out a1);clear a1;go_wp2_with fail;refine(Hp.out _).mono ?_;rintro e w3 ⟨rfl,rfl⟩;go_wp2_with fail;go_ret;refine⟨?_,a2.out⟩;rw[Hu.out,decide_eq_false He.out];rfl
def Kk (s:ByteArray)(w:World)(e:Ending)(w':World):Prop:= ∃v er,e =.returned (.tuple #[v,er])/\Below w.heap.size w w'/\((aW s/\er =.nilIface/\∃ps:List ByteArray,ps.map (·.data.toList)=bq s.data.toList/\aV w' w.heap.size v ps)\/(¬aW s/\v =.slice none 0 0/\∃t x,er =.iface t x))
theorem nc {s:ByteArray}(hL:fP w)(hs:s.size<=1000000000):Calls Tryz.prog 32 #[.string s] w (Kk s w):=by
 have H1:=Qa (hL.fault hs);have H2:=Qa (fun w1 (hb:Below w.heap.size w w1)=>kz (hL.below hb).max hs);clear hL hs;go_enter Tryz.func32,Tryz.ntmps32;go_wp2_with fail;refine Za H1 ?_;rintro e w1 ⟨i,er,rfl,⟨hp,rfl⟩|⟨hn,a,rfl⟩,a0⟩
 ·have a1:=Qa a0;have Hp:=Qa hp;have H3:=Qa (H2.out w1 a0);clear a0 hp;go_wp2_with fail;refine Za H3 ?_;rintro e w2 ⟨v,ps,rfl,h1,h2,a2⟩;have a3:=Qa (aj a1.out a2);have Hf:=Qa (And.intro h1 (h2.low a1.out.size));obtain⟨A,c,rfl,-⟩:=ag h2;clear h1 h2 a2;go_wp2_with fail;go_ret2;exact⟨_,_,rfl,a3.out,.inl ⟨Hp.out,rfl,ps,Hf.out⟩⟩
 ·have a1:=Qa a0;have Hn:=Qa hn;clear a0 hn;go_wp2_with fail;go_ret2;exact⟨_,_,rfl,aj a1.out (aa _ _),.inr ⟨Hn.out,rfl,_,_,rfl⟩⟩
