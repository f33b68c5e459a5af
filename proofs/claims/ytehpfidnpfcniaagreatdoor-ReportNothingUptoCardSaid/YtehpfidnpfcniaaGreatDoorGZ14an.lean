import Derived.Test.YtehpfidnpfcniaaGreatDoorGZ14af
import Derived.Test.YtehpfidnpfcniaaGreatDoorGZ14ak
import Derived.Shelf.Strings.Replace
set_option linter.unusedVariables false
set_option linter.unusedSimpArgs false
set_option maxHeartbeats 64000000
set_option maxRecDepth 100000
namespace Go.Proofs.YtehpfidnpfcniaaGreatDoor
open Go.RowKit Go.Shelf
variable {aE aU:Addr}{p:ByteArray}{j:JV}{l:List ByteArray}{ks:List JV}{L i:Nat}{w w':World}
theorem DO (W:World)(s:ByteArray)(hs:s.size<=9223372036854775807):∃W2 cap,(convert 9 28 (.string s)).run Tryz.prog W =.ok (.slice (some ⟨W.heap.size,0,none⟩) s.size cap) W2/\
  Below W.heap.size W W2/\Bs W2 (.slice (some ⟨W.heap.size,0,none⟩) s.size cap) s.data.toList:=by
 refine⟨Lib.bytesWorld W 5 s,grownCap W s.size 0 5,Lib.run_convert_string_bytes W 9 28 5 s Tryz.underlying9 Tryz.underlying28 Tryz.underlying5,?_,?_⟩
 ·exact⟨rfl,rfl,rfl,by rw[Lib.bytesWorld_size];omega,fun k hk=>Lib.bytesWorld_at_old _ _ _ _ hk⟩
 ·have hl:s.data.toList.length=s.size:=by simp
  refine⟨by omega,_,_,by rw[hl],by rw[hl];exact grownCap_ge _ _ _ _,fun _=>⟨_,0,rfl,fun i hi=>?_⟩⟩;rw[Nat.zero_add];exact Lib.bytesWorld_cell W 5 s i (by omega)
def GJ (s:ByteArray)(er:Value):Prop:=(aT s/\er =.nilIface)\/(¬aT s/\∃a,er=br a)
def FR (s:ByteArray)(w:World)(e:Ending)(w':World):Prop:= ∃ (i:Int) (er:Value),e =.returned (.tuple #[.int .i64 i,er])/\GJ s er/\Below w.heap.size w w'
theorem rO (s:ByteArray)(i:Nat):(s.extract i s.size).data.toList=s.data.toList.drop i:=by
 have hl:s.data.toList.length=s.size:=by simp
 rw[ByteArray.data_extract,Array.toList_extract,List.extract_eq_take_drop,List.take_of_length_le (by rw[List.length_drop];omega)]
theorem wK {s:ByteArray}{a:Addr}(hG:cd w aU aE)(hP:w.cell? ⟨3,0,none⟩=some (br a))(hs:s.size<=1000000000):Calls Tryz.prog 23 #[.string s] w (FR s w):=by
 have hl:s.data.toList.length=s.size:=by simp
 cases hc:s.data.toList with
 |nil=>
  obtain rfl:s= ⟨#[]⟩:=by cases s with|mk d=>simp at hc;rw[hc]
  clear hG hP hs hl hc;go_enter Tryz.func23,Tryz.ntmps23;go_wp2_with fail
  go_loopg [4] 0 (fun _ s4 wr=>s4 =.int .i64 0/\wr=w)
  case atStart=>exact⟨rfl,rfl⟩
  case round=>
   obtain⟨rfl,rfl⟩:=hrel;go_wp2_with fail;go_ret2;exact⟨0,.nilIface,rfl,.inl ⟨gC,rfl⟩,Ze _ _⟩
 |cons c t=>
  have hne:¬s.toList = []:=by
   rw[ByteArray.toList_eq,hc];simp
  have c7:s.toList.isEmpty=false:=by
   rw[ByteArray.toList_eq,hc];rfl
  have c3:∀w',(Instr.index 9 (.string s) (.int .i64 0)).run Tryz.prog w' =.ok (.int .u8 c.toNat) w':=gi (k:=.i64) (s:=s) (p:=0) (x:=c) (by rw[hc];rfl)
  by_cases h47:c=47
  ·have Hc:=H8 hc;have b9:((c.toNat:Int) !=47)=false:=by rw[h47];rfl
   have c1:=H8 (fun (p:Nat) (x:UInt8) (h:s.data.toList[p]?=some x) (w':World)=>gi (k:=.i64) h w');have Hl:=H8 hl;have HG:=H8 hG;have HP:=H8 hP;have Hs:=H8 hs;have H0:=H8 (show aT s↔xB s.data.toList by
    unfold aT;rw[hc,h47];simp)
   clear hc h47 hl hG hP hs;go_enter Tryz.func23,Tryz.ntmps23;go_wp2_with fail
   go_loopg [4] s.size (fun m s4 wr=> ∃i:Nat,m+i=s.size/\s4 =.int .i64 i/\Below w.heap.size w wr/\Hid (xB (s.data.toList.drop i)↔aT s))
   case atStart=>exact⟨0,rfl,rfl,Ze _ _,H8 H0.out.symm⟩
   case round=>
    obtain⟨i,hm,rfl,hb,Hk⟩:=hrel;have Hb:=H8 hb;have Hm:=H8 hm;have hs:=Hs.out;clear c3 b9 hne c7
    by_cases hlt:i<s.size
    ·have b1:(i:Int)<s.size:=by omega
     obtain⟨x,hx⟩:∃x,s.data.toList[i]?=some x:=⟨_,Zd (by rw[Hl.out];exact hlt)⟩;have c3:=c1.out i x hx;have b0:(s.extract i s.size).size=s.size - i:=by simp
     obtain⟨W2,cap,a2,c2,b4⟩:=DO wr (s.extract i s.size) (by rw[b0];omega);rw[rO,b0] at b4;rw[b0] at a2;have b8:=H8 (hb.trans (c2.mono hb.size));have Hd:=H8 (fe b4 (HG.out.below b8.out));have hne:s.data.toList.drop i≠ []:=fun e=>by have:=congrArg List.length e;rw[List.length_drop,Hl.out] at this;simp at this;omega
     have h0:(s.data.toList.drop i)[0]?=some x:=by rw[List.getElem?_drop];exact hx
     have h1:(s.data.toList.drop i)[1]?=s.data.toList[i+1]?:=by rw[List.getElem?_drop]
     have a1:=H8 (show(a8 (s.data.toList.drop i)).2.2≠0->¬xB (s.data.toList.drop i) from fun h=>Ct hne h);have a0:=H8 (show(a8 (s.data.toList.drop i)).2.2=0->(x=126->s.data.toList[i+1]?=some 48\/s.data.toList[i+1]?=some 49)->(xB (s.data.toList.drop i)↔xB ((s.data.toList.drop i).drop (a8 (s.data.toList.drop i)).2.1)) from fun h h'=>yZ hne h (by rw[h0,h1];intro e;exact h' (Zi e)));have a3:=H8 (show x=126->¬ (s.data.toList[i+1]?=some 48\/s.data.toList[i+1]?=some 49)->¬xB (s.data.toList.drop i) from fun h h'=>xk (by rw[h0,h]) (by rw[h1];exact h'));have a4:=H8 (show(a8 (s.data.toList.drop i)).2.2=0->1<=(a8 (s.data.toList.drop i)).2.1 from dM);have b5:=H8 (dx s.data.toList i (by rw[Hl.out];omega));rw[Hl.out] at b5;have c4:=H8 (oC (s.data.toList.drop i));have Hx:=H8 hx;clear hb c2 b4 hne h0 h1 hx hm b0;generalize a8 (s.data.toList.drop i)=R at *;obtain⟨cp,n,k⟩:=R
     dsimp only at a1 a0 a4 b5 c4
     go_wp2_with fail;refine Za Hd ?_;rintro e w3 ⟨rfl,m3,rfl⟩;obtain⟨w3,b3⟩:∃w3,W2.drewN m3=w3:=⟨_,rfl⟩;have Hb3:=H8 (show Below w.heap.size w w3 by rw[<-b3];exact ap b8.out m3);rw[b3];clear b3
     by_cases hk:k=0
     ·subst hk;have he:gP (bS aU) (bS aE) 0 =.nilIface:=rfl;have hle:=b5.out;have c8:=a4.out rfl;unfold pu
      dsimp only
      rw[he]
      by_cases hx126:x=126
      ·have a5:((x.toNat:Int)==126)=true:=by rw[hx126];rfl
       by_cases hend:i+1=s.size
       ·have c6:((i:Int)+1== (s.size:Int))=true:=by rw[beq_iff_eq];omega
        have cP:=Zg Hb3.out HP.out;have Hf:=H8 (show ¬aT s from fun h=>a3.out hx126 (by rw[List.getElem?_eq_none (by rw[Hl.out];omega)];simp) (Hk.out.2 h));clear hx126 hend;go_wp2_with fail;go_quiet (fail);go_wp2_with fail;go_ret2;exact⟨_,br a,rfl,.inr ⟨Hf.out,a,rfl⟩,ap Hb3.out _⟩
       ·have c6:((i:Int)+1== (s.size:Int))=false:=by rw[beq_eq_false_iff_ne];omega
        obtain⟨y,hy⟩:∃y,s.data.toList[i+1]?=some y:=⟨_,Zd (by rw[Hl.out];omega)⟩;have c5:=c1.out (i+1) y hy;rw[show((i+1:Nat):Int)= (i:Int)+1 by omega] at c5;have cP:=Zg Hb3.out HP.out
        by_cases h48:y=48
        ·have a9:((y.toNat:Int) !=48)=false:=by rw[h48];rfl
         have Hq:=H8 ((a0.out rfl (fun _=>.inl (by rw[hy,h48]))).symm.trans Hk.out);clear hx126 hend h48 hy cP;go_wp2_with fail;go_roundg (s.size - (i+n))
         case measure=>have:=Hm.out;omega
         case rel=>exact⟨i+n,by omega,by go_num,Hb3.out,H8 (by rw[<-List.drop_drop];exact Hq.out)⟩
        ·by_cases h49:y=49
         ·have a9:((y.toNat:Int) !=48)=true:=by rw[h49];rfl
          have b2:((y.toNat:Int) !=49)=false:=by rw[h49];rfl
          have Hq:=H8 ((a0.out rfl (fun _=>.inr (by rw[hy,h49]))).symm.trans Hk.out);clear hx126 hend h48 h49 hy cP;go_wp2_with fail;go_roundg (s.size - (i+n))
          case measure=>have:=Hm.out;omega
          case rel=>exact⟨i+n,by omega,by go_num,Hb3.out,H8 (by rw[<-List.drop_drop];exact Hq.out)⟩
         ·have a9:((y.toNat:Int) !=48)=true:=by rw[bne_iff_ne];intro e;exact h48 (UInt8.toNat_inj.1 (by show y.toNat=48;omega))
          have b2:((y.toNat:Int) !=49)=true:=by rw[bne_iff_ne];intro e;exact h49 (UInt8.toNat_inj.1 (by show y.toNat=49;omega))
          have Hf:=H8 (show ¬aT s from fun h=>a3.out hx126 (by rw[hy];simp[h48,h49]) (Hk.out.2 h));clear hx126 hend h48 h49 hy;go_wp2_with fail;go_quiet (fail);go_wp2_with fail;go_ret2;exact⟨_,br a,rfl,.inr ⟨Hf.out,a,rfl⟩,ap Hb3.out _⟩
      ·have a5:((x.toNat:Int)==126)=false:=by rw[beq_eq_false_iff_ne];intro e;exact hx126 (UInt8.toNat_inj.1 (by show x.toNat=126;omega))
       have Hq:=H8 ((a0.out rfl (fun h=>absurd h hx126)).symm.trans Hk.out);clear hx126;go_wp2_with fail;go_roundg (s.size - (i+n))
       case measure=>have:=Hm.out;omega
       case rel=>exact⟨i+n,by omega,by go_num,Hb3.out,H8 (by rw[<-List.drop_drop];exact Hq.out)⟩
     ·have Hf:=H8 (show ¬aT s from fun h=>a1.out hk (Hk.out.2 h));obtain⟨ae,c0⟩:∃ae,gP (bS aU) (bS aE) k=br ae:=by
       unfold gP;rw[if_neg hk]
       split
       ·exact⟨aE,rfl⟩
       ·exact⟨aU,rfl⟩
      unfold pu
      dsimp only
      rw[c0];clear hk c0;go_wp2_with fail;go_ret2;exact⟨_,br ae,rfl,.inr ⟨Hf.out,ae,rfl⟩,Hb3.out⟩
    ·obtain rfl:i=s.size:=by omega
     have b1:¬ (s.size:Int)<s.size:=by omega
     have Hf:=H8 (show aT s from Hk.out.1 (by rw[List.drop_of_length_le (by rw[Hl.out];exact Zb _)];exact C9));clear hb hm hlt;go_wp2_with fail;go_ret2;exact⟨0,.nilIface,rfl,.inl ⟨Hf.out,rfl⟩,Hb.out⟩
  ·have b9:((c.toNat:Int) !=47)=true:=by rw[bne_iff_ne];intro e;exact h47 (UInt8.toNat_inj.1 (by show c.toNat=47;omega))
   have Hf:=H8 (show ¬aT s by
    unfold aT;rw[hc];simp[h47])
   clear hG hs hl hc h47;go_enter Tryz.func23,Tryz.ntmps23;go_wp2_with fail;go_quiet (fail);go_wp2_with fail;go_ret2;exact⟨0,br a,rfl,.inr ⟨Hf.out,a,rfl⟩,ap (Ze _ _) _⟩
def mB:Go.Shelf.Ren:=⟨fun|146=>49|221=>82|268=>115|138=>116|143=>117|195=>139|197=>120|218=>140|219=>141|260=>144|217=>166|225=>167|224=>168|267=>169|266=>185|314=>186|n=>n,fun|9=>9|31=>23|3=>3|4=>4|0=>0|105=>208|21=>21|5=>5|46=>149|119=>282|139=>285|138=>284|146=>312|51=>198|n=>n,fun|1=>12|3=>13|4=>14|n=>n⟩
theorem xr:Go.Proofs.Lays.n146 Tryz.prog mB:={
 mixed:=by kernel_rfl
 f138:=Tryz.func116.trans (congrArg some (by kernel_rfl))
 f143:=Tryz.func117.trans (congrArg some (by kernel_rfl))
 f146:=Tryz.func49.trans (congrArg some (by kernel_rfl))
 f195:=Tryz.func139.trans (congrArg some (by kernel_rfl))
 f197:=Tryz.func120.trans (congrArg some (by kernel_rfl))
 f217:=Tryz.func166.trans (congrArg some (by kernel_rfl))
 f218:=Tryz.func140.trans (congrArg some (by kernel_rfl))
 f219:=Tryz.func141.trans (congrArg some (by kernel_rfl))
 f221:=Tryz.func82.trans (congrArg some (by kernel_rfl))
 f224:=Tryz.func168.trans (congrArg some (by kernel_rfl))
 f225:=Tryz.func167.trans (congrArg some (by kernel_rfl))
 f260:=Tryz.func144.trans (congrArg some (by kernel_rfl))
 f266:=Tryz.func185.trans (congrArg some (by kernel_rfl))
 f267:=Tryz.func169.trans (congrArg some (by kernel_rfl))
 f268:=Tryz.func115.trans (congrArg some (by kernel_rfl))
 f314:=Tryz.func186.trans (congrArg some (by kernel_rfl))
 t0:=Tryz.underlying0
 a0:=Tryz.isAgg0
 z0:=Tryz.sizeOf0
 v0:=Tryz.zeroValue0
 t3:=Tryz.underlying3
 a3:=Tryz.isAgg3
 z3:=Tryz.sizeOf3
 v3:=Tryz.zeroValue3
 t4:=Tryz.underlying4
 a4:=Tryz.isAgg4
 z4:=Tryz.sizeOf4
 v4:=Tryz.zeroValue4
 t5:=Tryz.underlying5
 a5:=Tryz.isAgg5
 z5:=Tryz.sizeOf5
 v5:=Tryz.zeroValue5
 t9:=Tryz.underlying9
 a9:=Tryz.isAgg9
 z9:=Tryz.sizeOf9
 v9:=Tryz.zeroValue9
 t21:=Tryz.underlying21
 a21:=Tryz.isAgg21
 z21:=Tryz.sizeOf21
 v21:=Tryz.zeroValue21
 t31:=Tryz.underlying23
 a31:=Tryz.isAgg23
 z31:=Tryz.sizeOf23
 v31:=Tryz.zeroValue23
 t46:=Tryz.underlying149
 a46:=Tryz.isAgg149
 z46:=Tryz.sizeOf149
 v46:=Tryz.zeroValue149
 t51:=Tryz.underlying198
 a51:=Tryz.isAgg198
 z51:=Tryz.sizeOf198
 v51:=Tryz.zeroValue198
 t105:=Tryz.underlying208
 a105:=Tryz.isAgg208
 z105:=Tryz.sizeOf208
 v105:=Tryz.zeroValue208
 t119:=Tryz.underlying282
 a119:=Tryz.isAgg282
 z119:=Tryz.sizeOf282
 t138:=Tryz.underlying284
 a138:=Tryz.isAgg284
 z138:=Tryz.sizeOf284
 v138:=Tryz.zeroValue284
 t139:=Tryz.underlying285
 a139:=Tryz.isAgg285
 z139:=Tryz.sizeOf285
 v139:=Tryz.zeroValue285
 t146:=Tryz.underlying312
 a146:=Tryz.isAgg312
 z146:=Tryz.sizeOf312
 v146:=Tryz.zeroValue312
 g1:=by kernel_rfl
 g3:=by kernel_rfl
 g4:=by kernel_rfl
}
def iM:Go.Shelf.Ren:=⟨fun|155=>50|154=>83|138=>116|165=>118|143=>117|166=>119|197=>120|169=>121|195=>139|218=>140|240=>142|241=>143|219=>141|260=>144|276=>170|277=>171|217=>166|225=>167|224=>168|267=>169|266=>185|314=>186|n=>n,fun|9=>9|3=>3|4=>4|72=>206|0=>0|76=>61|105=>208|21=>21|5=>5|70=>204|20=>20|37=>28|75=>30|127=>236|164=>279|46=>149|119=>282|139=>285|138=>284|146=>312|51=>198|80=>54|n=>n,fun|1=>12|3=>13|4=>14|n=>n⟩
theorem zG:Go.Proofs.Lays.n155 Tryz.prog iM:={
 mixed:=by kernel_rfl
 f138:=Tryz.func116.trans (congrArg some (by kernel_rfl))
 f143:=Tryz.func117.trans (congrArg some (by kernel_rfl))
 f154:=Tryz.func83.trans (congrArg some (by kernel_rfl))
 f155:=Tryz.func50.trans (congrArg some (by kernel_rfl))
 f165:=Tryz.func118.trans (congrArg some (by kernel_rfl))
 f166:=Tryz.func119.trans (congrArg some (by kernel_rfl))
 f169:=Tryz.func121.trans (congrArg some (by kernel_rfl))
 f195:=Tryz.func139.trans (congrArg some (by kernel_rfl))
 f197:=Tryz.func120.trans (congrArg some (by kernel_rfl))
 f217:=Tryz.func166.trans (congrArg some (by kernel_rfl))
 f218:=Tryz.func140.trans (congrArg some (by kernel_rfl))
 f219:=Tryz.func141.trans (congrArg some (by kernel_rfl))
 f224:=Tryz.func168.trans (congrArg some (by kernel_rfl))
 f225:=Tryz.func167.trans (congrArg some (by kernel_rfl))
 f240:=Tryz.func142.trans (congrArg some (by kernel_rfl))
 f241:=Tryz.func143.trans (congrArg some (by kernel_rfl))
 f260:=Tryz.func144.trans (congrArg some (by kernel_rfl))
 f266:=Tryz.func185.trans (congrArg some (by kernel_rfl))
 f267:=Tryz.func169.trans (congrArg some (by kernel_rfl))
 f276:=Tryz.func170.trans (congrArg some (by kernel_rfl))
 f277:=Tryz.func171.trans (congrArg some (by kernel_rfl))
 f314:=Tryz.func186.trans (congrArg some (by kernel_rfl))
 t0:=Tryz.underlying0
 a0:=Tryz.isAgg0
 z0:=Tryz.sizeOf0
 v0:=Tryz.zeroValue0
 t3:=Tryz.underlying3
 a3:=Tryz.isAgg3
 z3:=Tryz.sizeOf3
 v3:=Tryz.zeroValue3
 t4:=Tryz.underlying4
 a4:=Tryz.isAgg4
 z4:=Tryz.sizeOf4
 v4:=Tryz.zeroValue4
 t5:=Tryz.underlying5
 a5:=Tryz.isAgg5
 z5:=Tryz.sizeOf5
 v5:=Tryz.zeroValue5
 t9:=Tryz.underlying9
 a9:=Tryz.isAgg9
 z9:=Tryz.sizeOf9
 v9:=Tryz.zeroValue9
 t20:=Tryz.underlying20
 a20:=Tryz.isAgg20
 z20:=Tryz.sizeOf20
 v20:=Tryz.zeroValue20
 t21:=Tryz.underlying21
 a21:=Tryz.isAgg21
 z21:=Tryz.sizeOf21
 v21:=Tryz.zeroValue21
 t37:=Tryz.underlying28
 a37:=Tryz.isAgg28
 z37:=Tryz.sizeOf28
 v37:=Tryz.zeroValue28
 t46:=Tryz.underlying149
 a46:=Tryz.isAgg149
 z46:=Tryz.sizeOf149
 v46:=Tryz.zeroValue149
 t51:=Tryz.underlying198
 a51:=Tryz.isAgg198
 z51:=Tryz.sizeOf198
 v51:=Tryz.zeroValue198
 t70:=Tryz.underlying204
 a70:=Tryz.isAgg204
 z70:=Tryz.sizeOf204
 v70:=Tryz.zeroValue204
 t72:=Tryz.underlying206
 a72:=Tryz.isAgg206
 z72:=Tryz.sizeOf206
 v72:=Tryz.zeroValue206
 t75:=Tryz.underlying30
 a75:=Tryz.isAgg30
 z75:=Tryz.sizeOf30
 v75:=Tryz.zeroValue30
 t76:=Tryz.underlying61
 a76:=Tryz.isAgg61
 z76:=Tryz.sizeOf61
 v76:=Tryz.zeroValue61
 t105:=Tryz.underlying208
 a105:=Tryz.isAgg208
 z105:=Tryz.sizeOf208
 v105:=Tryz.zeroValue208
 t119:=Tryz.underlying282
 a119:=Tryz.isAgg282
 z119:=Tryz.sizeOf282
 t127:=Tryz.underlying236
 a127:=Tryz.isAgg236
 z127:=Tryz.sizeOf236
 v127:=Tryz.zeroValue236
 t138:=Tryz.underlying284
 a138:=Tryz.isAgg284
 z138:=Tryz.sizeOf284
 v138:=Tryz.zeroValue284
 t139:=Tryz.underlying285
 a139:=Tryz.isAgg285
 z139:=Tryz.sizeOf285
 v139:=Tryz.zeroValue285
 t146:=Tryz.underlying312
 a146:=Tryz.isAgg312
 z146:=Tryz.sizeOf312
 v146:=Tryz.zeroValue312
 t164:=Tryz.underlying279
 a164:=Tryz.isAgg279
 z164:=Tryz.sizeOf279
 v164:=Tryz.zeroValue279
 g1:=by kernel_rfl
 g3:=by kernel_rfl
 g4:=by kernel_rfl
}
theorem xR:Builder.Extra Tryz.prog iM where
 sizeBuilder:=by kernel_rfl
 liesBuilder:=by kernel_rfl
 t5:=Tryz.underlying5
 a5:=Tryz.isAgg5
 z5:=Tryz.sizeOf5
 v5:=Tryz.zeroValue5
 infoByte:=by kernel_rfl
 cellsByte:=by kernel_rfl
 sizeByte:=by kernel_rfl
 neB5:=by decide
def jb (w:World):Prop:= ∃m,w.cell? ⟨12,0,none⟩=some (.int .i64 m)
theorem jb.below (h:jb w)(hb:Below w.heap.size w w'):jb w':=by obtain⟨m,h⟩:=h;exact⟨m,Zg hb h⟩
theorem xe {s:ByteArray}(hM:jb w)(hs:s.size<=1000000000):Calls Tryz.prog 49 #[.string s,.string ⟨#[47]⟩] w fun e w'=>
  ∃l:List ByteArray,l.map (·.data.toList)=bT s.data.toList/\e =.returned (.slice (some ⟨w.heap.size,0,none⟩) l.length l.length)/\w'=w.alloc (.cells (l.map b7).toArray 9):=by
 obtain⟨m,hm⟩:=hM;refine(Any.strings_Split xr (by kernel_rfl) s ⟨#[47]⟩ m w (by omega) hm (by decide)).mono ?_;rintro e w' ⟨rfl,rfl⟩;have h:=Lib.splitB_all ⟨#[47]⟩ (by decide) 0 _ s rfl;refine⟨Lib.splitB ⟨#[47]⟩ 0 (Lib.countB s ⟨#[47]⟩) s,?_,by rw[h],rfl⟩;rw[Lib.splitB_data,<-tk];rfl
theorem px {s:ByteArray}(hM:jb w)(hs:s.size<=1000000000)(b c:UInt8):Calls Tryz.prog 50 #[.string s,.string ⟨#[126,b]⟩,.string ⟨#[c]⟩] w fun e w'=>
  e =.returned (.string ⟨(cj b c s.data.toList).toArray⟩)/\Below w.heap.size w w':=by
 obtain⟨m,hm⟩:=hM;have hc:=Lib.countB_mul_le ⟨#[126,b]⟩ (by show 1<=2;decide) s.size s (Zb _);have h2:(⟨#[126,b]⟩:ByteArray).size=2:=rfl;have h1:(⟨#[c]⟩:ByteArray).size=1:=rfl;refine(Any.strings_ReplaceAll zG xR s ⟨#[126,b]⟩ ⟨#[c]⟩ m w (by omega) hm (by show 1<=2;decide) (by rw[h1];rw[h2] at hc;omega)).mono ?_;rintro e w' ⟨rfl,hb⟩;refine⟨?_,hb⟩;rw[<-ku]
def Fd (l:List (List UInt8))(w:World)(e:Ending)(w':World):Prop:= ∃ (v:Value) (ps:List ByteArray),e =.returned v/\ps.map (·.data.toList)=l/\aZ w' w.heap.size v ps/\Below w.heap.size w w'
theorem lQ (b c:UInt8):∀ (n:Nat) (l:List UInt8),l.length<=n->(cj b c l).length<=l.length:=by
 intro n
 induction n with
 |zero=>intro l h;obtain rfl:=List.eq_nil_of_length_eq_zero (show l.length=0 by omega);simp[cj]
 |succ n ih=>
  intro l h
  match l with
  | []=>simp[cj]
  | [x]=>simp[cj]
  |x::y::t=>
   rw[cj];simp only[List.length_cons] at h
   split
   ·have:=ih t (by omega);simp;omega
   ·have:=ih (y::t) (by simp;omega);simp at this ⊢;omega
theorem pM (s:List UInt8):(bT s).length<=s.length+1/\∀p∈bT s,p.length<=s.length:=by
 induction s with
 |nil=>simp[bT]
 |cons c t ih=>
  unfold bT
  split
  ·refine⟨by have:=ih.1;simp;omega,fun p hp=>?_⟩;rcases List.mem_cons.1 hp with rfl|hp
   ·simp
   ·have:=ih.2 p hp;simp;omega
  ·split
   ·next a r e=>
    rw[e] at ih;refine⟨by have:=ih.1;simp at this ⊢;omega,fun p hp=>?_⟩;rcases List.mem_cons.1 hp with rfl|hp
    ·have:=ih.2 a (by simp);simp;omega
    ·have:=ih.2 p (by simp[hp]);simp;omega
   ·simp
def tI (p:ByteArray):ByteArray:=⟨(pC p.data.toList).toArray⟩
def jo (l:List ByteArray)(i:Nat):List ByteArray:=(l.take i).map tI++l.drop i
theorem De (l:List ByteArray)(i:Nat):(jo l i).length=l.length:=by simp[jo];omega
theorem Cz (h:i<l.length):(jo l i)[i]?=l[i]?:=by
 unfold jo;rw[List.getElem?_append_right (by simp;omega)];simp[List.length_take,Nat.min_eq_left (Nat.le_of_lt h)]
theorem Dl (h:l[i]?=some p):(jo l i).set i (tI p)=jo l (i+1):=by
 obtain⟨hi,he⟩:=List.getElem?_eq_some_iff.1 h;unfold jo;have e:((l.take i).map tI).length=i:=by simp;omega
 rw[List.set_append_right _ _ (by omega),e,Nat.sub_self,List.drop_eq_getElem_cons hi,List.set_cons_zero,List.take_succ_eq_append_getElem hi,List.map_append,he];simp
theorem jw {s:ByteArray}(hM:jb w)(hs:s.size<=1000000000):Calls Tryz.prog 24 #[.string s] w (Fd (bi s.data.toList) w):=by
 cases hc:s.data.toList with
 |nil=>
  obtain rfl:s= ⟨#[]⟩:=by cases s with|mk d=>simp at hc;rw[hc]
  clear hM hs hc;go_enter Tryz.func24,Tryz.ntmps24;go_wp2_with fail;go_ret;exact⟨_, [],rfl,rfl,aZ.nil _ _,Ze _ _⟩
 |cons c t=>
  have hl:s.data.toList.length=s.size:=by simp
  have c5:s.toList.isEmpty=false:=by
   rw[ByteArray.toList_eq,hc];rfl
  have he:(s.extract 1 s.size).data.toList=t:=by rw[rO,hc];rfl
  have h1:1<=s.size:=by rw[<-hl,hc];simp
  have b1:(s.extract 1 s.size).size<=1000000000:=by simp;omega
  have a9:=H8 (xe hM b1);rw[he] at a9;have HM:=H8 hM;have b4:=H8 (pM t);have b3:=H8 (show t.length<1000000000 by rw[hc] at hl;simp at hl;omega);clear hM hs hc hl he b1
  show Calls _ _ _ _ fun e w'=>Fd ((bT t).map pC) w e w'
  generalize bT t=L at *;go_enter Tryz.func24,Tryz.ntmps24;go_wp2_with fail;refine Za a9 ?_;rintro e w1 ⟨l,hl,rfl,rfl⟩;have Hl:=H8 hl;clear hl a9;go_wp2_with fail;have a0:∀i,((jo l i).map b7).length=l.length:=fun i=>by rw[List.length_map,De]
  have Hn:=H8 (Zf w (.cells (l.map b7).toArray 9));have Hba:=H8 (ac w (.cells (l.map b7).toArray 9));have a5:=H8 (show l.length<=1000000000 by have h2:=congrArg List.length Hl.out;rw[List.length_map] at h2;have:=b4.out.1;have:=b3.out;omega);have c4:=H8 a0;clear a0;generalize w.alloc (.cells (l.map b7).toArray 9)=w1 at *
  go_loopg [13] l.length (fun m s13 wr=> ∃i:Nat,m+i=l.length/\s13 =.int .i64 i/\Hid (wr.heap[w.heap.size]?=some (.cells ((jo l i).map b7).toArray 9 (0,0)))/\Below w.heap.size w wr)
  case atStart=>exact⟨0,rfl,rfl,H8 (by simpa [jo] using Hn.out),Hba.out⟩
  case round=>
   obtain⟨i,hm,rfl,Hr,hb⟩:=hrel;have Hb:=H8 hb;have Hm:=H8 hm;have hlen:=a5.out;clear hb hm
   by_cases hlt:i<l.length
   ·have a3:(i:Int)<l.length:=by omega
    obtain⟨p,hp⟩:∃p,l[i]?=some p:=⟨_,Zd hlt⟩;have hg:((jo l i).map b7).toArray[i]?=some (Value.string p):=by rw[List.getElem?_toArray,List.getElem?_map,Cz hlt,hp];rfl
    have c1:=aa Hr.out hg;have b2:p.data.toList.length<=1000000000:=by
     have h2:p.data.toList∈L:=by rw[<-Hl.out];exact List.mem_map.2 ⟨p,Zk hp,rfl⟩
     have:=b4.out.2 _ h2;have:=b3.out;omega
    have hpz:p.data.toList.length=p.size:=by simp
    have H1:=H8 (px (HM.out.below Hb.out) (s:=p) (by omega) 49 47);have c2:=H8 (lQ 49 47 _ p.data.toList (Zb _));have Hp:=H8 hp;have b5:=H8 b2;have Hg:=H8 hg;clear hp b2 hpz hg;go_wp2_with fail;refine Za H1 ?_;rintro e w2 ⟨rfl,a4⟩;have a2:=H8 (Hb.out.trans (a4.mono Hb.out.size));have b9:=H8 (ai Hr.out a4);have H2:=H8 (px (HM.out.below a2.out) (s:=⟨(cj 49 47 p.data.toList).toArray⟩) (by show(cj 49 47 p.data.toList).toArray.size<=_;rw[List.size_toArray];have:=c2.out;have:=b5.out;omega) 48 126);clear a4 H1 c1;go_wp2_with fail;refine Za H2 ?_;rintro e w3 ⟨rfl,b0⟩;have b8:=H8 (a2.out.trans (b0.mono a2.out.size));have a1:=ai b9.out b0;have c3:=aa a1 Hg.out;have f3:=aj a1 i;have c0:=H8 a1;clear b0 H2 a1;go_wp2_with fail;go_roundg (l.length - (i+1))
    case measure=>have:=Hm.out;omega
    case rel=>
     refine⟨i+1,by omega,by go_num,H8 ?_,b8.out.setCell (p:=⟨w.heap.size,i,none⟩) (Zb _) _⟩;rw[au c0.out i];have h5:=Dl Hp.out;rw[<-h5,List.map_set];simp[tI,b7,pC]
   ·obtain rfl:i=l.length:=by have:=Hm.out;omega
    have a3:¬ (l.length:Int)<l.length:=by omega
    go_wp2_with fail;go_ret;refine⟨_,l.map tI,rfl,?_,?_,Hb.out⟩
    ·rw[List.map_map,<-Hl.out,List.map_map];refine List.map_congr_left fun p _=>?_
     simp[tI]
    ·have hr:=Hr.out;have hz:=c4.out l.length;have e1:jo l l.length=l.map tI:=by simp[jo]
     have:=j6 (k:=1) (n:=l.length) hr (Zb w.heap.size) (by unfold maxLen;omega) (by rw[List.size_toArray,hz,Nat.mul_one]);rw[e1] at this;unfold aZ;rw[List.length_map];exact this
theorem Cj (s p:ByteArray)(h:p.size<=s.size):p.data.toList.isPrefixOf s.data.toList= ((s.extract 0 p.size).toList==p.toList):=by
 have hl:p.data.toList.length=p.size:=by simp
 rw[dJ,Bool.eq_iff_iff,List.isPrefixOf_iff_prefix,decide_eq_true_iff,List.prefix_iff_eq_take,hl];have he:(s.extract 0 p.size).data.toList=s.data.toList.take p.size:=by
  rw[ByteArray.data_extract,Array.toList_extract,List.extract_eq_take_drop];simp
 constructor
 ·intro e;rw[<-he] at e
  cases hx:s.extract 0 p.size with|mk d=>cases p with|mk q=>rw[hx] at e;simp only[ByteArray.mk.injEq];exact(Array.toList_inj.1 e).symm
 ·intro e;rw[<-he,e]
theorem pV (w:World)(s p:ByteArray):Calls Tryz.prog 51 #[.string s,.string p] w fun e w'=>e =.returned (.bool (p.data.toList.isPrefixOf s.data.toList))/\w=w':=by
 obtain⟨b,hb⟩:∃b,p.data.toList.isPrefixOf s.data.toList=b:=⟨_,rfl⟩;rw[hb]
 by_cases h:p.size<=s.size
 ·have h3:¬ (s.size:Int)<p.size:=by omega
  have a0:(p.size:Int)<=s.size:=by omega
  have He:=H8 (hb.symm.trans (Cj s p h));clear hb;go_enter Tryz.func51,Tryz.ntmps51;go_wp2_with fail;go_ret;exact⟨by rw[He.out];rfl,rfl⟩
 ·have h3:(s.size:Int)<p.size:=by omega
  have a0:¬ (p.size:Int)<=s.size:=by omega
  have He:=H8 (show b=false by
   rw[<-hb,Bool.eq_false_iff,Ne,List.isPrefixOf_iff_prefix];intro k;have:=k.length_le;simp at this;omega)
  clear hb;go_enter Tryz.func51,Tryz.ntmps51;go_wp2_with fail;go_ret;exact⟨by rw[He.out];rfl,rfl⟩
theorem t7 (w:World)(s p:ByteArray):Calls Tryz.prog 25 #[.string s,.string p] w fun e w'=>e =.returned (.bool (p.data.toList.isPrefixOf s.data.toList))/\w=w':=by
 have H:=H8 (pV w s p);generalize p.data.toList.isPrefixOf s.data.toList=b at *;go_enter Tryz.func25,Tryz.ntmps25;go_wp2_with fail;refine Za H ?_;rintro e w' ⟨rfl,rfl⟩;go_wp2_with fail;go_ret;exact⟨rfl,rfl⟩
structure fv (w:World):Prop where
 glob:∃aU aE,cd w aU aE
 ptr:a7 w 3
 max:jb w
theorem fv.below (h:fv w)(hb:Below w.heap.size w w'):fv w':=by
 obtain⟨⟨aU,aE,h1⟩,h2,h3⟩:=h;exact⟨⟨aU,aE,h1.below hb⟩,h2.below hb,h3.below hb⟩
def BQ (b:Bool)(w:World)(e:Ending)(w':World):Prop:=e =.returned (.bool b)/\Below w.heap.size w w'
theorem fv.fault (h:fv w){s:ByteArray}(hs:s.size<=1000000000):Calls Tryz.prog 23 #[.string s] w (FR s w):=by
 obtain⟨⟨aU,aE,h1⟩,⟨a,h2⟩,-⟩:=h;exact wK h1 h2 hs
theorem jv {a r:ByteArray}(hL:fv w)(ha:aT a)(hr:aT r)(a3:a.size<=1000000000)(a4:r.size<=1000000000):Calls Tryz.prog 9 #[.string a,.string r] w (BQ (cr a r) w):=by
 have H1:=H8 (hL.fault a3);have HL:=H8 hL;have Ha:=H8 ha;have Hr:=H8 hr;have Hs:=H8 a4;have Hp:=H8 (fun w=>t7 w a (r++ ⟨#[47]⟩));have Hu:=H8 (show cr a r= (decide (a=r)||(r++ ⟨#[47]⟩:ByteArray).data.toList.isPrefixOf a.data.toList) by
  unfold cr;rw[ByteArray.data_append,Array.toList_append])
 generalize (r++ ⟨#[47]⟩:ByteArray).data.toList.isPrefixOf a.data.toList=b at *
 by_cases he:a=r
 ·have b0:(a.toList==r.toList)=true:=by rw[he];simp
  have He:=H8 he;clear he hL ha hr a3 a4;go_enter Tryz.func9,Tryz.ntmps9;go_wp2_with fail;refine Za H1 ?_;rintro e w1 ⟨i,er,rfl,⟨-,rfl⟩|⟨hn,-⟩,a0⟩
  rotate_left
  ·exact absurd Ha.out hn
  have a5:=H8 a0;have H2:=H8 ((HL.out.below a0).fault Hs.out);clear a0;go_wp2_with fail;refine Za H2 ?_;rintro e w2 ⟨i,er,rfl,⟨-,rfl⟩|⟨hn,-⟩,a1⟩
  rotate_left
  ·exact absurd Hr.out hn
  have a2:=H8 (ak a5.out a1);clear a1;go_wp2_with fail;go_ret;refine⟨?_,a2.out⟩;rw[Hu.out,decide_eq_true He.out];rfl
 ·have b0:(a.toList==r.toList)=false:=by rw[dJ];simpa using he
  have a9:¬9223372036854775807<r.size+1:=by omega
  have He:=H8 he;clear he hL ha hr a3 a4;go_enter Tryz.func9,Tryz.ntmps9;go_wp2_with fail;refine Za H1 ?_;rintro e w1 ⟨i,er,rfl,⟨-,rfl⟩|⟨hn,-⟩,a0⟩
  rotate_left
  ·exact absurd Ha.out hn
  have a5:=H8 a0;have H2:=H8 ((HL.out.below a0).fault Hs.out);clear a0;go_wp2_with fail;refine Za H2 ?_;rintro e w2 ⟨i,er,rfl,⟨-,rfl⟩|⟨hn,-⟩,a1⟩
  rotate_left
  ·exact absurd Hr.out hn
  have a2:=H8 (ak a5.out a1);clear a1;go_wp2_with fail;refine(Hp.out _).mono ?_;rintro e w3 ⟨rfl,rfl⟩;go_wp2_with fail;go_ret;refine⟨?_,a2.out⟩;rw[Hu.out,decide_eq_false He.out];rfl
def GM (s:ByteArray)(w:World)(e:Ending)(w':World):Prop:= ∃v er,e =.returned (.tuple #[v,er])/\Below w.heap.size w w'/\((aT s/\er =.nilIface/\∃ps:List ByteArray,ps.map (·.data.toList)=bi s.data.toList/\aZ w' w.heap.size v ps)\/(¬aT s/\v =.slice none 0 0/\∃t x,er =.iface t x))
theorem lf {s:ByteArray}(hL:fv w)(hs:s.size<=1000000000):Calls Tryz.prog 8 #[.string s] w (GM s w):=by
 have H1:=H8 (hL.fault hs);have H2:=H8 (fun w1 (hb:Below w.heap.size w w1)=>jw (hL.below hb).max hs);clear hL hs;go_enter Tryz.func8,Tryz.ntmps8;go_wp2_with fail;refine Za H1 ?_;rintro e w1 ⟨i,er,rfl,⟨hp,rfl⟩|⟨hn,a,rfl⟩,a0⟩
 ·have a1:=H8 a0;have Hp:=H8 hp;have H3:=H8 (H2.out w1 a0);clear a0 hp;go_wp2_with fail;refine Za H3 ?_;rintro e w2 ⟨v,ps,rfl,h1,h2,a2⟩;have a3:=H8 (ak a1.out a2);have Hf:=H8 (And.intro h1 (h2.low a1.out.size));obtain⟨A,c,rfl,-⟩:=af h2;clear h1 h2 a2;go_wp2_with fail;go_ret2;exact⟨_,_,rfl,a3.out,.inl ⟨Hp.out,rfl,ps,Hf.out⟩⟩
 ·have a1:=H8 a0;have Hn:=H8 hn;clear a0 hn;go_wp2_with fail;go_ret2;exact⟨_,_,rfl,ak a1.out (ac _ _),.inr ⟨Hn.out,rfl,_,_,rfl⟩⟩
theorem yw {c:Int}(h:b6 c=true):(bO c).length<=6* (aO c).length:=by
 have h1:1<=(aO c).length:=by rcases hl:aO c with _|⟨x,l⟩;exact absurd hl (ga h);simp
 unfold bO
 repeat' split
 all_goals first|(simp only[List.length_cons,List.length_nil];omega)|omega
theorem kQ {s:ByteArray}(h:bf s):(cY s).length<=6*s.size+2:=by
 have hn:=h.nm;have key:∀cs:List Int,(∀c∈cs,b6 c=true)->(cs.flatMap bO).length<=6* (cs.flatMap aO).length:=by
  intro cs
  induction cs with
  |nil=>intro _;simp
  |cons c cs ih=>
   intro hc;have h1:=yw (hc c (by simp));have h2:=ih (fun c h=>hc c (Zl _ h));rw[List.flatMap_cons,List.flatMap_cons,List.length_append,List.length_append];omega
 have h1:=key _ hn.1;rw[hn.2] at h1;have h2:s.data.toList.length=s.size:=by simp
 unfold cY ju;rw[List.length_cons,List.length_append];simp only[List.length_cons,List.length_nil];omega
theorem Aw {x:Int}(h: -1000000000<=x/\x<=1000000000):(fu x).length<=12:=by
 unfold fu
 split
 ·simp
 ·rcases Int.lt_or_le x 0 with hn|hn
  ·obtain⟨m,rfl⟩:∃m:Nat,x = -(m:Int):=⟨x.natAbs,by omega⟩;rw[Lib.itoa_neg m (by omega)];have:=ev (u:=m) (by omega);simp;omega
  ·obtain⟨m,rfl⟩:∃m:Nat,x= (m:Int):=⟨x.natAbs,by omega⟩;rw[Lib.itoa_nonneg m];have:=ev (u:=m) (by omega);simp;omega
inductive yu (L:Nat):JV->Prop
 |null:yu L mJ
 |bool (b:Bool):yu L (gV b)
 |num (d:Dc):d.digits.size<=L+1-> -1000000000<=d.exp/\d.exp<=1000000000->yu L (kw d)
 |text (s:ByteArray):bf s->s.size<=L->yu L (aY s)
 |list (ks:List JV):(∀u∈ks,yu L u)->yu L (cD ks)
 |obj (ns:List ByteArray) (ks:List JV):ns.length=ks.length->(∀s∈ns,bf s/\s.size<=L)->(∀u∈ks,yu L u)->yu L (.mk 6 false ⟨#[]⟩ ⟨false,⟨#[]⟩,0⟩ ns ks)
theorem si (h:∀u∈ks,(u.txt).length+6*L+10<=u.size* (12*L+40))(o:Bool):∀ (first:Bool) (ns:List ByteArray),ns.length=ks.length\/o=false->(∀s∈ns,bf s/\s.size<=L)->(JV.txts o first ns ks).length<=JV.sizes ks* (12*L+40):=by
 induction ks with
 |nil=>intro first ns _ _;simp[JV.txts]
 |cons v vs ih=>
  intro first ns hl hs;have h1:=h v (by simp);have a0:∀s∈ns.tail,bf s/\s.size<=L:=fun s h=>hs s (List.mem_of_mem_tail h)
  have h2:=ih (fun u hu=>h u (Zl _ hu)) false ns.tail (hl.imp (fun e=>by cases ns <;> simp at e ⊢;omega) id) a0;simp only[JV.txts,JV.sizes,List.length_append];have h3:(if first then([]:List UInt8) else [44]).length<=1:=by cases first <;> simp
  have h4:(if o then cY (ns.headD ⟨#[]⟩) ++ [58] else []).length<=6*L+3:=by
   cases o with
   |false=>simp
   |true=>
    cases ns with
    |nil=>simp at hl
    |cons a ns=>
     obtain⟨q1,q2⟩:=hs a (by simp);have:=kQ q1;simp only[if_true,List.headD_cons,List.length_append,List.length_cons,List.length_nil];omega
  rw[Nat.add_mul];omega
theorem yu.len (h:yu L j):j.txt.length+6*L+10<=j.size* (12*L+40):=by
 induction h with
 |null=>simp[mJ,JV.txt,JV.size,JV.sizes];omega
 |bool b=>cases b <;> simp[gV,JV.txt,JV.size,JV.sizes] <;> omega
 |num d h1 h2=>
  have:=Aw h2;have e:(kw d).txt=dN d:=by simp[kw,JV.txt]
  have e2:(kw d).size=1:=by simp[kw,JV.size,JV.sizes]
  have e3:d.digits.data.toList.length=d.digits.size:=by simp
  rw[e,e2];unfold dN;rw[List.length_append,List.length_append,e3];have e4:(if d.neg then [45] else([]:List UInt8)).length<=1:=by split <;> simp
  omega
 |text s h1 h2=>
  have:=kQ h1;have e:(aY s).txt=cY s:=by simp[aY,JV.txt]
  have e2:(aY s).size=1:=by simp[aY,JV.size,JV.sizes]
  rw[e,e2];omega
 |list ks _ ih=>
  have h1:=si ih false true [] (.inr rfl) (by simp);have e:(cD ks).txt.length= (JV.txts false true [] ks).length+2:=by simp[cD,JV.txt]
  have e2:(cD ks).size=1+JV.sizes ks:=by simp[cD,JV.size]
  rw[e,e2,Nat.add_mul];omega
 |obj ns ks hl hs _ ih=>
  have h1:=si ih true true ns (.inl hl) hs;have e:(JV.mk 6 false ⟨#[]⟩ ⟨false,⟨#[]⟩,0⟩ ns ks).txt.length= (JV.txts true true ns ks).length+2:=by simp[JV.txt]
  have e2:(JV.mk 6 false ⟨#[]⟩ ⟨false,⟨#[]⟩,0⟩ ns ks).size=1+JV.sizes ks:=by simp[JV.size]
  rw[e,e2,Nat.add_mul];omega
