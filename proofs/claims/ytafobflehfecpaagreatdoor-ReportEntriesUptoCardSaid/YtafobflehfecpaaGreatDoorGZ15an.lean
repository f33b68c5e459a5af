import Derived.Test.YtafobflehfecpaaGreatDoorGZ15af
import Derived.Test.YtafobflehfecpaaGreatDoorGZ15ak
import Derived.Shelf.Strings.Replace
set_option linter.unusedVariables false
set_option linter.unusedSimpArgs false
set_option maxHeartbeats 64000000
set_option maxRecDepth 100000
namespace Go.Proofs.YtafobflehfecpaaGreatDoor
open Go.RowKit Go.Shelf
variable {aE aU:Addr}{p:ByteArray}{j:JV}{l:List ByteArray}{ks:List JV}{L i:Nat}{w w':World}
theorem DQ (W:World)(s:ByteArray)(hs:s.size<=9223372036854775807):∃W2 cap,(convert 9 28 (.string s)).run Tryz.prog W =.ok (.slice (some ⟨W.heap.size,0,none⟩) s.size cap) W2/\
  Below W.heap.size W W2/\Bs W2 (.slice (some ⟨W.heap.size,0,none⟩) s.size cap) s.data.toList:=by
 refine⟨Lib.bytesWorld W 5 s,grownCap W s.size 0 5,Lib.run_convert_string_bytes W 9 28 5 s Tryz.underlying9 Tryz.underlying28 Tryz.underlying5,?_,?_⟩
 ·exact⟨rfl,rfl,rfl,by rw[Lib.bytesWorld_size];omega,fun k hk=>Lib.bytesWorld_at_old _ _ _ _ hk⟩
 ·have hl:s.data.toList.length=s.size:=by simp
  refine⟨by omega,_,_,by rw[hl],by rw[hl];exact grownCap_ge _ _ _ _,fun _=>⟨_,0,rfl,fun i hi=>?_⟩⟩;rw[Nat.zero_add];exact Lib.bytesWorld_cell W 5 s i (by omega)
def Ic (s:ByteArray)(er:Value):Prop:=(aT s/\er =.nilIface)\/(¬aT s/\∃a,er=bt a)
def FL (s:ByteArray)(w:World)(e:Ending)(w':World):Prop:= ∃ (i:Int) (er:Value),e =.returned (.tuple #[.int .i64 i,er])/\Ic s er/\Below w.heap.size w w'
theorem qt (s:ByteArray)(i:Nat):(s.extract i s.size).data.toList=s.data.toList.drop i:=by
 have hl:s.data.toList.length=s.size:=by simp
 rw[ByteArray.data_extract,Array.toList_extract,List.extract_eq_take_drop,List.take_of_length_le (by rw[List.length_drop];omega)]
theorem wZ {s:ByteArray}{a:Addr}(hG:cf w aU aE)(hP:w.cell? ⟨4,0,none⟩=some (bt a))(hs:s.size<=1000000000):Calls Tryz.prog 31 #[.string s] w (FL s w):=by
 have hl:s.data.toList.length=s.size:=by simp
 cases hc:s.data.toList with
 |nil=>
  obtain rfl:s= ⟨#[]⟩:=by cases s with|mk d=>simp at hc;rw[hc]
  clear hG hP hs hl hc;go_enter Tryz.func31,Tryz.ntmps31;go_wp2_with fail
  go_loopg [4] 0 (fun _ s4 wr=>s4 =.int .i64 0/\wr=w)
  case atStart=>exact⟨rfl,rfl⟩
  case round=>
   obtain⟨rfl,rfl⟩:=hrel;go_wp2_with fail;go_ret2;exact⟨0,.nilIface,rfl,.inl ⟨gn,rfl⟩,Ze _ _⟩
 |cons c t=>
  have hne:¬s.toList = []:=by
   rw[ByteArray.toList_eq,hc];simp
  have c6:s.toList.isEmpty=false:=by
   rw[ByteArray.toList_eq,hc];rfl
  have b8:∀w',(Instr.index 9 (.string s) (.int .i64 0)).run Tryz.prog w' =.ok (.int .u8 c.toNat) w':=gB (k:=.i64) (s:=s) (p:=0) (x:=c) (by rw[hc];rfl)
  by_cases h47:c=47
  ·have Hc:=Qa hc;have c0:((c.toNat:Int) !=47)=false:=by rw[h47];rfl
   have c1:=Qa (fun (p:Nat) (x:UInt8) (h:s.data.toList[p]?=some x) (w':World)=>gB (k:=.i64) h w');have Hl:=Qa hl;have HG:=Qa hG;have HP:=Qa hP;have Hs:=Qa hs;have H0:=Qa (show aT s↔wJ s.data.toList by
    unfold aT;rw[hc,h47];simp)
   clear hc h47 hl hG hP hs;go_enter Tryz.func31,Tryz.ntmps31;go_wp2_with fail
   go_loopg [4] s.size (fun m s4 wr=> ∃i:Nat,m+i=s.size/\s4 =.int .i64 i/\Below w.heap.size w wr/\Hid (wJ (s.data.toList.drop i)↔aT s))
   case atStart=>exact⟨0,rfl,rfl,Ze _ _,Qa H0.out.symm⟩
   case round=>
    obtain⟨i,hm,rfl,hb,Hk⟩:=hrel;have Hb:=Qa hb;have Hm:=Qa hm;have hs:=Hs.out;clear b8 c0 hne c6
    by_cases hlt:i<s.size
    ·have b1:(i:Int)<s.size:=by omega
     obtain⟨x,hx⟩:∃x,s.data.toList[i]?=some x:=⟨_,Zd (by rw[Hl.out];exact hlt)⟩;have b8:=c1.out i x hx;have b0:(s.extract i s.size).size=s.size - i:=by simp
     obtain⟨W2,cap,a4,b9,b4⟩:=DQ wr (s.extract i s.size) (by rw[b0];omega);rw[qt,b0] at b4;rw[b0] at a4;have c2:=Qa (hb.trans (b9.mono hb.size));have Hd:=Qa (fg b4 (HG.out.below c2.out));have hne:s.data.toList.drop i≠ []:=fun e=>by have:=congrArg List.length e;rw[List.length_drop,Hl.out] at this;simp at this;omega
     have h0:(s.data.toList.drop i)[0]?=some x:=by rw[List.getElem?_drop];exact hx
     have h1:(s.data.toList.drop i)[1]?=s.data.toList[i+1]?:=by rw[List.getElem?_drop]
     have a1:=Qa (show(a7 (s.data.toList.drop i)).2.2≠0->¬wJ (s.data.toList.drop i) from fun h=>C3 hne h);have a0:=Qa (show(a7 (s.data.toList.drop i)).2.2=0->(x=126->s.data.toList[i+1]?=some 48\/s.data.toList[i+1]?=some 49)->(wJ (s.data.toList.drop i)↔wJ ((s.data.toList.drop i).drop (a7 (s.data.toList.drop i)).2.1)) from fun h h'=>BS hne h (by rw[h0,h1];intro e;exact h' (Zi e)));have a2:=Qa (show x=126->¬ (s.data.toList[i+1]?=some 48\/s.data.toList[i+1]?=some 49)->¬wJ (s.data.toList.drop i) from fun h h'=>xG (by rw[h0,h]) (by rw[h1];exact h'));have a3:=Qa (show(a7 (s.data.toList.drop i)).2.2=0->1<=(a7 (s.data.toList.drop i)).2.1 from dL);have b2:=Qa (dt s.data.toList i (by rw[Hl.out];omega));rw[Hl.out] at b2;have c5:=Qa (pj (s.data.toList.drop i));have Hx:=Qa hx;clear hb b9 b4 hne h0 h1 hx hm b0;generalize a7 (s.data.toList.drop i)=R at *;obtain⟨cp,n,k⟩:=R
     dsimp only at a1 a0 a3 b2 c5
     go_wp2_with fail;refine Za Hd ?_;rintro e w3 ⟨rfl,m3,rfl⟩;obtain⟨w3,b3⟩:∃w3,W2.drewN m3=w3:=⟨_,rfl⟩;have Hb3:=Qa (show Below w.heap.size w w3 by rw[<-b3];exact ap c2.out m3);rw[b3];clear b3
     by_cases hk:k=0
     ·subst hk;have he:gM (bV aU) (bV aE) 0 =.nilIface:=rfl;have hle:=b2.out;have c8:=a3.out rfl;unfold rD
      dsimp only
      rw[he]
      by_cases hx126:x=126
      ·have a5:((x.toNat:Int)==126)=true:=by rw[hx126];rfl
       by_cases hend:i+1=s.size
       ·have c4:((i:Int)+1== (s.size:Int))=true:=by rw[beq_iff_eq];omega
        have cP:=Zg Hb3.out HP.out;have Hf:=Qa (show ¬aT s from fun h=>a2.out hx126 (by rw[List.getElem?_eq_none (by rw[Hl.out];omega)];simp) (Hk.out.2 h));clear hx126 hend;go_wp2_with fail;go_quiet (fail);go_wp2_with fail;go_ret2;exact⟨_,bt a,rfl,.inr ⟨Hf.out,a,rfl⟩,ap Hb3.out _⟩
       ·have c4:((i:Int)+1== (s.size:Int))=false:=by rw[beq_eq_false_iff_ne];omega
        obtain⟨y,hy⟩:∃y,s.data.toList[i+1]?=some y:=⟨_,Zd (by rw[Hl.out];omega)⟩;have c7:=c1.out (i+1) y hy;rw[show((i+1:Nat):Int)= (i:Int)+1 by omega] at c7;have cP:=Zg Hb3.out HP.out
        by_cases h48:y=48
        ·have a9:((y.toNat:Int) !=48)=false:=by rw[h48];rfl
         have Hq:=Qa ((a0.out rfl (fun _=>.inl (by rw[hy,h48]))).symm.trans Hk.out);clear hx126 hend h48 hy cP;go_wp2_with fail;go_roundg (s.size - (i+n))
         case measure=>have:=Hm.out;omega
         case rel=>exact⟨i+n,by omega,by go_num,Hb3.out,Qa (by rw[<-List.drop_drop];exact Hq.out)⟩
        ·by_cases h49:y=49
         ·have a9:((y.toNat:Int) !=48)=true:=by rw[h49];rfl
          have b5:((y.toNat:Int) !=49)=false:=by rw[h49];rfl
          have Hq:=Qa ((a0.out rfl (fun _=>.inr (by rw[hy,h49]))).symm.trans Hk.out);clear hx126 hend h48 h49 hy cP;go_wp2_with fail;go_roundg (s.size - (i+n))
          case measure=>have:=Hm.out;omega
          case rel=>exact⟨i+n,by omega,by go_num,Hb3.out,Qa (by rw[<-List.drop_drop];exact Hq.out)⟩
         ·have a9:((y.toNat:Int) !=48)=true:=by rw[bne_iff_ne];intro e;exact h48 (UInt8.toNat_inj.1 (by show y.toNat=48;omega))
          have b5:((y.toNat:Int) !=49)=true:=by rw[bne_iff_ne];intro e;exact h49 (UInt8.toNat_inj.1 (by show y.toNat=49;omega))
          have Hf:=Qa (show ¬aT s from fun h=>a2.out hx126 (by rw[hy];simp[h48,h49]) (Hk.out.2 h));clear hx126 hend h48 h49 hy;go_wp2_with fail;go_quiet (fail);go_wp2_with fail;go_ret2;exact⟨_,bt a,rfl,.inr ⟨Hf.out,a,rfl⟩,ap Hb3.out _⟩
      ·have a5:((x.toNat:Int)==126)=false:=by rw[beq_eq_false_iff_ne];intro e;exact hx126 (UInt8.toNat_inj.1 (by show x.toNat=126;omega))
       have Hq:=Qa ((a0.out rfl (fun h=>absurd h hx126)).symm.trans Hk.out);clear hx126;go_wp2_with fail;go_roundg (s.size - (i+n))
       case measure=>have:=Hm.out;omega
       case rel=>exact⟨i+n,by omega,by go_num,Hb3.out,Qa (by rw[<-List.drop_drop];exact Hq.out)⟩
     ·have Hf:=Qa (show ¬aT s from fun h=>a1.out hk (Hk.out.2 h));obtain⟨ae,c3⟩:∃ae,gM (bV aU) (bV aE) k=bt ae:=by
       unfold gM;rw[if_neg hk]
       split
       ·exact⟨aE,rfl⟩
       ·exact⟨aU,rfl⟩
      unfold rD
      dsimp only
      rw[c3];clear hk c3;go_wp2_with fail;go_ret2;exact⟨_,bt ae,rfl,.inr ⟨Hf.out,ae,rfl⟩,Hb3.out⟩
    ·obtain rfl:i=s.size:=by omega
     have b1:¬ (s.size:Int)<s.size:=by omega
     have Hf:=Qa (show aT s from Hk.out.1 (by rw[List.drop_of_length_le (by rw[Hl.out];exact Zb _)];exact Cx));clear hb hm hlt;go_wp2_with fail;go_ret2;exact⟨0,.nilIface,rfl,.inl ⟨Hf.out,rfl⟩,Hb.out⟩
  ·have c0:((c.toNat:Int) !=47)=true:=by rw[bne_iff_ne];intro e;exact h47 (UInt8.toNat_inj.1 (by show c.toNat=47;omega))
   have Hf:=Qa (show ¬aT s by
    unfold aT;rw[hc];simp[h47])
   clear hG hs hl hc h47;go_enter Tryz.func31,Tryz.ntmps31;go_wp2_with fail;go_quiet (fail);go_wp2_with fail;go_ret2;exact⟨0,bt a,rfl,.inr ⟨Hf.out,a,rfl⟩,ap (Ze _ _) _⟩
def mt:Go.Shelf.Ren:=⟨fun|146=>110|221=>140|268=>166|138=>167|143=>168|195=>191|197=>171|218=>192|219=>193|260=>196|217=>209|225=>210|224=>211|267=>212|266=>234|314=>235|n=>n,fun|9=>9|31=>23|3=>3|4=>4|0=>0|105=>291|21=>21|5=>5|46=>162|119=>346|139=>349|138=>348|146=>366|51=>207|n=>n,fun|1=>16|3=>17|4=>18|n=>n⟩
theorem xC:Go.Proofs.Lays.n146 Tryz.prog mt:={
 mixed:=by kernel_rfl
 f138:=Tryz.func167.trans (congrArg some (by kernel_rfl))
 f143:=Tryz.func168.trans (congrArg some (by kernel_rfl))
 f146:=Tryz.func110.trans (congrArg some (by kernel_rfl))
 f195:=Tryz.func191.trans (congrArg some (by kernel_rfl))
 f197:=Tryz.func171.trans (congrArg some (by kernel_rfl))
 f217:=Tryz.func209.trans (congrArg some (by kernel_rfl))
 f218:=Tryz.func192.trans (congrArg some (by kernel_rfl))
 f219:=Tryz.func193.trans (congrArg some (by kernel_rfl))
 f221:=Tryz.func140.trans (congrArg some (by kernel_rfl))
 f224:=Tryz.func211.trans (congrArg some (by kernel_rfl))
 f225:=Tryz.func210.trans (congrArg some (by kernel_rfl))
 f260:=Tryz.func196.trans (congrArg some (by kernel_rfl))
 f266:=Tryz.func234.trans (congrArg some (by kernel_rfl))
 f267:=Tryz.func212.trans (congrArg some (by kernel_rfl))
 f268:=Tryz.func166.trans (congrArg some (by kernel_rfl))
 f314:=Tryz.func235.trans (congrArg some (by kernel_rfl))
 t0:=Tryz.underlying0
 a0:=Tryz.isAgg0
 z0:=Tryz.sizeOf0
 v0:=Tryz.zeroValue0
 t3:=Tryz.underlying3
 a3:=Tryz.isAgg3
 z3:=Tryz.sizeOf3
 v3:=Tryz.zeroValue3
 t4:=Tryz.underlying4
 a4:=Tryz.isAgg4
 z4:=Tryz.sizeOf4
 v4:=Tryz.zeroValue4
 t5:=Tryz.underlying5
 a5:=Tryz.isAgg5
 z5:=Tryz.sizeOf5
 v5:=Tryz.zeroValue5
 t9:=Tryz.underlying9
 a9:=Tryz.isAgg9
 z9:=Tryz.sizeOf9
 v9:=Tryz.zeroValue9
 t21:=Tryz.underlying21
 a21:=Tryz.isAgg21
 z21:=Tryz.sizeOf21
 v21:=Tryz.zeroValue21
 t31:=Tryz.underlying23
 a31:=Tryz.isAgg23
 z31:=Tryz.sizeOf23
 v31:=Tryz.zeroValue23
 t46:=Tryz.underlying162
 a46:=Tryz.isAgg162
 z46:=Tryz.sizeOf162
 v46:=Tryz.zeroValue162
 t51:=Tryz.underlying207
 a51:=Tryz.isAgg207
 z51:=Tryz.sizeOf207
 v51:=Tryz.zeroValue207
 t105:=Tryz.underlying291
 a105:=Tryz.isAgg291
 z105:=Tryz.sizeOf291
 v105:=Tryz.zeroValue291
 t119:=Tryz.underlying346
 a119:=Tryz.isAgg346
 z119:=Tryz.sizeOf346
 t138:=Tryz.underlying348
 a138:=Tryz.isAgg348
 z138:=Tryz.sizeOf348
 v138:=Tryz.zeroValue348
 t139:=Tryz.underlying349
 a139:=Tryz.isAgg349
 z139:=Tryz.sizeOf349
 v139:=Tryz.zeroValue349
 t146:=Tryz.underlying366
 a146:=Tryz.isAgg366
 z146:=Tryz.sizeOf366
 v146:=Tryz.zeroValue366
 g1:=by kernel_rfl
 g3:=by kernel_rfl
 g4:=by kernel_rfl
}
def jc:Go.Shelf.Ren:=⟨fun|155=>111|154=>141|138=>167|165=>169|143=>168|166=>170|197=>171|169=>172|195=>191|218=>192|240=>194|241=>195|219=>193|260=>196|276=>213|277=>214|217=>209|225=>210|224=>211|267=>212|266=>234|314=>235|n=>n,fun|9=>9|3=>3|4=>4|72=>290|0=>0|76=>69|105=>291|21=>21|5=>5|70=>288|20=>20|37=>28|75=>30|127=>320|164=>343|46=>162|119=>346|139=>349|138=>348|146=>366|51=>207|80=>54|n=>n,fun|1=>16|3=>17|4=>18|n=>n⟩
theorem zc:Go.Proofs.Lays.n155 Tryz.prog jc:={
 mixed:=by kernel_rfl
 f138:=Tryz.func167.trans (congrArg some (by kernel_rfl))
 f143:=Tryz.func168.trans (congrArg some (by kernel_rfl))
 f154:=Tryz.func141.trans (congrArg some (by kernel_rfl))
 f155:=Tryz.func111.trans (congrArg some (by kernel_rfl))
 f165:=Tryz.func169.trans (congrArg some (by kernel_rfl))
 f166:=Tryz.func170.trans (congrArg some (by kernel_rfl))
 f169:=Tryz.func172.trans (congrArg some (by kernel_rfl))
 f195:=Tryz.func191.trans (congrArg some (by kernel_rfl))
 f197:=Tryz.func171.trans (congrArg some (by kernel_rfl))
 f217:=Tryz.func209.trans (congrArg some (by kernel_rfl))
 f218:=Tryz.func192.trans (congrArg some (by kernel_rfl))
 f219:=Tryz.func193.trans (congrArg some (by kernel_rfl))
 f224:=Tryz.func211.trans (congrArg some (by kernel_rfl))
 f225:=Tryz.func210.trans (congrArg some (by kernel_rfl))
 f240:=Tryz.func194.trans (congrArg some (by kernel_rfl))
 f241:=Tryz.func195.trans (congrArg some (by kernel_rfl))
 f260:=Tryz.func196.trans (congrArg some (by kernel_rfl))
 f266:=Tryz.func234.trans (congrArg some (by kernel_rfl))
 f267:=Tryz.func212.trans (congrArg some (by kernel_rfl))
 f276:=Tryz.func213.trans (congrArg some (by kernel_rfl))
 f277:=Tryz.func214.trans (congrArg some (by kernel_rfl))
 f314:=Tryz.func235.trans (congrArg some (by kernel_rfl))
 t0:=Tryz.underlying0
 a0:=Tryz.isAgg0
 z0:=Tryz.sizeOf0
 v0:=Tryz.zeroValue0
 t3:=Tryz.underlying3
 a3:=Tryz.isAgg3
 z3:=Tryz.sizeOf3
 v3:=Tryz.zeroValue3
 t4:=Tryz.underlying4
 a4:=Tryz.isAgg4
 z4:=Tryz.sizeOf4
 v4:=Tryz.zeroValue4
 t5:=Tryz.underlying5
 a5:=Tryz.isAgg5
 z5:=Tryz.sizeOf5
 v5:=Tryz.zeroValue5
 t9:=Tryz.underlying9
 a9:=Tryz.isAgg9
 z9:=Tryz.sizeOf9
 v9:=Tryz.zeroValue9
 t20:=Tryz.underlying20
 a20:=Tryz.isAgg20
 z20:=Tryz.sizeOf20
 v20:=Tryz.zeroValue20
 t21:=Tryz.underlying21
 a21:=Tryz.isAgg21
 z21:=Tryz.sizeOf21
 v21:=Tryz.zeroValue21
 t37:=Tryz.underlying28
 a37:=Tryz.isAgg28
 z37:=Tryz.sizeOf28
 v37:=Tryz.zeroValue28
 t46:=Tryz.underlying162
 a46:=Tryz.isAgg162
 z46:=Tryz.sizeOf162
 v46:=Tryz.zeroValue162
 t51:=Tryz.underlying207
 a51:=Tryz.isAgg207
 z51:=Tryz.sizeOf207
 v51:=Tryz.zeroValue207
 t70:=Tryz.underlying288
 a70:=Tryz.isAgg288
 z70:=Tryz.sizeOf288
 v70:=Tryz.zeroValue288
 t72:=Tryz.underlying290
 a72:=Tryz.isAgg290
 z72:=Tryz.sizeOf290
 v72:=Tryz.zeroValue290
 t75:=Tryz.underlying30
 a75:=Tryz.isAgg30
 z75:=Tryz.sizeOf30
 v75:=Tryz.zeroValue30
 t76:=Tryz.underlying69
 a76:=Tryz.isAgg69
 z76:=Tryz.sizeOf69
 v76:=Tryz.zeroValue69
 t105:=Tryz.underlying291
 a105:=Tryz.isAgg291
 z105:=Tryz.sizeOf291
 v105:=Tryz.zeroValue291
 t119:=Tryz.underlying346
 a119:=Tryz.isAgg346
 z119:=Tryz.sizeOf346
 t127:=Tryz.underlying320
 a127:=Tryz.isAgg320
 z127:=Tryz.sizeOf320
 v127:=Tryz.zeroValue320
 t138:=Tryz.underlying348
 a138:=Tryz.isAgg348
 z138:=Tryz.sizeOf348
 v138:=Tryz.zeroValue348
 t139:=Tryz.underlying349
 a139:=Tryz.isAgg349
 z139:=Tryz.sizeOf349
 v139:=Tryz.zeroValue349
 t146:=Tryz.underlying366
 a146:=Tryz.isAgg366
 z146:=Tryz.sizeOf366
 v146:=Tryz.zeroValue366
 t164:=Tryz.underlying343
 a164:=Tryz.isAgg343
 z164:=Tryz.sizeOf343
 v164:=Tryz.zeroValue343
 g1:=by kernel_rfl
 g3:=by kernel_rfl
 g4:=by kernel_rfl
}
theorem xh:Builder.Extra Tryz.prog jc where
 sizeBuilder:=by kernel_rfl
 liesBuilder:=by kernel_rfl
 t5:=Tryz.underlying5
 a5:=Tryz.isAgg5
 z5:=Tryz.sizeOf5
 v5:=Tryz.zeroValue5
 infoByte:=by kernel_rfl
 cellsByte:=by kernel_rfl
 sizeByte:=by kernel_rfl
 neB5:=by decide
def iH (w:World):Prop:= ∃m,w.cell? ⟨16,0,none⟩=some (.int .i64 m)
theorem iH.below (h:iH w)(hb:Below w.heap.size w w'):iH w':=by obtain⟨m,h⟩:=h;exact⟨m,Zg hb h⟩
theorem xL {s:ByteArray}(hM:iH w)(hs:s.size<=1000000000):Calls Tryz.prog 110 #[.string s,.string ⟨#[47]⟩] w fun e w'=>
  ∃l:List ByteArray,l.map (·.data.toList)=bU s.data.toList/\e =.returned (.slice (some ⟨w.heap.size,0,none⟩) l.length l.length)/\w'=w.alloc (.cells (l.map cH).toArray 9):=by
 obtain⟨m,hm⟩:=hM;refine(Any.strings_Split xC (by kernel_rfl) s ⟨#[47]⟩ m w (by omega) hm (by decide)).mono ?_;rintro e w' ⟨rfl,rfl⟩;have h:=Lib.splitB_all ⟨#[47]⟩ (by decide) 0 _ s rfl;refine⟨Lib.splitB ⟨#[47]⟩ 0 (Lib.countB s ⟨#[47]⟩) s,?_,by rw[h],rfl⟩;rw[Lib.splitB_data,<-sQ];rfl
theorem pw {s:ByteArray}(hM:iH w)(hs:s.size<=1000000000)(b c:UInt8):Calls Tryz.prog 111 #[.string s,.string ⟨#[126,b]⟩,.string ⟨#[c]⟩] w fun e w'=>
  e =.returned (.string ⟨(cn b c s.data.toList).toArray⟩)/\Below w.heap.size w w':=by
 obtain⟨m,hm⟩:=hM;have hc:=Lib.countB_mul_le ⟨#[126,b]⟩ (by show 1<=2;decide) s.size s (Zb _);have h2:(⟨#[126,b]⟩:ByteArray).size=2:=rfl;have h1:(⟨#[c]⟩:ByteArray).size=1:=rfl;refine(Any.strings_ReplaceAll zc xh s ⟨#[126,b]⟩ ⟨#[c]⟩ m w (by omega) hm (by show 1<=2;decide) (by rw[h1];rw[h2] at hc;omega)).mono ?_;rintro e w' ⟨rfl,hb⟩;refine⟨?_,hb⟩;rw[<-kn]
def FU (l:List (List UInt8))(w:World)(e:Ending)(w':World):Prop:= ∃ (v:Value) (ps:List ByteArray),e =.returned v/\ps.map (·.data.toList)=l/\be w' w.heap.size v ps/\Below w.heap.size w w'
theorem lu (b c:UInt8):∀ (n:Nat) (l:List UInt8),l.length<=n->(cn b c l).length<=l.length:=by
 intro n
 induction n with
 |zero=>intro l h;obtain rfl:=List.eq_nil_of_length_eq_zero (show l.length=0 by omega);simp[cn]
 |succ n ih=>
  intro l h
  match l with
  | []=>simp[cn]
  | [x]=>simp[cn]
  |x::y::t=>
   rw[cn];simp only[List.length_cons] at h
   split
   ·have:=ih t (by omega);simp;omega
   ·have:=ih (y::t) (by simp;omega);simp at this ⊢;omega
theorem qA (s:List UInt8):(bU s).length<=s.length+1/\∀p∈bU s,p.length<=s.length:=by
 induction s with
 |nil=>simp[bU]
 |cons c t ih=>
  unfold bU
  split
  ·refine⟨by have:=ih.1;simp;omega,fun p hp=>?_⟩;rcases List.mem_cons.1 hp with rfl|hp
   ·simp
   ·have:=ih.2 p hp;simp;omega
  ·split
   ·next a r e=>
    rw[e] at ih;refine⟨by have:=ih.1;simp at this ⊢;omega,fun p hp=>?_⟩;rcases List.mem_cons.1 hp with rfl|hp
    ·have:=ih.2 a (by simp);simp;omega
    ·have:=ih.2 p (by simp[hp]);simp;omega
   ·simp
def uF (p:ByteArray):ByteArray:=⟨(qY p.data.toList).toArray⟩
def jF (l:List ByteArray)(i:Nat):List ByteArray:=(l.take i).map uF++l.drop i
theorem Cf (l:List ByteArray)(i:Nat):(jF l i).length=l.length:=by simp[jF];omega
theorem Dv (h:i<l.length):(jF l i)[i]?=l[i]?:=by
 unfold jF;rw[List.getElem?_append_right (by simp;omega)];simp[List.length_take,Nat.min_eq_left (Nat.le_of_lt h)]
theorem DE (h:l[i]?=some p):(jF l i).set i (uF p)=jF l (i+1):=by
 obtain⟨hi,he⟩:=List.getElem?_eq_some_iff.1 h;unfold jF;have e:((l.take i).map uF).length=i:=by simp;omega
 rw[List.set_append_right _ _ (by omega),e,Nat.sub_self,List.drop_eq_getElem_cons hi,List.set_cons_zero,List.take_succ_eq_append_getElem hi,List.map_append,he];simp
theorem jS {s:ByteArray}(hM:iH w)(hs:s.size<=1000000000):Calls Tryz.prog 77 #[.string s] w (FU (bi s.data.toList) w):=by
 cases hc:s.data.toList with
 |nil=>
  obtain rfl:s= ⟨#[]⟩:=by cases s with|mk d=>simp at hc;rw[hc]
  clear hM hs hc;go_enter Tryz.func77,Tryz.ntmps77;go_wp2_with fail;go_ret;exact⟨_, [],rfl,rfl,be.nil _ _,Ze _ _⟩
 |cons c t=>
  have hl:s.data.toList.length=s.size:=by simp
  have c5:s.toList.isEmpty=false:=by
   rw[ByteArray.toList_eq,hc];rfl
  have he:(s.extract 1 s.size).data.toList=t:=by rw[qt,hc];rfl
  have h1:1<=s.size:=by rw[<-hl,hc];simp
  have b1:(s.extract 1 s.size).size<=1000000000:=by simp;omega
  have a9:=Qa (xL hM b1);rw[he] at a9;have HM:=Qa hM;have b2:=Qa (qA t);have b3:=Qa (show t.length<1000000000 by rw[hc] at hl;simp at hl;omega);clear hM hs hc hl he b1
  show Calls _ _ _ _ fun e w'=>FU ((bU t).map qY) w e w'
  generalize bU t=L at *;go_enter Tryz.func77,Tryz.ntmps77;go_wp2_with fail;refine Za a9 ?_;rintro e w1 ⟨l,hl,rfl,rfl⟩;have Hl:=Qa hl;clear hl a9;go_wp2_with fail;have a0:∀i,((jF l i).map cH).length=l.length:=fun i=>by rw[List.length_map,Cf]
  have Hn:=Qa (Zf w (.cells (l.map cH).toArray 9));have Hba:=Qa (ac w (.cells (l.map cH).toArray 9));have a4:=Qa (show l.length<=1000000000 by have h2:=congrArg List.length Hl.out;rw[List.length_map] at h2;have:=b2.out.1;have:=b3.out;omega);have c2:=Qa a0;clear a0;generalize w.alloc (.cells (l.map cH).toArray 9)=w1 at *
  go_loopg [13] l.length (fun m s13 wr=> ∃i:Nat,m+i=l.length/\s13 =.int .i64 i/\Hid (wr.heap[w.heap.size]?=some (.cells ((jF l i).map cH).toArray 9 (0,0)))/\Below w.heap.size w wr)
  case atStart=>exact⟨0,rfl,rfl,Qa (by simpa [jF] using Hn.out),Hba.out⟩
  case round=>
   obtain⟨i,hm,rfl,Hr,hb⟩:=hrel;have Hb:=Qa hb;have Hm:=Qa hm;have hlen:=a4.out;clear hb hm
   by_cases hlt:i<l.length
   ·have a5:(i:Int)<l.length:=by omega
    obtain⟨p,hp⟩:∃p,l[i]?=some p:=⟨_,Zd hlt⟩;have hg:((jF l i).map cH).toArray[i]?=some (Value.string p):=by rw[List.getElem?_toArray,List.getElem?_map,Dv hlt,hp];rfl
    have c1:=aa Hr.out hg;have b4:p.data.toList.length<=1000000000:=by
     have h2:p.data.toList∈L:=by rw[<-Hl.out];exact List.mem_map.2 ⟨p,Zk hp,rfl⟩
     have:=b2.out.2 _ h2;have:=b3.out;omega
    have hpz:p.data.toList.length=p.size:=by simp
    have H1:=Qa (pw (HM.out.below Hb.out) (s:=p) (by omega) 49 47);have b8:=Qa (lu 49 47 _ p.data.toList (Zb _));have Hp:=Qa hp;have b9:=Qa b4;have Hg:=Qa hg;clear hp b4 hpz hg;go_wp2_with fail;refine Za H1 ?_;rintro e w2 ⟨rfl,a3⟩;have b0:=Qa (Hb.out.trans (a3.mono Hb.out.size));have c4:=Qa (ah Hr.out a3);have H2:=Qa (pw (HM.out.below b0.out) (s:=⟨(cn 49 47 p.data.toList).toArray⟩) (by show(cn 49 47 p.data.toList).toArray.size<=_;rw[List.size_toArray];have:=b8.out;have:=b9.out;omega) 48 126);clear a3 H1 c1;go_wp2_with fail;refine Za H2 ?_;rintro e w3 ⟨rfl,a2⟩;have b5:=Qa (b0.out.trans (a2.mono b0.out.size));have a1:=ah c4.out a2;have c3:=aa a1 Hg.out;have f3:=aj a1 i;have c0:=Qa a1;clear a2 H2 a1;go_wp2_with fail;go_roundg (l.length - (i+1))
    case measure=>have:=Hm.out;omega
    case rel=>
     refine⟨i+1,by omega,by go_num,Qa ?_,b5.out.setCell (p:=⟨w.heap.size,i,none⟩) (Zb _) _⟩;rw[ar c0.out i];have h5:=DE Hp.out;rw[<-h5,List.map_set];simp[uF,cH,qY]
   ·obtain rfl:i=l.length:=by have:=Hm.out;omega
    have a5:¬ (l.length:Int)<l.length:=by omega
    go_wp2_with fail;go_ret;refine⟨_,l.map uF,rfl,?_,?_,Hb.out⟩
    ·rw[List.map_map,<-Hl.out,List.map_map];refine List.map_congr_left fun p _=>?_
     simp[uF]
    ·have hr:=Hr.out;have hz:=c2.out l.length;have e1:jF l l.length=l.map uF:=by simp[jF]
     have:=j4 (k:=1) (n:=l.length) hr (Zb w.heap.size) (by unfold maxLen;omega) (by rw[List.size_toArray,hz,Nat.mul_one]);rw[e1] at this;unfold be;rw[List.length_map];exact this
theorem Dm (s p:ByteArray)(h:p.size<=s.size):p.data.toList.isPrefixOf s.data.toList= ((s.extract 0 p.size).toList==p.toList):=by
 have hl:p.data.toList.length=p.size:=by simp
 rw[dK,Bool.eq_iff_iff,List.isPrefixOf_iff_prefix,decide_eq_true_iff,List.prefix_iff_eq_take,hl];have he:(s.extract 0 p.size).data.toList=s.data.toList.take p.size:=by
  rw[ByteArray.data_extract,Array.toList_extract,List.extract_eq_take_drop];simp
 constructor
 ·intro e;rw[<-he] at e
  cases hx:s.extract 0 p.size with|mk d=>cases p with|mk q=>rw[hx] at e;simp only[ByteArray.mk.injEq];exact(Array.toList_inj.1 e).symm
 ·intro e;rw[<-he,e]
theorem p5 (w:World)(s p:ByteArray):Calls Tryz.prog 70 #[.string s,.string p] w fun e w'=>e =.returned (.bool (p.data.toList.isPrefixOf s.data.toList))/\w=w':=by
 obtain⟨b,hb⟩:∃b,p.data.toList.isPrefixOf s.data.toList=b:=⟨_,rfl⟩;rw[hb]
 by_cases h:p.size<=s.size
 ·have h3:¬ (s.size:Int)<p.size:=by omega
  have a0:(p.size:Int)<=s.size:=by omega
  have He:=Qa (hb.symm.trans (Dm s p h));clear hb;go_enter Tryz.func70,Tryz.ntmps70;go_wp2_with fail;go_ret;exact⟨by rw[He.out];rfl,rfl⟩
 ·have h3:(s.size:Int)<p.size:=by omega
  have a0:¬ (p.size:Int)<=s.size:=by omega
  have He:=Qa (show b=false by
   rw[<-hb,Bool.eq_false_iff,Ne,List.isPrefixOf_iff_prefix];intro k;have:=k.length_le;simp at this;omega)
  clear hb;go_enter Tryz.func70,Tryz.ntmps70;go_wp2_with fail;go_ret;exact⟨by rw[He.out];rfl,rfl⟩
theorem tW (w:World)(s p:ByteArray):Calls Tryz.prog 32 #[.string s,.string p] w fun e w'=>e =.returned (.bool (p.data.toList.isPrefixOf s.data.toList))/\w=w':=by
 have H:=Qa (p5 w s p);generalize p.data.toList.isPrefixOf s.data.toList=b at *;go_enter Tryz.func32,Tryz.ntmps32;go_wp2_with fail;refine Za H ?_;rintro e w' ⟨rfl,rfl⟩;go_wp2_with fail;go_ret;exact⟨rfl,rfl⟩
structure fe (w:World):Prop where
 glob:∃aU aE,cf w aU aE
 ptr:a6 w 4
 max:iH w
theorem fe.below (h:fe w)(hb:Below w.heap.size w w'):fe w':=by
 obtain⟨⟨aU,aE,h1⟩,h2,h3⟩:=h;exact⟨⟨aU,aE,h1.below hb⟩,h2.below hb,h3.below hb⟩
def Bz (b:Bool)(w:World)(e:Ending)(w':World):Prop:=e =.returned (.bool b)/\Below w.heap.size w w'
theorem fe.fault (h:fe w){s:ByteArray}(hs:s.size<=1000000000):Calls Tryz.prog 31 #[.string s] w (FL s w):=by
 obtain⟨⟨aU,aE,h1⟩,⟨a,h2⟩,-⟩:=h;exact wZ h1 h2 hs
theorem dY {a r:ByteArray}(hL:fe w)(ha:aT a)(hr:aT r)(a4:a.size<=1000000000)(a5:r.size<=1000000000):Calls Tryz.prog 13 #[.string a,.string r] w (Bz (bE a r) w):=by
 have H1:=Qa (hL.fault a4);have HL:=Qa hL;have Ha:=Qa ha;have Hr:=Qa hr;have Hs:=Qa a5;have Hp:=Qa (fun w=>tW w a (r++ ⟨#[47]⟩));have Hu:=Qa (show bE a r= (decide (a=r)||(r++ ⟨#[47]⟩:ByteArray).data.toList.isPrefixOf a.data.toList) by
  unfold bE;rw[ByteArray.data_append,Array.toList_append])
 generalize (r++ ⟨#[47]⟩:ByteArray).data.toList.isPrefixOf a.data.toList=b at *
 by_cases he:a=r
 ·have a9:(a.toList==r.toList)=true:=by rw[he];simp
  have He:=Qa he;clear he hL ha hr a4 a5;go_enter Tryz.func13,Tryz.ntmps13;go_wp2_with fail;refine Za H1 ?_;rintro e w1 ⟨i,er,rfl,⟨-,rfl⟩|⟨hn,-⟩,a0⟩
  rotate_left
  ·exact absurd Ha.out hn
  have a3:=Qa a0;have H2:=Qa ((HL.out.below a0).fault Hs.out);clear a0;go_wp2_with fail;refine Za H2 ?_;rintro e w2 ⟨i,er,rfl,⟨-,rfl⟩|⟨hn,-⟩,a1⟩
  rotate_left
  ·exact absurd Hr.out hn
  have a2:=Qa (ak a3.out a1);clear a1;go_wp2_with fail;go_ret;refine⟨?_,a2.out⟩;rw[Hu.out,decide_eq_true He.out];rfl
 ·have a9:(a.toList==r.toList)=false:=by rw[dK];simpa using he
  have b0:¬9223372036854775807<r.size+1:=by omega
  have He:=Qa he;clear he hL ha hr a4 a5;go_enter Tryz.func13,Tryz.ntmps13;go_wp2_with fail;refine Za H1 ?_;rintro e w1 ⟨i,er,rfl,⟨-,rfl⟩|⟨hn,-⟩,a0⟩
  rotate_left
  ·exact absurd Ha.out hn
  have a3:=Qa a0;have H2:=Qa ((HL.out.below a0).fault Hs.out);clear a0;go_wp2_with fail;refine Za H2 ?_;rintro e w2 ⟨i,er,rfl,⟨-,rfl⟩|⟨hn,-⟩,a1⟩
  rotate_left
  ·exact absurd Hr.out hn
  have a2:=Qa (ak a3.out a1);clear a1;go_wp2_with fail;refine(Hp.out _).mono ?_;rintro e w3 ⟨rfl,rfl⟩;go_wp2_with fail;go_ret;refine⟨?_,a2.out⟩;rw[Hu.out,decide_eq_false He.out];rfl
def H9 (s:ByteArray)(w:World)(e:Ending)(w':World):Prop:= ∃v er,e =.returned (.tuple #[v,er])/\Below w.heap.size w w'/\((aT s/\er =.nilIface/\∃ps:List ByteArray,ps.map (·.data.toList)=bi s.data.toList/\be w' w.heap.size v ps)\/(¬aT s/\v =.slice none 0 0/\∃t x,er =.iface t x))
theorem vk {s:ByteArray}(hL:fe w)(hs:s.size<=1000000000):Calls Tryz.prog 38 #[.string s] w (H9 s w):=by
 have H1:=Qa (hL.fault hs);have H2:=Qa (fun w1 (hb:Below w.heap.size w w1)=>jS (hL.below hb).max hs);clear hL hs;go_enter Tryz.func38,Tryz.ntmps38;go_wp2_with fail;refine Za H1 ?_;rintro e w1 ⟨i,er,rfl,⟨hp,rfl⟩|⟨hn,a,rfl⟩,a0⟩
 ·have a1:=Qa a0;have Hp:=Qa hp;have H3:=Qa (H2.out w1 a0);clear a0 hp;go_wp2_with fail;refine Za H3 ?_;rintro e w2 ⟨v,ps,rfl,h1,h2,a2⟩;have a3:=Qa (ak a1.out a2);have Hf:=Qa (And.intro h1 (h2.low a1.out.size));obtain⟨A,c,rfl,-⟩:=af h2;clear h1 h2 a2;go_wp2_with fail;go_ret2;exact⟨_,_,rfl,a3.out,.inl ⟨Hp.out,rfl,ps,Hf.out⟩⟩
 ·have a1:=Qa a0;have Hn:=Qa hn;clear a0 hn;go_wp2_with fail;go_ret2;exact⟨_,_,rfl,ak a1.out (ac _ _),.inr ⟨Hn.out,rfl,_,_,rfl⟩⟩
theorem AZ {c:Int}(h:ce c=true):(bT c).length<=6* (aO c).length:=by
 have h1:1<=(aO c).length:=by rcases hl:aO c with _|⟨x,l⟩;exact absurd hl (fO h);simp
 unfold bT
 repeat' split
 all_goals first|(simp only[List.length_cons,List.length_nil];omega)|omega
theorem kS {s:ByteArray}(h:bf s):(cY s).length<=6*s.size+2:=by
 have hn:=h.nm;have key:∀cs:List Int,(∀c∈cs,ce c=true)->(cs.flatMap bT).length<=6* (cs.flatMap aO).length:=by
  intro cs
  induction cs with
  |nil=>intro _;simp
  |cons c cs ih=>
   intro hc;have h1:=AZ (hc c (by simp));have h2:=ih (fun c h=>hc c (Zl _ h));rw[List.flatMap_cons,List.flatMap_cons,List.length_append,List.length_append];omega
 have h1:=key _ hn.1;rw[hn.2] at h1;have h2:s.data.toList.length=s.size:=by simp
 unfold cY jH;rw[List.length_cons,List.length_append];simp only[List.length_cons,List.length_nil];omega
theorem yV {x:Int}(h: -1000000000<=x/\x<=1000000000):(fw x).length<=12:=by
 unfold fw
 split
 ·simp
 ·rcases Int.lt_or_le x 0 with hn|hn
  ·obtain⟨m,rfl⟩:∃m:Nat,x = -(m:Int):=⟨x.natAbs,by omega⟩;rw[Lib.itoa_neg m (by omega)];have:=et (u:=m) (by omega);simp;omega
  ·obtain⟨m,rfl⟩:∃m:Nat,x= (m:Int):=⟨x.natAbs,by omega⟩;rw[Lib.itoa_nonneg m];have:=et (u:=m) (by omega);simp;omega
inductive yI (L:Nat):JV->Prop
 |null:yI L nM
 |bool (b:Bool):yI L (gP b)
 |num (d:Dc):d.digits.size<=L+1-> -1000000000<=d.exp/\d.exp<=1000000000->yI L (ky d)
 |text (s:ByteArray):bf s->s.size<=L->yI L (aY s)
 |list (ks:List JV):(∀u∈ks,yI L u)->yI L (cD ks)
 |obj (ns:List ByteArray) (ks:List JV):ns.length=ks.length->(∀s∈ns,bf s/\s.size<=L)->(∀u∈ks,yI L u)->yI L (.mk 6 false ⟨#[]⟩ ⟨false,⟨#[]⟩,0⟩ ns ks)
theorem rI (h:∀u∈ks,(u.txt).length+6*L+10<=u.size* (12*L+40))(o:Bool):∀ (first:Bool) (ns:List ByteArray),ns.length=ks.length\/o=false->(∀s∈ns,bf s/\s.size<=L)->(JV.txts o first ns ks).length<=JV.sizes ks* (12*L+40):=by
 induction ks with
 |nil=>intro first ns _ _;simp[JV.txts]
 |cons v vs ih=>
  intro first ns hl hs;have h1:=h v (by simp);have a0:∀s∈ns.tail,bf s/\s.size<=L:=fun s h=>hs s (List.mem_of_mem_tail h)
  have h2:=ih (fun u hu=>h u (Zl _ hu)) false ns.tail (hl.imp (fun e=>by cases ns <;> simp at e ⊢;omega) id) a0;simp only[JV.txts,JV.sizes,List.length_append];have h3:(if first then([]:List UInt8) else [44]).length<=1:=by cases first <;> simp
  have h4:(if o then cY (ns.headD ⟨#[]⟩) ++ [58] else []).length<=6*L+3:=by
   cases o with
   |false=>simp
   |true=>
    cases ns with
    |nil=>simp at hl
    |cons a ns=>
     obtain⟨q1,q2⟩:=hs a (by simp);have:=kS q1;simp only[if_true,List.headD_cons,List.length_append,List.length_cons,List.length_nil];omega
  rw[Nat.add_mul];omega
theorem yI.len (h:yI L j):j.txt.length+6*L+10<=j.size* (12*L+40):=by
 induction h with
 |null=>simp[nM,JV.txt,JV.size,JV.sizes];omega
 |bool b=>cases b <;> simp[gP,JV.txt,JV.size,JV.sizes] <;> omega
 |num d h1 h2=>
  have:=yV h2;have e:(ky d).txt=dM d:=by simp[ky,JV.txt]
  have e2:(ky d).size=1:=by simp[ky,JV.size,JV.sizes]
  have e3:d.digits.data.toList.length=d.digits.size:=by simp
  rw[e,e2];unfold dM;rw[List.length_append,List.length_append,e3];have e4:(if d.neg then [45] else([]:List UInt8)).length<=1:=by split <;> simp
  omega
 |text s h1 h2=>
  have:=kS h1;have e:(aY s).txt=cY s:=by simp[aY,JV.txt]
  have e2:(aY s).size=1:=by simp[aY,JV.size,JV.sizes]
  rw[e,e2];omega
 |list ks _ ih=>
  have h1:=rI ih false true [] (.inr rfl) (by simp);have e:(cD ks).txt.length= (JV.txts false true [] ks).length+2:=by simp[cD,JV.txt]
  have e2:(cD ks).size=1+JV.sizes ks:=by simp[cD,JV.size]
  rw[e,e2,Nat.add_mul];omega
 |obj ns ks hl hs _ ih=>
  have h1:=rI ih true true ns (.inl hl) hs;have e:(JV.mk 6 false ⟨#[]⟩ ⟨false,⟨#[]⟩,0⟩ ns ks).txt.length= (JV.txts true true ns ks).length+2:=by simp[JV.txt]
  have e2:(JV.mk 6 false ⟨#[]⟩ ⟨false,⟨#[]⟩,0⟩ ns ks).size=1+JV.sizes ks:=by simp[JV.size]
  rw[e,e2,Nat.add_mul];omega
