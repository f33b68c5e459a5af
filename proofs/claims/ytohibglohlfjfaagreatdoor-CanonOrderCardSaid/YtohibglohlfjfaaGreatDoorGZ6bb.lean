import Derived.Test.YtohibglohlfjfaaGreatDoorGZ6ba
import Derived.RangeFuncNested
import Derived.RangeFuncBound
import Derived.Shelf.RegionOpen
import Derived.OwnWalkIn
import Derived.LoopNIn
import Derived.LoopIn
import Derived.Test.YtohibglohlfjfaaGreatDoorGZ6az
set_option linter.unusedVariables false
set_option linter.unusedSimpArgs false
set_option maxHeartbeats 64000000
set_option maxRecDepth 100000
namespace Go.Proofs.YtohibglohlfjfaaGreatDoor
open Go.RowKit Go.Shelf
variable {aE aU:Addr}{xs:List UInt8}{B B2 g:Nat}{v:Value}{W W' X w:World}
attribute [local go_sem] Oper.semAt_some
theorem C6 (U E:Value)(a b:Nat):ri U E (a,b,0) =.tuple #[.int .i32 a,.int .i64 b,.nilIface]:=rfl
theorem xe (U E:Value)(a b:Nat):ri U E (a,b,1) =.tuple #[.int .i32 a,.int .i64 b,E]:=rfl
theorem vV (U E:Value)(a b:Nat):ri U E (a,b,2) =.tuple #[.int .i32 a,.int .i64 b,U]:=rfl
def yE (c:Int):Int:=bits .or .u8 128 (bits .and .i32 c 63 % 256)
theorem vZ:∀n:Int,0<=n->n<2 ^ 31->IntKind.i32.wrap n=n:=by
 intro n h0 h1;have e:(2:Int) ^ 31=2147483648:=rfl;rw[e] at h1;rw[IntKind.wrap_i32];omega
theorem lg (c:Int)(h0:0<=c)(h1:c<2147483648):yE c=128+c % 64:=by
 unfold yE;rw[show bits .and .i32 c 63=c % 64 from bits_mask .i32 31 (by decide) vZ 6 (by decide) c h0 (by simpa using h1)];rw[show c % 64 % 256=c % 64 by omega];exact u8_or128 (c % 64) (by omega) (by omega)
theorem Kd (c:Int)(h:0<=c/\c<128):bits .or .u8 0 c=c:=by
 have hd:∀x:Nat,x<128->bits .or .u8 0 (x:Int)=x:=by decide +kernel
 have:=hd c.toNat (by omega)
 rwa[show((c.toNat:Nat):Int)=c by omega] at this
def kV (a b c d:Int):Value:=.agg #[.int .u8 a,.int .u8 b,.int .u8 c,.int .u8 d]
def kW (w:World)(v:Value)(n:Int)(e:Ending)(w':World):Prop:=e =.returned (.tuple #[v,.int .i64 n])/\Below w.heap.size w w'
theorem Gi (c:Int)(w:World)(h:65536<=c/\c<=1114111) :
  Calls Tryz.prog 108 #[.int .i32 c] w fun e w'=>kW w (kV (240+c/64/64/64) (yE (c/64/64)) (yE (c/64)) (yE c)) 4 e w':=by
 go_enter Tryz.func108,Tryz.ntmps108;go_wp2;exact Zh (by simp[results,Tryz.results108,go_sem];rfl) rfl ⟨rfl,((Ze _ _).alloc (Zb _) _).alloc (by simp) _⟩
theorem Gt (c:Int)(w:World)(h:2048<=c/\c<65536)(h':¬ (55296<=c/\c<=57343)) :
  Calls Tryz.prog 108 #[.int .i32 c] w fun e w'=>kW w (kV (224+c/64/64) (yE (c/64)) (yE c) 0) 3 e w':=by
 have a0:c<55296\/57343<c:=by omega
 clear h';go_enter Tryz.func108,Tryz.ntmps108;rcases a0 with a0|a0
 all_goals
  go_wp2;exact Zh (by simp[results,Tryz.results108,go_sem];rfl) rfl ⟨rfl,((Ze _ _).alloc (Zb _) _).alloc (by simp) _⟩
theorem Ik (c:Int)(w:World)(h:128<=c/\c<2048) :
  Calls Tryz.prog 108 #[.int .i32 c] w fun e w'=>kW w (kV (192+c/64) (yE c) 0 0) 2 e w':=by
 go_enter Tryz.func108,Tryz.ntmps108;go_wp2;exact Zh (by simp[results,Tryz.results108,go_sem];rfl) rfl ⟨rfl,((Ze _ _).alloc (Zb _) _).alloc (by simp) _⟩
theorem Iq (c:Int)(w:World)(h:0<=c/\c<128) :
  Calls Tryz.prog 108 #[.int .i32 c] w fun e w'=>kW w (kV (bits .or .u8 0 c) 0 0 0) 1 e w':=by
 go_enter Tryz.func108,Tryz.ntmps108;go_wp2;exact Zh (by simp[results,Tryz.results108,go_sem];rfl) rfl ⟨rfl,((Ze _ _).alloc (Zb _) _).alloc (by simp) _⟩
theorem G7 (c:Int)(w:World)(h:c<0\/1114111<c\/(55296<=c/\c<=57343)) :
  Calls Tryz.prog 108 #[.int .i32 c] w (kW w (kV 0 0 0 0) 0):=by
 go_enter Tryz.func108,Tryz.ntmps108;rcases h with h|h|⟨h,h'⟩
 all_goals
  go_wp2;exact Zh (by simp[results,Tryz.results108,go_sem];rfl) rfl ⟨rfl,((Ze _ _).alloc (Zb _) _).alloc (by simp) _⟩
theorem gX {a b c d a' b' c' d':Int}(h1:a=a')(h2:b=b')(h3:c=c')(h4:d=d'):kV a b c d=kV a' b' c' d':=by rw[h1,h2,h3,h4]
def mm (c:Int):Value:=kV (am (bE c) 0) (am (bE c) 1) (am (bE c) 2) (am (bE c) 3)
theorem C4 (c:Int)(w:World):Calls Tryz.prog 108 #[.int .i32 c] w fun e w'=>kW w (mm c) (bE c).length e w':=by
 by_cases hr:dF c=true
 ·have a0:=hr;simp only[dF,Bool.and_eq_true,decide_eq_true_eq,Bool.not_eq_true',Bool.and_eq_false_iff,decide_eq_false_iff_not] at a0
  by_cases h1:c<128
  ·have e:bE c = [UInt8.ofNat c.toNat]:=by rw[bE,if_pos hr,if_pos h1]
   have:mm c=kV (bits .or .u8 0 c) 0 0 0:=by
    rw[Kd c (by omega)];unfold mm;rw[e];exact gX (aF _ (by omega)) rfl rfl rfl
   rw[this,e];exact Iq c w (by omega)
  by_cases h2:c<2048
  ·have e:bE c = [UInt8.ofNat (192+c/64).toNat,UInt8.ofNat (128+c % 64).toNat]:=by rw[bE,if_pos hr,if_neg h1,if_pos h2]
   have:mm c=kV (192+c/64) (yE c) 0 0:=by
    unfold mm;rw[e];exact gX (aF _ (by omega)) ((aF _ (by omega)).trans (lg _ (by omega) (by omega)).symm) rfl rfl
   rw[this,e];exact Ik c w (by omega)
  by_cases h3:c<65536
  ·have e:bE c = [UInt8.ofNat (224+c/4096).toNat,UInt8.ofNat (128+c/64 % 64).toNat,UInt8.ofNat (128+c % 64).toNat]:=by rw[bE,if_pos hr,if_neg h1,if_neg h2,if_pos h3]
   have:mm c=kV (224+c/64/64) (yE (c/64)) (yE c) 0:=by
    unfold mm;rw[e];exact gX ((aF _ (by omega)).trans (by omega)) ((aF _ (by omega)).trans (lg _ (by omega) (by omega)).symm) ((aF _ (by omega)).trans (lg _ (by omega) (by omega)).symm) rfl
   rw[this,e];exact Gt c w (by omega) (by omega)
  ·have e:bE c = [UInt8.ofNat (240+c/262144).toNat,UInt8.ofNat (128+c/4096 % 64).toNat,UInt8.ofNat (128+c/64 % 64).toNat,UInt8.ofNat (128+c % 64).toNat]:=by rw[bE,if_pos hr,if_neg h1,if_neg h2,if_neg h3]
   have:mm c=kV (240+c/64/64/64) (yE (c/64/64)) (yE (c/64)) (yE c):=by
    unfold mm;rw[e];exact gX ((aF _ (by omega)).trans (by omega)) ((aF _ (by omega)).trans ((lg _ (by omega) (by omega)).trans (by omega)).symm) ((aF _ (by omega)).trans (lg _ (by omega) (by omega)).symm) ((aF _ (by omega)).trans (lg _ (by omega) (by omega)).symm)
   rw[this,e];exact Gi c w (by omega)
 ·have e:bE c = []:=by rw[bE,if_neg hr]
  have:mm c=kV 0 0 0 0:=by unfold mm;rw[e];rfl
  have a0:¬dF c=true:=hr;simp only[dF,Bool.and_eq_true,decide_eq_true_eq,Bool.not_eq_true',Bool.and_eq_false_iff,decide_eq_false_iff_not] at a0;rw[this,e];exact G7 c w (by omega)
def bK (pre:List (Nat×Nat)):Int:=match pre.getLast? with|none=>0|some x=>wrap64 ((x.1:Int)+ (bE x.2).length)
theorem jD (pre:List (Nat×Nat))(x:Nat×Nat):bK (pre ++ [x])=wrap64 ((x.1:Int)+ (bE x.2).length):=by simp[bK]
def sL (xs:List UInt8):Nat->Nat->Nat
 |0,k=>k
 |f+1,k=>if(bD (xs.drop k)).2.2=0 then sL xs f (k+ (bD (xs.drop k)).2.1) else k
def ET (xs:List UInt8):Nat:=sL xs (xs.length+1) 0
theorem lQ (xs:List UInt8)(hm:xs.length<=9223372036854775807):∀f k pre,k<=xs.length->bK pre=k->bK (pre++fC xs f k)=sL xs f k
 |0,k,pre,h,hp=>by simpa [fC,sL] using hp
 |f+1,k,pre,h,hp=>by
  unfold fC sL
  by_cases h0:(bD (xs.drop k)).2.2=0
  ·rw[if_pos h0,if_pos h0,List.append_cons];have hle:=fM xs k h;refine lQ xs hm f _ _ hle ?_;rw[jD,(ju h0).1,List.length_take,List.length_drop];rw[show min (bD (xs.drop k)).2.1 (xs.length - k)= (bD (xs.drop k)).2.1 by omega];rw[IntWalk.wrap64_in _ ⟨by omega,by omega⟩];simp
  ·rw[if_neg h0,if_neg h0];simpa using hp
theorem jL (xs:List UInt8)(hm:xs.length<=9223372036854775807):bK (eI xs)=ET xs:=by
 have:=lQ xs hm (xs.length+1) 0 [] (Zk _) rfl;simpa [eI,ET] using this
def fQ (B B2:Nat)(W W':World):Prop:= ∀k cs t z,(k<B\/B2<=k)->W.heap[k]?=some (.cells cs t z)->W'.heap[k]?=some (.cells cs t z)
theorem fQ.t {Y Z:World}(h:fQ B B2 X Y)(k:fQ B B2 Y Z):fQ B B2 X Z:=fun i cs t z hi hc=>k i cs t z hi (h i cs t z hi hc)
theorem fQ.b (W:World)(l:Nat)(o o':Obj)(h:W.heap[l]?=some o)(ho:o.isCells=false):fQ B B2 W (W.putObj l o'):=fun k cs t z _ hc=>by
 have:k≠l:=by rintro rfl;rw[h] at hc;cases hc;simp[Obj.isCells] at ho
 exact(World.putObj_heap_other this).trans hc
theorem fQ.drewN (W:World)(m:Nat):fQ B B2 W (W.drewN m):=fun _ _ _ _ _ h=>h
theorem fQ.of_below (h:Below W.heap.size W W'):fQ B B2 W W':=fun k cs t z _ hc=>(h.block k (ae hc)).trans hc
theorem rp {a:Addr}(h:w.cell? a=some v):∃cs t z,w.heap[a.block]?=some (.cells cs t z):=by
 unfold World.cell? at h
 cases hh:w.heap[a.block]? with
 |none=>rw[hh] at h;simp at h
 |some o=>
  rw[hh] at h
  cases o with
  |cells cs t z=>exact⟨cs,t,z,rfl⟩
  |_=>simp at h
theorem fQ.cell (h:fQ B B2 W W'){a:Addr}(hc:W.cell? a=some v)(hb:a.block<B\/B2<=a.block):W'.cell? a=some v:=by
 obtain⟨cs,t,z,hh⟩:=rp hc;rw[<-hc];exact World.cell?_of_block ((h _ cs t z hb hh).trans hh.symm)
theorem fQ.glob (h:fQ B B2 W W')(hg:ce W aU aE)(h2:5<B/\4<B/\7<B)(hU:aU.block<B)(hE:aE.block<B):ce W' aU aE:=by
 obtain⟨c1,t1,h1⟩:=hg.hu;obtain⟨c2,t2,h3⟩:=hg.he;exact⟨h.cell hg.u (.inl h2.1),h.cell hg.e (.inl h2.2.1),fun i hi=>h.cell (hg.l i hi) (.inl h2.2.2),⟨c1,t1,h _ _ _ _ (.inl hU) h1⟩,⟨c2,t2,h _ _ _ _ (.inl hE) h3⟩,hg.ne⟩
theorem tM (W:World)(s:ByteArray)(hs:s.size<=9223372036854775807):∃W2 cap cs z,(convert 9 22 (.string s)).run Tryz.prog W =.ok (.slice (some ⟨W.heap.size,0,none⟩) s.size cap) W2/\
  s.size<=cap/\W.grownBy W2 none/\W2.heap.size=W.heap.size+1/\W2.heap[W.heap.size]?=some (.cells cs 5 z)/\
  (∀X:World,X.heap[W.heap.size]?=some (.cells cs 5 z)->Bs X (.slice (some ⟨W.heap.size,0,none⟩) s.size cap) s.data.toList):=by
 refine⟨Lib.bytesWorld W 5 s,grownCap W s.size 0 5,Lib.bytesCells W 5 s,_,Lib.run_convert_string_bytes W 9 22 5 s Tryz.underlying9 Tryz.underlying22 Tryz.underlying5,grownCap_ge _ _ _ _,?_,Lib.bytesWorld_size _ _ _,Lib.bytesWorld_at_new _ _ _,?_⟩
 ·exact⟨rfl,rfl,rfl,by rw[Lib.bytesWorld_size];omega,fun k hk _=>Lib.bytesWorld_at_old _ _ _ _ hk⟩
 ·intro X hX;have hl:s.data.toList.length=s.size:=by simp
  refine⟨by omega,_,_,by rw[hl],by rw[hl];exact grownCap_ge _ _ _ _,fun _=>⟨_,0,rfl,fun i hi=>?_⟩⟩;rw[Nat.zero_add,World.cell?_of_block (w:=Lib.bytesWorld W 5 s) (hX.trans (Lib.bytesWorld_at_new W 5 s).symm)];exact Lib.bytesWorld_cell W 5 s i (by omega)
def E8 (xs:List UInt8)(J:List (Nat×Nat)->World->Prop)(G:World->Prop)(k:Nat)(wr:World):Prop:=
 ∃pre f,eI xs=pre++fC xs f k/\xs.length<f+k/\k<=xs.length/\J pre wr/\G wr
theorem Cj (n:Nat)(hn:1<=n)(l sb:Nat)(s:ByteArray)(B B2:Nat)(hsz:s.size<=9223372036854775807)(aU aE:Addr)(J Jx:List (Nat×Nat)->World->Prop)
  (W:World) (hB:B2<=W.heap.size) (h2:5<B/\4<B/\7<B) (hU:aU.block<B) (hE:aE.block<B) (hg:ce W aU aE)
  (hJ:AbidesFrom W.heap.size J) (d4:AbidesFrom W.heap.size Jx)
  (hY:∀pre (x:Nat×Nat) W1,J pre W1->pre.length< (eI s.data.toList).length->YieldAt Fence.wide (n - 1) Tryz.prog l #[.int .i64 (x.1:Int),.int .i32 (x.2:Int)] W1 fun e W'=>
   (e =.returned (.bool true)/\J (pre ++ [x]) W'/\fQ B B2 W1 W')\/(e =.returned (.bool false)/\Jx (pre ++ [x]) W'))
  (hs:W.cell? ⟨sb,0,none⟩=some (.string s)) (h0:J [] W) :
  CallsIn Fence.wide n Tryz.prog 147 #[.func (.yield l) #[] #[],.pointer (some ⟨sb,0,none⟩)] W fun e W'=>(∃v,e =.returned v)/\
   ((∃ys,ys=eI s.data.toList/\J ys W')\/(∃pre,pre <+:eI s.data.toList/\Jx pre W')):=by
 obtain⟨W2,cap,cs,z,c3,c4,c1,a9,a5,b7⟩:=tM W s hsz;refine callsIn_of_wp Tryz.func147 rfl trivial ?_ rfl;simp only[Tryz.ntmps147,List.size_toArray,List.length_cons,List.length_nil,Nat.reduceAdd,Nat.reduceSub,Array.replicate_succ,Array.replicate_zero,List.push_toArray,List.append_toArray,List.nil_append,List.cons_append];have hl:s.data.toList.length=s.size:=by simp
 generalize s.data.toList=xs at *;have Hg:=Qa hg;have HJ:=Qa hJ;have HY:=Qa hY;have a4:=Qa c1;have c6:=Qa a9;have b0:=Qa a5;have c9:=Qa b7;have Hl:=Qa hl;have H0:=Qa h0;clear hg hJ hY c1 a9 a5 b7 hl h0;generalize hrb:W.heap.size=rb at *;have d2:=Qa hrb;clear hrb
 gi_wp2
 gi_loopw [4] (fun v wr=> ∃k:Nat,v =.int .i64 k/\E8 xs J (fun wr=>ce wr aU aE/\wr.heap[rb]?=some (.cells cs 5 z)) k wr) (fun v _=>s.size - (intOf v).toNat)
 case atStart=>
  refine⟨0,rfl, [],xs.length+1,rfl,by omega,Zk _,?_,?_,b0.out⟩
  ·exact HJ.out _ _ _ none H0.out a4.out (fun r e=>by cases e)
  ·exact Hg.out.below ⟨a4.out.os,a4.out.tape,a4.out.output,a4.out.size,fun k hk=>a4.out.block k hk (by simp)⟩
 case round=>
  obtain⟨k,rfl,pre,f,he,hf,hk,c0,hG,hR⟩:=hrel;have d1:k<=s.size:=by rw[<-Hl.out];exact hk
  have Hf:=Qa hf;have He:=Qa he;have HG:=Qa hG;have HR:=Qa hR;have a7:=Qa c0;have Hk:=Qa hk;clear hf he hG hR c0 hk;have a2:Bs wr (.slice (some ⟨rb,0,none⟩) xs.length cap) xs:=by rw[Hl.out];exact c9.out wr HR.out
  have hle:=fM xs k Hk.out;have a3:=(nD (xs.drop k)).2;have hcut:∀A c',cap=k\/(A=some ⟨rb,k,none⟩/\c'=cap - k)->Calls Tryz.prog 95 #[.slice A (s.size - k) c'] wr fun e w'=>fR (cv aU) (cv aE) wr (bD (xs.drop k)) e w':=by
   intro A c' h;refine iq ?_ HG.out;rcases h with d3|⟨rfl,rfl⟩
   ·have h0:s.size - k=0:=by omega
    have:xs.drop k = []:=List.drop_eq_nil_of_le (by rw[Hl.out];omega);rw[this,h0];exact⟨by simp,_,_,rfl,Zk _,fun h=>by simp at h⟩
   ·have:=a2.cut Hk.out
    rwa[Hl.out,Nat.zero_add] at this
  have b2:=Qa hcut;clear hcut a2;have a6:∀e:(bD (xs.drop k)).2.2≠0,eI xs=pre:=fun e=>by rw[He.out,wU e,List.append_nil]
  have b5:∀e:(bD (xs.drop k)).2.2=0,1<=(bD (xs.drop k)).2.1/\∃f',xs.length<f'+ (k+ (bD (xs.drop k)).2.1)/\eI xs=pre++ (k,(bD (xs.drop k)).1)::fC xs f' (k+ (bD (xs.drop k)).2.1):=fun e=>by
   have hp:=eB e;have h1:=Hf.out;have h2:=Hk.out;obtain⟨f',rfl⟩:∃f',f=f'+1:=⟨f - 1,by omega⟩;exact⟨hp,f',by omega,by rw[He.out,xZ e]⟩
  have a1:=Qa a6;have b3:=Qa b5;clear a6 b5;generalize bD (xs.drop k)=r at *;obtain⟨r1,r2,r3⟩:=r;have b1:k+r2<=s.size:=by rw[<-Hl.out];exact hle
  clear hle;have a0:r3=0\/r3=1\/r3=2:=by have:r3<=2:=a3;omega
  clear a3;have hp:pre.length< (eI xs).length\/r3≠0:=by
   by_cases h:r3=0
   ·obtain⟨_,f',_,h'⟩:=b3.out h
    left;rw[h'];simp
   ·exact .inr h
  have Hp:=Qa hp;clear hp
  gi_wp2_with fail
  all_goals
   refine⟨trivial,?_⟩;refine(callsIn_wide.2 (b2.out _ _ (by first|exact .inl (by assumption)|exact .inr ⟨rfl,rfl⟩))).mono ?_;rintro e w' ⟨rfl,m,rfl⟩
  ·rcases a0 with rfl|rfl|rfl
   ·exfalso;have:=(b3.out rfl).1;omega
   ·rw[xe]
    gi_wp2
    refine⟨fun _ h=>(by cases h),?_⟩
    gi_wp2
    refine Zh (results_none rfl ..) rfl ?_;exact⟨⟨_,rfl⟩,.inl ⟨_,rfl,by rw[a1.out (by simp)];exact HJ.out _ _ _ none a7.out ⟨rfl,rfl,rfl,Zb _,fun _ _ _=>rfl⟩ (fun r e=>by cases e)⟩⟩
   ·rw[vV]
    gi_wp2
    refine⟨fun _ h=>(by cases h),?_⟩
    gi_wp2
    refine Zh (results_none rfl ..) rfl ?_;exact⟨⟨_,rfl⟩,.inl ⟨_,rfl,by rw[a1.out (by simp)];exact HJ.out _ _ _ none a7.out ⟨rfl,rfl,rfl,Zb _,fun _ _ _=>rfl⟩ (fun r e=>by cases e)⟩⟩
  ·rcases a0 with rfl|rfl|rfl
   ·rw[C6];obtain⟨d0,f',b6,b9⟩:=b3.out rfl;have c5:=Qa b6;have c2:=Qa b9;clear b6 b9;obtain⟨fn,tmps,assign,body,hy,c8⟩:=HY.out pre (k,r1) (wr.drewN m) (HJ.out _ _ _ none a7.out ⟨rfl,rfl,rfl,Zb _,fun _ _ _=>rfl⟩ (fun r e=>by cases e)) (Hp.out.resolve_right (fun h=>h rfl))
    dsimp only at hy
    gi_wp2
    refine c8.mono ?_;rintro e W3 (⟨rfl,c7,b8⟩|⟨rfl,b4⟩)
    ·gi_wp2
     exact⟨⟨k+r2,by go_num,pre ++ [(k,r1)],f',by rw[c2.out,List.append_cons],c5.out,by rw[Hl.out];exact b1,c7,b8.glob (HG.out.drewN m) h2 hU hE,b8 rb cs 5 z (.inr hB) HR.out⟩,by simp[intOf];omega⟩
    ·gi_wp2
     refine Zh (results_none rfl ..) rfl ?_;exact⟨⟨_,rfl⟩,.inr ⟨_,⟨fC xs f' (k+r2),by rw[c2.out];simp⟩,b4⟩⟩
   ·rw[xe]
    gi_wp2
    refine⟨fun _ h=>(by cases h),?_⟩
    gi_wp2
    refine Zh (results_none rfl ..) rfl ?_;exact⟨⟨_,rfl⟩,.inl ⟨_,rfl,by rw[a1.out (by simp)];exact HJ.out _ _ _ none a7.out ⟨rfl,rfl,rfl,Zb _,fun _ _ _=>rfl⟩ (fun r e=>by cases e)⟩⟩
   ·rw[vV]
    gi_wp2
    refine⟨fun _ h=>(by cases h),?_⟩
    gi_wp2
    refine Zh (results_none rfl ..) rfl ?_;exact⟨⟨_,rfl⟩,.inl ⟨_,rfl,by rw[a1.out (by simp)];exact HJ.out _ _ _ none a7.out ⟨rfl,rfl,rfl,Zb _,fun _ _ _=>rfl⟩ (fun r e=>by cases e)⟩⟩
theorem fQ.setCell (W:World){p:Addr}(h1:B<=p.block)(h2:p.block<B2)(v:Value):fQ B B2 W (W.setCell p v):=fun k cs t z hk hc=>
 (Below.heap_setCell W p v k (by omega)).trans hc
theorem fQ.alloc (W:World)(o:Obj):fQ B B2 W (W.alloc o):=fQ.of_below ((Ze _ _).alloc (Zb _) _)
theorem nV (h:Below W.heap.size W W'):KeepsOthers W W':=⟨h.size,fun k _ hk _=>(h.block k (ae hk)).trans hk⟩
theorem uj (n:Nat)(hn:1<=n)(sb:Nat)(s:ByteArray)(B B2:Nat)(hsz:s.size<=9223372036854775807)(aU aE:Addr)
  (hB:B2<=w.heap.size) (h2:5<B/\4<B/\7<B) (hU:aU.block<B) (hE:aE.block<B) (hg:ce w aU aE) (hs:w.cell? ⟨sb,0,none⟩=some (.string s)) :
  SeqStopsK Fence.wide n Tryz.prog 147 #[.pointer (some ⟨sb,0,none⟩)] (fun x:Nat×Nat=> #[.int .i64 (x.1:Int),.int .i32 (x.2:Int)]) (fQ B B2) (fun ys=>ys=eI s.data.toList) (fun ys=>ys <+:eI s.data.toList) (eI s.data.toList).length w:=
 fun l J Jx W hW hJ a0 hY h0=>Cj n hn l sb s B B2 hsz aU aE J Jx W (Zc hB hW.size) h2 hU hE (hg.below hW) hJ a0 hY (Zg hW hs) h0
theorem Cm (h:Bs w v xs) :
  Calls Tryz.prog 107 #[v] w fun e w'=>e =.returned (.func (.func 147) #[] #[.pointer (some ⟨w.heap.size,0,none⟩)])/\w.alloc (.cells #[.string ⟨xs.toArray⟩] 9)=w':=by
 have hc:=aO h;have H:=Qa h;clear h;go_enter Tryz.func107,Tryz.ntmps107;go_wp2;go_ret;exact⟨rfl,rfl⟩
def De (w:World)(pre:List (Nat×Nat))(W:World):Prop:=
 Bx W w.heap.size 3 (.int .i64 pre.length)/\Bx W (w.heap.size+1) 3 (.int .i64 (bK pre))/\Below w.heap.size w W
def yJ (xs:List UInt8)(aU aE:Addr)(w:World)(e:Ending)(w':World):Prop:=
 Below w.heap.size w w'/\((xs.length<=bK (eI xs)/\e =.returned (.tuple #[.int .i64 (eI xs).length,.nilIface]))\/
  (bK (eI xs)<xs.length/\∃g:Nat,e =.returned (.tuple #[.int .i64 0,.iface 226 (.pointer (some ⟨g,0,none⟩))])/\
   w'.heap[g]?=some (.cells #[.int .i64 (bK (eI xs)),nt (cv aU) (cv aE) (bD (xs.drop (bK (eI xs)).toNat)).2.2] 228 (0,0))/\w.heap.size<=g))
theorem CX (v:Value)(xs:List UInt8)(w:World)(aU aE:Addr)(hb:Bs w v xs)(hg:ce w aU aE)(hsz:xs.length<=9223372036854775807) :
  CallsIn Fence.wide 9 Tryz.prog 79 #[v] w (yJ xs aU aE w):=by
 have h2:5<w.heap.size/\4<w.heap.size/\7<w.heap.size:=⟨World.block_lt_of_cell? w _ hg.u,World.block_lt_of_cell? w _ hg.e,World.block_lt_of_cell? w _ (hg.l 0 (by omega))⟩;obtain⟨cU,tU,hU⟩:=hg.hu;obtain⟨cE,tE,hE⟩:=hg.he;have hU:=ae hU;have hE:=ae hE;obtain⟨hm,A,cap,rfl,c9,_⟩:=id hb;have Hb:=Qa hb;have Hg:=Qa hg;clear hb hg;refine callsIn_of_wp_marks Tryz.func79 rfl trivial ?_ rfl;simp only[Tryz.ntmps79,List.size_toArray,List.length_cons,List.length_nil,Nat.reduceAdd,Nat.reduceSub,Array.replicate_succ,Array.replicate_zero,List.push_toArray,List.append_toArray,List.nil_append,List.cons_append];have b4:Below w.heap.size w ((w.alloc (.cells #[.int .i64 0] 3)).alloc (.cells #[.int .i64 0] 3)):=((Ze _ _).alloc (Zb _) _).alloc (by simp) _;have b1:=Qa (Hb.out.below b4);have b5:=Qa (Hg.out.below b4);have Hk:=Qa ((Bx.new w 3 (.int .i64 0)).alloc (.cells #[.int .i64 0] 3));have Ha:=Qa (Bx.new (w.alloc (.cells #[.int .i64 0] 3)) 3 (.int .i64 0));have b2:=Qa b4;clear b4
 gi_wp2_with fail
 refine⟨trivial,?_⟩;refine(callsIn_wide.2 (Cm b1.out)).mono ?_;rintro e w' ⟨rfl,rfl⟩
 gi_wp2
 obtain⟨W0,a9⟩:∃W0,((w.alloc (.cells #[.int .i64 0] 3)).alloc (.cells #[.int .i64 0] 3))=W0:=⟨_,rfl⟩;have a0:W0.heap.size=w.heap.size+2:=by rw[<-a9];simp
 rw[a9] at b1 b5 Hk Ha b2;obtain⟨W1,a6⟩:∃W1,W0.alloc (.cells #[.string ⟨xs.toArray⟩] 9)=W1:=⟨_,rfl⟩;have a4:Below W0.heap.size W0 W1:=by rw[<-a6];exact(Ze _ _).alloc (Zb _) _
 have c4:W1.cell? ⟨w.heap.size+2,0,none⟩=some (.string ⟨xs.toArray⟩):=by
  have h:=(Bx.new W0 9 (.string ⟨xs.toArray⟩)).cell;rw[a0] at h;rw[<-a6];exact h
 have a7:W1.heap.size=w.heap.size+3:=by rw[<-a6];simp[a0]
 rw[a9,a6];rw[show(w.alloc (.cells #[.int .i64 0] 3)).heap.size=w.heap.size+1 by simp] at Ha;clear a9 a6;have d9:=Qa (b1.out.below a4);have b6:=Qa (b5.out.below a4);have c8:De w [] W1:=⟨Hk.out.later a4,Ha.out.later a4,b2.out.trans (a4.mono b2.out.size)⟩;have c0:=Qa a0;have a2:=Qa a7;have d3:=Qa c4;have d5:=Qa c8;clear a0 c0 a7 c4 c8 b1 b5 Hk Ha b2 a4 W0;refine wpIn_rangeFunc_ownF rfl (by omega) (gf:=147) (lb:= #[.pointer (some ⟨w.heap.size+2,0,none⟩)]) (by simp[Act.eval]) trivial (enters_of Tryz.func147 (by kernel_rfl) rfl)
  (uj (w:=W1) (9 - 1) (by omega) (w.heap.size+2) ⟨xs.toArray⟩ w.heap.size (w.heap.size+2) (by simpa [ByteArray.size] using hsz) aU aE (by rw[a2.out];omega) h2 hU hE b6.out d3.out)
  (fun h k=>h.t k) (fun W l o o' _ h ho _=>fQ.b W l o o' h ho) (Ze _ _) (fun _=>rfl)
  (De w) (fun _ _ _=>False) ?hI ?hIx d5.out
  (fun x=>{tmps:= #[.slice A xs.length cap,undef,.int .i64 0,.nilIface,.pointer (some ⟨w.heap.size,0,none⟩),.pointer (some ⟨w.heap.size+1,0,none⟩),.int .i64 (x.1:Int),.int .i32 (x.2:Int),undef,undef,undef,undef,undef,.slice A xs.length cap,.func (.func 147) #[] #[.pointer (some ⟨w.heap.size+2,0,none⟩)],.int .i64 (x.1:Int),.int .i32 (x.2:Int),undef,undef,undef,undef,undef,undef,undef,undef,undef,undef,undef,undef,undef,undef,undef,undef,undef,undef,undef,undef,undef,undef,undef,undef,undef,undef,undef,undef],defers:= []}) ?assign ?body ?done ?stop
 case hI=>
  intro s A B row hs hg hr;exact⟨hs.1.kept hg (fun r e=>(hr r e).2),hs.2.1.kept hg (fun r e=>(hr r e).2),hs.2.2.grown hg hs.2.2.size (fun k e=>by have:=(hr k e).1;rw[a2.out] at this;omega)⟩
 case hIx=>exact fun _ _ _ _ _ hs _ _=>hs
 case assign=>
  intro l x W K hK
  gi_wp2
  exact hK
 case body=>
  rintro l pre x W ⟨hk,ha,hB⟩ hN;have c7:=hk.cell;have d0:=hk.frozen;have hlen:(pre.length:Int)+1<=9223372036854775807:=by have:=Dk xs;simp at hN;omega
  gi_wp2_with fail
  refine⟨trivial,?_⟩;refine(CallsIn.inRound l (callsIn_wide.2 (C4 x.2 _))).mono ?_;rintro e W2 ⟨rfl,a3⟩;rw[show mm x.2 =.agg #[.int .u8 (am (bE x.2) 0),.int .u8 (am (bE x.2) 1),.int .u8 (am (bE x.2) 2),.int .u8 (am (bE x.2) 3)] from rfl];have c5:=jD pre x;generalize (bE (x.2:Int)).length=q at *;have d1:=Qa c5;clear c5;generalize am (bE x.2) 0=g0;generalize am (bE x.2) 1=g1;generalize am (bE x.2) 2=g2;generalize am (bE x.2) 3=g3;have c1:=hk.later a3;have b3:=ha.later a3;have e0:=(c1.alloc (.cells #[.int .u8 g0,.int .u8 g1,.int .u8 g2,.int .u8 g3] 223)).cell;have e5:=(c1.alloc (.cells #[.int .u8 g0,.int .u8 g1,.int .u8 g2,.int .u8 g3] 223)).frozen;have e4:=(b3.alloc (.cells #[.int .u8 g0,.int .u8 g1,.int .u8 g2,.int .u8 g3] 223)).cell;have d4:=(b3.alloc (.cells #[.int .u8 g0,.int .u8 g1,.int .u8 g2,.int .u8 g3] 223)).frozen;have e8:w.heap.size+1<W2.heap.size:=b3.lt;clear c7 d0
  gi_wp2
  refine⟨(nV a3).trans ((KeepsOthers.alloc _ _).trans ((KeepsOthers.setCell _ _ _).trans (KeepsOthers.setCell ..))),
   (fQ.of_below a3).t ((fQ.alloc _ _).t ((fQ.setCell _ (p:=⟨w.heap.size,0,none⟩) (Zb _) (by simp) _).t (fQ.setCell _ (p:=⟨w.heap.size+1,0,none⟩) (by simp) (by simp) _))),?_,?_,?_⟩
  ·have h:=(((c1.alloc (.cells #[.int .u8 g0,.int .u8 g1,.int .u8 g2,.int .u8 g3] 223)).set (.int .i64 ((pre.length:Int)+1))).far (p:=⟨w.heap.size+1,0,none⟩) (by simp) (.int .i64 (wrap64 ((x.1:Int)+q))));rw[List.length_append];exact h
  ·have h:=(((b3.alloc (.cells #[.int .u8 g0,.int .u8 g1,.int .u8 g2,.int .u8 g3] 223)).far (p:=⟨w.heap.size,0,none⟩) (by simp) (.int .i64 ((pre.length:Int)+1))).set (.int .i64 (wrap64 ((x.1:Int)+q))));rw[d1.out];exact h
  ·exact(((hB.trans (a3.mono hB.size)).alloc (Zc hB.size a3.size) _).setCell (p:=⟨w.heap.size,0,none⟩) (Zb _) _).setCell (p:=⟨w.heap.size+1,0,none⟩) (by simp) _
 case done=>
  rintro D ys W hD rfl ⟨hk,ha,hB⟩ hK;have c7:=hk.cell;have d6:=ha.cell;have b8:D<W.heap.size:=ae hK;have b0:w.heap.size<=D:=by rw[a2.out] at hD;omega
  by_cases hlt:bK (eI xs)<xs.length
  ·obtain⟨p,hp⟩:∃p:Nat,bK (eI xs)=p:=⟨(bK (eI xs)).toNat,by have:=jL xs hsz;omega⟩;have Hp:=Qa hp;rw[hp] at hlt d6;clear hp;have e6:p<xs.length:=by omega
   have c2:=Hb.out.below hB;obtain⟨_,A',c',e',_,c6⟩:=id c2;injection e' with e1 e2 e3
   subst e1 e3;obtain⟨b,o,rfl,_⟩:=c6 (by omega);have b9:=Qa (c2.cut (Zj e6));have d2:=Qa (Hg.out.below hB);have f0:¬cap=p:=by omega
   clear c6 c2
   gi_wp2_with fail
   refine⟨trivial,?_⟩;refine(callsIn_wide.2 (iq b9.out d2.out)).mono ?_;have a5:=Qa (show nt (cv aU) (cv aE) (bD (xs.drop (bK (eI xs)).toNat)).2.2=nt (cv aU) (cv aE) (bD (xs.drop p)).2.2 from by rw[Hp.out];rfl);have c3:=(nD (xs.drop p)).2;generalize bD (xs.drop p)=r at *;obtain⟨r1,r2,r3⟩:=r;have b7:r3=0\/r3=1\/r3=2:=by have:r3<=2:=c3;omega
   clear c3;rintro e w' ⟨rfl,m,rfl⟩;rcases b7 with rfl|rfl|rfl
   ·rw[C6]
    gi_wp2
    gi_region
    all_goals gi_wp2
    have a1:((W.alloc (.cells #[.int .i64 p,.nilIface] 228)).drewN (m+1)).heap[D]?=some (.deferred (some [])):=(Below.heap_alloc W _ D b8).trans hK;refine⟨by simp,.inl ⟨_,_,rfl,run_takeDeferred a1,?_⟩⟩;refine⟨_,results_tmp2 rfl _ _ _,?_,.inr ⟨by rw[Hp.out];omega,W.heap.size,rfl,?_,hB.size⟩⟩
    ·exact(av (hB.alloc hB.size _) (m+1)).trans (belowK_b (w:=w) (Zb _) _ D _ _ b0 a1 rfl rfl)
    ·rw[Hp.out] at a5 ⊢;rw[World.putObj_heap_other (by omega),a5.out];exact Zf W _
   ·rw[xe]
    gi_wp2
    gi_region
    all_goals gi_wp2
    have a1:((W.alloc (.cells #[.int .i64 p,cv aE] 228)).drewN (m+1)).heap[D]?=some (.deferred (some [])):=(Below.heap_alloc W _ D b8).trans hK;refine⟨by simp,.inl ⟨_,_,rfl,run_takeDeferred a1,?_⟩⟩;refine⟨_,results_tmp2 rfl _ _ _,?_,.inr ⟨by rw[Hp.out];omega,W.heap.size,rfl,?_,hB.size⟩⟩
    ·exact(av (hB.alloc hB.size _) (m+1)).trans (belowK_b (w:=w) (Zb _) _ D _ _ b0 a1 rfl rfl)
    ·rw[Hp.out] at a5 ⊢;rw[World.putObj_heap_other (by omega),a5.out];exact Zf W _
   ·rw[vV]
    gi_wp2
    gi_region
    all_goals gi_wp2
    have a1:((W.alloc (.cells #[.int .i64 p,cv aU] 228)).drewN (m+1)).heap[D]?=some (.deferred (some [])):=(Below.heap_alloc W _ D b8).trans hK;refine⟨by simp,.inl ⟨_,_,rfl,run_takeDeferred a1,?_⟩⟩;refine⟨_,results_tmp2 rfl _ _ _,?_,.inr ⟨by rw[Hp.out];omega,W.heap.size,rfl,?_,hB.size⟩⟩
    ·exact(av (hB.alloc hB.size _) (m+1)).trans (belowK_b (w:=w) (Zb _) _ D _ _ b0 a1 rfl rfl)
    ·rw[Hp.out] at a5 ⊢;rw[World.putObj_heap_other (by omega),a5.out];exact Zf W _
  ·gi_wp2
   refine⟨by simp,.inl ⟨_,_,rfl,run_takeDeferred hK,?_⟩⟩;refine⟨_,results_tmp2 rfl _ _ _,hB.trans (belowK_b (w:=w) (Zb _) W D _ _ b0 hK rfl rfl),.inl ⟨by omega,rfl⟩⟩
 case stop=>
  rintro D c pre W hD _ h _;exact h.elim
theorem By (hb:Bs w v xs)(hg:ce w aU aE) :
  Calls Tryz.prog 79 #[v] w (yJ xs aU aE w):=callsIn_wide.1 (CX v xs w aU aE hb hg hb.1)
def AT (xs:List UInt8)(aU aE:Addr)(w:World)(e:Ending)(w':World):Prop:=
 Below w.heap.size w w'/\((xs.length<=bK (eI xs)/\e =.returned .nilIface)\/
  (bK (eI xs)<xs.length/\∃g:Nat,e =.returned (.iface 226 (.pointer (some ⟨g,0,none⟩)))/\
   w'.heap[g]?=some (.cells #[.int .i64 (bK (eI xs)),nt (cv aU) (cv aE) (bD (xs.drop (bK (eI xs)).toNat)).2.2] 228 (0,0))/\w.heap.size<=g))
theorem zH (hb:Bs w v xs)(hg:ce w aU aE) :
  Calls Tryz.prog 59 #[v] w (AT xs aU aE w):=by
 have H:=Qa (By hb hg);clear hb hg;go_enter Tryz.func59,Tryz.ntmps59;go_wp2_with fail;refine Za H ?_;rintro e w' ⟨hb,⟨h1,rfl⟩|⟨h1,g,rfl,hg,hl⟩⟩
 ·have H1:=Qa h1;clear h1;go_wp2;go_ret;exact⟨hb,.inl ⟨H1.out,rfl⟩⟩
 ·have H1:=Qa h1;have Hg:=Qa hg;clear h1 hg;go_wp2;go_ret;exact⟨hb,.inr ⟨H1.out,g,rfl,Hg.out,hl⟩⟩
theorem D4:(Tryz.prog.info? 409).map (·.comparable)=some true:=by kernel_rfl
theorem BY:(Tryz.prog.info? 411).map (fun i=>i.size)=some 1:=by kernel_rfl
theorem Gm:Tryz.prog.underlying 40=some (.interface (Tryz.prog.methodsAt 40)):=by kernel_rfl
theorem lD (a:Addr)(W:World):(binOp .eql 40 (bG a) (bG a)).run Tryz.prog W =.ok (.bool true) W:=by
 obtain⟨i,hi,hc⟩:=Option.map_eq_some_iff.1 D4;obtain⟨j,hj,hs⟩:=Option.map_eq_some_iff.1 BY;exact run_eql_iface_ptr_same W a Tryz.underlying40 Tryz.underlying409 hi hc hj
theorem kN (h:ce W aU aE):(binOp .eql 40 (bG aU) (bG aE)).run Tryz.prog W =.ok (.bool false) W:=by
 obtain⟨i,hi,hc⟩:=Option.map_eq_some_iff.1 D4;obtain⟨j,hj,hs⟩:=Option.map_eq_some_iff.1 BY;obtain⟨c1,t1,h1⟩:=h.hu;obtain⟨c2,t2,h2⟩:=h.he;exact run_eql_iface_ptr_other W Tryz.underlying40 Tryz.underlying409 hi hc hj (by omega) h.ne h1 h2
theorem mC (a:Addr)(W:World):(binOp .eql 40 .nilIface (bG a)).run Tryz.prog W =.ok (.bool false) W:=run_eql_iface_nil_left W _ _ Gm
def JD:Option (Nat×Nat)->Value
 |none=>.tuple #[.int .i32 0,.int .i64 1,.bool false]
 |some p=>.tuple #[.int .i32 p.1,.int .i64 p.2,.bool true]
def Kb (r:Option (Option (Nat×Nat)))(w:World)(e:Ending)(w':World):Prop:=(∃p,r=some p/\e =.returned (JD p)/\Below w.heap.size w w')\/(r=none/\iY w e w')
theorem xl {c:UInt8}{t:List UInt8}(a2:c.toNat≠34)(a0:c.toNat≠92)(a1:¬c.toNat<32):bP (c::t)=if(bD (c::t)).2.2=0 then some (some ((bD (c::t)).1,(bD (c::t)).2.1)) else none:=by
 simp only[bP];rw[if_neg (fun e=>a2 (by rw[e];rfl)),if_neg (fun e=>a0 (by rw[e];rfl)),if_neg a1]
theorem wu {c:UInt8}{t:List UInt8}(a2:c.toNat≠34)(a0:c.toNat≠92)(a1:c.toNat<32):bP (c::t)=none:=by
 simp only[bP];rw[if_neg (fun e=>a2 (by rw[e];rfl)),if_neg (fun e=>a0 (by rw[e];rfl)),if_pos a1]
theorem wy {k:Nat}(h:sF w g v xs k)(hG:ce w aU aE)(hS:br w 19)(hU:br w 20)(hC:br w 18)(hk:k<=1000000000)(hl:xs.length<=1000000000):Calls Tryz.prog 225 #[.pointer (some ⟨g,0,none⟩)] w fun e w'=>Kb (bP (xs.drop k)) w e w':=by
 obtain⟨hg,hb⟩:=id h;obtain⟨hm,A,cap,rfl,b3,a1⟩:=id hb;have c0:=aa hg (j:=0) (u:=.slice A xs.length cap) rfl;have c1:=aa hg (j:=1) (u:=.int .i64 k) rfl;have hE:br w 4:=⟨aE,hG.e⟩;have H:=Qa h;have HE:=Qa hE;have HG:=Qa hG;have b6:=Qa (sv h hE hS hU hk);obtain⟨aC,b5⟩:=hC;rcases hc:xs[k]? with _|c
 ·have Hn:=Qa (show bP (xs.drop k)=none by rw[List.drop_of_length_le (List.getElem?_eq_none_iff.1 hc)];rfl);have Hc:=Qa hc;clear hc h hE hG hS hU hg hb a1;go_enter Tryz.func225,Tryz.ntmps225;go_wp2_with fail;refine(iF H.out HE.out k Hc.out).mono ?_;rintro e w' ⟨vP,rfl,hv,hb⟩;have Hv:=Qa hv;have a7:=Qa hb;clear hv hb;go_wp2_with fail;exact⟨rfl,.inr ⟨Hn.out,vP,rfl,Hv.out,a7.out⟩⟩
 obtain⟨hlt,b0⟩:=List.getElem?_eq_some_iff.1 hc;have hd:xs.drop k=c::xs.drop (k+1):=by rw[List.drop_eq_getElem_cons hlt,b0]
 obtain⟨b,o,rfl,-⟩:=a1 (by omega);have a5:=Qa (show Bs w.drew (.slice (some ⟨b,o+k,none⟩) (xs.length - k) (cap - k)) (xs.drop k) from hb.cut (Zj hlt));have Hd:=Qa hd;have Hc:=Qa hc;clear hc b0 h hE hS hU hg hb a1;have hx:=c.toNat_lt
 by_cases h34:c.toNat=34
 ·obtain rfl:c=34:=UInt8.toNat_inj.1 (by rw[h34];rfl);rw[hd];clear hd h34 hG;go_enter Tryz.func225,Tryz.ntmps225;go_wp2_with fail;refine(aP H.out HE.out k Hc.out).mono ?_;rintro e w' ⟨rfl,rfl⟩;rw[show(34:UInt8).toNat=34 from rfl];go_wp2_with fail;go_ret3;exact .inl ⟨none,rfl,rfl,Ze _ _⟩
 have n34:((c.toNat:Int)==34)=false:=by simp only[beq_eq_false_iff_ne];omega
 by_cases h92:c.toNat=92
 ·obtain rfl:c=92:=UInt8.toNat_inj.1 (by rw[h92];rfl);have Hp:=Qa (show bP (xs.drop k)= (tL (xs.drop (k+1))).map some by rw[hd];rfl);clear hd h92 h34 n34 hG;go_enter Tryz.func225,Tryz.ntmps225;go_wp2_with fail;refine(aP H.out HE.out k Hc.out).mono ?_;rintro e w' ⟨rfl,rfl⟩;rw[show(92:UInt8).toNat=92 from rfl];go_wp2_with fail;refine Za b6 ?_;rintro e w' (⟨p,hp,rfl,hb⟩|⟨hn,vP,rfl,hv,hb⟩)
  ·have Hr:=Qa (show bP (xs.drop k)=some (some p) by rw[Hp.out,hp];rfl);have Hb:=Qa hb;obtain⟨p1,p2⟩:=p;clear hp hb
   dsimp only
   go_wp2_with fail;go_ret3;exact .inl ⟨some (p1,p2),Hr.out,rfl,Hb.out⟩
  ·have Hn:=Qa (show bP (xs.drop k)=none by rw[Hp.out,hn];try rfl);have Hv:=Qa hv;have a7:=Qa hb;clear hn hv hb;go_wp2_with fail;exact⟨rfl,.inr ⟨Hn.out,vP,rfl,Hv.out,a7.out⟩⟩
 have n92:((c.toNat:Int)==92)=false:=by simp only[beq_eq_false_iff_ne];omega
 by_cases h32:c.toNat<32
 ·have a3:(c.toNat:Int)<32:=by omega
  have Hn:=Qa (show bP (xs.drop k)=none by rw[hd];exact wu h34 h92 h32);clear hd h34 h92 h32 hG;go_enter Tryz.func225,Tryz.ntmps225;go_wp2_with fail;refine(aP H.out HE.out k Hc.out).mono ?_;rintro e w' ⟨rfl,rfl⟩;go_wp2_with fail;refine wp_region_held_drew (S:=fun w'=>w'.cell? ⟨g,1,none⟩=some (.int .i64 k)/\w'.cell? ⟨18,0,none⟩=some (bG aC)) (by kernel_rfl) (⟨c1,b5⟩) (fun a0=>?_);refine tH 0 a0 ?_;refine tH 1 a0 ?_;refine tH 2 a0 ?_;refine tH 3 a0 ?_;refine tH 4 a0 ?_
  try simp only[Act.put,jP,jQ,jR]
  refine rH 5 fun K hK=>?_
  go_simp;refine(bm _ aC _).mono ?_;rintro e w' hf;obtain⟨vP,rfl,hv,hb⟩:=hf.low (show Below w.heap.size w w.drew from(Ze _ _).drew);exact⟨rfl,.inr ⟨Hn.out,vP,rfl,hv,hb⟩⟩
 have a3:¬ (c.toNat:Int)<32:=by omega
 have Hr:=Qa (show bP (xs.drop k)=if(bD (xs.drop k)).2.2=0 then some (some ((bD (xs.drop k)).1,(bD (xs.drop k)).2.1)) else none by rw[hd];exact xl h34 h92 h32);have b7:(k:Int)<=xs.length:=by omega
 clear hd h34 h92 h32;have b1:=(nD (xs.drop k)).2;have a2:ri (cv aU) (cv aE) (bD (xs.drop k)) =.tuple #[.int .i32 (bD (xs.drop k)).1,.int .i64 (bD (xs.drop k)).2.1,nt (cv aU) (cv aE) (bD (xs.drop k)).2.2]:=rfl;rcases hr:bD (xs.drop k) with ⟨ca,cl,cc⟩
 rw[hr] at b1 a2
 dsimp only at b1 a2
 obtain⟨ve,a9⟩:∃ve,nt (cv aU) (cv aE) cc=ve:=⟨_,rfl⟩;rw[a9] at a2;have a6:=Qa (show bP (xs.drop k)=if cc=0 then some (some (ca,cl)) else none by rw[Hr.out,hr]);have b4:=Qa (show ri (cv aU) (cv aE) (bD (xs.drop k))=_ from hr▸a2);have a4:=Qa a9;clear hr a2 a9 Hr;go_enter Tryz.func225,Tryz.ntmps225;go_wp2_with fail;refine(aP H.out HE.out k Hc.out).mono ?_;rintro e w' ⟨rfl,rfl⟩;go_wp2_with fail;refine aA (fun w'=>w'.cell? ⟨g,0,none⟩=some (.slice (some ⟨b,o,none⟩) xs.length cap)/\w'.cell? ⟨g,1,none⟩=some (.int .i64 k)) (⟨c0,c1⟩) fun a0=>?_
 refine tH 0 a0 ?_;refine tH 1 a0 ?_;refine tH 2 a0 ?_;refine tH 3 a0 ?_;refine tH 4 a0 ?_;refine tH 5 a0 ?_
 try simp only[Act.put,jP,jQ,jR]
 refine tH 6 a0 ?_;refine tH 7 a0 ?_;refine tH 8 a0 ?_
 try simp only[Act.put,jP,jQ,jR]
 refine rH 9 fun K hK=>?_
 go_simp;(try rw[if_neg (show ¬cap=k by omega)]);(with_reducible refine(iq a5.out (HG.out.below ((Ze w.heap.size w).drew))).mono ?_);rintro e w' ⟨rfl,m,rfl⟩;rw[b4.out];refine hK.out _ _ (a0) (fun a0=>?_);clear hK K
 try simp only[Act.put,jP,jQ,jR]
 refine tH 10 a0 ?_;refine tH 11 a0 ?_;refine tH 12 a0 ?_;refine tH 13 a0 ?_;refine tH 14 a0 ?_;refine tH 15 a0 ?_
 try simp only[Act.put,jP,jQ,jR]
 refine tH 16 a0 ?_
 try simp only[Act.put,jP,jQ,jR]
 refine wpAnyH_done (by kernel_rfl) (NoPanic.normal ?_) _;have Hb:=Qa (show Below w.heap.size w (w.drew.drewN m) from av ((Ze _ _).drew) m);have b2:=Qa (show ce (w.drew.drewN m) aU aE from(HG.out.below ((Ze w.heap.size w).drew)).drewN m);have c0':(w.drew.drewN m).cell? ⟨g,0,none⟩=some (.slice (some ⟨b,o,none⟩) xs.length cap):=c0;have c1':(w.drew.drewN m).cell? ⟨g,1,none⟩=some (.int .i64 k):=c1;have cE:(w.drew.drewN m).cell? ⟨4,0,none⟩=some (bG aE):=b2.out.e;generalize w.drew.drewN m=w1 at *;clear c0 c1;rcases(by omega:cc=0\/cc=1\/cc=2) with rfl|rfl|rfl
 ·obtain rfl: .nilIface=ve:=a4.out;have q:=mC aE w1;go_wp2_with fail;go_ret3;exact .inl ⟨some (ca,cl),a6.out,rfl,Hb.out⟩
 ·obtain rfl:bG aE=ve:=a4.out;have q:=lD aE w1;go_wp2_with fail;refine(bm _ aE _).mono ?_;rintro e w' hf;obtain⟨vP,rfl,hv,hb⟩:=hf.low Hb.out;exact⟨rfl,.inr ⟨a6.out,vP,rfl,hv,hb⟩⟩
 ·obtain rfl:bG aU=ve:=a4.out;have q:=kN b2.out;go_wp2_with fail;refine(bm _ aU _).mono ?_;rintro e w' hf;obtain⟨vP,rfl,hv,hb⟩:=hf.low Hb.out;exact⟨rfl,.inr ⟨a6.out,vP,rfl,hv,hb⟩⟩
