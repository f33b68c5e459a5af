import Derived.Test.YtgkkffeagolnpaaGreatDoorGZ16ag
import Derived.RangeFuncNested
import Derived.RangeFuncBound
import Derived.Lib.ConvBytes
import Derived.Shelf.RegionOpen
import Derived.OwnWalkIn
import Derived.LoopNIn
import Derived.LoopIn
import Derived.Test.YtgkkffeagolnpaaGreatDoorGZ16ae
set_option linter.unusedVariables false
set_option linter.unusedSimpArgs false
set_option maxHeartbeats 64000000
set_option maxRecDepth 100000
namespace Go.Proofs.YtgkkffeagolnpaaGreatDoor
open Go.RowKit Go.Shelf
variable {aE aU:Addr}{cs:Array Value}{xs:List UInt8}{us:List Value}{B B2 base g n:Nat}{F G:Nat->Prop}{e:TypeId}{u v:Value}{W W' X Y Z w w':World}
attribute [local go_sem] Oper.semAt_some
theorem AL (U E:Value)(a b:Nat):qB U E (a,b,0) =.tuple #[.int .i32 a,.int .i64 b,.nilIface]:=rfl
theorem uG (U E:Value)(a b:Nat):qB U E (a,b,1) =.tuple #[.int .i32 a,.int .i64 b,E]:=rfl
theorem uP (U E:Value)(a b:Nat):qB U E (a,b,2) =.tuple #[.int .i32 a,.int .i64 b,U]:=rfl
def wE (c:Int):Int:=bits .or .u8 128 (bits .and .i32 c 63 % 256)
theorem uZ:∀n:Int,0<=n->n<2 ^ 31->IntKind.i32.wrap n=n:=by
 intro n h0 h1;have e:(2:Int) ^ 31=2147483648:=rfl;rw[e] at h1;rw[IntKind.wrap_i32];omega
theorem kg (c:Int)(h0:0<=c)(h1:c<2147483648):wE c=128+c % 64:=by
 unfold wE;rw[show bits .and .i32 c 63=c % 64 from bits_mask .i32 31 (by decide) uZ 6 (by decide) c h0 (by simpa using h1)];rw[show c % 64 % 256=c % 64 by omega];exact u8_or128 (c % 64) (by omega) (by omega)
theorem Kg (c:Int)(h:0<=c/\c<128):bits .or .u8 0 c=c:=by
 have hd:∀x:Nat,x<128->bits .or .u8 0 (x:Int)=x:=by decide +kernel
 have:=hd c.toNat (by omega)
 rwa[show((c.toNat:Nat):Int)=c by omega] at this
def ke (a b c d:Int):Value:=.agg #[.int .u8 a,.int .u8 b,.int .u8 c,.int .u8 d]
def kj (w:World)(v:Value)(n:Int)(e:Ending)(w':World):Prop:=e =.returned (.tuple #[v,.int .i64 n])/\Below w.heap.size w w'
theorem H8 (c:Int)(w:World)(h:65536<=c/\c<=1114111) :
  Calls Tryz.prog 159 #[.int .i32 c] w fun e w'=>kj w (ke (240+c/64/64/64) (wE (c/64/64)) (wE (c/64)) (wE c)) 4 e w':=by
 go_enter Tryz.func159,Tryz.ntmps159;go_wp2;exact Zh (by simp[results,Tryz.results159,go_sem];rfl) rfl ⟨rfl,((Ze _ _).alloc (Zb _) _).alloc (by simp) _⟩
theorem Gq (c:Int)(w:World)(h:2048<=c/\c<65536)(h':¬ (55296<=c/\c<=57343)) :
  Calls Tryz.prog 159 #[.int .i32 c] w fun e w'=>kj w (ke (224+c/64/64) (wE (c/64)) (wE c) 0) 3 e w':=by
 have a0:c<55296\/57343<c:=by omega
 clear h';go_enter Tryz.func159,Tryz.ntmps159;rcases a0 with a0|a0
 all_goals
  go_wp2;exact Zh (by simp[results,Tryz.results159,go_sem];rfl) rfl ⟨rfl,((Ze _ _).alloc (Zb _) _).alloc (by simp) _⟩
theorem GF (c:Int)(w:World)(h:128<=c/\c<2048) :
  Calls Tryz.prog 159 #[.int .i32 c] w fun e w'=>kj w (ke (192+c/64) (wE c) 0 0) 2 e w':=by
 go_enter Tryz.func159,Tryz.ntmps159;go_wp2;exact Zh (by simp[results,Tryz.results159,go_sem];rfl) rfl ⟨rfl,((Ze _ _).alloc (Zb _) _).alloc (by simp) _⟩
theorem Ii (c:Int)(w:World)(h:0<=c/\c<128) :
  Calls Tryz.prog 159 #[.int .i32 c] w fun e w'=>kj w (ke (bits .or .u8 0 c) 0 0 0) 1 e w':=by
 go_enter Tryz.func159,Tryz.ntmps159;go_wp2;exact Zh (by simp[results,Tryz.results159,go_sem];rfl) rfl ⟨rfl,((Ze _ _).alloc (Zb _) _).alloc (by simp) _⟩
theorem G4 (c:Int)(w:World)(h:c<0\/1114111<c\/(55296<=c/\c<=57343)) :
  Calls Tryz.prog 159 #[.int .i32 c] w (kj w (ke 0 0 0 0) 0):=by
 go_enter Tryz.func159,Tryz.ntmps159;rcases h with h|h|⟨h,h'⟩
 all_goals
  go_wp2;exact Zh (by simp[results,Tryz.results159,go_sem];rfl) rfl ⟨rfl,((Ze _ _).alloc (Zb _) _).alloc (by simp) _⟩
theorem fY {a b c d a' b' c' d':Int}(h1:a=a')(h2:b=b')(h3:c=c')(h4:d=d'):ke a b c d=ke a' b' c' d':=by rw[h1,h2,h3,h4]
def lG (c:Int):Value:=ke (am (a7 c) 0) (am (a7 c) 1) (am (a7 c) 2) (am (a7 c) 3)
theorem AR (c:Int)(w:World):Calls Tryz.prog 159 #[.int .i32 c] w fun e w'=>kj w (lG c) (a7 c).length e w':=by
 by_cases hr:cA c=true
 ·have a0:=hr;simp only[cA,Bool.and_eq_true,decide_eq_true_eq,Bool.not_eq_true',Bool.and_eq_false_iff,decide_eq_false_iff_not] at a0
  by_cases h1:c<128
  ·have e:a7 c = [UInt8.ofNat c.toNat]:=by rw[a7,if_pos hr,if_pos h1]
   have:lG c=ke (bits .or .u8 0 c) 0 0 0:=by
    rw[Kg c (by omega)];unfold lG;rw[e];exact fY (aG _ (by omega)) rfl rfl rfl
   rw[this,e];exact Ii c w (by omega)
  by_cases h2:c<2048
  ·have e:a7 c = [UInt8.ofNat (192+c/64).toNat,UInt8.ofNat (128+c % 64).toNat]:=by rw[a7,if_pos hr,if_neg h1,if_pos h2]
   have:lG c=ke (192+c/64) (wE c) 0 0:=by
    unfold lG;rw[e];exact fY (aG _ (by omega)) ((aG _ (by omega)).trans (kg _ (by omega) (by omega)).symm) rfl rfl
   rw[this,e];exact GF c w (by omega)
  by_cases h3:c<65536
  ·have e:a7 c = [UInt8.ofNat (224+c/4096).toNat,UInt8.ofNat (128+c/64 % 64).toNat,UInt8.ofNat (128+c % 64).toNat]:=by rw[a7,if_pos hr,if_neg h1,if_neg h2,if_pos h3]
   have:lG c=ke (224+c/64/64) (wE (c/64)) (wE c) 0:=by
    unfold lG;rw[e];exact fY ((aG _ (by omega)).trans (by omega)) ((aG _ (by omega)).trans (kg _ (by omega) (by omega)).symm) ((aG _ (by omega)).trans (kg _ (by omega) (by omega)).symm) rfl
   rw[this,e];exact Gq c w (by omega) (by omega)
  ·have e:a7 c = [UInt8.ofNat (240+c/262144).toNat,UInt8.ofNat (128+c/4096 % 64).toNat,UInt8.ofNat (128+c/64 % 64).toNat,UInt8.ofNat (128+c % 64).toNat]:=by rw[a7,if_pos hr,if_neg h1,if_neg h2,if_neg h3]
   have:lG c=ke (240+c/64/64/64) (wE (c/64/64)) (wE (c/64)) (wE c):=by
    unfold lG;rw[e];exact fY ((aG _ (by omega)).trans (by omega)) ((aG _ (by omega)).trans ((kg _ (by omega) (by omega)).trans (by omega)).symm) ((aG _ (by omega)).trans (kg _ (by omega) (by omega)).symm) ((aG _ (by omega)).trans (kg _ (by omega) (by omega)).symm)
   rw[this,e];exact H8 c w (by omega)
 ·have e:a7 c = []:=by rw[a7,if_neg hr]
  have:lG c=ke 0 0 0 0:=by unfold lG;rw[e];rfl
  have a0:¬cA c=true:=hr;simp only[cA,Bool.and_eq_true,decide_eq_true_eq,Bool.not_eq_true',Bool.and_eq_false_iff,decide_eq_false_iff_not] at a0;rw[this,e];exact G4 c w (by omega)
def br (pre:List (Nat×Nat)):Int:=match pre.getLast? with|none=>0|some x=>wrap64 ((x.1:Int)+ (a7 x.2).length)
theorem iJ (pre:List (Nat×Nat))(x:Nat×Nat):br (pre ++ [x])=wrap64 ((x.1:Int)+ (a7 x.2).length):=by simp[br]
def qH (xs:List UInt8):Nat->Nat->Nat
 |0,k=>k
 |f+1,k=>if(bg (xs.drop k)).2.2=0 then qH xs f (k+ (bg (xs.drop k)).2.1) else k
def D9 (xs:List UInt8):Nat:=qH xs (xs.length+1) 0
theorem lk (xs:List UInt8)(hm:xs.length<=9223372036854775807):∀f k pre,k<=xs.length->br pre=k->br (pre++eE xs f k)=qH xs f k
 |0,k,pre,h,hp=>by simpa [eE,qH] using hp
 |f+1,k,pre,h,hp=>by
  unfold eE qH
  by_cases h0:(bg (xs.drop k)).2.2=0
  ·rw[if_pos h0,if_pos h0,List.append_cons];have hle:=dR xs k h;refine lk xs hm f _ _ hle ?_;rw[iJ,(il h0).1,List.length_take,List.length_drop];rw[show min (bg (xs.drop k)).2.1 (xs.length - k)= (bg (xs.drop k)).2.1 by omega];rw[IntWalk.wrap64_in _ ⟨by omega,by omega⟩];simp
  ·rw[if_neg h0,if_neg h0];simpa using hp
theorem iG (xs:List UInt8)(hm:xs.length<=9223372036854775807):br (dz xs)=D9 xs:=by
 have:=lk xs hm (xs.length+1) 0 [] (Zj _) rfl;simpa [dz,D9] using this
def eW (B B2:Nat)(W W':World):Prop:= ∀k cs t z,(k<B\/B2<=k)->W.heap[k]?=some (.cells cs t z)->W'.heap[k]?=some (.cells cs t z)
theorem eW.t (h:eW B B2 X Y)(k:eW B B2 Y Z):eW B B2 X Z:=fun i cs t z hi hc=>k i cs t z hi (h i cs t z hi hc)
theorem eW.b (W:World)(l:Nat)(o o':Obj)(h:W.heap[l]?=some o)(ho:o.isCells=false):eW B B2 W (W.putObj l o'):=fun k cs t z _ hc=>by
 have:k≠l:=by rintro rfl;rw[h] at hc;cases hc;simp[Obj.isCells] at ho
 exact(World.putObj_heap_other this).trans hc
theorem eW.drewN (W:World)(m:Nat):eW B B2 W (W.drewN m):=fun _ _ _ _ _ h=>h
theorem eW.of_below (h:Below W.heap.size W W'):eW B B2 W W':=fun k cs t z _ hc=>(h.block k (ak hc)).trans hc
theorem pg {a:Addr}(h:w.cell? a=some v):∃cs t z,w.heap[a.block]?=some (.cells cs t z):=by
 unfold World.cell? at h
 cases hh:w.heap[a.block]? with
 |none=>rw[hh] at h;simp at h
 |some o=>
  rw[hh] at h
  cases o with
  |cells cs t z=>exact⟨cs,t,z,rfl⟩
  |_=>simp at h
theorem eW.cell (h:eW B B2 W W'){a:Addr}(hc:W.cell? a=some v)(hb:a.block<B\/B2<=a.block):W'.cell? a=some v:=by
 obtain⟨cs,t,z,hh⟩:=pg hc;rw[<-hc];exact World.cell?_of_block ((h _ cs t z hb hh).trans hh.symm)
theorem eW.glob (h:eW B B2 W W')(hg:cD W aU aE)(h2:10<B/\9<B/\11<B)(hU:aU.block<B)(hE:aE.block<B):cD W' aU aE:=by
 obtain⟨c1,t1,h1⟩:=hg.hu;obtain⟨c2,t2,h3⟩:=hg.he;exact⟨h.cell hg.u (.inl h2.1),h.cell hg.e (.inl h2.2.1),fun i hi=>h.cell (hg.l i hi) (.inl h2.2.2),⟨c1,t1,h _ _ _ _ (.inl hU) h1⟩,⟨c2,t2,h _ _ _ _ (.inl hE) h3⟩,hg.ne⟩
theorem qK (W:World)(s:ByteArray)(hs:s.size<=9223372036854775807):∃W2 cap cs z,(convert 9 28 (.string s)).run Tryz.prog W =.ok (.slice (some ⟨W.heap.size,0,none⟩) s.size cap) W2/\
  s.size<=cap/\W.grownBy W2 none/\W2.heap.size=W.heap.size+1/\W2.heap[W.heap.size]?=some (.cells cs 5 z)/\
  (∀X:World,X.heap[W.heap.size]?=some (.cells cs 5 z)->Bs X (.slice (some ⟨W.heap.size,0,none⟩) s.size cap) s.data.toList):=by
 refine⟨Lib.bytesWorld W 5 s,grownCap W s.size 0 5,Lib.bytesCells W 5 s,_,Lib.run_convert_string_bytes W 9 28 5 s Tryz.underlying9 Tryz.underlying28 Tryz.underlying5,grownCap_ge _ _ _ _,?_,Lib.bytesWorld_size _ _ _,Lib.bytesWorld_at_new _ _ _,?_⟩
 ·exact⟨rfl,rfl,rfl,by rw[Lib.bytesWorld_size];omega,fun k hk _=>Lib.bytesWorld_at_old _ _ _ _ hk⟩
 ·intro X hX;have hl:s.data.toList.length=s.size:=by simp
  refine⟨by omega,_,_,by rw[hl],by rw[hl];exact grownCap_ge _ _ _ _,fun _=>⟨_,0,rfl,fun i hi=>?_⟩⟩;rw[Nat.zero_add,World.cell?_of_block (w:=Lib.bytesWorld W 5 s) (hX.trans (Lib.bytesWorld_at_new W 5 s).symm)];exact Lib.bytesWorld_cell W 5 s i (by omega)
def Ei (xs:List UInt8)(J:List (Nat×Nat)->World->Prop)(G:World->Prop)(k:Nat)(wr:World):Prop:=
 ∃pre f,dz xs=pre++eE xs f k/\xs.length<f+k/\k<=xs.length/\J pre wr/\G wr
theorem Cm (n:Nat)(hn:1<=n)(l sb:Nat)(s:ByteArray)(B B2:Nat)(c9:s.size<=9223372036854775807)(aU aE:Addr)(J Jx:List (Nat×Nat)->World->Prop)
  (W:World) (hB:B2<=W.heap.size) (h2:10<B/\9<B/\11<B) (hU:aU.block<B) (hE:aE.block<B) (hg:cD W aU aE)
  (hJ:AbidesFrom W.heap.size J) (d6:AbidesFrom W.heap.size Jx)
  (hY:∀pre (x:Nat×Nat) W1,J pre W1->pre.length< (dz s.data.toList).length->YieldAt Fence.wide (n - 1) Tryz.prog l #[.int .i64 (x.1:Int),.int .i32 (x.2:Int)] W1 fun e W'=>
   (e =.returned (.bool true)/\J (pre ++ [x]) W'/\eW B B2 W1 W')\/(e =.returned (.bool false)/\Jx (pre ++ [x]) W'))
  (hs:W.cell? ⟨sb,0,none⟩=some (.string s)) (h0:J [] W) :
  CallsIn Fence.wide n Tryz.prog 180 #[.func (.yield l) #[] #[],.pointer (some ⟨sb,0,none⟩)] W fun e W'=>(∃v,e =.returned v)/\
   ((∃ys,ys=dz s.data.toList/\J ys W')\/(∃pre,pre <+:dz s.data.toList/\Jx pre W')):=by
 obtain⟨W2,cap,cs,z,c4,d3,c2,a9,b0,c0⟩:=qK W s c9;refine callsIn_of_wp Tryz.func180 rfl trivial ?_ rfl;simp only[Tryz.ntmps180,List.size_toArray,List.length_cons,List.length_nil,Nat.reduceAdd,Nat.reduceSub,Array.replicate_succ,Array.replicate_zero,List.push_toArray,List.append_toArray,List.nil_append,List.cons_append];have hl:s.data.toList.length=s.size:=by simp
 generalize s.data.toList=xs at *;have Hg:=Qa hg;have HJ:=Qa hJ;have HY:=Qa hY;have a4:=Qa c2;have d2:=Qa a9;have b5:=Qa b0;have d4:=Qa c0;have Hl:=Qa hl;have H0:=Qa h0;clear hg hJ hY c2 a9 b0 c0 hl h0;generalize hrb:W.heap.size=rb at *;have e0:=Qa hrb;clear hrb
 gi_wp2
 gi_loopw [4] (fun v wr=> ∃k:Nat,v =.int .i64 k/\Ei xs J (fun wr=>cD wr aU aE/\wr.heap[rb]?=some (.cells cs 5 z)) k wr) (fun v _=>s.size - (intOf v).toNat)
 case atStart=>
  refine⟨0,rfl, [],xs.length+1,rfl,by omega,Zj _,?_,?_,b5.out⟩
  ·exact HJ.out _ _ _ none H0.out a4.out (fun r e=>by cases e)
  ·exact Hg.out.below ⟨a4.out.os,a4.out.tape,a4.out.output,a4.out.size,fun k hk=>a4.out.block k hk (by simp)⟩
 case round=>
  obtain⟨k,rfl,pre,f,he,hf,hk,c7,hG,hR⟩:=hrel;have d5:k<=s.size:=by rw[<-Hl.out];exact hk
  have Hf:=Qa hf;have He:=Qa he;have HG:=Qa hG;have HR:=Qa hR;have a5:=Qa c7;have Hk:=Qa hk;clear hf he hG hR c7 hk;have a2:Bs wr (.slice (some ⟨rb,0,none⟩) xs.length cap) xs:=by rw[Hl.out];exact d4.out wr HR.out
  have hle:=dR xs k Hk.out;have a3:=(pd (xs.drop k)).2;have hcut:∀A c',cap=k\/(A=some ⟨rb,k,none⟩/\c'=cap - k)->Calls Tryz.prog 92 #[.slice A (s.size - k) c'] wr fun e w'=>eS (b6 aU) (b6 aE) wr (bg (xs.drop k)) e w':=by
   intro A c' h;refine fR ?_ HG.out;rcases h with e1|⟨rfl,rfl⟩
   ·have h0:s.size - k=0:=by omega
    have:xs.drop k = []:=List.drop_eq_nil_of_le (by rw[Hl.out];omega);rw[this,h0];exact⟨by simp,_,_,rfl,Zj _,fun h=>by simp at h⟩
   ·have:=a2.cut Hk.out
    rwa[Hl.out,Nat.zero_add] at this
  have b4:=Qa hcut;clear hcut a2;have b1:∀e:(bg (xs.drop k)).2.2≠0,dz xs=pre:=fun e=>by rw[He.out,vn e,List.append_nil]
  have c1:∀e:(bg (xs.drop k)).2.2=0,1<=(bg (xs.drop k)).2.1/\∃f',xs.length<f'+ (k+ (bg (xs.drop k)).2.1)/\dz xs=pre++ (k,(bg (xs.drop k)).1)::eE xs f' (k+ (bg (xs.drop k)).2.1):=fun e=>by
   have hp:=ei e;have h1:=Hf.out;have h2:=Hk.out;obtain⟨f',rfl⟩:∃f',f=f'+1:=⟨f - 1,by omega⟩;exact⟨hp,f',by omega,by rw[He.out,uu e]⟩
  have a1:=Qa b1;have b3:=Qa c1;clear b1 c1;generalize bg (xs.drop k)=r at *;obtain⟨r1,r2,r3⟩:=r;have b2:k+r2<=s.size:=by rw[<-Hl.out];exact hle
  clear hle;have a0:r3=0\/r3=1\/r3=2:=by have:r3<=2:=a3;omega
  clear a3;have hp:pre.length< (dz xs).length\/r3≠0:=by
   by_cases h:r3=0
   ·obtain⟨_,f',_,h'⟩:=b3.out h
    left;rw[h'];simp
   ·exact .inr h
  have Hp:=Qa hp;clear hp
  gi_wp2_with fail
  all_goals
   refine⟨trivial,?_⟩;refine(callsIn_wide.2 (b4.out _ _ (by first|exact .inl (by assumption)|exact .inr ⟨rfl,rfl⟩))).mono ?_;rintro e w' ⟨rfl,m,rfl⟩
  ·rcases a0 with rfl|rfl|rfl
   ·exfalso;have:=(b3.out rfl).1;omega
   ·rw[uG]
    gi_wp2
    refine⟨fun _ h=>(by cases h),?_⟩
    gi_wp2
    refine Zh (results_none rfl ..) rfl ?_;exact⟨⟨_,rfl⟩,.inl ⟨_,rfl,by rw[a1.out (by simp)];exact HJ.out _ _ _ none a5.out ⟨rfl,rfl,rfl,Zb _,fun _ _ _=>rfl⟩ (fun r e=>by cases e)⟩⟩
   ·rw[uP]
    gi_wp2
    refine⟨fun _ h=>(by cases h),?_⟩
    gi_wp2
    refine Zh (results_none rfl ..) rfl ?_;exact⟨⟨_,rfl⟩,.inl ⟨_,rfl,by rw[a1.out (by simp)];exact HJ.out _ _ _ none a5.out ⟨rfl,rfl,rfl,Zb _,fun _ _ _=>rfl⟩ (fun r e=>by cases e)⟩⟩
  ·rcases a0 with rfl|rfl|rfl
   ·rw[AL];obtain⟨d9,f',c3,c5⟩:=b3.out rfl;have d0:=Qa c3;have b9:=Qa c5;clear c3 c5;obtain⟨fn,tmps,assign,body,hy,d1⟩:=HY.out pre (k,r1) (wr.drewN m) (HJ.out _ _ _ none a5.out ⟨rfl,rfl,rfl,Zb _,fun _ _ _=>rfl⟩ (fun r e=>by cases e)) (Hp.out.resolve_right (fun h=>h rfl))
    dsimp only at hy
    gi_wp2
    refine d1.mono ?_;rintro e W3 (⟨rfl,c8,c6⟩|⟨rfl,b8⟩)
    ·gi_wp2
     exact⟨⟨k+r2,by go_num,pre ++ [(k,r1)],f',by rw[b9.out,List.append_cons],d0.out,by rw[Hl.out];exact b2,c8,c6.glob (HG.out.drewN m) h2 hU hE,c6 rb cs 5 z (.inr hB) HR.out⟩,by simp[intOf];omega⟩
    ·gi_wp2
     refine Zh (results_none rfl ..) rfl ?_;exact⟨⟨_,rfl⟩,.inr ⟨_,⟨eE xs f' (k+r2),by rw[b9.out];simp⟩,b8⟩⟩
   ·rw[uG]
    gi_wp2
    refine⟨fun _ h=>(by cases h),?_⟩
    gi_wp2
    refine Zh (results_none rfl ..) rfl ?_;exact⟨⟨_,rfl⟩,.inl ⟨_,rfl,by rw[a1.out (by simp)];exact HJ.out _ _ _ none a5.out ⟨rfl,rfl,rfl,Zb _,fun _ _ _=>rfl⟩ (fun r e=>by cases e)⟩⟩
   ·rw[uP]
    gi_wp2
    refine⟨fun _ h=>(by cases h),?_⟩
    gi_wp2
    refine Zh (results_none rfl ..) rfl ?_;exact⟨⟨_,rfl⟩,.inl ⟨_,rfl,by rw[a1.out (by simp)];exact HJ.out _ _ _ none a5.out ⟨rfl,rfl,rfl,Zb _,fun _ _ _=>rfl⟩ (fun r e=>by cases e)⟩⟩
theorem eW.setCell (W:World){p:Addr}(h1:B<=p.block)(h2:p.block<B2)(v:Value):eW B B2 W (W.setCell p v):=fun k cs t z hk hc=>
 (Below.heap_setCell W p v k (by omega)).trans hc
theorem eW.alloc (W:World)(o:Obj):eW B B2 W (W.alloc o):=eW.of_below ((Ze _ _).alloc (Zb _) _)
theorem fB (h:Below W.heap.size W W'):KeepsOthers W W':=⟨h.size,fun k _ hk _=>(h.block k (ak hk)).trans hk⟩
theorem sL (n:Nat)(hn:1<=n)(sb:Nat)(s:ByteArray)(B B2:Nat)(a1:s.size<=9223372036854775807)(aU aE:Addr)
  (hB:B2<=w.heap.size) (h2:10<B/\9<B/\11<B) (hU:aU.block<B) (hE:aE.block<B) (hg:cD w aU aE) (hs:w.cell? ⟨sb,0,none⟩=some (.string s)) :
  SeqStopsK Fence.wide n Tryz.prog 180 #[.pointer (some ⟨sb,0,none⟩)] (fun x:Nat×Nat=> #[.int .i64 (x.1:Int),.int .i32 (x.2:Int)]) (eW B B2) (fun ys=>ys=dz s.data.toList) (fun ys=>ys <+:dz s.data.toList) (dz s.data.toList).length w:=
 fun l J Jx W hW hJ a0 hY h0=>Cm n hn l sb s B B2 a1 aU aE J Jx W (Zc hB hW.size) h2 hU hE (hg.below hW) hJ a0 hY (Zg hW hs) h0
theorem Cv (h:Bs w v xs) :
  Calls Tryz.prog 158 #[v] w fun e w'=>e =.returned (.func (.func 180) #[] #[.pointer (some ⟨w.heap.size,0,none⟩)])/\w.alloc (.cells #[.string ⟨xs.toArray⟩] 9)=w':=by
 have hc:=aI h;have H:=Qa h;clear h;go_enter Tryz.func158,Tryz.ntmps158;go_wp2;go_ret;exact⟨rfl,rfl⟩
def Bz (w:World)(pre:List (Nat×Nat))(W:World):Prop:=
 Bx W w.heap.size 3 (.int .i64 pre.length)/\Bx W (w.heap.size+1) 3 (.int .i64 (br pre))/\Below w.heap.size w W
def xq (xs:List UInt8)(aU aE:Addr)(w:World)(e:Ending)(w':World):Prop:=
 Below w.heap.size w w'/\((xs.length<=br (dz xs)/\e =.returned (.tuple #[.int .i64 (dz xs).length,.nilIface]))\/
  (br (dz xs)<xs.length/\∃g:Nat,e =.returned (.tuple #[.int .i64 0,.iface 122 (.pointer (some ⟨g,0,none⟩))])/\
   w'.heap[g]?=some (.cells #[.int .i64 (br (dz xs)),iT (b6 aU) (b6 aE) (bg (xs.drop (br (dz xs)).toNat)).2.2] 124 (0,0))/\w.heap.size<=g))
theorem DE (v:Value)(xs:List UInt8)(w:World)(aU aE:Addr)(hb:Bs w v xs)(hg:cD w aU aE)(c9:xs.length<=9223372036854775807) :
  CallsIn Fence.wide 9 Tryz.prog 123 #[v] w (xq xs aU aE w):=by
 have h2:10<w.heap.size/\9<w.heap.size/\11<w.heap.size:=⟨World.block_lt_of_cell? w _ hg.u,World.block_lt_of_cell? w _ hg.e,World.block_lt_of_cell? w _ (hg.l 0 (by omega))⟩;obtain⟨cU,tU,hU⟩:=hg.hu;obtain⟨cE,tE,hE⟩:=hg.he;have hU:=ak hU;have hE:=ak hE;obtain⟨hm,A,cap,rfl,f0,_⟩:=id hb;have Hb:=Qa hb;have Hg:=Qa hg;clear hb hg;refine callsIn_of_wp_marks Tryz.func123 rfl trivial ?_ rfl;simp only[Tryz.ntmps123,List.size_toArray,List.length_cons,List.length_nil,Nat.reduceAdd,Nat.reduceSub,Array.replicate_succ,Array.replicate_zero,List.push_toArray,List.append_toArray,List.nil_append,List.cons_append];have b2:Below w.heap.size w ((w.alloc (.cells #[.int .i64 0] 3)).alloc (.cells #[.int .i64 0] 3)):=((Ze _ _).alloc (Zb _) _).alloc (by simp) _;have b4:=Qa (Hb.out.below b2);have c2:=Qa (Hg.out.below b2);have Hk:=Qa ((Bx.new w 3 (.int .i64 0)).alloc (.cells #[.int .i64 0] 3));have Ha:=Qa (Bx.new (w.alloc (.cells #[.int .i64 0] 3)) 3 (.int .i64 0));have b1:=Qa b2;clear b2
 gi_wp2_with fail
 refine⟨trivial,?_⟩;refine(callsIn_wide.2 (Cv b4.out)).mono ?_;rintro e w' ⟨rfl,rfl⟩
 gi_wp2
 obtain⟨W0,b8⟩:∃W0,((w.alloc (.cells #[.int .i64 0] 3)).alloc (.cells #[.int .i64 0] 3))=W0:=⟨_,rfl⟩;have a0:W0.heap.size=w.heap.size+2:=by rw[<-b8];simp
 rw[b8] at b4 c2 Hk Ha b1;obtain⟨W1,b0⟩:∃W1,W0.alloc (.cells #[.string ⟨xs.toArray⟩] 9)=W1:=⟨_,rfl⟩;have a3:Below W0.heap.size W0 W1:=by rw[<-b0];exact(Ze _ _).alloc (Zb _) _
 have d1:W1.cell? ⟨w.heap.size+2,0,none⟩=some (.string ⟨xs.toArray⟩):=by
  have h:=(Bx.new W0 9 (.string ⟨xs.toArray⟩)).cell;rw[a0] at h;rw[<-b0];exact h
 have a9:W1.heap.size=w.heap.size+3:=by rw[<-b0];simp[a0]
 rw[b8,b0];rw[show(w.alloc (.cells #[.int .i64 0] 3)).heap.size=w.heap.size+1 by simp] at Ha;clear b8 b0;have d9:=Qa (b4.out.below a3);have c4:=Qa (c2.out.below a3);have d0:Bz w [] W1:=⟨Hk.out.later a3,Ha.out.later a3,b1.out.trans (a3.mono b1.out.size)⟩;have c6:=Qa a0;have a2:=Qa a9;have d6:=Qa d1;have f2:=Qa d0;clear a0 c6 a9 d1 d0 b4 c2 Hk Ha b1 a3 W0;refine wpIn_rangeFunc_ownF rfl (by omega) (gf:=180) (lb:= #[.pointer (some ⟨w.heap.size+2,0,none⟩)]) (by simp[Act.eval]) trivial (enters_of Tryz.func180 (by kernel_rfl) rfl)
  (sL (w:=W1) (9 - 1) (by omega) (w.heap.size+2) ⟨xs.toArray⟩ w.heap.size (w.heap.size+2) (by simpa [ByteArray.size] using c9) aU aE (by rw[a2.out];omega) h2 hU hE c4.out d6.out)
  (fun h k=>h.t k) (fun W l o o' _ h ho _=>eW.b W l o o' h ho) (Ze _ _) (fun _=>rfl)
  (Bz w) (fun _ _ _=>False) ?hI ?hIx f2.out
  (fun x=>{tmps:= #[.slice A xs.length cap,undef,.int .i64 0,.nilIface,.pointer (some ⟨w.heap.size,0,none⟩),.pointer (some ⟨w.heap.size+1,0,none⟩),.int .i64 (x.1:Int),.int .i32 (x.2:Int),undef,undef,undef,undef,undef,.slice A xs.length cap,.func (.func 180) #[] #[.pointer (some ⟨w.heap.size+2,0,none⟩)],.int .i64 (x.1:Int),.int .i32 (x.2:Int),undef,undef,undef,undef,undef,undef,undef,undef,undef,undef,undef,undef,undef,undef,undef,undef,undef,undef,undef,undef,undef,undef,undef,undef,undef,undef,undef,undef],defers:= []}) ?assign ?body ?done ?stop
 case hI=>
  intro s A B row hs hg hr;exact⟨hs.1.kept hg (fun r e=>(hr r e).2),hs.2.1.kept hg (fun r e=>(hr r e).2),hs.2.2.grown hg hs.2.2.size (fun k e=>by have:=(hr k e).1;rw[a2.out] at this;omega)⟩
 case hIx=>exact fun _ _ _ _ _ hs _ _=>hs
 case assign=>
  intro l x W K hK
  gi_wp2
  exact hK
 case body=>
  rintro l pre x W ⟨hk,ha,hB⟩ hN;have d2:=hk.cell;have f3:=hk.frozen;have hlen:(pre.length:Int)+1<=9223372036854775807:=by have:=Ac xs;simp at hN;omega
  gi_wp2_with fail
  refine⟨trivial,?_⟩;refine(CallsIn.inRound l (callsIn_wide.2 (AR x.2 _))).mono ?_;rintro e W2 ⟨rfl,a5⟩;rw[show lG x.2 =.agg #[.int .u8 (am (a7 x.2) 0),.int .u8 (am (a7 x.2) 1),.int .u8 (am (a7 x.2) 2),.int .u8 (am (a7 x.2) 3)] from rfl];have d3:=iJ pre x;generalize (a7 (x.2:Int)).length=q at *;have e4:=Qa d3;clear d3;generalize am (a7 x.2) 0=g0;generalize am (a7 x.2) 1=g1;generalize am (a7 x.2) 2=g2;generalize am (a7 x.2) 3=g3;have c1:=hk.later a5;have b5:=ha.later a5;have d4:=(c1.alloc (.cells #[.int .u8 g0,.int .u8 g1,.int .u8 g2,.int .u8 g3] 269)).cell;have e0:=(c1.alloc (.cells #[.int .u8 g0,.int .u8 g1,.int .u8 g2,.int .u8 g3] 269)).frozen;have d5:=(b5.alloc (.cells #[.int .u8 g0,.int .u8 g1,.int .u8 g2,.int .u8 g3] 269)).cell;have f1:=(b5.alloc (.cells #[.int .u8 g0,.int .u8 g1,.int .u8 g2,.int .u8 g3] 269)).frozen;have f6:w.heap.size+1<W2.heap.size:=b5.lt;clear d2 f3
  gi_wp2
  refine⟨(fB a5).trans ((KeepsOthers.alloc _ _).trans ((KeepsOthers.setCell _ _ _).trans (KeepsOthers.setCell ..))),
   (eW.of_below a5).t ((eW.alloc _ _).t ((eW.setCell _ (p:=⟨w.heap.size,0,none⟩) (Zb _) (by simp) _).t (eW.setCell _ (p:=⟨w.heap.size+1,0,none⟩) (by simp) (by simp) _))),?_,?_,?_⟩
  ·have h:=(((c1.alloc (.cells #[.int .u8 g0,.int .u8 g1,.int .u8 g2,.int .u8 g3] 269)).set (.int .i64 ((pre.length:Int)+1))).far (p:=⟨w.heap.size+1,0,none⟩) (by simp) (.int .i64 (wrap64 ((x.1:Int)+q))));rw[List.length_append];exact h
  ·have h:=(((b5.alloc (.cells #[.int .u8 g0,.int .u8 g1,.int .u8 g2,.int .u8 g3] 269)).far (p:=⟨w.heap.size,0,none⟩) (by simp) (.int .i64 ((pre.length:Int)+1))).set (.int .i64 (wrap64 ((x.1:Int)+q))));rw[e4.out];exact h
  ·exact(((hB.trans (a5.mono hB.size)).alloc (Zc hB.size a5.size) _).setCell (p:=⟨w.heap.size,0,none⟩) (Zb _) _).setCell (p:=⟨w.heap.size+1,0,none⟩) (by simp) _
 case done=>
  rintro D ys W hD rfl ⟨hk,ha,hB⟩ hK;have d2:=hk.cell;have e5:=ha.cell;have c5:D<W.heap.size:=ak hK;have b3:w.heap.size<=D:=by rw[a2.out] at hD;omega
  by_cases hlt:br (dz xs)<xs.length
  ·obtain⟨p,hp⟩:∃p:Nat,br (dz xs)=p:=⟨(br (dz xs)).toNat,by have:=iG xs c9;omega⟩;have Hp:=Qa hp;rw[hp] at hlt e5;clear hp;have e6:p<xs.length:=by omega
   have b9:=Hb.out.below hB;obtain⟨_,A',c',e',_,c8⟩:=id b9;injection e' with e1 e2 e3
   subst e1 e3;obtain⟨b,o,rfl,_⟩:=c8 (by omega);have c3:=Qa (b9.cut (Nat.le_of_lt e6));have f4:=Qa (Hg.out.below hB);have f5:¬cap=p:=by omega
   clear c8 b9
   gi_wp2_with fail
   refine⟨trivial,?_⟩;refine(callsIn_wide.2 (fR c3.out f4.out)).mono ?_;have a4:=Qa (show iT (b6 aU) (b6 aE) (bg (xs.drop (br (dz xs)).toNat)).2.2=iT (b6 aU) (b6 aE) (bg (xs.drop p)).2.2 from by rw[Hp.out];rfl);have c7:=(pd (xs.drop p)).2;generalize bg (xs.drop p)=r at *;obtain⟨r1,r2,r3⟩:=r;have c0:r3=0\/r3=1\/r3=2:=by have:r3<=2:=c7;omega
   clear c7;rintro e w' ⟨rfl,m,rfl⟩;rcases c0 with rfl|rfl|rfl
   ·rw[AL]
    gi_wp2
    gi_region
    all_goals gi_wp2
    have a1:((W.alloc (.cells #[.int .i64 p,.nilIface] 124)).drewN (m+1)).heap[D]?=some (.deferred (some [])):=(Below.heap_alloc W _ D c5).trans hK;refine⟨by simp,.inl ⟨_,_,rfl,run_takeDeferred a1,?_⟩⟩;refine⟨_,results_tmp2 rfl _ _ _,?_,.inr ⟨by rw[Hp.out];omega,W.heap.size,rfl,?_,hB.size⟩⟩
    ·exact(ap (hB.alloc hB.size _) (m+1)).trans (belowK_b (w:=w) (Zb _) _ D _ _ b3 a1 rfl rfl)
    ·rw[Hp.out] at a4 ⊢;rw[World.putObj_heap_other (by omega),a4.out];exact Zf W _
   ·rw[uG]
    gi_wp2
    gi_region
    all_goals gi_wp2
    have a1:((W.alloc (.cells #[.int .i64 p,b6 aE] 124)).drewN (m+1)).heap[D]?=some (.deferred (some [])):=(Below.heap_alloc W _ D c5).trans hK;refine⟨by simp,.inl ⟨_,_,rfl,run_takeDeferred a1,?_⟩⟩;refine⟨_,results_tmp2 rfl _ _ _,?_,.inr ⟨by rw[Hp.out];omega,W.heap.size,rfl,?_,hB.size⟩⟩
    ·exact(ap (hB.alloc hB.size _) (m+1)).trans (belowK_b (w:=w) (Zb _) _ D _ _ b3 a1 rfl rfl)
    ·rw[Hp.out] at a4 ⊢;rw[World.putObj_heap_other (by omega),a4.out];exact Zf W _
   ·rw[uP]
    gi_wp2
    gi_region
    all_goals gi_wp2
    have a1:((W.alloc (.cells #[.int .i64 p,b6 aU] 124)).drewN (m+1)).heap[D]?=some (.deferred (some [])):=(Below.heap_alloc W _ D c5).trans hK;refine⟨by simp,.inl ⟨_,_,rfl,run_takeDeferred a1,?_⟩⟩;refine⟨_,results_tmp2 rfl _ _ _,?_,.inr ⟨by rw[Hp.out];omega,W.heap.size,rfl,?_,hB.size⟩⟩
    ·exact(ap (hB.alloc hB.size _) (m+1)).trans (belowK_b (w:=w) (Zb _) _ D _ _ b3 a1 rfl rfl)
    ·rw[Hp.out] at a4 ⊢;rw[World.putObj_heap_other (by omega),a4.out];exact Zf W _
  ·gi_wp2
   refine⟨by simp,.inl ⟨_,_,rfl,run_takeDeferred hK,?_⟩⟩;refine⟨_,results_tmp2 rfl _ _ _,hB.trans (belowK_b (w:=w) (Zb _) W D _ _ b3 hK rfl rfl),.inl ⟨by omega,rfl⟩⟩
 case stop=>
  rintro D c pre W hD _ h _;exact h.elim
theorem xF (hb:Bs w v xs)(hg:cD w aU aE) :
  Calls Tryz.prog 123 #[v] w (xq xs aU aE w):=callsIn_wide.1 (DE v xs w aU aE hb hg hb.1)
def yn (xs:List UInt8)(aU aE:Addr)(w:World)(e:Ending)(w':World):Prop:=
 Below w.heap.size w w'/\((xs.length<=br (dz xs)/\e =.returned .nilIface)\/
  (br (dz xs)<xs.length/\∃g:Nat,e =.returned (.iface 122 (.pointer (some ⟨g,0,none⟩)))/\
   w'.heap[g]?=some (.cells #[.int .i64 (br (dz xs)),iT (b6 aU) (b6 aE) (bg (xs.drop (br (dz xs)).toNat)).2.2] 124 (0,0))/\w.heap.size<=g))
theorem zA (hb:Bs w v xs)(hg:cD w aU aE) :
  Calls Tryz.prog 95 #[v] w (yn xs aU aE w):=by
 have H:=Qa (xF hb hg);clear hb hg;go_enter Tryz.func95,Tryz.ntmps95;go_wp2_with fail;refine Za H ?_;rintro e w' ⟨hb,⟨h1,rfl⟩|⟨h1,g,rfl,hg,hl⟩⟩
 ·have H1:=Qa h1;clear h1;go_wp2;go_ret;exact⟨hb,.inl ⟨H1.out,rfl⟩⟩
 ·have H1:=Qa h1;have Hg:=Qa hg;clear h1 hg;go_wp2;go_ret;exact⟨hb,.inr ⟨H1.out,g,rfl,Hg.out,hl⟩⟩
theorem yy (x:UInt8):((bf x:Nat):Int)=if(x.toNat:Int)=45 then 0 else if(x.toNat:Int)=43 then 1 else if(x.toNat:Int)=48 then 2 else if 49<=(x.toNat:Int)/\(x.toNat:Int)<=57 then 3 else if(x.toNat:Int)=46 then 4 else if(x.toNat:Int)=101\/(x.toNat:Int)=69 then 5 else 6:=by
 have h:∀n:Nat,n<256->((bf (UInt8.ofNat n):Nat):Int)=if(n:Int)=45 then 0 else if(n:Int)=43 then 1 else if(n:Int)=48 then 2 else if 49<=(n:Int)/\(n:Int)<=57 then 3 else if(n:Int)=46 then 4 else if(n:Int)=101\/(n:Int)=69 then 5 else 6:=by decide +kernel
 have:=h x.toNat x.toNat_lt
 rwa[UInt8.ofNat_toNat] at this
theorem rS (x:UInt8)(w:World):Calls Tryz.prog 236 #[.int .u8 x.toNat] w fun e w'=>e =.returned (.int .i64 (bf x:Nat))/\w=w':=by
 rw[yy];have hx:=x.toNat_lt;obtain⟨c,hc⟩:∃c:Int,(x.toNat:Int)=c:=⟨_,rfl⟩;have h0:0<=c:=by omega
 have h1:c<256:=by omega
 rw[hc];clear hx hc;go_enter Tryz.func236,Tryz.ntmps236;go_wp2
 all_goals go_ret
 all_goals refine⟨Fu ?_,rfl⟩
 all_goals (simp_all <;> omega)
theorem oG (t:NS)(vd ve:Value)(w:World):Calls Tryz.prog 219 #[.agg #[.bool t.neg,.bool t.down,vd,.int .i64 t.part,ve,.int .i64 t.st,.int .i64 t.n]] w fun e w'=>e =.returned (.bool (du t.st))/\Below w.heap.size w w':=by
 obtain⟨neg,down,digs,part,exps,st,n⟩:=t
 dsimp only
 have hw:du st= (decide ((st:Int)=2)||decide ((st:Int)=3)||decide ((st:Int)=5)||decide ((st:Int)=8)):=by
  unfold du;rw[Bool.eq_iff_iff];simp;omega
 rw[hw];obtain⟨z,hz⟩:∃z:Int,(st:Int)=z:=⟨_,rfl⟩;rw[hz];clear hz hw;have hb:=aa w (.cells #[.bool neg,.bool down,vd,.int .i64 part,ve,.int .i64 z,.int .i64 n] 355);go_enter Tryz.func219,Tryz.ntmps219;go_wp2
 all_goals go_ret
 all_goals refine⟨rV ?_,hb⟩
 all_goals (simp_all <;> omega)
theorem ac {t:TypeId}{z:Nat×Nat}(h:w.heap[g]?=some (.cells cs t z)){j:Nat}(hu:cs[j]?=some u):w.cell? ⟨g,j,none⟩=some u:=by
 unfold World.cell?;simp only[h];simpa using hu
theorem al {t:TypeId}(h:w.heap[g]?=some (.cells cs t (0,0)))(j:Nat):w.frozen? ⟨g,j,none⟩=false:=by
 unfold World.frozen?;simp[h]
theorem ar {t:TypeId}{z:Nat×Nat}(h:w.heap[g]?=some (.cells cs t z))(j:Nat)(u:Value):(w.setCell ⟨g,j,none⟩ u).heap[g]?=some (.cells (cs.setIfInBounds j u) t z):=by
 have hlt:=ak h;have h':w.heap[g] =.cells cs t z:=by simpa [Array.getElem?_eq_getElem hlt] using h
 show(w.heap.modify g _)[g]?=_
 rw[Array.getElem?_eq_getElem (by simpa using hlt),Array.getElem_modify_self,h'];rfl
theorem au (w:World)(i j k:Nat)(v:Value)(t:TypeId)(cs:Array Value)(hne:i≠j)(h:w.heap[i]?=some (.cells cs t (0,0))):(w.setCell ⟨j,k,none⟩ v).heap[i]?=some (.cells cs t (0,0)):=(Below.heap_setCell w _ v i hne).trans h
theorem ah {x:Obj}(h:w.heap[g]?=some x)(hb:Below w.heap.size w w'):w'.heap[g]?=some x:=(hb.block _ (ak h)).trans h
theorem ay {x:Obj}{o:Option Nat}(h:w.heap[g]?=some x)(hg:w.grownBy w' o)(ho:o≠some g):w'.heap[g]?=some x:=(hg.block g (ak h) (fun e=>ho e.symm)).trans h
structure aP (F:Nat->Prop) (w w':World):Prop where
 os:w'.os=w.os
 tape:w'.tape=w.tape
 output:w'.output=w.output
 size:w.heap.size<=w'.heap.size
 block:∀k,k<w.heap.size->¬F k->w'.heap[k]?=w.heap[k]?
theorem aP.of_below (h:Below w.heap.size w w'):aP F w w':=⟨h.os,h.tape,h.output,h.size,fun k hk _=>h.block k hk⟩
theorem aP.refl (F:Nat->Prop)(w:World):aP F w w:=aP.of_below (Ze _ _)
theorem aP.trans {a b c:World}(h:aP F a b)(k:aP G b c)(hg:∀i,G i->F i\/a.heap.size<=i):aP F a c:=
 ⟨k.os.trans h.os,k.tape.trans h.tape,k.output.trans h.output,Zc h.size k.size,fun i hi hf=>(k.block i (Nat.lt_of_lt_of_le hi h.size) (fun hG=>by rcases hg i hG with h1|h1;exact hf h1;omega)).trans (h.block i hi hf)⟩
theorem aP.mono {a b:World}(h:aP F a b)(hg:∀i,F i->G i):aP G a b:=⟨h.os,h.tape,h.output,h.size,fun i hi hn=>h.block i hi (fun hf=>hn (hg i hf))⟩
theorem aP.below (h:aP F w w')(hB:B<=w.heap.size)(hf:∀i,F i->B<=i):Below B w w':=⟨h.os,h.tape,h.output,h.size,fun k hk=>h.block k (Nat.lt_of_lt_of_le hk hB) (fun hF=>by have:=hf k hF;omega)⟩
theorem aP.set (g j:Nat)(u:Value):aP (fun k=>k=g) w (w.setCell ⟨g,j,none⟩ u):=⟨rfl,rfl,rfl,by simp,fun k _ hk=>Below.heap_setCell w _ u k hk⟩
theorem aP.grown {o:Option Nat}(h:w.grownBy w' o):aP (fun k=>o=some k) w w':=⟨h.os,h.tape,h.output,h.size,fun k hk hn=>h.block k hk (fun e=>hn e.symm)⟩
theorem bh {k:Nat}(h:w.ownsRow base e k v n us)(hs:∀b,v.ownBlock=some b->w'.heap[b]?=w.heap[b]?):w'.ownsRow base e k v n us:=by
 obtain⟨h1,⟨rfl,h0⟩|⟨g,cap,cur,rfl,a0,hg,r⟩⟩:=h
 ·exact⟨h1,.inl ⟨rfl,h0⟩⟩
 ·exact⟨h1,.inr ⟨g,cap,cur,rfl,a0,(hs g rfl).trans hg,r⟩⟩
