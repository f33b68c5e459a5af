import Derived.Test.YtehpfidnpfcniaaGreatDoorGZ14ag
import Derived.RangeFuncNested
import Derived.RangeFuncBound
import Derived.Lib.ConvBytes
import Derived.Shelf.RegionOpen
import Derived.OwnWalkIn
import Derived.LoopNIn
import Derived.LoopIn
import Derived.Test.YtehpfidnpfcniaaGreatDoorGZ14ae
set_option linter.unusedVariables false
set_option linter.unusedSimpArgs false
set_option maxHeartbeats 64000000
set_option maxRecDepth 100000
namespace Go.Proofs.YtehpfidnpfcniaaGreatDoor
open Go.RowKit Go.Shelf
variable {aE aU:Addr}{cs:Array Value}{xs:List UInt8}{us:List Value}{B B2 base g n:Nat}{F G:Nat->Prop}{e:TypeId}{u v:Value}{W W' X Y Z w w':World}
attribute [local go_sem] Oper.semAt_some
theorem AG (U E:Value)(a b:Nat):pu U E (a,b,0) =.tuple #[.int .i32 a,.int .i64 b,.nilIface]:=rfl
theorem tL (U E:Value)(a b:Nat):pu U E (a,b,1) =.tuple #[.int .i32 a,.int .i64 b,E]:=rfl
theorem sW (U E:Value)(a b:Nat):pu U E (a,b,2) =.tuple #[.int .i32 a,.int .i64 b,U]:=rfl
def vA (c:Int):Int:=bits .or .u8 128 (bits .and .i32 c 63 % 256)
theorem sF:∀n:Int,0<=n->n<2 ^ 31->IntKind.i32.wrap n=n:=by
 intro n h0 h1;have e:(2:Int) ^ 31=2147483648:=rfl;rw[e] at h1;rw[IntKind.wrap_i32];omega
theorem jK (c:Int)(h0:0<=c)(h1:c<2147483648):vA c=128+c % 64:=by
 unfold vA;rw[show bits .and .i32 c 63=c % 64 from bits_mask .i32 31 (by decide) sF 6 (by decide) c h0 (by simpa using h1)];rw[show c % 64 % 256=c % 64 by omega];exact u8_or128 (c % 64) (by omega) (by omega)
theorem GU (c:Int)(h:0<=c/\c<128):bits .or .u8 0 c=c:=by
 have hd:∀x:Nat,x<128->bits .or .u8 0 (x:Int)=x:=by decide +kernel
 have:=hd c.toNat (by omega)
 rwa[show((c.toNat:Nat):Int)=c by omega] at this
def jp (a b c d:Int):Value:=.agg #[.int .u8 a,.int .u8 b,.int .u8 c,.int .u8 d]
def jn (w:World)(v:Value)(n:Int)(e:Ending)(w':World):Prop:=e =.returned (.tuple #[v,.int .i64 n])/\Below w.heap.size w w'
theorem D9 (c:Int)(w:World)(h:65536<=c/\c<=1114111) :
  Calls Tryz.prog 162 #[.int .i32 c] w fun e w'=>jn w (jp (240+c/64/64/64) (vA (c/64/64)) (vA (c/64)) (vA c)) 4 e w':=by
 go_enter Tryz.func162,Tryz.ntmps162;go_wp2;exact Zh (by simp[results,Tryz.results162,go_sem];rfl) rfl ⟨rfl,((Ze _ _).alloc (Zb _) _).alloc (by simp) _⟩
theorem El (c:Int)(w:World)(h:2048<=c/\c<65536)(h':¬ (55296<=c/\c<=57343)) :
  Calls Tryz.prog 162 #[.int .i32 c] w fun e w'=>jn w (jp (224+c/64/64) (vA (c/64)) (vA c) 0) 3 e w':=by
 have a0:c<55296\/57343<c:=by omega
 clear h';go_enter Tryz.func162,Tryz.ntmps162;rcases a0 with a0|a0
 all_goals
  go_wp2;exact Zh (by simp[results,Tryz.results162,go_sem];rfl) rfl ⟨rfl,((Ze _ _).alloc (Zb _) _).alloc (by simp) _⟩
theorem Ey (c:Int)(w:World)(h:128<=c/\c<2048) :
  Calls Tryz.prog 162 #[.int .i32 c] w fun e w'=>jn w (jp (192+c/64) (vA c) 0 0) 2 e w':=by
 go_enter Tryz.func162,Tryz.ntmps162;go_wp2;exact Zh (by simp[results,Tryz.results162,go_sem];rfl) rfl ⟨rfl,((Ze _ _).alloc (Zb _) _).alloc (by simp) _⟩
theorem EJ (c:Int)(w:World)(h:0<=c/\c<128) :
  Calls Tryz.prog 162 #[.int .i32 c] w fun e w'=>jn w (jp (bits .or .u8 0 c) 0 0 0) 1 e w':=by
 go_enter Tryz.func162,Tryz.ntmps162;go_wp2;exact Zh (by simp[results,Tryz.results162,go_sem];rfl) rfl ⟨rfl,((Ze _ _).alloc (Zb _) _).alloc (by simp) _⟩
theorem D6 (c:Int)(w:World)(h:c<0\/1114111<c\/(55296<=c/\c<=57343)) :
  Calls Tryz.prog 162 #[.int .i32 c] w (jn w (jp 0 0 0 0) 0):=by
 go_enter Tryz.func162,Tryz.ntmps162;rcases h with h|h|⟨h,h'⟩
 all_goals
  go_wp2;exact Zh (by simp[results,Tryz.results162,go_sem];rfl) rfl ⟨rfl,((Ze _ _).alloc (Zb _) _).alloc (by simp) _⟩
theorem e7 {a b c d a' b' c' d':Int}(h1:a=a')(h2:b=b')(h3:c=c')(h4:d=d'):jp a b c d=jp a' b' c' d':=by rw[h1,h2,h3,h4]
def kk (c:Int):Value:=jp (am (aO c) 0) (am (aO c) 1) (am (aO c) 2) (am (aO c) 3)
theorem Bi (c:Int)(w:World):Calls Tryz.prog 162 #[.int .i32 c] w fun e w'=>jn w (kk c) (aO c).length e w':=by
 by_cases hr:b6 c=true
 ·have a0:=hr;simp only[b6,Bool.and_eq_true,decide_eq_true_eq,Bool.not_eq_true',Bool.and_eq_false_iff,decide_eq_false_iff_not] at a0
  by_cases h1:c<128
  ·have e:aO c = [UInt8.ofNat c.toNat]:=by rw[aO,if_pos hr,if_pos h1]
   have:kk c=jp (bits .or .u8 0 c) 0 0 0:=by
    rw[GU c (by omega)];unfold kk;rw[e];exact e7 (aB _ (by omega)) rfl rfl rfl
   rw[this,e];exact EJ c w (by omega)
  by_cases h2:c<2048
  ·have e:aO c = [UInt8.ofNat (192+c/64).toNat,UInt8.ofNat (128+c % 64).toNat]:=by rw[aO,if_pos hr,if_neg h1,if_pos h2]
   have:kk c=jp (192+c/64) (vA c) 0 0:=by
    unfold kk;rw[e];exact e7 (aB _ (by omega)) ((aB _ (by omega)).trans (jK _ (by omega) (by omega)).symm) rfl rfl
   rw[this,e];exact Ey c w (by omega)
  by_cases h3:c<65536
  ·have e:aO c = [UInt8.ofNat (224+c/4096).toNat,UInt8.ofNat (128+c/64 % 64).toNat,UInt8.ofNat (128+c % 64).toNat]:=by rw[aO,if_pos hr,if_neg h1,if_neg h2,if_pos h3]
   have:kk c=jp (224+c/64/64) (vA (c/64)) (vA c) 0:=by
    unfold kk;rw[e];exact e7 ((aB _ (by omega)).trans (by omega)) ((aB _ (by omega)).trans (jK _ (by omega) (by omega)).symm) ((aB _ (by omega)).trans (jK _ (by omega) (by omega)).symm) rfl
   rw[this,e];exact El c w (by omega) (by omega)
  ·have e:aO c = [UInt8.ofNat (240+c/262144).toNat,UInt8.ofNat (128+c/4096 % 64).toNat,UInt8.ofNat (128+c/64 % 64).toNat,UInt8.ofNat (128+c % 64).toNat]:=by rw[aO,if_pos hr,if_neg h1,if_neg h2,if_neg h3]
   have:kk c=jp (240+c/64/64/64) (vA (c/64/64)) (vA (c/64)) (vA c):=by
    unfold kk;rw[e];exact e7 ((aB _ (by omega)).trans (by omega)) ((aB _ (by omega)).trans ((jK _ (by omega) (by omega)).trans (by omega)).symm) ((aB _ (by omega)).trans (jK _ (by omega) (by omega)).symm) ((aB _ (by omega)).trans (jK _ (by omega) (by omega)).symm)
   rw[this,e];exact D9 c w (by omega)
 ·have e:aO c = []:=by rw[aO,if_neg hr]
  have:kk c=jp 0 0 0 0:=by unfold kk;rw[e];rfl
  have a0:¬b6 c=true:=hr;simp only[b6,Bool.and_eq_true,decide_eq_true_eq,Bool.not_eq_true',Bool.and_eq_false_iff,decide_eq_false_iff_not] at a0;rw[this,e];exact D6 c w (by omega)
def bj (pre:List (Nat×Nat)):Int:=match pre.getLast? with|none=>0|some x=>wrap64 ((x.1:Int)+ (aO x.2).length)
theorem gU (pre:List (Nat×Nat))(x:Nat×Nat):bj (pre ++ [x])=wrap64 ((x.1:Int)+ (aO x.2).length):=by simp[bj]
def pJ (xs:List UInt8):Nat->Nat->Nat
 |0,k=>k
 |f+1,k=>if(a8 (xs.drop k)).2.2=0 then pJ xs f (k+ (a8 (xs.drop k)).2.1) else k
def B9 (xs:List UInt8):Nat:=pJ xs (xs.length+1) 0
theorem jU (xs:List UInt8)(hm:xs.length<=9223372036854775807):∀f k pre,k<=xs.length->bj pre=k->bj (pre++dY xs f k)=pJ xs f k
 |0,k,pre,h,hp=>by simpa [dY,pJ] using hp
 |f+1,k,pre,h,hp=>by
  unfold dY pJ
  by_cases h0:(a8 (xs.drop k)).2.2=0
  ·rw[if_pos h0,if_pos h0,List.append_cons];have hle:=dx xs k h;refine jU xs hm f _ _ hle ?_;rw[gU,(gB h0).1,List.length_take,List.length_drop];rw[show min (a8 (xs.drop k)).2.1 (xs.length - k)= (a8 (xs.drop k)).2.1 by omega];rw[IntWalk.wrap64_in _ ⟨by omega,by omega⟩];simp
  ·rw[if_neg h0,if_neg h0];simpa using hp
theorem gR (xs:List UInt8)(hm:xs.length<=9223372036854775807):bj (de xs)=B9 xs:=by
 have:=jU xs hm (xs.length+1) 0 [] (Zj _) rfl;simpa [de,B9] using this
def et (B B2:Nat)(W W':World):Prop:= ∀k cs t z,(k<B\/B2<=k)->W.heap[k]?=some (.cells cs t z)->W'.heap[k]?=some (.cells cs t z)
theorem et.t (h:et B B2 X Y)(k:et B B2 Y Z):et B B2 X Z:=fun i cs t z hi hc=>k i cs t z hi (h i cs t z hi hc)
theorem et.b (W:World)(l:Nat)(o o':Obj)(h:W.heap[l]?=some o)(ho:o.isCells=false):et B B2 W (W.putObj l o'):=fun k cs t z _ hc=>by
 have:k≠l:=by rintro rfl;rw[h] at hc;cases hc;simp[Obj.isCells] at ho
 exact(World.putObj_heap_other this).trans hc
theorem et.drewN (W:World)(m:Nat):et B B2 W (W.drewN m):=fun _ _ _ _ _ h=>h
theorem et.of_below (h:Below W.heap.size W W'):et B B2 W W':=fun k cs t z _ hc=>(h.block k (ah hc)).trans hc
theorem oN {a:Addr}(h:w.cell? a=some v):∃cs t z,w.heap[a.block]?=some (.cells cs t z):=by
 unfold World.cell? at h
 cases hh:w.heap[a.block]? with
 |none=>rw[hh] at h;simp at h
 |some o=>
  rw[hh] at h
  cases o with
  |cells cs t z=>exact⟨cs,t,z,rfl⟩
  |_=>simp at h
theorem et.cell (h:et B B2 W W'){a:Addr}(hc:W.cell? a=some v)(hb:a.block<B\/B2<=a.block):W'.cell? a=some v:=by
 obtain⟨cs,t,z,hh⟩:=oN hc;rw[<-hc];exact World.cell?_of_block ((h _ cs t z hb hh).trans hh.symm)
theorem et.glob (h:et B B2 W W')(hg:cd W aU aE)(h2:9<B/\8<B/\11<B)(hU:aU.block<B)(hE:aE.block<B):cd W' aU aE:=by
 obtain⟨c1,t1,h1⟩:=hg.hu;obtain⟨c2,t2,h3⟩:=hg.he;exact⟨h.cell hg.u (.inl h2.1),h.cell hg.e (.inl h2.2.1),fun i hi=>h.cell (hg.l i hi) (.inl h2.2.2),⟨c1,t1,h _ _ _ _ (.inl hU) h1⟩,⟨c2,t2,h _ _ _ _ (.inl hE) h3⟩,hg.ne⟩
theorem qh (W:World)(s:ByteArray)(hs:s.size<=9223372036854775807):∃W2 cap cs z,(convert 9 28 (.string s)).run Tryz.prog W =.ok (.slice (some ⟨W.heap.size,0,none⟩) s.size cap) W2/\
  s.size<=cap/\W.grownBy W2 none/\W2.heap.size=W.heap.size+1/\W2.heap[W.heap.size]?=some (.cells cs 5 z)/\
  (∀X:World,X.heap[W.heap.size]?=some (.cells cs 5 z)->Bs X (.slice (some ⟨W.heap.size,0,none⟩) s.size cap) s.data.toList):=by
 refine⟨Lib.bytesWorld W 5 s,grownCap W s.size 0 5,Lib.bytesCells W 5 s,_,Lib.run_convert_string_bytes W 9 28 5 s Tryz.underlying9 Tryz.underlying28 Tryz.underlying5,grownCap_ge _ _ _ _,?_,Lib.bytesWorld_size _ _ _,Lib.bytesWorld_at_new _ _ _,?_⟩
 ·exact⟨rfl,rfl,rfl,by rw[Lib.bytesWorld_size];omega,fun k hk _=>Lib.bytesWorld_at_old _ _ _ _ hk⟩
 ·intro X hX;have hl:s.data.toList.length=s.size:=by simp
  refine⟨by omega,_,_,by rw[hl],by rw[hl];exact grownCap_ge _ _ _ _,fun _=>⟨_,0,rfl,fun i hi=>?_⟩⟩;rw[Nat.zero_add,World.cell?_of_block (w:=Lib.bytesWorld W 5 s) (hX.trans (Lib.bytesWorld_at_new W 5 s).symm)];exact Lib.bytesWorld_cell W 5 s i (by omega)
def CF (xs:List UInt8)(J:List (Nat×Nat)->World->Prop)(G:World->Prop)(k:Nat)(wr:World):Prop:=
 ∃pre f,de xs=pre++dY xs f k/\xs.length<f+k/\k<=xs.length/\J pre wr/\G wr
theorem AT (n:Nat)(hn:1<=n)(l sb:Nat)(s:ByteArray)(B B2:Nat)(d1:s.size<=9223372036854775807)(aU aE:Addr)(J Jx:List (Nat×Nat)->World->Prop)
  (W:World) (hB:B2<=W.heap.size) (h2:9<B/\8<B/\11<B) (hU:aU.block<B) (hE:aE.block<B) (hg:cd W aU aE)
  (hJ:AbidesFrom W.heap.size J) (d9:AbidesFrom W.heap.size Jx)
  (hY:∀pre (x:Nat×Nat) W1,J pre W1->pre.length< (de s.data.toList).length->YieldAt Fence.wide (n - 1) Tryz.prog l #[.int .i64 (x.1:Int),.int .i32 (x.2:Int)] W1 fun e W'=>
   (e =.returned (.bool true)/\J (pre ++ [x]) W'/\et B B2 W1 W')\/(e =.returned (.bool false)/\Jx (pre ++ [x]) W'))
  (hs:W.cell? ⟨sb,0,none⟩=some (.string s)) (h0:J [] W) :
  CallsIn Fence.wide n Tryz.prog 183 #[.func (.yield l) #[] #[],.pointer (some ⟨sb,0,none⟩)] W fun e W'=>(∃v,e =.returned v)/\
   ((∃ys,ys=de s.data.toList/\J ys W')\/(∃pre,pre <+:de s.data.toList/\Jx pre W')):=by
 obtain⟨W2,cap,cs,z,c0,d4,c3,a9,b1,c6⟩:=qh W s d1;refine callsIn_of_wp Tryz.func183 rfl trivial ?_ rfl;simp only[Tryz.ntmps183,List.size_toArray,List.length_cons,List.length_nil,Nat.reduceAdd,Nat.reduceSub,Array.replicate_succ,Array.replicate_zero,List.push_toArray,List.append_toArray,List.nil_append,List.cons_append];have hl:s.data.toList.length=s.size:=by simp
 generalize s.data.toList=xs at *;have Hg:=H8 hg;have HJ:=H8 hJ;have HY:=H8 hY;have a4:=H8 c3;have d2:=H8 a9;have b8:=H8 b1;have c8:=H8 c6;have Hl:=H8 hl;have H0:=H8 h0;clear hg hJ hY c3 a9 b1 c6 hl h0;generalize hrb:W.heap.size=rb at *;have e0:=H8 hrb;clear hrb
 gi_wp2
 gi_loopw [4] (fun v wr=> ∃k:Nat,v =.int .i64 k/\CF xs J (fun wr=>cd wr aU aE/\wr.heap[rb]?=some (.cells cs 5 z)) k wr) (fun v _=>s.size - (intOf v).toNat)
 case atStart=>
  refine⟨0,rfl, [],xs.length+1,rfl,by omega,Zj _,?_,?_,b8.out⟩
  ·exact HJ.out _ _ _ none H0.out a4.out (fun r e=>by cases e)
  ·exact Hg.out.below ⟨a4.out.os,a4.out.tape,a4.out.output,a4.out.size,fun k hk=>a4.out.block k hk (by simp)⟩
 case round=>
  obtain⟨k,rfl,pre,f,he,hf,hk,c2,hG,hR⟩:=hrel;have d5:k<=s.size:=by rw[<-Hl.out];exact hk
  have Hf:=H8 hf;have He:=H8 he;have HG:=H8 hG;have HR:=H8 hR;have b0:=H8 c2;have Hk:=H8 hk;clear hf he hG hR c2 hk;have a3:Bs wr (.slice (some ⟨rb,0,none⟩) xs.length cap) xs:=by rw[Hl.out];exact c8.out wr HR.out
  have hle:=dx xs k Hk.out;have a2:=(oC (xs.drop k)).2;have hcut:∀A c',cap=k\/(A=some ⟨rb,k,none⟩/\c'=cap - k)->Calls Tryz.prog 48 #[.slice A (s.size - k) c'] wr fun e w'=>ei (bS aU) (bS aE) wr (a8 (xs.drop k)) e w':=by
   intro A c' h;refine fe ?_ HG.out;rcases h with e1|⟨rfl,rfl⟩
   ·have h0:s.size - k=0:=by omega
    have:xs.drop k = []:=List.drop_eq_nil_of_le (by rw[Hl.out];omega);rw[this,h0];exact⟨by simp,_,_,rfl,Zj _,fun h=>by simp at h⟩
   ·have:=a3.cut Hk.out
    rwa[Hl.out,Nat.zero_add] at this
  have b2:=H8 hcut;clear hcut a3;have a5:∀e:(a8 (xs.drop k)).2.2≠0,de xs=pre:=fun e=>by rw[He.out,uD e,List.append_nil]
  have c4:∀e:(a8 (xs.drop k)).2.2=0,1<=(a8 (xs.drop k)).2.1/\∃f',xs.length<f'+ (k+ (a8 (xs.drop k)).2.1)/\de xs=pre++ (k,(a8 (xs.drop k)).1)::dY xs f' (k+ (a8 (xs.drop k)).2.1):=fun e=>by
   have hp:=dM e;have h1:=Hf.out;have h2:=Hk.out;obtain⟨f',rfl⟩:∃f',f=f'+1:=⟨f - 1,by omega⟩;exact⟨hp,f',by omega,by rw[He.out,tz e]⟩
  have a1:=H8 a5;have b3:=H8 c4;clear a5 c4;generalize a8 (xs.drop k)=r at *;obtain⟨r1,r2,r3⟩:=r;have b4:k+r2<=s.size:=by rw[<-Hl.out];exact hle
  clear hle;have a0:r3=0\/r3=1\/r3=2:=by have:r3<=2:=a2;omega
  clear a2;have hp:pre.length< (de xs).length\/r3≠0:=by
   by_cases h:r3=0
   ·obtain⟨_,f',_,h'⟩:=b3.out h
    left;rw[h'];simp
   ·exact .inr h
  have Hp:=H8 hp;clear hp
  gi_wp2_with fail
  all_goals
   refine⟨trivial,?_⟩;refine(callsIn_wide.2 (b2.out _ _ (by first|exact .inl (by assumption)|exact .inr ⟨rfl,rfl⟩))).mono ?_;rintro e w' ⟨rfl,m,rfl⟩
  ·rcases a0 with rfl|rfl|rfl
   ·exfalso;have:=(b3.out rfl).1;omega
   ·rw[tL]
    gi_wp2
    refine⟨fun _ h=>(by cases h),?_⟩
    gi_wp2
    refine Zh (results_none rfl ..) rfl ?_;exact⟨⟨_,rfl⟩,.inl ⟨_,rfl,by rw[a1.out (by simp)];exact HJ.out _ _ _ none b0.out ⟨rfl,rfl,rfl,Zb _,fun _ _ _=>rfl⟩ (fun r e=>by cases e)⟩⟩
   ·rw[sW]
    gi_wp2
    refine⟨fun _ h=>(by cases h),?_⟩
    gi_wp2
    refine Zh (results_none rfl ..) rfl ?_;exact⟨⟨_,rfl⟩,.inl ⟨_,rfl,by rw[a1.out (by simp)];exact HJ.out _ _ _ none b0.out ⟨rfl,rfl,rfl,Zb _,fun _ _ _=>rfl⟩ (fun r e=>by cases e)⟩⟩
  ·rcases a0 with rfl|rfl|rfl
   ·rw[AG];obtain⟨d6,f',c7,c5⟩:=b3.out rfl;have d0:=H8 c7;have c1:=H8 c5;clear c7 c5;obtain⟨fn,tmps,assign,body,hy,c9⟩:=HY.out pre (k,r1) (wr.drewN m) (HJ.out _ _ _ none b0.out ⟨rfl,rfl,rfl,Zb _,fun _ _ _=>rfl⟩ (fun r e=>by cases e)) (Hp.out.resolve_right (fun h=>h rfl))
    dsimp only at hy
    gi_wp2
    refine c9.mono ?_;rintro e W3 (⟨rfl,d3,b9⟩|⟨rfl,b5⟩)
    ·gi_wp2
     exact⟨⟨k+r2,by go_num,pre ++ [(k,r1)],f',by rw[c1.out,List.append_cons],d0.out,by rw[Hl.out];exact b4,d3,b9.glob (HG.out.drewN m) h2 hU hE,b9 rb cs 5 z (.inr hB) HR.out⟩,by simp[intOf];omega⟩
    ·gi_wp2
     refine Zh (results_none rfl ..) rfl ?_;exact⟨⟨_,rfl⟩,.inr ⟨_,⟨dY xs f' (k+r2),by rw[c1.out];simp⟩,b5⟩⟩
   ·rw[tL]
    gi_wp2
    refine⟨fun _ h=>(by cases h),?_⟩
    gi_wp2
    refine Zh (results_none rfl ..) rfl ?_;exact⟨⟨_,rfl⟩,.inl ⟨_,rfl,by rw[a1.out (by simp)];exact HJ.out _ _ _ none b0.out ⟨rfl,rfl,rfl,Zb _,fun _ _ _=>rfl⟩ (fun r e=>by cases e)⟩⟩
   ·rw[sW]
    gi_wp2
    refine⟨fun _ h=>(by cases h),?_⟩
    gi_wp2
    refine Zh (results_none rfl ..) rfl ?_;exact⟨⟨_,rfl⟩,.inl ⟨_,rfl,by rw[a1.out (by simp)];exact HJ.out _ _ _ none b0.out ⟨rfl,rfl,rfl,Zb _,fun _ _ _=>rfl⟩ (fun r e=>by cases e)⟩⟩
theorem et.setCell (W:World){p:Addr}(h1:B<=p.block)(h2:p.block<B2)(v:Value):et B B2 W (W.setCell p v):=fun k cs t z hk hc=>
 (Below.heap_setCell W p v k (by omega)).trans hc
theorem et.alloc (W:World)(o:Obj):et B B2 W (W.alloc o):=et.of_below ((Ze _ _).alloc (Zb _) _)
theorem iF (h:Below W.heap.size W W'):KeepsOthers W W':=⟨h.size,fun k _ hk _=>(h.block k (ah hk)).trans hk⟩
theorem p6 (n:Nat)(hn:1<=n)(sb:Nat)(s:ByteArray)(B B2:Nat)(a0:s.size<=9223372036854775807)(aU aE:Addr)
  (hB:B2<=w.heap.size) (h2:9<B/\8<B/\11<B) (hU:aU.block<B) (hE:aE.block<B) (hg:cd w aU aE) (hs:w.cell? ⟨sb,0,none⟩=some (.string s)) :
  SeqStopsK Fence.wide n Tryz.prog 183 #[.pointer (some ⟨sb,0,none⟩)] (fun x:Nat×Nat=> #[.int .i64 (x.1:Int),.int .i32 (x.2:Int)]) (et B B2) (fun ys=>ys=de s.data.toList) (fun ys=>ys <+:de s.data.toList) (de s.data.toList).length w:=
 fun l J Jx W hW hJ a1 hY h0=>AT n hn l sb s B B2 a0 aU aE J Jx W (Zc hB hW.size) h2 hU hE (hg.below hW) hJ a1 hY (Zg hW hs) h0
theorem Ah (h:Bs w v xs) :
  Calls Tryz.prog 161 #[v] w fun e w'=>e =.returned (.func (.func 183) #[] #[.pointer (some ⟨w.heap.size,0,none⟩)])/\w.alloc (.cells #[.string ⟨xs.toArray⟩] 9)=w':=by
 have hc:=aH h;have H:=H8 h;clear h;go_enter Tryz.func161,Tryz.ntmps161;go_wp2;go_ret;exact⟨rfl,rfl⟩
def zC (w:World)(pre:List (Nat×Nat))(W:World):Prop:=
 Bx W w.heap.size 3 (.int .i64 pre.length)/\Bx W (w.heap.size+1) 3 (.int .i64 (bj pre))/\Below w.heap.size w W
def vi (xs:List UInt8)(aU aE:Addr)(w:World)(e:Ending)(w':World):Prop:=
 Below w.heap.size w w'/\((xs.length<=bj (de xs)/\e =.returned (.tuple #[.int .i64 (de xs).length,.nilIface]))\/
  (bj (de xs)<xs.length/\∃g:Nat,e =.returned (.tuple #[.int .i64 0,.iface 63 (.pointer (some ⟨g,0,none⟩))])/\
   w'.heap[g]?=some (.cells #[.int .i64 (bj (de xs)),gP (bS aU) (bS aE) (a8 (xs.drop (bj (de xs)).toNat)).2.2] 65 (0,0))/\w.heap.size<=g))
theorem z8 (v:Value)(xs:List UInt8)(w:World)(aU aE:Addr)(hb:Bs w v xs)(hg:cd w aU aE)(d0:xs.length<=9223372036854775807) :
  CallsIn Fence.wide 9 Tryz.prog 127 #[v] w (vi xs aU aE w):=by
 have h2:9<w.heap.size/\8<w.heap.size/\11<w.heap.size:=⟨World.block_lt_of_cell? w _ hg.u,World.block_lt_of_cell? w _ hg.e,World.block_lt_of_cell? w _ (hg.l 0 (by omega))⟩;obtain⟨cU,tU,hU⟩:=hg.hu;obtain⟨cE,tE,hE⟩:=hg.he;have hU:=ah hU;have hE:=ah hE;obtain⟨hm,A,cap,rfl,f3,_⟩:=id hb;have Hb:=H8 hb;have Hg:=H8 hg;clear hb hg;refine callsIn_of_wp_marks Tryz.func127 rfl trivial ?_ rfl;simp only[Tryz.ntmps127,List.size_toArray,List.length_cons,List.length_nil,Nat.reduceAdd,Nat.reduceSub,Array.replicate_succ,Array.replicate_zero,List.push_toArray,List.append_toArray,List.nil_append,List.cons_append];have b3:Below w.heap.size w ((w.alloc (.cells #[.int .i64 0] 3)).alloc (.cells #[.int .i64 0] 3)):=((Ze _ _).alloc (Zb _) _).alloc (by simp) _;have b1:=H8 (Hb.out.below b3);have c6:=H8 (Hg.out.below b3);have Hk:=H8 ((Bx.new w 3 (.int .i64 0)).alloc (.cells #[.int .i64 0] 3));have Ha:=H8 (Bx.new (w.alloc (.cells #[.int .i64 0] 3)) 3 (.int .i64 0));have b2:=H8 b3;clear b3
 gi_wp2_with fail
 refine⟨trivial,?_⟩;refine(callsIn_wide.2 (Ah b1.out)).mono ?_;rintro e w' ⟨rfl,rfl⟩
 gi_wp2
 obtain⟨W0,b4⟩:∃W0,((w.alloc (.cells #[.int .i64 0] 3)).alloc (.cells #[.int .i64 0] 3))=W0:=⟨_,rfl⟩;have a0:W0.heap.size=w.heap.size+2:=by rw[<-b4];simp
 rw[b4] at b1 c6 Hk Ha b2;obtain⟨W1,a9⟩:∃W1,W0.alloc (.cells #[.string ⟨xs.toArray⟩] 9)=W1:=⟨_,rfl⟩;have a3:Below W0.heap.size W0 W1:=by rw[<-a9];exact(Ze _ _).alloc (Zb _) _
 have d2:W1.cell? ⟨w.heap.size+2,0,none⟩=some (.string ⟨xs.toArray⟩):=by
  have h:=(Bx.new W0 9 (.string ⟨xs.toArray⟩)).cell;rw[a0] at h;rw[<-a9];exact h
 have b0:W1.heap.size=w.heap.size+3:=by rw[<-a9];simp[a0]
 rw[b4,a9];rw[show(w.alloc (.cells #[.int .i64 0] 3)).heap.size=w.heap.size+1 by simp] at Ha;clear b4 a9;have f2:=H8 (b1.out.below a3);have c4:=H8 (c6.out.below a3);have c7:zC w [] W1:=⟨Hk.out.later a3,Ha.out.later a3,b2.out.trans (a3.mono b2.out.size)⟩;have c3:=H8 a0;have a2:=H8 b0;have d5:=H8 d2;have d6:=H8 c7;clear a0 c3 b0 d2 c7 b1 c6 Hk Ha b2 a3 W0;refine wpIn_rangeFunc_ownF rfl (by omega) (gf:=183) (lb:= #[.pointer (some ⟨w.heap.size+2,0,none⟩)]) (by simp[Act.eval]) trivial (enters_of Tryz.func183 (by kernel_rfl) rfl)
  (p6 (w:=W1) (9 - 1) (by omega) (w.heap.size+2) ⟨xs.toArray⟩ w.heap.size (w.heap.size+2) (by simpa [ByteArray.size] using d0) aU aE (by rw[a2.out];omega) h2 hU hE c4.out d5.out)
  (fun h k=>h.t k) (fun W l o o' _ h ho _=>et.b W l o o' h ho) (Ze _ _) (fun _=>rfl)
  (zC w) (fun _ _ _=>False) ?hI ?hIx d6.out
  (fun x=>{tmps:= #[.slice A xs.length cap,undef,.int .i64 0,.nilIface,.pointer (some ⟨w.heap.size,0,none⟩),.pointer (some ⟨w.heap.size+1,0,none⟩),.int .i64 (x.1:Int),.int .i32 (x.2:Int),undef,undef,undef,undef,undef,.slice A xs.length cap,.func (.func 183) #[] #[.pointer (some ⟨w.heap.size+2,0,none⟩)],.int .i64 (x.1:Int),.int .i32 (x.2:Int),undef,undef,undef,undef,undef,undef,undef,undef,undef,undef,undef,undef,undef,undef,undef,undef,undef,undef,undef,undef,undef,undef,undef,undef,undef,undef,undef,undef],defers:= []}) ?assign ?body ?done ?stop
 case hI=>
  intro s A B row hs hg hr;exact⟨hs.1.kept hg (fun r e=>(hr r e).2),hs.2.1.kept hg (fun r e=>(hr r e).2),hs.2.2.grown hg hs.2.2.size (fun k e=>by have:=(hr k e).1;rw[a2.out] at this;omega)⟩
 case hIx=>exact fun _ _ _ _ _ hs _ _=>hs
 case assign=>
  intro l x W K hK
  gi_wp2
  exact hK
 case body=>
  rintro l pre x W ⟨hk,ha,hB⟩ hN;have c9:=hk.cell;have d9:=hk.frozen;have hlen:(pre.length:Int)+1<=9223372036854775807:=by have:=yB xs;simp at hN;omega
  gi_wp2_with fail
  refine⟨trivial,?_⟩;refine(CallsIn.inRound l (callsIn_wide.2 (Bi x.2 _))).mono ?_;rintro e W2 ⟨rfl,a4⟩;rw[show kk x.2 =.agg #[.int .u8 (am (aO x.2) 0),.int .u8 (am (aO x.2) 1),.int .u8 (am (aO x.2) 2),.int .u8 (am (aO x.2) 3)] from rfl];have d3:=gU pre x;generalize (aO (x.2:Int)).length=q at *;have d4:=H8 d3;clear d3;generalize am (aO x.2) 0=g0;generalize am (aO x.2) 1=g1;generalize am (aO x.2) 2=g2;generalize am (aO x.2) 3=g3;have c5:=hk.later a4;have b5:=ha.later a4;have e4:=(c5.alloc (.cells #[.int .u8 g0,.int .u8 g1,.int .u8 g2,.int .u8 g3] 269)).cell;have e5:=(c5.alloc (.cells #[.int .u8 g0,.int .u8 g1,.int .u8 g2,.int .u8 g3] 269)).frozen;have f4:=(b5.alloc (.cells #[.int .u8 g0,.int .u8 g1,.int .u8 g2,.int .u8 g3] 269)).cell;have f1:=(b5.alloc (.cells #[.int .u8 g0,.int .u8 g1,.int .u8 g2,.int .u8 g3] 269)).frozen;have f6:w.heap.size+1<W2.heap.size:=b5.lt;clear c9 d9
  gi_wp2
  refine⟨(iF a4).trans ((KeepsOthers.alloc _ _).trans ((KeepsOthers.setCell _ _ _).trans (KeepsOthers.setCell ..))),
   (et.of_below a4).t ((et.alloc _ _).t ((et.setCell _ (p:=⟨w.heap.size,0,none⟩) (Zb _) (by simp) _).t (et.setCell _ (p:=⟨w.heap.size+1,0,none⟩) (by simp) (by simp) _))),?_,?_,?_⟩
  ·have h:=(((c5.alloc (.cells #[.int .u8 g0,.int .u8 g1,.int .u8 g2,.int .u8 g3] 269)).set (.int .i64 ((pre.length:Int)+1))).far (p:=⟨w.heap.size+1,0,none⟩) (by simp) (.int .i64 (wrap64 ((x.1:Int)+q))));rw[List.length_append];exact h
  ·have h:=(((b5.alloc (.cells #[.int .u8 g0,.int .u8 g1,.int .u8 g2,.int .u8 g3] 269)).far (p:=⟨w.heap.size,0,none⟩) (by simp) (.int .i64 ((pre.length:Int)+1))).set (.int .i64 (wrap64 ((x.1:Int)+q))));rw[d4.out];exact h
  ·exact(((hB.trans (a4.mono hB.size)).alloc (Zc hB.size a4.size) _).setCell (p:=⟨w.heap.size,0,none⟩) (Zb _) _).setCell (p:=⟨w.heap.size+1,0,none⟩) (by simp) _
 case done=>
  rintro D ys W hD rfl ⟨hk,ha,hB⟩ hK;have c9:=hk.cell;have f0:=ha.cell;have c0:D<W.heap.size:=ah hK;have b8:w.heap.size<=D:=by rw[a2.out] at hD;omega
  by_cases hlt:bj (de xs)<xs.length
  ·obtain⟨p,hp⟩:∃p:Nat,bj (de xs)=p:=⟨(bj (de xs)).toNat,by have:=gR xs d0;omega⟩;have Hp:=H8 hp;rw[hp] at hlt f0;clear hp;have e0:p<xs.length:=by omega
   have c1:=Hb.out.below hB;obtain⟨_,A',c',e',_,d1⟩:=id c1;injection e' with e1 e2 e3
   subst e1 e3;obtain⟨b,o,rfl,_⟩:=d1 (by omega);have b9:=H8 (c1.cut (Nat.le_of_lt e0));have e6:=H8 (Hg.out.below hB);have f5:¬cap=p:=by omega
   clear d1 c1
   gi_wp2_with fail
   refine⟨trivial,?_⟩;refine(callsIn_wide.2 (fe b9.out e6.out)).mono ?_;have a5:=H8 (show gP (bS aU) (bS aE) (a8 (xs.drop (bj (de xs)).toNat)).2.2=gP (bS aU) (bS aE) (a8 (xs.drop p)).2.2 from by rw[Hp.out];rfl);have c8:=(oC (xs.drop p)).2;generalize a8 (xs.drop p)=r at *;obtain⟨r1,r2,r3⟩:=r;have c2:r3=0\/r3=1\/r3=2:=by have:r3<=2:=c8;omega
   clear c8;rintro e w' ⟨rfl,m,rfl⟩;rcases c2 with rfl|rfl|rfl
   ·rw[AG]
    gi_wp2
    gi_region
    all_goals gi_wp2
    have a1:((W.alloc (.cells #[.int .i64 p,.nilIface] 65)).drewN (m+1)).heap[D]?=some (.deferred (some [])):=(Below.heap_alloc W _ D c0).trans hK;refine⟨by simp,.inl ⟨_,_,rfl,run_takeDeferred a1,?_⟩⟩;refine⟨_,results_tmp2 rfl _ _ _,?_,.inr ⟨by rw[Hp.out];omega,W.heap.size,rfl,?_,hB.size⟩⟩
    ·exact(ap (hB.alloc hB.size _) (m+1)).trans (belowK_b (w:=w) (Zb _) _ D _ _ b8 a1 rfl rfl)
    ·rw[Hp.out] at a5 ⊢;rw[World.putObj_heap_other (by omega),a5.out];exact Zf W _
   ·rw[tL]
    gi_wp2
    gi_region
    all_goals gi_wp2
    have a1:((W.alloc (.cells #[.int .i64 p,bS aE] 65)).drewN (m+1)).heap[D]?=some (.deferred (some [])):=(Below.heap_alloc W _ D c0).trans hK;refine⟨by simp,.inl ⟨_,_,rfl,run_takeDeferred a1,?_⟩⟩;refine⟨_,results_tmp2 rfl _ _ _,?_,.inr ⟨by rw[Hp.out];omega,W.heap.size,rfl,?_,hB.size⟩⟩
    ·exact(ap (hB.alloc hB.size _) (m+1)).trans (belowK_b (w:=w) (Zb _) _ D _ _ b8 a1 rfl rfl)
    ·rw[Hp.out] at a5 ⊢;rw[World.putObj_heap_other (by omega),a5.out];exact Zf W _
   ·rw[sW]
    gi_wp2
    gi_region
    all_goals gi_wp2
    have a1:((W.alloc (.cells #[.int .i64 p,bS aU] 65)).drewN (m+1)).heap[D]?=some (.deferred (some [])):=(Below.heap_alloc W _ D c0).trans hK;refine⟨by simp,.inl ⟨_,_,rfl,run_takeDeferred a1,?_⟩⟩;refine⟨_,results_tmp2 rfl _ _ _,?_,.inr ⟨by rw[Hp.out];omega,W.heap.size,rfl,?_,hB.size⟩⟩
    ·exact(ap (hB.alloc hB.size _) (m+1)).trans (belowK_b (w:=w) (Zb _) _ D _ _ b8 a1 rfl rfl)
    ·rw[Hp.out] at a5 ⊢;rw[World.putObj_heap_other (by omega),a5.out];exact Zf W _
  ·gi_wp2
   refine⟨by simp,.inl ⟨_,_,rfl,run_takeDeferred hK,?_⟩⟩;refine⟨_,results_tmp2 rfl _ _ _,hB.trans (belowK_b (w:=w) (Zb _) W D _ _ b8 hK rfl rfl),.inl ⟨by omega,rfl⟩⟩
 case stop=>
  rintro D c pre W hD _ h _;exact h.elim
theorem yp (hb:Bs w v xs)(hg:cd w aU aE) :
  Calls Tryz.prog 127 #[v] w (vi xs aU aE w):=callsIn_wide.1 (z8 v xs w aU aE hb hg hb.1)
def xt (xs:List UInt8)(aU aE:Addr)(w:World)(e:Ending)(w':World):Prop:=
 Below w.heap.size w w'/\((xs.length<=bj (de xs)/\e =.returned .nilIface)\/
  (bj (de xs)<xs.length/\∃g:Nat,e =.returned (.iface 63 (.pointer (some ⟨g,0,none⟩)))/\
   w'.heap[g]?=some (.cells #[.int .i64 (bj (de xs)),gP (bS aU) (bS aE) (a8 (xs.drop (bj (de xs)).toNat)).2.2] 65 (0,0))/\w.heap.size<=g))
theorem wZ (hb:Bs w v xs)(hg:cd w aU aE) :
  Calls Tryz.prog 98 #[v] w (xt xs aU aE w):=by
 have H:=H8 (yp hb hg);clear hb hg;go_enter Tryz.func98,Tryz.ntmps98;go_wp2_with fail;refine Za H ?_;rintro e w' ⟨hb,⟨h1,rfl⟩|⟨h1,g,rfl,hg,hl⟩⟩
 ·have H1:=H8 h1;clear h1;go_wp2;go_ret;exact⟨hb,.inl ⟨H1.out,rfl⟩⟩
 ·have H1:=H8 h1;have Hg:=H8 hg;clear h1 hg;go_wp2;go_ret;exact⟨hb,.inr ⟨H1.out,g,rfl,Hg.out,hl⟩⟩
theorem xK (x:UInt8):((a6 x:Nat):Int)=if(x.toNat:Int)=45 then 0 else if(x.toNat:Int)=43 then 1 else if(x.toNat:Int)=48 then 2 else if 49<=(x.toNat:Int)/\(x.toNat:Int)<=57 then 3 else if(x.toNat:Int)=46 then 4 else if(x.toNat:Int)=101\/(x.toNat:Int)=69 then 5 else 6:=by
 have h:∀n:Nat,n<256->((a6 (UInt8.ofNat n):Nat):Int)=if(n:Int)=45 then 0 else if(n:Int)=43 then 1 else if(n:Int)=48 then 2 else if 49<=(n:Int)/\(n:Int)<=57 then 3 else if(n:Int)=46 then 4 else if(n:Int)=101\/(n:Int)=69 then 5 else 6:=by decide +kernel
 have:=h x.toNat x.toNat_lt
 rwa[UInt8.ofNat_toNat] at this
theorem rC (x:UInt8)(w:World):Calls Tryz.prog 233 #[.int .u8 x.toNat] w fun e w'=>e =.returned (.int .i64 (a6 x:Nat))/\w=w':=by
 rw[xK];have hx:=x.toNat_lt;obtain⟨c,hc⟩:∃c:Int,(x.toNat:Int)=c:=⟨_,rfl⟩;have h0:0<=c:=by omega
 have h1:c<256:=by omega
 rw[hc];clear hx hc;go_enter Tryz.func233,Tryz.ntmps233;go_wp2
 all_goals go_ret
 all_goals refine⟨C4 ?_,rfl⟩
 all_goals (simp_all <;> omega)
theorem nc (t:NS)(vd ve:Value)(w:World):Calls Tryz.prog 216 #[.agg #[.bool t.neg,.bool t.down,vd,.int .i64 t.part,ve,.int .i64 t.st,.int .i64 t.n]] w fun e w'=>e =.returned (.bool (db t.st))/\Below w.heap.size w w':=by
 obtain⟨neg,down,digs,part,exps,st,n⟩:=t
 dsimp only
 have hw:db st= (decide ((st:Int)=2)||decide ((st:Int)=3)||decide ((st:Int)=5)||decide ((st:Int)=8)):=by
  unfold db;rw[Bool.eq_iff_iff];simp;omega
 rw[hw];obtain⟨z,hz⟩:∃z:Int,(st:Int)=z:=⟨_,rfl⟩;rw[hz];clear hz hw;have hb:=ac w (.cells #[.bool neg,.bool down,vd,.int .i64 part,ve,.int .i64 z,.int .i64 n] 354);go_enter Tryz.func216,Tryz.ntmps216;go_wp2
 all_goals go_ret
 all_goals refine⟨rI ?_,hb⟩
 all_goals (simp_all <;> omega)
theorem aa {t:TypeId}{z:Nat×Nat}(h:w.heap[g]?=some (.cells cs t z)){j:Nat}(hu:cs[j]?=some u):w.cell? ⟨g,j,none⟩=some u:=by
 unfold World.cell?;simp only[h];simpa using hu
theorem aj {t:TypeId}(h:w.heap[g]?=some (.cells cs t (0,0)))(j:Nat):w.frozen? ⟨g,j,none⟩=false:=by
 unfold World.frozen?;simp[h]
theorem au {t:TypeId}{z:Nat×Nat}(h:w.heap[g]?=some (.cells cs t z))(j:Nat)(u:Value):(w.setCell ⟨g,j,none⟩ u).heap[g]?=some (.cells (cs.setIfInBounds j u) t z):=by
 have hlt:=ah h;have h':w.heap[g] =.cells cs t z:=by simpa [Array.getElem?_eq_getElem hlt] using h
 show(w.heap.modify g _)[g]?=_
 rw[Array.getElem?_eq_getElem (by simpa using hlt),Array.getElem_modify_self,h'];rfl
theorem aq (w:World)(i j k:Nat)(v:Value)(t:TypeId)(cs:Array Value)(hne:i≠j)(h:w.heap[i]?=some (.cells cs t (0,0))):(w.setCell ⟨j,k,none⟩ v).heap[i]?=some (.cells cs t (0,0)):=(Below.heap_setCell w _ v i hne).trans h
theorem ai {x:Obj}(h:w.heap[g]?=some x)(hb:Below w.heap.size w w'):w'.heap[g]?=some x:=(hb.block _ (ah h)).trans h
theorem ay {x:Obj}{o:Option Nat}(h:w.heap[g]?=some x)(hg:w.grownBy w' o)(ho:o≠some g):w'.heap[g]?=some x:=(hg.block g (ah h) (fun e=>ho e.symm)).trans h
structure aM (F:Nat->Prop) (w w':World):Prop where
 os:w'.os=w.os
 tape:w'.tape=w.tape
 output:w'.output=w.output
 size:w.heap.size<=w'.heap.size
 block:∀k,k<w.heap.size->¬F k->w'.heap[k]?=w.heap[k]?
theorem aM.of_below (h:Below w.heap.size w w'):aM F w w':=⟨h.os,h.tape,h.output,h.size,fun k hk _=>h.block k hk⟩
theorem aM.refl (F:Nat->Prop)(w:World):aM F w w:=aM.of_below (Ze _ _)
theorem aM.trans {a b c:World}(h:aM F a b)(k:aM G b c)(hg:∀i,G i->F i\/a.heap.size<=i):aM F a c:=
 ⟨k.os.trans h.os,k.tape.trans h.tape,k.output.trans h.output,Zc h.size k.size,fun i hi hf=>(k.block i (Nat.lt_of_lt_of_le hi h.size) (fun hG=>by rcases hg i hG with h1|h1;exact hf h1;omega)).trans (h.block i hi hf)⟩
theorem aM.mono {a b:World}(h:aM F a b)(hg:∀i,F i->G i):aM G a b:=⟨h.os,h.tape,h.output,h.size,fun i hi hn=>h.block i hi (fun hf=>hn (hg i hf))⟩
theorem aM.below (h:aM F w w')(hB:B<=w.heap.size)(hf:∀i,F i->B<=i):Below B w w':=⟨h.os,h.tape,h.output,h.size,fun k hk=>h.block k (Nat.lt_of_lt_of_le hk hB) (fun hF=>by have:=hf k hF;omega)⟩
theorem aM.set (g j:Nat)(u:Value):aM (fun k=>k=g) w (w.setCell ⟨g,j,none⟩ u):=⟨rfl,rfl,rfl,by simp,fun k _ hk=>Below.heap_setCell w _ u k hk⟩
theorem aM.grown {o:Option Nat}(h:w.grownBy w' o):aM (fun k=>o=some k) w w':=⟨h.os,h.tape,h.output,h.size,fun k hk hn=>h.block k hk (fun e=>hn e.symm)⟩
theorem be {k:Nat}(h:w.ownsRow base e k v n us)(hs:∀b,v.ownBlock=some b->w'.heap[b]?=w.heap[b]?):w'.ownsRow base e k v n us:=by
 obtain⟨h1,⟨rfl,h0⟩|⟨g,cap,cur,rfl,a0,hg,r⟩⟩:=h
 ·exact⟨h1,.inl ⟨rfl,h0⟩⟩
 ·exact⟨h1,.inr ⟨g,cap,cur,rfl,a0,(hs g rfl).trans hg,r⟩⟩
