import Derived.Test.YtpkdfmjdhmpopaaGreatDoorGZ3bb
import Derived.RangeFuncNested
import Derived.RangeFuncBound
import Derived.Shelf.RegionOpen
import Derived.OwnWalkIn
import Derived.LoopNIn
import Derived.LoopIn
set_option linter.unusedVariables false
set_option linter.unusedSimpArgs false
set_option maxHeartbeats 64000000
set_option maxRecDepth 100000
namespace Go.Proofs.YtpkdfmjdhmpopaaGreatDoor
open Go.RowKit Go.Shelf
variable {aE aU : Addr} {xs : List UInt8} {B B2 g k : Nat} {v : Value} {W W' X w : World}
attribute [local go_sem] Oper.semAt_some
theorem Cf (U E:Value)(a b:Nat):pU U E (a,b,0) = .tuple #[.int .i32 a, .int .i64 b, .nilIface]:=rfl
theorem xe (U E:Value)(a b:Nat):pU U E (a,b,1) = .tuple #[.int .i32 a, .int .i64 b,E]:=rfl
theorem uO (U E:Value)(a b:Nat):pU U E (a,b,2) = .tuple #[.int .i32 a, .int .i64 b,U]:=rfl
def yf (c:Int):Int:=bits .or .u8 128 (bits .and .i32 c 63 % 256)
theorem wj:∀n:Int,0<=n->n<2 ^ 31->IntKind.i32.wrap n=n:=by
 intro n h0 h1;have e: (2:Int) ^ 31=2147483648:=rfl;rw [e] at h1;rw [IntKind.wrap_i32];omega
theorem k8 (c:Int)(h0:0<=c)(h1:c<2147483648):yf c=128+c % 64:=by
 unfold yf;rw [show bits .and .i32 c 63=c % 64 from bits_mask .i32 31 (by decide) wj 6 (by decide) c h0 (by simpa using h1)];rw [show c % 64 % 256=c % 64 by omega];exact u8_or128 (c % 64) (by omega) (by omega)
theorem II (c:Int)(h:0<=c/\c<128):bits .or .u8 0 c=c:=by
 have hd:∀x:Nat,x<128->bits .or .u8 0 (x:Int)=x:=by decide +kernel
 have:=hd c.toNat (by omega)
 rwa [show((c.toNat:Nat):Int)=c by omega] at this
def kY (a b c d:Int):Value:= .agg #[.int .u8 a, .int .u8 b, .int .u8 c, .int .u8 d]
def kR (w:World)(v:Value)(n:Int)(e:Ending)(w':World):Prop:=e = .returned (.tuple #[v, .int .i64 n])/\Below w.heap.size w w'
theorem FU (c:Int)(w:World)(h:65536<=c/\c<=1114111) :
  Calls Tryz.prog 113 #[.int .i32 c] w fun e w'=>kR w (kY (240+c/64/64/64) (yf (c/64/64)) (yf (c/64)) (yf c)) 4 e w':=by
 go_enter Tryz.func113,Tryz.ntmps113;go_wp2;exact Zg (by simp [results,Tryz.results113,go_sem];rfl) rfl ⟨rfl,((Zd _ _).alloc (Za _) _).alloc (by simp) _⟩
theorem EN (c:Int)(w:World)(h:2048<=c/\c<65536)(h':¬ (55296<=c/\c<=57343)) :
  Calls Tryz.prog 113 #[.int .i32 c] w fun e w'=>kR w (kY (224+c/64/64) (yf (c/64)) (yf c) 0) 3 e w':=by
 have a0:c<55296\/57343<c:=by omega
 clear h';go_enter Tryz.func113,Tryz.ntmps113;rcases a0 with a0 | a0
 all_goals
  go_wp2;exact Zg (by simp [results,Tryz.results113,go_sem];rfl) rfl ⟨rfl,((Zd _ _).alloc (Za _) _).alloc (by simp) _⟩
theorem ET (c:Int)(w:World)(h:128<=c/\c<2048) :
  Calls Tryz.prog 113 #[.int .i32 c] w fun e w'=>kR w (kY (192+c/64) (yf c) 0 0) 2 e w':=by
 go_enter Tryz.func113,Tryz.ntmps113;go_wp2;exact Zg (by simp [results,Tryz.results113,go_sem];rfl) rfl ⟨rfl,((Zd _ _).alloc (Za _) _).alloc (by simp) _⟩
theorem Ft (c:Int)(w:World)(h:0<=c/\c<128) :
  Calls Tryz.prog 113 #[.int .i32 c] w fun e w'=>kR w (kY (bits .or .u8 0 c) 0 0 0) 1 e w':=by
 go_enter Tryz.func113,Tryz.ntmps113;go_wp2;exact Zg (by simp [results,Tryz.results113,go_sem];rfl) rfl ⟨rfl,((Zd _ _).alloc (Za _) _).alloc (by simp) _⟩
theorem E8 (c:Int)(w:World)(h:c<0\/1114111<c\/(55296<=c/\c<=57343)) :
  Calls Tryz.prog 113 #[.int .i32 c] w (kR w (kY 0 0 0 0) 0):=by
 go_enter Tryz.func113,Tryz.ntmps113;rcases h with h | h | ⟨h,h'⟩
 all_goals
  go_wp2;exact Zg (by simp [results,Tryz.results113,go_sem];rfl) rfl ⟨rfl,((Zd _ _).alloc (Za _) _).alloc (by simp) _⟩
theorem io {a b c d a' b' c' d':Int}(h1:a=a')(h2:b=b')(h3:c=c')(h4:d=d'):kY a b c d=kY a' b' c' d':=by rw [h1,h2,h3,h4]
def mi (c:Int):Value:=kY (am (bF c) 0) (am (bF c) 1) (am (bF c) 2) (am (bF c) 3)
theorem Bt (c:Int)(w:World):Calls Tryz.prog 113 #[.int .i32 c] w fun e w'=>kR w (mi c) (bF c).length e w':=by
 by_cases hr:dL c=true
 ·have a0:=hr
  simp only [dL,Bool.and_eq_true,decide_eq_true_eq,Bool.not_eq_true',Bool.and_eq_false_iff,decide_eq_false_iff_not] at a0
  by_cases h1:c<128
  ·have e:bF c = [UInt8.ofNat c.toNat]:=by rw [bF,if_pos hr,if_pos h1]
   have:mi c=kY (bits .or .u8 0 c) 0 0 0:=by
    rw [II c (by omega)];unfold mi;rw [e];exact io (aL _ (by omega)) rfl rfl rfl
   rw [this,e];exact Ft c w (by omega)
  by_cases h2:c<2048
  ·have e:bF c = [UInt8.ofNat (192+c/64).toNat,UInt8.ofNat (128+c % 64).toNat]:=by rw [bF,if_pos hr,if_neg h1,if_pos h2]
   have:mi c=kY (192+c/64) (yf c) 0 0:=by
    unfold mi;rw [e];exact io (aL _ (by omega)) ((aL _ (by omega)).trans (k8 _ (by omega) (by omega)).symm) rfl rfl
   rw [this,e];exact ET c w (by omega)
  by_cases h3:c<65536
  ·have e:bF c = [UInt8.ofNat (224+c/4096).toNat,UInt8.ofNat (128+c/64 % 64).toNat,UInt8.ofNat (128+c % 64).toNat]:=by rw [bF,if_pos hr,if_neg h1,if_neg h2,if_pos h3]
   have:mi c=kY (224+c/64/64) (yf (c/64)) (yf c) 0:=by
    unfold mi;rw [e];exact io ((aL _ (by omega)).trans (by omega)) ((aL _ (by omega)).trans (k8 _ (by omega) (by omega)).symm) ((aL _ (by omega)).trans (k8 _ (by omega) (by omega)).symm) rfl
   rw [this,e];exact EN c w (by omega) (by omega)
  ·have e:bF c = [UInt8.ofNat (240+c/262144).toNat,UInt8.ofNat (128+c/4096 % 64).toNat,UInt8.ofNat (128+c/64 % 64).toNat,UInt8.ofNat (128+c % 64).toNat]:=by rw [bF,if_pos hr,if_neg h1,if_neg h2,if_neg h3]
   have:mi c=kY (240+c/64/64/64) (yf (c/64/64)) (yf (c/64)) (yf c):=by
    unfold mi;rw [e];exact io ((aL _ (by omega)).trans (by omega)) ((aL _ (by omega)).trans ((k8 _ (by omega) (by omega)).trans (by omega)).symm) ((aL _ (by omega)).trans (k8 _ (by omega) (by omega)).symm) ((aL _ (by omega)).trans (k8 _ (by omega) (by omega)).symm)
   rw [this,e];exact FU c w (by omega)
 ·have e:bF c = []:=by rw [bF,if_neg hr]
  have:mi c=kY 0 0 0 0:=by unfold mi;rw [e];rfl
  have a0:¬dL c=true:=hr;simp only [dL,Bool.and_eq_true,decide_eq_true_eq,Bool.not_eq_true',Bool.and_eq_false_iff,decide_eq_false_iff_not] at a0;rw [this,e];exact E8 c w (by omega)
def bL (pre:List (Nat×Nat)):Int:=match pre.getLast? with | none=>0 | some x=>wrap64 ((x.1:Int)+ (bF x.2).length)
theorem jL (pre:List (Nat×Nat))(x:Nat×Nat):bL (pre ++ [x])=wrap64 ((x.1:Int)+ (bF x.2).length):=by simp [bL]
def sO (xs:List UInt8):Nat->Nat->Nat
 | 0,k=>k
 | f+1,k=>if(bE (xs.drop k)).2.2=0 then sO xs f (k+ (bE (xs.drop k)).2.1) else k
def Dp (xs:List UInt8):Nat:=sO xs (xs.length+1) 0
theorem lE (xs:List UInt8)(hm:xs.length<=9223372036854775807):∀f k pre,k<=xs.length->bL pre=k->bL (pre++fL xs f k)=sO xs f k
 | 0,k,pre,h,hp=>by simpa [fL,sO] using hp
 | f+1,k,pre,h,hp=>by
  unfold fL sO
  by_cases h0: (bE (xs.drop k)).2.2=0
  ·rw [if_pos h0,if_pos h0,List.append_cons]
   have hle:=gg xs k h;refine lE xs hm f _ _ hle ?_;rw [jL,(jr h0).1,List.length_take,List.length_drop];rw [show min (bE (xs.drop k)).2.1 (xs.length - k)= (bE (xs.drop k)).2.1 by omega];rw [IntWalk.wrap64_in _ ⟨by omega,by omega⟩];simp
  ·rw [if_neg h0,if_neg h0];simpa using hp
theorem jH (xs:List UInt8)(hm:xs.length<=9223372036854775807):bL (eV xs)=Dp xs:=by
 have:=lE xs hm (xs.length+1) 0 [] (Zj _) rfl;simpa [eV,Dp] using this
def fY (B B2:Nat)(W W':World):Prop:= ∀k cs t z,(k<B\/B2<=k)->W.heap[k]?=some (.cells cs t z)->W'.heap[k]?=some (.cells cs t z)
theorem fY.t {Y Z:World}(h:fY B B2 X Y)(k:fY B B2 Y Z):fY B B2 X Z:=fun i cs t z hi hc=>k i cs t z hi (h i cs t z hi hc)
theorem fY.b (W:World)(l:Nat)(o o':Obj)(h:W.heap[l]?=some o)(ho:o.isCells=false):fY B B2 W (W.putObj l o'):=fun k cs t z _ hc=>by
 have:k≠l:=by rintro rfl;rw [h] at hc;cases hc;simp [Obj.isCells] at ho
 exact(World.putObj_heap_other this).trans hc
theorem fY.drewN (W:World)(m:Nat):fY B B2 W (W.drewN m):=fun _ _ _ _ _ h=>h
theorem fY.of_below (h:Below W.heap.size W W'):fY B B2 W W':=fun k cs t z _ hc=>(h.block k (ae hc)).trans hc
theorem qM {a:Addr}(h:w.cell? a=some v):∃cs t z,w.heap[a.block]?=some (.cells cs t z):=by
 unfold World.cell? at h
 cases hh:w.heap[a.block]? with
 | none=>rw [hh] at h;simp at h
 | some o=>
  rw [hh] at h
  cases o with
  | cells cs t z=>exact⟨cs,t,z,rfl⟩
  | _=>simp at h
theorem fY.cell (h:fY B B2 W W'){a:Addr}(hc:W.cell? a=some v)(hb:a.block<B\/B2<=a.block):W'.cell? a=some v:=by
 obtain⟨cs,t,z,hh⟩:=qM hc;rw [<- hc];exact World.cell?_of_block ((h _ cs t z hb hh).trans hh.symm)
theorem fY.glob (h:fY B B2 W W')(hg:cG W aU aE)(h2:6<B/\5<B/\8<B)(hU:aU.block<B)(hE:aE.block<B):cG W' aU aE:=by
 obtain⟨c1,t1,h1⟩:=hg.hu;obtain⟨c2,t2,h3⟩:=hg.he;exact⟨h.cell hg.u (.inl h2.1),h.cell hg.e (.inl h2.2.1),fun i hi=>h.cell (hg.l i hi) (.inl h2.2.2),⟨c1,t1,h _ _ _ _ (.inl hU) h1⟩,⟨c2,t2,h _ _ _ _ (.inl hE) h3⟩,hg.ne⟩
theorem sk (W:World)(s:ByteArray)(hs:s.size<=9223372036854775807):∃W2 cap cs z,(convert 9 22 (.string s)).run Tryz.prog W = .ok (.slice (some ⟨W.heap.size,0,none⟩) s.size cap) W2/\
  s.size<=cap/\W.grownBy W2 none/\W2.heap.size=W.heap.size+1/\W2.heap[W.heap.size]?=some (.cells cs 5 z)/\
  (∀X:World,X.heap[W.heap.size]?=some (.cells cs 5 z)->Bs X (.slice (some ⟨W.heap.size,0,none⟩) s.size cap) s.data.toList):=by
 refine⟨Lib.bytesWorld W 5 s,grownCap W s.size 0 5,Lib.bytesCells W 5 s,_,Lib.run_convert_string_bytes W 9 22 5 s Tryz.underlying9 Tryz.underlying22 Tryz.underlying5,grownCap_ge _ _ _ _, ?_,Lib.bytesWorld_size _ _ _,Lib.bytesWorld_at_new _ _ _, ?_⟩
 ·exact⟨rfl,rfl,rfl,by rw [Lib.bytesWorld_size];omega,fun k hk _=>Lib.bytesWorld_at_old _ _ _ _ hk⟩
 ·intro X hX
  have hl:s.data.toList.length=s.size:=by simp
  refine⟨by omega,_,_,by rw [hl],by rw [hl];exact grownCap_ge _ _ _ _,fun _=>⟨_,0,rfl,fun i hi=> ?_⟩⟩;rw [Nat.zero_add,World.cell?_of_block (w:=Lib.bytesWorld W 5 s) (hX.trans (Lib.bytesWorld_at_new W 5 s).symm)];exact Lib.bytesWorld_cell W 5 s i (by omega)
def Eg (xs:List UInt8)(J:List (Nat×Nat)->World->Prop)(G:World->Prop)(k:Nat)(wr:World):Prop:=
 ∃pre f,eV xs=pre++fL xs f k/\xs.length<f+k/\k<=xs.length/\J pre wr/\G wr
theorem Cc (n:Nat)(hn:1<=n)(l sb:Nat)(s:ByteArray)(B B2:Nat)(c5:s.size<=9223372036854775807)(aU aE:Addr)(J Jx:List (Nat×Nat)->World->Prop)
  (W:World) (hB:B2<=W.heap.size) (h2:6<B/\5<B/\8<B) (hU:aU.block<B) (hE:aE.block<B) (hg:cG W aU aE)
  (hJ:AbidesFrom W.heap.size J) (d2:AbidesFrom W.heap.size Jx)
  (hY:∀pre (x:Nat×Nat) W1,J pre W1->pre.length< (eV s.data.toList).length->YieldAt Fence.wide (n - 1) Tryz.prog l #[.int .i64 (x.1:Int), .int .i32 (x.2:Int)] W1 fun e W'=>
   (e = .returned (.bool true)/\J (pre ++ [x]) W'/\fY B B2 W1 W')\/(e = .returned (.bool false)/\Jx (pre ++ [x]) W'))
  (hs:W.cell? ⟨sb,0,none⟩=some (.string s)) (h0:J [] W) :
  CallsIn Fence.wide n Tryz.prog 151 #[.func (.yield l) #[] #[], .pointer (some ⟨sb,0,none⟩)] W fun e W'=>(∃v,e = .returned v)/\
   ((∃ys,ys=eV s.data.toList/\J ys W')\/(∃pre,pre <+:eV s.data.toList/\Jx pre W')):=by
 obtain⟨W2,cap,cs,z,b6,c7,b9,a9,a5,c0⟩:=sk W s c5;refine callsIn_of_wp Tryz.func151 rfl trivial ?_ rfl;simp only [Tryz.ntmps151,List.size_toArray,List.length_cons,List.length_nil,Nat.reduceAdd,Nat.reduceSub,Array.replicate_succ,Array.replicate_zero,List.push_toArray,List.append_toArray,List.nil_append,List.cons_append];have hl:s.data.toList.length=s.size:=by simp
 generalize s.data.toList=xs at *;have Hg:=Qa hg;have HJ:=Qa hJ;have HY:=Qa hY;have a4:=Qa b9;have c4:=Qa a9;have b1:=Qa a5;have c8:=Qa c0;have Hl:=Qa hl;have H0:=Qa h0;clear hg hJ hY b9 a9 a5 c0 hl h0;generalize hrb:W.heap.size=rb at *;have d3:=Qa hrb;clear hrb
 gi_wp2
 gi_loopw [4] (fun v wr=> ∃k:Nat,v = .int .i64 k/\Eg xs J (fun wr=>cG wr aU aE/\wr.heap[rb]?=some (.cells cs 5 z)) k wr) (fun v _=>s.size - (intOf v).toNat)
 case atStart=>
  refine⟨0,rfl, [],xs.length+1,rfl,by omega,Zj _, ?_, ?_,b1.out⟩
  ·exact HJ.out _ _ _ none H0.out a4.out (fun r e=>by cases e)
  ·exact Hg.out.below ⟨a4.out.os,a4.out.tape,a4.out.output,a4.out.size,fun k hk=>a4.out.block k hk (by simp)⟩
 case round=>
  obtain⟨k,rfl,pre,f,he,hf,hk,c1,hG,hR⟩:=hrel;have d4:k<=s.size:=by rw [<- Hl.out];exact hk
  have Hf:=Qa hf;have He:=Qa he;have HG:=Qa hG;have HR:=Qa hR;have a6:=Qa c1;have Hk:=Qa hk;clear hf he hG hR c1 hk;have a2:Bs wr (.slice (some ⟨rb,0,none⟩) xs.length cap) xs:=by rw [Hl.out];exact c8.out wr HR.out
  have hle:=gg xs k Hk.out;have a3:=(mH (xs.drop k)).2;have hcut:∀A c',cap=k\/(A=some ⟨rb,k,none⟩/\c'=cap - k)->Calls Tryz.prog 103 #[.slice A (s.size - k) c'] wr fun e w'=>fU (ce aU) (ce aE) wr (bE (xs.drop k)) e w':=by
   intro A c' h;refine iu ?_ HG.out;rcases h with d1 | ⟨rfl,rfl⟩
   ·have h0:s.size - k=0:=by omega
    have:xs.drop k = []:=List.drop_eq_nil_of_le (by rw [Hl.out];omega);rw [this,h0];exact⟨by simp,_,_,rfl,Zj _,fun h=>by simp at h⟩
   ·have:=a2.cut Hk.out
    rwa [Hl.out,Nat.zero_add] at this
  have b0:=Qa hcut;clear hcut a2;have a7:∀e: (bE (xs.drop k)).2.2≠0,eV xs=pre:=fun e=>by rw [He.out,wK e,List.append_nil]
  have c3:∀e: (bE (xs.drop k)).2.2=0,1<=(bE (xs.drop k)).2.1/\∃f',xs.length<f'+ (k+ (bE (xs.drop k)).2.1)/\eV xs=pre++ (k,(bE (xs.drop k)).1)::fL xs f' (k+ (bE (xs.drop k)).2.1):=fun e=>by
   have hp:=eE e;have h1:=Hf.out;have h2:=Hk.out;obtain⟨f',rfl⟩:∃f',f=f'+1:=⟨f - 1,by omega⟩;exact⟨hp,f',by omega,by rw [He.out,wR e]⟩
  have a1:=Qa a7;have b4:=Qa c3;clear a7 c3;generalize bE (xs.drop k)=r at *;obtain⟨r1,r2,r3⟩:=r;have b3:k+r2<=s.size:=by rw [<- Hl.out];exact hle
  clear hle;have a0:r3=0\/r3=1\/r3=2:=by have:r3<=2:=a3;omega
  clear a3;have hp:pre.length< (eV xs).length\/r3≠0:=by
   by_cases h:r3=0
   ·obtain⟨_,f',_,h'⟩:=b4.out h
    left;rw [h'];simp
   ·exact .inr h
  have Hp:=Qa hp;clear hp
  gi_wp2_with fail
  all_goals
   refine⟨trivial, ?_⟩;refine(callsIn_wide.2 (b0.out _ _ (by first | exact .inl (by assumption) | exact .inr ⟨rfl,rfl⟩))).mono ?_;rintro e w' ⟨rfl,m,rfl⟩
  ·rcases a0 with rfl | rfl | rfl
   ·exfalso;have:=(b4.out rfl).1;omega
   ·rw [xe]
    gi_wp2
    refine⟨fun _ h=>(by cases h), ?_⟩
    gi_wp2
    refine Zg (results_none rfl _ _ _) rfl ?_;exact⟨⟨_,rfl⟩, .inl ⟨_,rfl,by rw [a1.out (by simp)];exact HJ.out _ _ _ none a6.out ⟨rfl,rfl,rfl,Za _,fun _ _ _=>rfl⟩ (fun r e=>by cases e)⟩⟩
   ·rw [uO]
    gi_wp2
    refine⟨fun _ h=>(by cases h), ?_⟩
    gi_wp2
    refine Zg (results_none rfl _ _ _) rfl ?_;exact⟨⟨_,rfl⟩, .inl ⟨_,rfl,by rw [a1.out (by simp)];exact HJ.out _ _ _ none a6.out ⟨rfl,rfl,rfl,Za _,fun _ _ _=>rfl⟩ (fun r e=>by cases e)⟩⟩
  ·rcases a0 with rfl | rfl | rfl
   ·rw [Cf]
    obtain⟨d5,f',c2,b8⟩:=b4.out rfl;have c6:=Qa c2;have b5:=Qa b8;clear c2 b8;obtain⟨fn,tmps,assign,body,hy,c9⟩:=HY.out pre (k,r1) (wr.drewN m) (HJ.out _ _ _ none a6.out ⟨rfl,rfl,rfl,Za _,fun _ _ _=>rfl⟩ (fun r e=>by cases e)) (Hp.out.resolve_right (fun h=>h rfl))
    dsimp only at hy
    gi_wp2
    refine c9.mono ?_;rintro e W3 (⟨rfl,d0,b7⟩ | ⟨rfl,b2⟩)
    ·gi_wp2
     exact⟨⟨k+r2,by go_num,pre ++ [(k,r1)],f',by rw [b5.out,List.append_cons],c6.out,by rw [Hl.out];exact b3,d0,b7.glob (HG.out.drewN m) h2 hU hE,b7 rb cs 5 z (.inr hB) HR.out⟩,by simp [intOf];omega⟩
    ·gi_wp2
     refine Zg (results_none rfl _ _ _) rfl ?_;exact⟨⟨_,rfl⟩, .inr ⟨_,⟨fL xs f' (k+r2),by rw [b5.out];simp⟩,b2⟩⟩
   ·rw [xe]
    gi_wp2
    refine⟨fun _ h=>(by cases h), ?_⟩
    gi_wp2
    refine Zg (results_none rfl _ _ _) rfl ?_;exact⟨⟨_,rfl⟩, .inl ⟨_,rfl,by rw [a1.out (by simp)];exact HJ.out _ _ _ none a6.out ⟨rfl,rfl,rfl,Za _,fun _ _ _=>rfl⟩ (fun r e=>by cases e)⟩⟩
   ·rw [uO]
    gi_wp2
    refine⟨fun _ h=>(by cases h), ?_⟩
    gi_wp2
    refine Zg (results_none rfl _ _ _) rfl ?_;exact⟨⟨_,rfl⟩, .inl ⟨_,rfl,by rw [a1.out (by simp)];exact HJ.out _ _ _ none a6.out ⟨rfl,rfl,rfl,Za _,fun _ _ _=>rfl⟩ (fun r e=>by cases e)⟩⟩
theorem fY.setCell (W:World){p:Addr}(h1:B<=p.block)(h2:p.block<B2)(v:Value):fY B B2 W (W.setCell p v):=fun k cs t z hk hc=>
 (Below.heap_setCell W p v k (by omega)).trans hc
theorem fY.alloc (W:World)(o:Obj):fY B B2 W (W.alloc o):=fY.of_below ((Zd _ _).alloc (Za _) _)
theorem m7 (h:Below W.heap.size W W'):KeepsOthers W W':=⟨h.size,fun k _ hk _=>(h.block k (ae hk)).trans hk⟩
theorem sM (n:Nat)(hn:1<=n)(sb:Nat)(s:ByteArray)(B B2:Nat)(a1:s.size<=9223372036854775807)(aU aE:Addr)
  (hB:B2<=w.heap.size) (h2:6<B/\5<B/\8<B) (hU:aU.block<B) (hE:aE.block<B) (hg:cG w aU aE) (hs:w.cell? ⟨sb,0,none⟩=some (.string s)) :
  SeqStopsK Fence.wide n Tryz.prog 151 #[.pointer (some ⟨sb,0,none⟩)] (fun x:Nat×Nat=> #[.int .i64 (x.1:Int), .int .i32 (x.2:Int)]) (fY B B2) (fun ys=>ys=eV s.data.toList) (fun ys=>ys <+:eV s.data.toList) (eV s.data.toList).length w:=
 fun l J Jx W hW hJ a0 hY h0=>Cc n hn l sb s B B2 a1 aU aE J Jx W (Zb hB hW.size) h2 hU hE (hg.below hW) hJ a0 hY (Zf hW hs) h0
theorem Ck (h:Bs w v xs) :
  Calls Tryz.prog 112 #[v] w fun e w'=>e = .returned (.func (.func 151) #[] #[.pointer (some ⟨w.heap.size,0,none⟩)])/\w.alloc (.cells #[.string ⟨xs.toArray⟩] 9)=w':=by
 have hc:=aF h;have H:=Qa h;clear h;go_enter Tryz.func112,Tryz.ntmps112;go_wp2;go_ret;exact⟨rfl,rfl⟩
def Ao (w:World)(pre:List (Nat×Nat))(W:World):Prop:=
 Bx W w.heap.size 3 (.int .i64 pre.length)/\Bx W (w.heap.size+1) 3 (.int .i64 (bL pre))/\Below w.heap.size w W
def xy (xs:List UInt8)(aU aE:Addr)(w:World)(e:Ending)(w':World):Prop:=
 Below w.heap.size w w'/\((xs.length<=bL (eV xs)/\e = .returned (.tuple #[.int .i64 (eV xs).length, .nilIface]))\/
  (bL (eV xs)<xs.length/\∃g:Nat,e = .returned (.tuple #[.int .i64 0, .iface 235 (.pointer (some ⟨g,0,none⟩))])/\
   w'.heap[g]?=some (.cells #[.int .i64 (bL (eV xs)),mI (ce aU) (ce aE) (bE (xs.drop (bL (eV xs)).toNat)).2.2] 237 (0,0))/\w.heap.size<=g))
theorem AG (v:Value)(xs:List UInt8)(w:World)(aU aE:Addr)(hb:Bs w v xs)(hg:cG w aU aE)(c7:xs.length<=9223372036854775807) :
  CallsIn Fence.wide 9 Tryz.prog 86 #[v] w (xy xs aU aE w):=by
 have h2:6<w.heap.size/\5<w.heap.size/\8<w.heap.size:=⟨World.block_lt_of_cell? w _ hg.u,World.block_lt_of_cell? w _ hg.e,World.block_lt_of_cell? w _ (hg.l 0 (by omega))⟩;obtain⟨cU,tU,hU⟩:=hg.hu;obtain⟨cE,tE,hE⟩:=hg.he;have hU:=ae hU;have hE:=ae hE;obtain⟨hm,A,cap,rfl,d6,_⟩:=id hb;have Hb:=Qa hb;have Hg:=Qa hg;clear hb hg;refine callsIn_of_wp_marks Tryz.func86 rfl trivial ?_ rfl;simp only [Tryz.ntmps86,List.size_toArray,List.length_cons,List.length_nil,Nat.reduceAdd,Nat.reduceSub,Array.replicate_succ,Array.replicate_zero,List.push_toArray,List.append_toArray,List.nil_append,List.cons_append];have b3:Below w.heap.size w ((w.alloc (.cells #[.int .i64 0] 3)).alloc (.cells #[.int .i64 0] 3)):=((Zd _ _).alloc (Za _) _).alloc (by simp) _;have b0:=Qa (Hb.out.below b3);have c0:=Qa (Hg.out.below b3);have Hk:=Qa ((Bx.new w 3 (.int .i64 0)).alloc (.cells #[.int .i64 0] 3));have Ha:=Qa (Bx.new (w.alloc (.cells #[.int .i64 0] 3)) 3 (.int .i64 0));have b2:=Qa b3;clear b3
 gi_wp2_with fail
 refine⟨trivial, ?_⟩;refine(callsIn_wide.2 (Ck b0.out)).mono ?_;rintro e w' ⟨rfl,rfl⟩
 gi_wp2
 obtain⟨W0,b4⟩:∃W0,((w.alloc (.cells #[.int .i64 0] 3)).alloc (.cells #[.int .i64 0] 3))=W0:=⟨_,rfl⟩;have a0:W0.heap.size=w.heap.size+2:=by rw [<- b4];simp
 rw [b4] at b0 c0 Hk Ha b2;obtain⟨W1,a7⟩:∃W1,W0.alloc (.cells #[.string ⟨xs.toArray⟩] 9)=W1:=⟨_,rfl⟩;have a5:Below W0.heap.size W0 W1:=by rw [<- a7];exact(Zd _ _).alloc (Za _) _
 have c6:W1.cell? ⟨w.heap.size+2,0,none⟩=some (.string ⟨xs.toArray⟩):=by
  have h:=(Bx.new W0 9 (.string ⟨xs.toArray⟩)).cell;rw [a0] at h;rw [<- a7];exact h
 have a6:W1.heap.size=w.heap.size+3:=by rw [<- a7];simp [a0]
 rw [b4,a7];rw [show(w.alloc (.cells #[.int .i64 0] 3)).heap.size=w.heap.size+1 by simp] at Ha;clear b4 a7;have e6:=Qa (b0.out.below a5);have c1:=Qa (c0.out.below a5);have c8:Ao w [] W1:=⟨Hk.out.later a5,Ha.out.later a5,b2.out.trans (a5.mono b2.out.size)⟩;have b8:=Qa a0;have a2:=Qa a6;have e0:=Qa c6;have d3:=Qa c8;clear a0 b8 a6 c6 c8 b0 c0 Hk Ha b2 a5 W0;refine wpIn_rangeFunc_ownF rfl (by omega) (gf:=151) (lb:= #[.pointer (some ⟨w.heap.size+2,0,none⟩)]) (by simp [Act.eval]) trivial (enters_of Tryz.func151 (by kernel_rfl) rfl)
  (sM (w:=W1) (9 - 1) (by omega) (w.heap.size+2) ⟨xs.toArray⟩ w.heap.size (w.heap.size+2) (by simpa [ByteArray.size] using c7) aU aE (by rw [a2.out];omega) h2 hU hE c1.out e0.out)
  (fun h k=>h.t k) (fun W l o o' _ h ho _=>fY.b W l o o' h ho) (Zd _ _) (fun _=>rfl)
  (Ao w) (fun _ _ _=>False) ?hI ?hIx d3.out
  (fun x=>{tmps:= #[.slice A xs.length cap,undef, .int .i64 0, .nilIface, .pointer (some ⟨w.heap.size,0,none⟩), .pointer (some ⟨w.heap.size+1,0,none⟩), .int .i64 (x.1:Int), .int .i32 (x.2:Int),undef,undef,undef,undef,undef, .slice A xs.length cap, .func (.func 151) #[] #[.pointer (some ⟨w.heap.size+2,0,none⟩)], .int .i64 (x.1:Int), .int .i32 (x.2:Int),undef,undef,undef,undef,undef,undef,undef,undef,undef,undef,undef,undef,undef,undef,undef,undef,undef,undef,undef,undef,undef,undef,undef,undef,undef,undef,undef,undef],defers:= []}) ?assign ?body ?done ?stop
 case hI=>
  intro s A B row hs hg hr;exact⟨hs.1.kept hg (fun r e=>(hr r e).2),hs.2.1.kept hg (fun r e=>(hr r e).2),hs.2.2.grown hg hs.2.2.size (fun k e=>by have:=(hr k e).1;rw [a2.out] at this;omega)⟩
 case hIx=>exact fun _ _ _ _ _ hs _ _=>hs
 case assign=>
  intro l x W K hK
  gi_wp2
  exact hK
 case body=>
  rintro l pre x W ⟨hk,ha,hB⟩ hN;have c5:=hk.cell;have d0:=hk.frozen;have hlen: (pre.length:Int)+1<=9223372036854775807:=by have:=BU xs;simp at hN;omega
  gi_wp2_with fail
  refine⟨trivial, ?_⟩;refine(CallsIn.inRound l (callsIn_wide.2 (Bt x.2 _))).mono ?_;rintro e W2 ⟨rfl,a4⟩;rw [show mi x.2 = .agg #[.int .u8 (am (bF x.2) 0), .int .u8 (am (bF x.2) 1), .int .u8 (am (bF x.2) 2), .int .u8 (am (bF x.2) 3)] from rfl];have c4:=jL pre x;generalize (bF (x.2:Int)).length=q at *;have e4:=Qa c4;clear c4;generalize am (bF x.2) 0=g0;generalize am (bF x.2) 1=g1;generalize am (bF x.2) 2=g2;generalize am (bF x.2) 3=g3;have b6:=hk.later a4;have a9:=ha.later a4;have e8:=(b6.alloc (.cells #[.int .u8 g0, .int .u8 g1, .int .u8 g2, .int .u8 g3] 249)).cell;have e5:=(b6.alloc (.cells #[.int .u8 g0, .int .u8 g1, .int .u8 g2, .int .u8 g3] 249)).frozen;have d1:=(a9.alloc (.cells #[.int .u8 g0, .int .u8 g1, .int .u8 g2, .int .u8 g3] 249)).cell;have d9:=(a9.alloc (.cells #[.int .u8 g0, .int .u8 g1, .int .u8 g2, .int .u8 g3] 249)).frozen;have f0:w.heap.size+1<W2.heap.size:=a9.lt;clear c5 d0
  gi_wp2
  refine⟨(m7 a4).trans ((KeepsOthers.alloc _ _).trans ((KeepsOthers.setCell _ _ _).trans (KeepsOthers.setCell _ _ _))),
   (fY.of_below a4).t ((fY.alloc _ _).t ((fY.setCell _ (p:=⟨w.heap.size,0,none⟩) (Za _) (by simp) _).t (fY.setCell _ (p:=⟨w.heap.size+1,0,none⟩) (by simp) (by simp) _))), ?_, ?_, ?_⟩
  ·have h:=(((b6.alloc (.cells #[.int .u8 g0, .int .u8 g1, .int .u8 g2, .int .u8 g3] 249)).set (.int .i64 ((pre.length:Int)+1))).far (p:=⟨w.heap.size+1,0,none⟩) (by simp) (.int .i64 (wrap64 ((x.1:Int)+q))))
   rw [List.length_append];exact h
  ·have h:=(((a9.alloc (.cells #[.int .u8 g0, .int .u8 g1, .int .u8 g2, .int .u8 g3] 249)).far (p:=⟨w.heap.size,0,none⟩) (by simp) (.int .i64 ((pre.length:Int)+1))).set (.int .i64 (wrap64 ((x.1:Int)+q))))
   rw [e4.out];exact h
  ·exact(((hB.trans (a4.mono hB.size)).alloc (Zb hB.size a4.size) _).setCell (p:=⟨w.heap.size,0,none⟩) (Za _) _).setCell (p:=⟨w.heap.size+1,0,none⟩) (by simp) _
 case done=>
  rintro D ys W hD rfl ⟨hk,ha,hB⟩ hK;have c5:=hk.cell;have d2:=ha.cell;have b7:D<W.heap.size:=ae hK;have b1:w.heap.size<=D:=by rw [a2.out] at hD;omega
  by_cases hlt:bL (eV xs)<xs.length
  ·obtain⟨p,hp⟩:∃p:Nat,bL (eV xs)=p:=⟨(bL (eV xs)).toNat,by have:=jH xs c7;omega⟩
   have Hp:=Qa hp;rw [hp] at hlt d2;clear hp;have d5:p<xs.length:=by omega
   have c2:=Hb.out.below hB;obtain⟨_,A',c',e',_,c9⟩:=id c2;injection e' with e1 e2 e3
   subst e1 e3;obtain⟨b,o,rfl,_⟩:=c9 (by omega);have b5:=Qa (c2.cut (Zi d5));have d4:=Qa (Hg.out.below hB);have f1:¬cap=p:=by omega
   clear c9 c2
   gi_wp2_with fail
   refine⟨trivial, ?_⟩;refine(callsIn_wide.2 (iu b5.out d4.out)).mono ?_;have a3:=Qa (show mI (ce aU) (ce aE) (bE (xs.drop (bL (eV xs)).toNat)).2.2=mI (ce aU) (ce aE) (bE (xs.drop p)).2.2 from by rw [Hp.out];rfl);have c3:=(mH (xs.drop p)).2;generalize bE (xs.drop p)=r at *;obtain⟨r1,r2,r3⟩:=r;have b9:r3=0\/r3=1\/r3=2:=by have:r3<=2:=c3;omega
   clear c3;rintro e w' ⟨rfl,m,rfl⟩;rcases b9 with rfl | rfl | rfl
   ·rw [Cf]
    gi_wp2
    gi_region
    all_goals gi_wp2
    have a1: ((W.alloc (.cells #[.int .i64 p, .nilIface] 237)).drewN (m+1)).heap[D]?=some (.deferred (some [])):=(Below.heap_alloc W _ D b7).trans hK;refine⟨by simp, .inl ⟨_,_,rfl,run_takeDeferred a1, ?_⟩⟩;refine⟨_,results_tmp2 rfl _ _ _, ?_, .inr ⟨by rw [Hp.out];omega,W.heap.size,rfl, ?_,hB.size⟩⟩
    ·exact(aD (hB.alloc hB.size _) (m+1)).trans (belowK_b (w:=w) (Za _) _ D _ _ b1 a1 rfl rfl)
    ·rw [Hp.out] at a3 ⊢
     rw [World.putObj_heap_other (by omega),a3.out];exact Ze W _
   ·rw [xe]
    gi_wp2
    gi_region
    all_goals gi_wp2
    have a1: ((W.alloc (.cells #[.int .i64 p,ce aE] 237)).drewN (m+1)).heap[D]?=some (.deferred (some [])):=(Below.heap_alloc W _ D b7).trans hK;refine⟨by simp, .inl ⟨_,_,rfl,run_takeDeferred a1, ?_⟩⟩;refine⟨_,results_tmp2 rfl _ _ _, ?_, .inr ⟨by rw [Hp.out];omega,W.heap.size,rfl, ?_,hB.size⟩⟩
    ·exact(aD (hB.alloc hB.size _) (m+1)).trans (belowK_b (w:=w) (Za _) _ D _ _ b1 a1 rfl rfl)
    ·rw [Hp.out] at a3 ⊢
     rw [World.putObj_heap_other (by omega),a3.out];exact Ze W _
   ·rw [uO]
    gi_wp2
    gi_region
    all_goals gi_wp2
    have a1: ((W.alloc (.cells #[.int .i64 p,ce aU] 237)).drewN (m+1)).heap[D]?=some (.deferred (some [])):=(Below.heap_alloc W _ D b7).trans hK;refine⟨by simp, .inl ⟨_,_,rfl,run_takeDeferred a1, ?_⟩⟩;refine⟨_,results_tmp2 rfl _ _ _, ?_, .inr ⟨by rw [Hp.out];omega,W.heap.size,rfl, ?_,hB.size⟩⟩
    ·exact(aD (hB.alloc hB.size _) (m+1)).trans (belowK_b (w:=w) (Za _) _ D _ _ b1 a1 rfl rfl)
    ·rw [Hp.out] at a3 ⊢
     rw [World.putObj_heap_other (by omega),a3.out];exact Ze W _
  ·gi_wp2
   refine⟨by simp, .inl ⟨_,_,rfl,run_takeDeferred hK, ?_⟩⟩;refine⟨_,results_tmp2 rfl _ _ _,hB.trans (belowK_b (w:=w) (Za _) W D _ _ b1 hK rfl rfl), .inl ⟨by omega,rfl⟩⟩
 case stop=>
  rintro D c pre W hD _ h _;exact h.elim
theorem zj (hb:Bs w v xs)(hg:cG w aU aE) :
  Calls Tryz.prog 86 #[v] w (xy xs aU aE w):=callsIn_wide.1 (AG v xs w aU aE hb hg hb.1)
def y6 (xs:List UInt8)(aU aE:Addr)(w:World)(e:Ending)(w':World):Prop:=
 Below w.heap.size w w'/\((xs.length<=bL (eV xs)/\e = .returned .nilIface)\/
  (bL (eV xs)<xs.length/\∃g:Nat,e = .returned (.iface 235 (.pointer (some ⟨g,0,none⟩)))/\
   w'.heap[g]?=some (.cells #[.int .i64 (bL (eV xs)),mI (ce aU) (ce aE) (bE (xs.drop (bL (eV xs)).toNat)).2.2] 237 (0,0))/\w.heap.size<=g))
theorem yT (hb:Bs w v xs)(hg:cG w aU aE) :
  Calls Tryz.prog 60 #[v] w (y6 xs aU aE w):=by
 have H:=Qa (zj hb hg);clear hb hg;go_enter Tryz.func60,Tryz.ntmps60;go_wp2_with fail;refine H.out.mono ?_;rintro e w' ⟨hb,⟨h1,rfl⟩ | ⟨h1,g,rfl,hg,hl⟩⟩
 ·have H1:=Qa h1
  clear h1;go_wp2;go_ret;exact⟨hb, .inl ⟨H1.out,rfl⟩⟩
 ·have H1:=Qa h1
  have Hg:=Qa hg;clear h1 hg;go_wp2;go_ret;exact⟨hb, .inr ⟨H1.out,g,rfl,Hg.out,hl⟩⟩
theorem zL: (Tryz.prog.info? 406).map (·.comparable)=some true:=by kernel_rfl
theorem Ce: (Tryz.prog.info? 408).map (fun i=>i.size)=some 1:=by kernel_rfl
theorem EZ:Tryz.prog.underlying 35=some (.interface (Tryz.prog.methodsAt 35)):=by kernel_rfl
theorem kZ (a:Addr)(W:World): (binOp .eql 35 (bH a) (bH a)).run Tryz.prog W = .ok (.bool true) W:=by
 obtain⟨i,hi,hc⟩:=Option.map_eq_some_iff.1 zL;obtain⟨j,hj,hs⟩:=Option.map_eq_some_iff.1 Ce;exact run_eql_iface_ptr_same W a Tryz.underlying35 Tryz.underlying406 hi hc hj
theorem kA (h:cG W aU aE): (binOp .eql 35 (bH aU) (bH aE)).run Tryz.prog W = .ok (.bool false) W:=by
 obtain⟨i,hi,hc⟩:=Option.map_eq_some_iff.1 zL;obtain⟨j,hj,hs⟩:=Option.map_eq_some_iff.1 Ce;obtain⟨c1,t1,h1⟩:=h.hu;obtain⟨c2,t2,h2⟩:=h.he;exact run_eql_iface_ptr_other W Tryz.underlying35 Tryz.underlying406 hi hc hj (by omega) h.ne h1 h2
theorem mc (a:Addr)(W:World): (binOp .eql 35 .nilIface (bH a)).run Tryz.prog W = .ok (.bool false) W:=run_eql_iface_nil_left W _ _ EZ
def G8:Option (Nat×Nat)->Value
 | none=> .tuple #[.int .i32 0, .int .i64 1, .bool false]
 | some p=> .tuple #[.int .i32 p.1, .int .i64 p.2, .bool true]
def IL (r:Option (Option (Nat×Nat)))(w:World)(e:Ending)(w':World):Prop:=(∃p,r=some p/\e = .returned (G8 p)/\Below w.heap.size w w')\/(r=none/\je w e w')
theorem uW {c:UInt8}{t:List UInt8}(a2:c.toNat≠34)(a1:c.toNat≠92)(a0:¬c.toNat<32):bO (c::t)=if(bE (c::t)).2.2=0 then some (some ((bE (c::t)).1,(bE (c::t)).2.1)) else none:=by
 simp only [bO];rw [if_neg (fun e=>a2 (by rw [e];rfl)),if_neg (fun e=>a1 (by rw [e];rfl)),if_neg a0]
theorem vu {c:UInt8}{t:List UInt8}(a2:c.toNat≠34)(a1:c.toNat≠92)(a0:c.toNat<32):bO (c::t)=none:=by
 simp only [bO];rw [if_neg (fun e=>a2 (by rw [e];rfl)),if_neg (fun e=>a1 (by rw [e];rfl)),if_pos a0]
theorem uX (h:sW w g v xs k)(hG:cG w aU aE)(hS:bu w 19)(hU:bu w 20)(hC:bu w 18)(hk:k<=1000000000)(hl:xs.length<=1000000000):Calls Tryz.prog 213 #[.pointer (some ⟨g,0,none⟩)] w fun e w'=>IL (bO (xs.drop k)) w e w':=by
 obtain⟨hg,hb⟩:=id h;obtain⟨hm,A,cap,rfl,b3,a1⟩:=id hb;have c0:=aa hg (j:=0) (u:= .slice A xs.length cap) rfl;have c1:=aa hg (j:=1) (u:= .int .i64 k) rfl;have hE:bu w 5:=⟨aE,hG.e⟩;have H:=Qa h;have HE:=Qa hE;have HG:=Qa hG;have b5:=Qa (rQ h hE hS hU hk);obtain⟨aC,b4⟩:=hC;rcases hc:xs[k]? with _ | c
 ·have Hn:=Qa (show bO (xs.drop k)=none by rw [List.drop_of_length_le (List.getElem?_eq_none_iff.1 hc)];rfl)
  have Hc:=Qa hc;clear hc h hE hG hS hU hg hb a1;go_enter Tryz.func213,Tryz.ntmps213;go_wp2_with fail;(with_reducible refine(i7 H.out HE.out k Hc.out).mono ?_);rintro e w' ⟨vP,rfl,hv,hb⟩;have Hv:=Qa hv;have a9:=Qa hb;clear hv hb;go_wp2_with fail;exact⟨rfl, .inr ⟨Hn.out,vP,rfl,Hv.out,a9.out⟩⟩
 obtain⟨hlt,b0⟩:=List.getElem?_eq_some_iff.1 hc;have hd:xs.drop k=c::xs.drop (k+1):=by rw [List.drop_eq_getElem_cons hlt,b0]
 obtain⟨b,o,rfl, -⟩:=a1 (by omega);have a4:=Qa (show Bs w.drew (.slice (some ⟨b,o+k,none⟩) (xs.length - k) (cap - k)) (xs.drop k) from hb.cut (Zi hlt));have Hd:=Qa hd;have Hc:=Qa hc;clear hc b0 h hE hS hU hg hb a1;have hx:=c.toNat_lt
 by_cases h34:c.toNat=34
 ·obtain rfl:c=34:=UInt8.toNat_inj.1 (by rw [h34];rfl)
  rw [hd];clear hd h34 hG;go_enter Tryz.func213,Tryz.ntmps213;go_wp2_with fail;(with_reducible refine(aZ H.out HE.out k Hc.out).mono ?_);rintro e w' ⟨rfl,rfl⟩;rw [show(34:UInt8).toNat=34 from rfl];go_wp2_with fail;go_ret3;exact .inl ⟨none,rfl,rfl,Zd _ _⟩
 have n34: ((c.toNat:Int)==34)=false:=by simp only [beq_eq_false_iff_ne];omega
 by_cases h92:c.toNat=92
 ·obtain rfl:c=92:=UInt8.toNat_inj.1 (by rw [h92];rfl)
  have Hp:=Qa (show bO (xs.drop k)= (r8 (xs.drop (k+1))).map some by rw [hd];rfl);clear hd h92 h34 n34 hG;go_enter Tryz.func213,Tryz.ntmps213;go_wp2_with fail;(with_reducible refine(aZ H.out HE.out k Hc.out).mono ?_);rintro e w' ⟨rfl,rfl⟩;rw [show(92:UInt8).toNat=92 from rfl];go_wp2_with fail;(with_reducible refine b5.out.mono ?_);rintro e w' (⟨p,hp,rfl,hb⟩ | ⟨hn,vP,rfl,hv,hb⟩)
  ·have Hr:=Qa (show bO (xs.drop k)=some (some p) by rw [Hp.out,hp];rfl)
   have Hb:=Qa hb;obtain⟨p1,p2⟩:=p;clear hp hb
   dsimp only
   go_wp2_with fail;go_ret3;exact .inl ⟨some (p1,p2),Hr.out,rfl,Hb.out⟩
  ·have Hn:=Qa (show bO (xs.drop k)=none by rw [Hp.out,hn];try rfl)
   have Hv:=Qa hv;have a9:=Qa hb;clear hn hv hb;go_wp2_with fail;exact⟨rfl, .inr ⟨Hn.out,vP,rfl,Hv.out,a9.out⟩⟩
 have n92: ((c.toNat:Int)==92)=false:=by simp only [beq_eq_false_iff_ne];omega
 by_cases h32:c.toNat<32
 ·have a5: (c.toNat:Int)<32:=by omega
  have Hn:=Qa (show bO (xs.drop k)=none by rw [hd];exact vu h34 h92 h32);clear hd h34 h92 h32 hG;go_enter Tryz.func213,Tryz.ntmps213;go_wp2_with fail;(with_reducible refine(aZ H.out HE.out k Hc.out).mono ?_);rintro e w' ⟨rfl,rfl⟩;go_wp2_with fail;refine wp_region_held_drew (S:=fun w'=>w'.cell? ⟨g,1,none⟩=some (.int .i64 k)/\w'.cell? ⟨18,0,none⟩=some (bH aC)) (by kernel_rfl) (⟨c1,b4⟩) (fun a0=> ?_);refine tH 0 a0 ?_;refine tH 1 a0 ?_;refine tH 2 a0 ?_;refine tH 3 a0 ?_;refine tH 4 a0 ?_
  try simp only [Act.put,jP,jQ,jR]
  refine rH 5 fun K hK=> ?_
  go_simp;refine(br _ aC _).mono ?_;rintro e w' hf;obtain⟨vP,rfl,hv,hb⟩:=hf.low (show Below w.heap.size w w.drew from(Zd _ _).drew);exact⟨rfl, .inr ⟨Hn.out,vP,rfl,hv,hb⟩⟩
 have a5:¬ (c.toNat:Int)<32:=by omega
 have Hr:=Qa (show bO (xs.drop k)=if(bE (xs.drop k)).2.2=0 then some (some ((bE (xs.drop k)).1,(bE (xs.drop k)).2.1)) else none by rw [hd];exact uW h34 h92 h32);have b6: (k:Int)<=xs.length:=by omega
 clear hd h34 h92 h32;have b1:=(mH (xs.drop k)).2;have a2:pU (ce aU) (ce aE) (bE (xs.drop k)) = .tuple #[.int .i32 (bE (xs.drop k)).1, .int .i64 (bE (xs.drop k)).2.1,mI (ce aU) (ce aE) (bE (xs.drop k)).2.2]:=rfl;rcases hr:bE (xs.drop k) with ⟨ca,cl,cc⟩
 rw [hr] at b1 a2
 dsimp only at b1 a2
 obtain⟨ve,a7⟩:∃ve,mI (ce aU) (ce aE) cc=ve:=⟨_,rfl⟩;rw [a7] at a2;have a3:=Qa (show bO (xs.drop k)=if cc=0 then some (some (ca,cl)) else none by rw [Hr.out,hr]);have b7:=Qa (show pU (ce aU) (ce aE) (bE (xs.drop k))=_ from hr▸a2);have a6:=Qa a7;clear hr a2 a7 Hr;go_enter Tryz.func213,Tryz.ntmps213;go_wp2_with fail;(with_reducible refine(aZ H.out HE.out k Hc.out).mono ?_);rintro e w' ⟨rfl,rfl⟩;go_wp2_with fail;refine aW (fun w'=>w'.cell? ⟨g,0,none⟩=some (.slice (some ⟨b,o,none⟩) xs.length cap)/\w'.cell? ⟨g,1,none⟩=some (.int .i64 k)) (⟨c0,c1⟩) fun a0=> ?_
 refine tH 0 a0 ?_;refine tH 1 a0 ?_;refine tH 2 a0 ?_;refine tH 3 a0 ?_;refine tH 4 a0 ?_;refine tH 5 a0 ?_
 try simp only [Act.put,jP,jQ,jR]
 refine tH 6 a0 ?_;refine tH 7 a0 ?_;refine tH 8 a0 ?_
 try simp only [Act.put,jP,jQ,jR]
 refine rH 9 fun K hK=> ?_
 go_simp;(try rw [if_neg (show ¬cap=k by omega)]);(with_reducible refine(iu a4.out (HG.out.below ((Zd w.heap.size w).drew))).mono ?_);rintro e w' ⟨rfl,m,rfl⟩;rw [b7.out];refine hK.out _ _ (a0) (fun a0=> ?_);clear hK K
 try simp only [Act.put,jP,jQ,jR]
 refine tH 10 a0 ?_;refine tH 11 a0 ?_;refine tH 12 a0 ?_;refine tH 13 a0 ?_;refine tH 14 a0 ?_;refine tH 15 a0 ?_
 try simp only [Act.put,jP,jQ,jR]
 refine tH 16 a0 ?_
 try simp only [Act.put,jP,jQ,jR]
 refine wpAnyH_done (by kernel_rfl) (NoPanic.normal ?_) _;have Hb:=Qa (show Below w.heap.size w (w.drew.drewN m) from aD ((Zd _ _).drew) m);have b2:=Qa (show cG (w.drew.drewN m) aU aE from(HG.out.below ((Zd w.heap.size w).drew)).drewN m);have c0': (w.drew.drewN m).cell? ⟨g,0,none⟩=some (.slice (some ⟨b,o,none⟩) xs.length cap):=c0;have c1': (w.drew.drewN m).cell? ⟨g,1,none⟩=some (.int .i64 k):=c1;have cE: (w.drew.drewN m).cell? ⟨5,0,none⟩=some (bH aE):=b2.out.e;generalize w.drew.drewN m=w1 at *;clear c0 c1;rcases(by omega:cc=0\/cc=1\/cc=2) with rfl | rfl | rfl
 ·obtain rfl: .nilIface=ve:=a6.out
  have q:=mc aE w1;go_wp2_with fail;go_ret3;exact .inl ⟨some (ca,cl),a3.out,rfl,Hb.out⟩
 ·obtain rfl:bH aE=ve:=a6.out
  have q:=kZ aE w1;go_wp2_with fail;refine(br _ aE _).mono ?_;rintro e w' hf;obtain⟨vP,rfl,hv,hb⟩:=hf.low Hb.out;exact⟨rfl, .inr ⟨a3.out,vP,rfl,hv,hb⟩⟩
 ·obtain rfl:bH aU=ve:=a6.out
  have q:=kA b2.out;go_wp2_with fail;refine(br _ aU _).mono ?_;rintro e w' hf;obtain⟨vP,rfl,hv,hb⟩:=hf.low Hb.out;exact⟨rfl, .inr ⟨a3.out,vP,rfl,hv,hb⟩⟩
