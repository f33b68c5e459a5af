import Derived.Test.YtibmppoeeppnoaaGreatDoorGZ4ba
import Derived.RangeFuncNested
import Derived.RangeFuncBound
import Derived.Shelf.RegionOpen
import Derived.OwnWalkIn
import Derived.LoopNIn
import Derived.LoopIn
import Derived.Test.YtibmppoeeppnoaaGreatDoorGZ4az
set_option linter.unusedVariables false
set_option linter.unusedSimpArgs false
set_option maxHeartbeats 64000000
set_option maxRecDepth 100000
namespace Go.Proofs.YtibmppoeeppnoaaGreatDoor
open Go.RowKit Go.Shelf
variable {aE aU:Addr}{xs:List UInt8}{B B2 g k:Nat}{v:Value}{W W' X w:World}
attribute [local go_sem] Oper.semAt_some
theorem CT (U E:Value)(a b:Nat):qD U E (a,b,0) =.tuple #[.int .i32 a,.int .i64 b,.nilIface]:=rfl
theorem vT (U E:Value)(a b:Nat):qD U E (a,b,1) =.tuple #[.int .i32 a,.int .i64 b,E]:=rfl
theorem wy (U E:Value)(a b:Nat):qD U E (a,b,2) =.tuple #[.int .i32 a,.int .i64 b,U]:=rfl
def yf (c:Int):Int:=bits .or .u8 128 (bits .and .i32 c 63 % 256)
theorem xD:∀n:Int,0<=n->n<2 ^ 31->IntKind.i32.wrap n=n:=by
 intro n h0 h1;have e:(2:Int) ^ 31=2147483648:=rfl;rw[e] at h1;rw[IntKind.wrap_i32];omega
theorem lw (c:Int)(h0:0<=c)(h1:c<2147483648):yf c=128+c % 64:=by
 unfold yf;rw[show bits .and .i32 c 63=c % 64 from bits_mask .i32 31 (by decide) xD 6 (by decide) c h0 (by simpa using h1)];rw[show c % 64 % 256=c % 64 by omega];exact u8_or128 (c % 64) (by omega) (by omega)
theorem IQ (c:Int)(h:0<=c/\c<128):bits .or .u8 0 c=c:=by
 have hd:∀x:Nat,x<128->bits .or .u8 0 (x:Int)=x:=by decide +kernel
 have:=hd c.toNat (by omega)
 rwa[show((c.toNat:Nat):Int)=c by omega] at this
def lk (a b c d:Int):Value:=.agg #[.int .u8 a,.int .u8 b,.int .u8 c,.int .u8 d]
def li (w:World)(v:Value)(n:Int)(e:Ending)(w':World):Prop:=e =.returned (.tuple #[v,.int .i64 n])/\Below w.heap.size w w'
theorem FS (c:Int)(w:World)(h:65536<=c/\c<=1114111) :
  Calls Tryz.prog 105 #[.int .i32 c] w fun e w'=>li w (lk (240+c/64/64/64) (yf (c/64/64)) (yf (c/64)) (yf c)) 4 e w':=by
 go_enter Tryz.func105,Tryz.ntmps105;go_wp2;exact Zg (by simp[results,Tryz.results105,go_sem];rfl) rfl ⟨rfl,((Zd _ _).alloc (Za _) _).alloc (by simp) _⟩
theorem Fu (c:Int)(w:World)(h:2048<=c/\c<65536)(h':¬ (55296<=c/\c<=57343)) :
  Calls Tryz.prog 105 #[.int .i32 c] w fun e w'=>li w (lk (224+c/64/64) (yf (c/64)) (yf c) 0) 3 e w':=by
 have a0:c<55296\/57343<c:=by omega
 clear h';go_enter Tryz.func105,Tryz.ntmps105;rcases a0 with a0|a0
 all_goals
  go_wp2;exact Zg (by simp[results,Tryz.results105,go_sem];rfl) rfl ⟨rfl,((Zd _ _).alloc (Za _) _).alloc (by simp) _⟩
theorem Ff (c:Int)(w:World)(h:128<=c/\c<2048) :
  Calls Tryz.prog 105 #[.int .i32 c] w fun e w'=>li w (lk (192+c/64) (yf c) 0 0) 2 e w':=by
 go_enter Tryz.func105,Tryz.ntmps105;go_wp2;exact Zg (by simp[results,Tryz.results105,go_sem];rfl) rfl ⟨rfl,((Zd _ _).alloc (Za _) _).alloc (by simp) _⟩
theorem Fg (c:Int)(w:World)(h:0<=c/\c<128) :
  Calls Tryz.prog 105 #[.int .i32 c] w fun e w'=>li w (lk (bits .or .u8 0 c) 0 0 0) 1 e w':=by
 go_enter Tryz.func105,Tryz.ntmps105;go_wp2;exact Zg (by simp[results,Tryz.results105,go_sem];rfl) rfl ⟨rfl,((Zd _ _).alloc (Za _) _).alloc (by simp) _⟩
theorem FX (c:Int)(w:World)(h:c<0\/1114111<c\/(55296<=c/\c<=57343)) :
  Calls Tryz.prog 105 #[.int .i32 c] w (li w (lk 0 0 0 0) 0):=by
 go_enter Tryz.func105,Tryz.ntmps105;rcases h with h|h|⟨h,h'⟩
 all_goals
  go_wp2;exact Zg (by simp[results,Tryz.results105,go_sem];rfl) rfl ⟨rfl,((Zd _ _).alloc (Za _) _).alloc (by simp) _⟩
theorem gW {a b c d a' b' c' d':Int}(h1:a=a')(h2:b=b')(h3:c=c')(h4:d=d'):lk a b c d=lk a' b' c' d':=by rw[h1,h2,h3,h4]
def mj (c:Int):Value:=lk (am (bD c) 0) (am (bD c) 1) (am (bD c) 2) (am (bD c) 3)
theorem CG (c:Int)(w:World):Calls Tryz.prog 105 #[.int .i32 c] w fun e w'=>li w (mj c) (bD c).length e w':=by
 by_cases hr:dF c=true
 ·have a0:=hr;simp only[dF,Bool.and_eq_true,decide_eq_true_eq,Bool.not_eq_true',Bool.and_eq_false_iff,decide_eq_false_iff_not] at a0
  by_cases h1:c<128
  ·have e:bD c = [UInt8.ofNat c.toNat]:=by rw[bD,if_pos hr,if_pos h1]
   have:mj c=lk (bits .or .u8 0 c) 0 0 0:=by
    rw[IQ c (by omega)];unfold mj;rw[e];exact gW (aF _ (by omega)) rfl rfl rfl
   rw[this,e];exact Fg c w (by omega)
  by_cases h2:c<2048
  ·have e:bD c = [UInt8.ofNat (192+c/64).toNat,UInt8.ofNat (128+c % 64).toNat]:=by rw[bD,if_pos hr,if_neg h1,if_pos h2]
   have:mj c=lk (192+c/64) (yf c) 0 0:=by
    unfold mj;rw[e];exact gW (aF _ (by omega)) ((aF _ (by omega)).trans (lw _ (by omega) (by omega)).symm) rfl rfl
   rw[this,e];exact Ff c w (by omega)
  by_cases h3:c<65536
  ·have e:bD c = [UInt8.ofNat (224+c/4096).toNat,UInt8.ofNat (128+c/64 % 64).toNat,UInt8.ofNat (128+c % 64).toNat]:=by rw[bD,if_pos hr,if_neg h1,if_neg h2,if_pos h3]
   have:mj c=lk (224+c/64/64) (yf (c/64)) (yf c) 0:=by
    unfold mj;rw[e];exact gW ((aF _ (by omega)).trans (by omega)) ((aF _ (by omega)).trans (lw _ (by omega) (by omega)).symm) ((aF _ (by omega)).trans (lw _ (by omega) (by omega)).symm) rfl
   rw[this,e];exact Fu c w (by omega) (by omega)
  ·have e:bD c = [UInt8.ofNat (240+c/262144).toNat,UInt8.ofNat (128+c/4096 % 64).toNat,UInt8.ofNat (128+c/64 % 64).toNat,UInt8.ofNat (128+c % 64).toNat]:=by rw[bD,if_pos hr,if_neg h1,if_neg h2,if_neg h3]
   have:mj c=lk (240+c/64/64/64) (yf (c/64/64)) (yf (c/64)) (yf c):=by
    unfold mj;rw[e];exact gW ((aF _ (by omega)).trans (by omega)) ((aF _ (by omega)).trans ((lw _ (by omega) (by omega)).trans (by omega)).symm) ((aF _ (by omega)).trans (lw _ (by omega) (by omega)).symm) ((aF _ (by omega)).trans (lw _ (by omega) (by omega)).symm)
   rw[this,e];exact FS c w (by omega)
 ·have e:bD c = []:=by rw[bD,if_neg hr]
  have:mj c=lk 0 0 0 0:=by unfold mj;rw[e];rfl
  have a0:¬dF c=true:=hr;simp only[dF,Bool.and_eq_true,decide_eq_true_eq,Bool.not_eq_true',Bool.and_eq_false_iff,decide_eq_false_iff_not] at a0;rw[this,e];exact FX c w (by omega)
def bH (pre:List (Nat×Nat)):Int:=match pre.getLast? with|none=>0|some x=>wrap64 ((x.1:Int)+ (bD x.2).length)
theorem jD (pre:List (Nat×Nat))(x:Nat×Nat):bH (pre ++ [x])=wrap64 ((x.1:Int)+ (bD x.2).length):=by simp[bH]
def rK (xs:List UInt8):Nat->Nat->Nat
 |0,k=>k
 |f+1,k=>if(bC (xs.drop k)).2.2=0 then rK xs f (k+ (bC (xs.drop k)).2.1) else k
def Dm (xs:List UInt8):Nat:=rK xs (xs.length+1) 0
theorem mh (xs:List UInt8)(hm:xs.length<=9223372036854775807):∀f k pre,k<=xs.length->bH pre=k->bH (pre++fG xs f k)=rK xs f k
 |0,k,pre,h,hp=>by simpa [fG,rK] using hp
 |f+1,k,pre,h,hp=>by
  unfold fG rK
  by_cases h0:(bC (xs.drop k)).2.2=0
  ·rw[if_pos h0,if_pos h0,List.append_cons];have hle:=fU xs k h;refine mh xs hm f _ _ hle ?_;rw[jD,(jd h0).1,List.length_take,List.length_drop];rw[show min (bC (xs.drop k)).2.1 (xs.length - k)= (bC (xs.drop k)).2.1 by omega];rw[IntWalk.wrap64_in _ ⟨by omega,by omega⟩];simp
  ·rw[if_neg h0,if_neg h0];simpa using hp
theorem jK (xs:List UInt8)(hm:xs.length<=9223372036854775807):bH (eR xs)=Dm xs:=by
 have:=mh xs hm (xs.length+1) 0 [] (Zj _) rfl;simpa [eR,Dm] using this
def fQ (B B2:Nat)(W W':World):Prop:= ∀k cs t z,(k<B\/B2<=k)->W.heap[k]?=some (.cells cs t z)->W'.heap[k]?=some (.cells cs t z)
theorem fQ.t {Y Z:World}(h:fQ B B2 X Y)(k:fQ B B2 Y Z):fQ B B2 X Z:=fun i cs t z hi hc=>k i cs t z hi (h i cs t z hi hc)
theorem fQ.b (W:World)(l:Nat)(o o':Obj)(h:W.heap[l]?=some o)(ho:o.isCells=false):fQ B B2 W (W.putObj l o'):=fun k cs t z _ hc=>by
 have:k≠l:=by rintro rfl;rw[h] at hc;cases hc;simp[Obj.isCells] at ho
 exact(World.putObj_heap_other this).trans hc
theorem fQ.drewN (W:World)(m:Nat):fQ B B2 W (W.drewN m):=fun _ _ _ _ _ h=>h
theorem fQ.of_below (h:Below W.heap.size W W'):fQ B B2 W W':=fun k cs t z _ hc=>(h.block k (ae hc)).trans hc
theorem rC {a:Addr}(h:w.cell? a=some v):∃cs t z,w.heap[a.block]?=some (.cells cs t z):=by
 unfold World.cell? at h
 cases hh:w.heap[a.block]? with
 |none=>rw[hh] at h;simp at h
 |some o=>
  rw[hh] at h
  cases o with
  |cells cs t z=>exact⟨cs,t,z,rfl⟩
  |_=>simp at h
theorem fQ.cell (h:fQ B B2 W W'){a:Addr}(hc:W.cell? a=some v)(hb:a.block<B\/B2<=a.block):W'.cell? a=some v:=by
 obtain⟨cs,t,z,hh⟩:=rC hc;rw[<-hc];exact World.cell?_of_block ((h _ cs t z hb hh).trans hh.symm)
theorem fQ.glob (h:fQ B B2 W W')(hg:co W aU aE)(h2:6<B/\5<B/\8<B)(hU:aU.block<B)(hE:aE.block<B):co W' aU aE:=by
 obtain⟨c1,t1,h1⟩:=hg.hu;obtain⟨c2,t2,h3⟩:=hg.he;exact⟨h.cell hg.u (.inl h2.1),h.cell hg.e (.inl h2.2.1),fun i hi=>h.cell (hg.l i hi) (.inl h2.2.2),⟨c1,t1,h _ _ _ _ (.inl hU) h1⟩,⟨c2,t2,h _ _ _ _ (.inl hE) h3⟩,hg.ne⟩
theorem su (W:World)(s:ByteArray)(hs:s.size<=9223372036854775807):∃W2 cap cs z,(convert 9 22 (.string s)).run Tryz.prog W =.ok (.slice (some ⟨W.heap.size,0,none⟩) s.size cap) W2/\
  s.size<=cap/\W.grownBy W2 none/\W2.heap.size=W.heap.size+1/\W2.heap[W.heap.size]?=some (.cells cs 5 z)/\
  (∀X:World,X.heap[W.heap.size]?=some (.cells cs 5 z)->Bs X (.slice (some ⟨W.heap.size,0,none⟩) s.size cap) s.data.toList):=by
 refine⟨Lib.bytesWorld W 5 s,grownCap W s.size 0 5,Lib.bytesCells W 5 s,_,Lib.run_convert_string_bytes W 9 22 5 s Tryz.underlying9 Tryz.underlying22 Tryz.underlying5,grownCap_ge _ _ _ _,?_,Lib.bytesWorld_size _ _ _,Lib.bytesWorld_at_new _ _ _,?_⟩
 ·exact⟨rfl,rfl,rfl,by rw[Lib.bytesWorld_size];omega,fun k hk _=>Lib.bytesWorld_at_old _ _ _ _ hk⟩
 ·intro X hX;have hl:s.data.toList.length=s.size:=by simp
  refine⟨by omega,_,_,by rw[hl],by rw[hl];exact grownCap_ge _ _ _ _,fun _=>⟨_,0,rfl,fun i hi=>?_⟩⟩;rw[Nat.zero_add,World.cell?_of_block (w:=Lib.bytesWorld W 5 s) (hX.trans (Lib.bytesWorld_at_new W 5 s).symm)];exact Lib.bytesWorld_cell W 5 s i (by omega)
def D2 (xs:List UInt8)(J:List (Nat×Nat)->World->Prop)(G:World->Prop)(k:Nat)(wr:World):Prop:=
 ∃pre f,eR xs=pre++fG xs f k/\xs.length<f+k/\k<=xs.length/\J pre wr/\G wr
theorem CE (n:Nat)(hn:1<=n)(l sb:Nat)(s:ByteArray)(B B2:Nat)(c6:s.size<=9223372036854775807)(aU aE:Addr)(J Jx:List (Nat×Nat)->World->Prop)
  (W:World) (hB:B2<=W.heap.size) (h2:6<B/\5<B/\8<B) (hU:aU.block<B) (hE:aE.block<B) (hg:co W aU aE)
  (hJ:AbidesFrom W.heap.size J) (d2:AbidesFrom W.heap.size Jx)
  (hY:∀pre (x:Nat×Nat) W1,J pre W1->pre.length< (eR s.data.toList).length->YieldAt Fence.wide (n - 1) Tryz.prog l #[.int .i64 (x.1:Int),.int .i32 (x.2:Int)] W1 fun e W'=>
   (e =.returned (.bool true)/\J (pre ++ [x]) W'/\fQ B B2 W1 W')\/(e =.returned (.bool false)/\Jx (pre ++ [x]) W'))
  (hs:W.cell? ⟨sb,0,none⟩=some (.string s)) (h0:J [] W) :
  CallsIn Fence.wide n Tryz.prog 142 #[.func (.yield l) #[] #[],.pointer (some ⟨sb,0,none⟩)] W fun e W'=>(∃v,e =.returned v)/\
   ((∃ys,ys=eR s.data.toList/\J ys W')\/(∃pre,pre <+:eR s.data.toList/\Jx pre W')):=by
 obtain⟨W2,cap,cs,z,b7,c8,b9,a7,a5,c1⟩:=su W s c6;refine callsIn_of_wp Tryz.func142 rfl trivial ?_ rfl;simp only[Tryz.ntmps142,List.size_toArray,List.length_cons,List.length_nil,Nat.reduceAdd,Nat.reduceSub,Array.replicate_succ,Array.replicate_zero,List.push_toArray,List.append_toArray,List.nil_append,List.cons_append];have hl:s.data.toList.length=s.size:=by simp
 generalize s.data.toList=xs at *;have Hg:=Qa hg;have HJ:=Qa hJ;have HY:=Qa hY;have a4:=Qa b9;have c5:=Qa a7;have b4:=Qa a5;have d0:=Qa c1;have Hl:=Qa hl;have H0:=Qa h0;clear hg hJ hY b9 a7 a5 c1 hl h0;generalize hrb:W.heap.size=rb at *;have d5:=Qa hrb;clear hrb
 gi_wp2
 gi_loopw [4] (fun v wr=> ∃k:Nat,v =.int .i64 k/\D2 xs J (fun wr=>co wr aU aE/\wr.heap[rb]?=some (.cells cs 5 z)) k wr) (fun v _=>s.size - (intOf v).toNat)
 case atStart=>
  refine⟨0,rfl, [],xs.length+1,rfl,by omega,Zj _,?_,?_,b4.out⟩
  ·exact HJ.out _ _ _ none H0.out a4.out (fun r e=>by cases e)
  ·exact Hg.out.below ⟨a4.out.os,a4.out.tape,a4.out.output,a4.out.size,fun k hk=>a4.out.block k hk (by simp)⟩
 case round=>
  obtain⟨k,rfl,pre,f,he,hf,hk,b5,hG,hR⟩:=hrel;have d1:k<=s.size:=by rw[<-Hl.out];exact hk
  have Hf:=Qa hf;have He:=Qa he;have HG:=Qa hG;have HR:=Qa hR;have a9:=Qa b5;have Hk:=Qa hk;clear hf he hG hR b5 hk;have a3:Bs wr (.slice (some ⟨rb,0,none⟩) xs.length cap) xs:=by rw[Hl.out];exact d0.out wr HR.out
  have hle:=fU xs k Hk.out;have a2:=(oo (xs.drop k)).2;have hcut:∀A c',cap=k\/(A=some ⟨rb,k,none⟩/\c'=cap - k)->Calls Tryz.prog 103 #[.slice A (s.size - k) c'] wr fun e w'=>fY (cj aU) (cj aE) wr (bC (xs.drop k)) e w':=by
   intro A c' h;refine gV ?_ HG.out;rcases h with d3|⟨rfl,rfl⟩
   ·have h0:s.size - k=0:=by omega
    have:xs.drop k = []:=List.drop_eq_nil_of_le (by rw[Hl.out];omega);rw[this,h0];exact⟨by simp,_,_,rfl,Zj _,fun h=>by simp at h⟩
   ·have:=a3.cut Hk.out
    rwa[Hl.out,Nat.zero_add] at this
  have b0:=Qa hcut;clear hcut a3;have a6:∀e:(bC (xs.drop k)).2.2≠0,eR xs=pre:=fun e=>by rw[He.out,wL e,List.append_nil]
  have b6:∀e:(bC (xs.drop k)).2.2=0,1<=(bC (xs.drop k)).2.1/\∃f',xs.length<f'+ (k+ (bC (xs.drop k)).2.1)/\eR xs=pre++ (k,(bC (xs.drop k)).1)::fG xs f' (k+ (bC (xs.drop k)).2.1):=fun e=>by
   have hp:=eB e;have h1:=Hf.out;have h2:=Hk.out;obtain⟨f',rfl⟩:∃f',f=f'+1:=⟨f - 1,by omega⟩;exact⟨hp,f',by omega,by rw[He.out,xm e]⟩
  have a1:=Qa a6;have b3:=Qa b6;clear a6 b6;generalize bC (xs.drop k)=r at *;obtain⟨r1,r2,r3⟩:=r;have b2:k+r2<=s.size:=by rw[<-Hl.out];exact hle
  clear hle;have a0:r3=0\/r3=1\/r3=2:=by have:r3<=2:=a2;omega
  clear a2;have hp:pre.length< (eR xs).length\/r3≠0:=by
   by_cases h:r3=0
   ·obtain⟨_,f',_,h'⟩:=b3.out h
    left;rw[h'];simp
   ·exact .inr h
  have Hp:=Qa hp;clear hp
  gi_wp2_with fail
  all_goals
   refine⟨trivial,?_⟩;refine(callsIn_wide.2 (b0.out _ _ (by first|exact .inl (by assumption)|exact .inr ⟨rfl,rfl⟩))).mono ?_;rintro e w' ⟨rfl,m,rfl⟩
  ·rcases a0 with rfl|rfl|rfl
   ·exfalso;have:=(b3.out rfl).1;omega
   ·rw[vT]
    gi_wp2
    refine⟨fun _ h=>(by cases h),?_⟩
    gi_wp2
    refine Zg (results_none rfl ..) rfl ?_;exact⟨⟨_,rfl⟩,.inl ⟨_,rfl,by rw[a1.out (by simp)];exact HJ.out _ _ _ none a9.out ⟨rfl,rfl,rfl,Za _,fun _ _ _=>rfl⟩ (fun r e=>by cases e)⟩⟩
   ·rw[wy]
    gi_wp2
    refine⟨fun _ h=>(by cases h),?_⟩
    gi_wp2
    refine Zg (results_none rfl ..) rfl ?_;exact⟨⟨_,rfl⟩,.inl ⟨_,rfl,by rw[a1.out (by simp)];exact HJ.out _ _ _ none a9.out ⟨rfl,rfl,rfl,Za _,fun _ _ _=>rfl⟩ (fun r e=>by cases e)⟩⟩
  ·rcases a0 with rfl|rfl|rfl
   ·rw[CT];obtain⟨d4,f',c0,c2⟩:=b3.out rfl;have c9:=Qa c0;have b8:=Qa c2;clear c0 c2;obtain⟨fn,tmps,assign,body,hy,c7⟩:=HY.out pre (k,r1) (wr.drewN m) (HJ.out _ _ _ none a9.out ⟨rfl,rfl,rfl,Za _,fun _ _ _=>rfl⟩ (fun r e=>by cases e)) (Hp.out.resolve_right (fun h=>h rfl))
    dsimp only at hy
    gi_wp2
    refine c7.mono ?_;rintro e W3 (⟨rfl,c4,c3⟩|⟨rfl,b1⟩)
    ·gi_wp2
     exact⟨⟨k+r2,by go_num,pre ++ [(k,r1)],f',by rw[b8.out,List.append_cons],c9.out,by rw[Hl.out];exact b2,c4,c3.glob (HG.out.drewN m) h2 hU hE,c3 rb cs 5 z (.inr hB) HR.out⟩,by simp[intOf];omega⟩
    ·gi_wp2
     refine Zg (results_none rfl ..) rfl ?_;exact⟨⟨_,rfl⟩,.inr ⟨_,⟨fG xs f' (k+r2),by rw[b8.out];simp⟩,b1⟩⟩
   ·rw[vT]
    gi_wp2
    refine⟨fun _ h=>(by cases h),?_⟩
    gi_wp2
    refine Zg (results_none rfl ..) rfl ?_;exact⟨⟨_,rfl⟩,.inl ⟨_,rfl,by rw[a1.out (by simp)];exact HJ.out _ _ _ none a9.out ⟨rfl,rfl,rfl,Za _,fun _ _ _=>rfl⟩ (fun r e=>by cases e)⟩⟩
   ·rw[wy]
    gi_wp2
    refine⟨fun _ h=>(by cases h),?_⟩
    gi_wp2
    refine Zg (results_none rfl ..) rfl ?_;exact⟨⟨_,rfl⟩,.inl ⟨_,rfl,by rw[a1.out (by simp)];exact HJ.out _ _ _ none a9.out ⟨rfl,rfl,rfl,Za _,fun _ _ _=>rfl⟩ (fun r e=>by cases e)⟩⟩
theorem fQ.setCell (W:World){p:Addr}(h1:B<=p.block)(h2:p.block<B2)(v:Value):fQ B B2 W (W.setCell p v):=fun k cs t z hk hc=>
 (Below.heap_setCell W p v k (by omega)).trans hc
theorem fQ.alloc (W:World)(o:Obj):fQ B B2 W (W.alloc o):=fQ.of_below ((Zd _ _).alloc (Za _) _)
theorem mP (h:Below W.heap.size W W'):KeepsOthers W W':=⟨h.size,fun k _ hk _=>(h.block k (ae hk)).trans hk⟩
theorem rM (n:Nat)(hn:1<=n)(sb:Nat)(s:ByteArray)(B B2:Nat)(a0:s.size<=9223372036854775807)(aU aE:Addr)
  (hB:B2<=w.heap.size) (h2:6<B/\5<B/\8<B) (hU:aU.block<B) (hE:aE.block<B) (hg:co w aU aE) (hs:w.cell? ⟨sb,0,none⟩=some (.string s)) :
  SeqStopsK Fence.wide n Tryz.prog 142 #[.pointer (some ⟨sb,0,none⟩)] (fun x:Nat×Nat=> #[.int .i64 (x.1:Int),.int .i32 (x.2:Int)]) (fQ B B2) (fun ys=>ys=eR s.data.toList) (fun ys=>ys <+:eR s.data.toList) (eR s.data.toList).length w:=
 fun l J Jx W hW hJ a1 hY h0=>CE n hn l sb s B B2 a0 aU aE J Jx W (Zb hB hW.size) h2 hU hE (hg.below hW) hJ a1 hY (Zf hW hs) h0
theorem Bp (h:Bs w v xs) :
  Calls Tryz.prog 104 #[v] w fun e w'=>e =.returned (.func (.func 142) #[] #[.pointer (some ⟨w.heap.size,0,none⟩)])/\w.alloc (.cells #[.string ⟨xs.toArray⟩] 9)=w':=by
 have hc:=aJ h;have H:=Qa h;clear h;go_enter Tryz.func104,Tryz.ntmps104;go_wp2;go_ret;exact⟨rfl,rfl⟩
def CW (w:World)(pre:List (Nat×Nat))(W:World):Prop:=
 Bx W w.heap.size 3 (.int .i64 pre.length)/\Bx W (w.heap.size+1) 3 (.int .i64 (bH pre))/\Below w.heap.size w W
def yH (xs:List UInt8)(aU aE:Addr)(w:World)(e:Ending)(w':World):Prop:=
 Below w.heap.size w w'/\((xs.length<=bH (eR xs)/\e =.returned (.tuple #[.int .i64 (eR xs).length,.nilIface]))\/
  (bH (eR xs)<xs.length/\∃g:Nat,e =.returned (.tuple #[.int .i64 0,.iface 224 (.pointer (some ⟨g,0,none⟩))])/\
   w'.heap[g]?=some (.cells #[.int .i64 (bH (eR xs)),nM (cj aU) (cj aE) (bC (xs.drop (bH (eR xs)).toNat)).2.2] 226 (0,0))/\w.heap.size<=g))
theorem Ck (v:Value)(xs:List UInt8)(w:World)(aU aE:Addr)(hb:Bs w v xs)(hg:co w aU aE)(c3:xs.length<=9223372036854775807) :
  CallsIn Fence.wide 9 Tryz.prog 78 #[v] w (yH xs aU aE w):=by
 have h2:6<w.heap.size/\5<w.heap.size/\8<w.heap.size:=⟨World.block_lt_of_cell? w _ hg.u,World.block_lt_of_cell? w _ hg.e,World.block_lt_of_cell? w _ (hg.l 0 (by omega))⟩;obtain⟨cU,tU,hU⟩:=hg.hu;obtain⟨cE,tE,hE⟩:=hg.he;have hU:=ae hU;have hE:=ae hE;obtain⟨hm,A,cap,rfl,d7,_⟩:=id hb;have Hb:=Qa hb;have Hg:=Qa hg;clear hb hg;refine callsIn_of_wp_marks Tryz.func78 rfl trivial ?_ rfl;simp only[Tryz.ntmps78,List.size_toArray,List.length_cons,List.length_nil,Nat.reduceAdd,Nat.reduceSub,Array.replicate_succ,Array.replicate_zero,List.push_toArray,List.append_toArray,List.nil_append,List.cons_append];have b0:Below w.heap.size w ((w.alloc (.cells #[.int .i64 0] 3)).alloc (.cells #[.int .i64 0] 3)):=((Zd _ _).alloc (Za _) _).alloc (by simp) _;have b2:=Qa (Hb.out.below b0);have c0:=Qa (Hg.out.below b0);have Hk:=Qa ((Bx.new w 3 (.int .i64 0)).alloc (.cells #[.int .i64 0] 3));have Ha:=Qa (Bx.new (w.alloc (.cells #[.int .i64 0] 3)) 3 (.int .i64 0));have a9:=Qa b0;clear b0
 gi_wp2_with fail
 refine⟨trivial,?_⟩;refine(callsIn_wide.2 (Bp b2.out)).mono ?_;rintro e w' ⟨rfl,rfl⟩
 gi_wp2
 obtain⟨W0,b3⟩:∃W0,((w.alloc (.cells #[.int .i64 0] 3)).alloc (.cells #[.int .i64 0] 3))=W0:=⟨_,rfl⟩;have a0:W0.heap.size=w.heap.size+2:=by rw[<-b3];simp
 rw[b3] at b2 c0 Hk Ha a9;obtain⟨W1,a7⟩:∃W1,W0.alloc (.cells #[.string ⟨xs.toArray⟩] 9)=W1:=⟨_,rfl⟩;have a4:Below W0.heap.size W0 W1:=by rw[<-a7];exact(Zd _ _).alloc (Za _) _
 have c7:W1.cell? ⟨w.heap.size+2,0,none⟩=some (.string ⟨xs.toArray⟩):=by
  have h:=(Bx.new W0 9 (.string ⟨xs.toArray⟩)).cell;rw[a0] at h;rw[<-a7];exact h
 have a6:W1.heap.size=w.heap.size+3:=by rw[<-a7];simp[a0]
 rw[b3,a7];rw[show(w.alloc (.cells #[.int .i64 0] 3)).heap.size=w.heap.size+1 by simp] at Ha;clear b3 a7;have d3:=Qa (b2.out.below a4);have c1:=Qa (c0.out.below a4);have c6:CW w [] W1:=⟨Hk.out.later a4,Ha.out.later a4,a9.out.trans (a4.mono a9.out.size)⟩;have c2:=Qa a0;have a2:=Qa a6;have d2:=Qa c7;have e5:=Qa c6;clear a0 c2 a6 c7 c6 b2 c0 Hk Ha a9 a4 W0;refine wpIn_rangeFunc_ownF rfl (by omega) (gf:=142) (lb:= #[.pointer (some ⟨w.heap.size+2,0,none⟩)]) (by simp[Act.eval]) trivial (enters_of Tryz.func142 (by kernel_rfl) rfl)
  (rM (w:=W1) (9 - 1) (by omega) (w.heap.size+2) ⟨xs.toArray⟩ w.heap.size (w.heap.size+2) (by simpa [ByteArray.size] using c3) aU aE (by rw[a2.out];omega) h2 hU hE c1.out d2.out)
  (fun h k=>h.t k) (fun W l o o' _ h ho _=>fQ.b W l o o' h ho) (Zd _ _) (fun _=>rfl)
  (CW w) (fun _ _ _=>False) ?hI ?hIx e5.out
  (fun x=>{tmps:= #[.slice A xs.length cap,undef,.int .i64 0,.nilIface,.pointer (some ⟨w.heap.size,0,none⟩),.pointer (some ⟨w.heap.size+1,0,none⟩),.int .i64 (x.1:Int),.int .i32 (x.2:Int),undef,undef,undef,undef,undef,.slice A xs.length cap,.func (.func 142) #[] #[.pointer (some ⟨w.heap.size+2,0,none⟩)],.int .i64 (x.1:Int),.int .i32 (x.2:Int),undef,undef,undef,undef,undef,undef,undef,undef,undef,undef,undef,undef,undef,undef,undef,undef,undef,undef,undef,undef,undef,undef,undef,undef,undef,undef,undef,undef],defers:= []}) ?assign ?body ?done ?stop
 case hI=>
  intro s A B row hs hg hr;exact⟨hs.1.kept hg (fun r e=>(hr r e).2),hs.2.1.kept hg (fun r e=>(hr r e).2),hs.2.2.grown hg hs.2.2.size (fun k e=>by have:=(hr k e).1;rw[a2.out] at this;omega)⟩
 case hIx=>exact fun _ _ _ _ _ hs _ _=>hs
 case assign=>
  intro l x W K hK
  gi_wp2
  exact hK
 case body=>
  rintro l pre x W ⟨hk,ha,hB⟩ hN;have c5:=hk.cell;have e0:=hk.frozen;have hlen:(pre.length:Int)+1<=9223372036854775807:=by have:=AP xs;simp at hN;omega
  gi_wp2_with fail
  refine⟨trivial,?_⟩;refine(CallsIn.inRound l (callsIn_wide.2 (CG x.2 _))).mono ?_;rintro e W2 ⟨rfl,a5⟩;rw[show mj x.2 =.agg #[.int .u8 (am (bD x.2) 0),.int .u8 (am (bD x.2) 1),.int .u8 (am (bD x.2) 2),.int .u8 (am (bD x.2) 3)] from rfl];have c8:=jD pre x;generalize (bD (x.2:Int)).length=q at *;have d9:=Qa c8;clear c8;generalize am (bD x.2) 0=g0;generalize am (bD x.2) 1=g1;generalize am (bD x.2) 2=g2;generalize am (bD x.2) 3=g3;have b6:=hk.later a5;have b1:=ha.later a5;have d5:=(b6.alloc (.cells #[.int .u8 g0,.int .u8 g1,.int .u8 g2,.int .u8 g3] 221)).cell;have d1:=(b6.alloc (.cells #[.int .u8 g0,.int .u8 g1,.int .u8 g2,.int .u8 g3] 221)).frozen;have d0:=(b1.alloc (.cells #[.int .u8 g0,.int .u8 g1,.int .u8 g2,.int .u8 g3] 221)).cell;have e4:=(b1.alloc (.cells #[.int .u8 g0,.int .u8 g1,.int .u8 g2,.int .u8 g3] 221)).frozen;have e7:w.heap.size+1<W2.heap.size:=b1.lt;clear c5 e0
  gi_wp2
  refine⟨(mP a5).trans ((KeepsOthers.alloc _ _).trans ((KeepsOthers.setCell _ _ _).trans (KeepsOthers.setCell ..))),
   (fQ.of_below a5).t ((fQ.alloc _ _).t ((fQ.setCell _ (p:=⟨w.heap.size,0,none⟩) (Za _) (by simp) _).t (fQ.setCell _ (p:=⟨w.heap.size+1,0,none⟩) (by simp) (by simp) _))),?_,?_,?_⟩
  ·have h:=(((b6.alloc (.cells #[.int .u8 g0,.int .u8 g1,.int .u8 g2,.int .u8 g3] 221)).set (.int .i64 ((pre.length:Int)+1))).far (p:=⟨w.heap.size+1,0,none⟩) (by simp) (.int .i64 (wrap64 ((x.1:Int)+q))));rw[List.length_append];exact h
  ·have h:=(((b1.alloc (.cells #[.int .u8 g0,.int .u8 g1,.int .u8 g2,.int .u8 g3] 221)).far (p:=⟨w.heap.size,0,none⟩) (by simp) (.int .i64 ((pre.length:Int)+1))).set (.int .i64 (wrap64 ((x.1:Int)+q))));rw[d9.out];exact h
  ·exact(((hB.trans (a5.mono hB.size)).alloc (Zb hB.size a5.size) _).setCell (p:=⟨w.heap.size,0,none⟩) (Za _) _).setCell (p:=⟨w.heap.size+1,0,none⟩) (by simp) _
 case done=>
  rintro D ys W hD rfl ⟨hk,ha,hB⟩ hK;have c5:=hk.cell;have e6:=ha.cell;have b7:D<W.heap.size:=ae hK;have b4:w.heap.size<=D:=by rw[a2.out] at hD;omega
  by_cases hlt:bH (eR xs)<xs.length
  ·obtain⟨p,hp⟩:∃p:Nat,bH (eR xs)=p:=⟨(bH (eR xs)).toNat,by have:=jK xs c3;omega⟩;have Hp:=Qa hp;rw[hp] at hlt e6;clear hp;have d6:p<xs.length:=by omega
   have b9:=Hb.out.below hB;obtain⟨_,A',c',e',_,c9⟩:=id b9;injection e' with e1 e2 e3
   subst e1 e3;obtain⟨b,o,rfl,_⟩:=c9 (by omega);have b5:=Qa (b9.cut (Zi d6));have d4:=Qa (Hg.out.below hB);have e8:¬cap=p:=by omega
   clear c9 b9
   gi_wp2_with fail
   refine⟨trivial,?_⟩;refine(callsIn_wide.2 (gV b5.out d4.out)).mono ?_;have a3:=Qa (show nM (cj aU) (cj aE) (bC (xs.drop (bH (eR xs)).toNat)).2.2=nM (cj aU) (cj aE) (bC (xs.drop p)).2.2 from by rw[Hp.out];rfl);have c4:=(oo (xs.drop p)).2;generalize bC (xs.drop p)=r at *;obtain⟨r1,r2,r3⟩:=r;have b8:r3=0\/r3=1\/r3=2:=by have:r3<=2:=c4;omega
   clear c4;rintro e w' ⟨rfl,m,rfl⟩;rcases b8 with rfl|rfl|rfl
   ·rw[CT]
    gi_wp2
    gi_region
    all_goals gi_wp2
    have a1:((W.alloc (.cells #[.int .i64 p,.nilIface] 226)).drewN (m+1)).heap[D]?=some (.deferred (some [])):=(Below.heap_alloc W _ D b7).trans hK;refine⟨by simp,.inl ⟨_,_,rfl,run_takeDeferred a1,?_⟩⟩;refine⟨_,results_tmp2 rfl _ _ _,?_,.inr ⟨by rw[Hp.out];omega,W.heap.size,rfl,?_,hB.size⟩⟩
    ·exact(av (hB.alloc hB.size _) (m+1)).trans (belowK_b (w:=w) (Za _) _ D _ _ b4 a1 rfl rfl)
    ·rw[Hp.out] at a3 ⊢;rw[World.putObj_heap_other (by omega),a3.out];exact Ze W _
   ·rw[vT]
    gi_wp2
    gi_region
    all_goals gi_wp2
    have a1:((W.alloc (.cells #[.int .i64 p,cj aE] 226)).drewN (m+1)).heap[D]?=some (.deferred (some [])):=(Below.heap_alloc W _ D b7).trans hK;refine⟨by simp,.inl ⟨_,_,rfl,run_takeDeferred a1,?_⟩⟩;refine⟨_,results_tmp2 rfl _ _ _,?_,.inr ⟨by rw[Hp.out];omega,W.heap.size,rfl,?_,hB.size⟩⟩
    ·exact(av (hB.alloc hB.size _) (m+1)).trans (belowK_b (w:=w) (Za _) _ D _ _ b4 a1 rfl rfl)
    ·rw[Hp.out] at a3 ⊢;rw[World.putObj_heap_other (by omega),a3.out];exact Ze W _
   ·rw[wy]
    gi_wp2
    gi_region
    all_goals gi_wp2
    have a1:((W.alloc (.cells #[.int .i64 p,cj aU] 226)).drewN (m+1)).heap[D]?=some (.deferred (some [])):=(Below.heap_alloc W _ D b7).trans hK;refine⟨by simp,.inl ⟨_,_,rfl,run_takeDeferred a1,?_⟩⟩;refine⟨_,results_tmp2 rfl _ _ _,?_,.inr ⟨by rw[Hp.out];omega,W.heap.size,rfl,?_,hB.size⟩⟩
    ·exact(av (hB.alloc hB.size _) (m+1)).trans (belowK_b (w:=w) (Za _) _ D _ _ b4 a1 rfl rfl)
    ·rw[Hp.out] at a3 ⊢;rw[World.putObj_heap_other (by omega),a3.out];exact Ze W _
  ·gi_wp2
   refine⟨by simp,.inl ⟨_,_,rfl,run_takeDeferred hK,?_⟩⟩;refine⟨_,results_tmp2 rfl _ _ _,hB.trans (belowK_b (w:=w) (Za _) W D _ _ b4 hK rfl rfl),.inl ⟨by omega,rfl⟩⟩
 case stop=>
  rintro D c pre W hD _ h _;exact h.elim
theorem z7 (hb:Bs w v xs)(hg:co w aU aE) :
  Calls Tryz.prog 78 #[v] w (yH xs aU aE w):=callsIn_wide.1 (Ck v xs w aU aE hb hg hb.1)
def zC (xs:List UInt8)(aU aE:Addr)(w:World)(e:Ending)(w':World):Prop:=
 Below w.heap.size w w'/\((xs.length<=bH (eR xs)/\e =.returned .nilIface)\/
  (bH (eR xs)<xs.length/\∃g:Nat,e =.returned (.iface 224 (.pointer (some ⟨g,0,none⟩)))/\
   w'.heap[g]?=some (.cells #[.int .i64 (bH (eR xs)),nM (cj aU) (cj aE) (bC (xs.drop (bH (eR xs)).toNat)).2.2] 226 (0,0))/\w.heap.size<=g))
theorem zW (hb:Bs w v xs)(hg:co w aU aE) :
  Calls Tryz.prog 58 #[v] w (zC xs aU aE w):=by
 have H:=Qa (z7 hb hg);clear hb hg;go_enter Tryz.func58,Tryz.ntmps58;go_wp2_with fail;refine H.out.mono ?_;rintro e w' ⟨hb,⟨h1,rfl⟩|⟨h1,g,rfl,hg,hl⟩⟩
 ·have H1:=Qa h1;clear h1;go_wp2;go_ret;exact⟨hb,.inl ⟨H1.out,rfl⟩⟩
 ·have H1:=Qa h1;have Hg:=Qa hg;clear h1 hg;go_wp2;go_ret;exact⟨hb,.inr ⟨H1.out,g,rfl,Hg.out,hl⟩⟩
theorem AA:(Tryz.prog.info? 406).map (·.comparable)=some true:=by kernel_rfl
theorem BF:(Tryz.prog.info? 408).map (fun i=>i.size)=some 1:=by kernel_rfl
theorem FR:Tryz.prog.underlying 36=some (.interface (Tryz.prog.methodsAt 36)):=by kernel_rfl
theorem lr (a:Addr)(W:World):(binOp .eql 36 (bl a) (bl a)).run Tryz.prog W =.ok (.bool true) W:=by
 obtain⟨i,hi,hc⟩:=Option.map_eq_some_iff.1 AA;obtain⟨j,hj,hs⟩:=Option.map_eq_some_iff.1 BF;exact run_eql_iface_ptr_same W a Tryz.underlying36 Tryz.underlying406 hi hc hj
theorem ki (h:co W aU aE):(binOp .eql 36 (bl aU) (bl aE)).run Tryz.prog W =.ok (.bool false) W:=by
 obtain⟨i,hi,hc⟩:=Option.map_eq_some_iff.1 AA;obtain⟨j,hj,hs⟩:=Option.map_eq_some_iff.1 BF;obtain⟨c1,t1,h1⟩:=h.hu;obtain⟨c2,t2,h2⟩:=h.he;exact run_eql_iface_ptr_other W Tryz.underlying36 Tryz.underlying406 hi hc hj (by omega) h.ne h1 h2
theorem ml (a:Addr)(W:World):(binOp .eql 36 .nilIface (bl a)).run Tryz.prog W =.ok (.bool false) W:=run_eql_iface_nil_left W _ _ FR
def If:Option (Nat×Nat)->Value
 |none=>.tuple #[.int .i32 0,.int .i64 1,.bool false]
 |some p=>.tuple #[.int .i32 p.1,.int .i64 p.2,.bool true]
def IU (r:Option (Option (Nat×Nat)))(w:World)(e:Ending)(w':World):Prop:=(∃p,r=some p/\e =.returned (If p)/\Below w.heap.size w w')\/(r=none/\iU w e w')
theorem vL {c:UInt8}{t:List UInt8}(a1:c.toNat≠34)(a2:c.toNat≠92)(a0:¬c.toNat<32):bL (c::t)=if(bC (c::t)).2.2=0 then some (some ((bC (c::t)).1,(bC (c::t)).2.1)) else none:=by
 simp only[bL];rw[if_neg (fun e=>a1 (by rw[e];rfl)),if_neg (fun e=>a2 (by rw[e];rfl)),if_neg a0]
theorem xf {c:UInt8}{t:List UInt8}(a1:c.toNat≠34)(a2:c.toNat≠92)(a0:c.toNat<32):bL (c::t)=none:=by
 simp only[bL];rw[if_neg (fun e=>a1 (by rw[e];rfl)),if_neg (fun e=>a2 (by rw[e];rfl)),if_pos a0]
theorem xj (h:va w g v xs k)(hG:co w aU aE)(hS:bo w 19)(hU:bo w 20)(hC:bo w 18)(hk:k<=1000000000)(hl:xs.length<=1000000000):Calls Tryz.prog 220 #[.pointer (some ⟨g,0,none⟩)] w fun e w'=>IU (bL (xs.drop k)) w e w':=by
 obtain⟨hg,hb⟩:=id h;obtain⟨hm,A,cap,rfl,b6,a1⟩:=id hb;have c0:=aa hg (j:=0) (u:=.slice A xs.length cap) rfl;have c1:=aa hg (j:=1) (u:=.int .i64 k) rfl;have hE:bo w 5:=⟨aE,hG.e⟩;have H:=Qa h;have HE:=Qa hE;have HG:=Qa hG;have b5:=Qa (vg h hE hS hU hk);obtain⟨aC,b3⟩:=hC;rcases hc:xs[k]? with _|c
 ·have Hn:=Qa (show bL (xs.drop k)=none by rw[List.drop_of_length_le (List.getElem?_eq_none_iff.1 hc)];rfl);have Hc:=Qa hc;clear hc h hE hG hS hU hg hb a1;go_enter Tryz.func220,Tryz.ntmps220;go_wp2_with fail;(with_reducible refine(iB H.out HE.out k Hc.out).mono ?_);rintro e w' ⟨vP,rfl,hv,hb⟩;have Hv:=Qa hv;have a6:=Qa hb;clear hv hb;go_wp2_with fail;exact⟨rfl,.inr ⟨Hn.out,vP,rfl,Hv.out,a6.out⟩⟩
 obtain⟨hlt,b1⟩:=List.getElem?_eq_some_iff.1 hc;have hd:xs.drop k=c::xs.drop (k+1):=by rw[List.drop_eq_getElem_cons hlt,b1]
 obtain⟨b,o,rfl,-⟩:=a1 (by omega);have a3:=Qa (show Bs w.drew (.slice (some ⟨b,o+k,none⟩) (xs.length - k) (cap - k)) (xs.drop k) from hb.cut (Zi hlt));have Hd:=Qa hd;have Hc:=Qa hc;clear hc b1 h hE hS hU hg hb a1;have hx:=c.toNat_lt
 by_cases h34:c.toNat=34
 ·obtain rfl:c=34:=UInt8.toNat_inj.1 (by rw[h34];rfl);rw[hd];clear hd h34 hG;go_enter Tryz.func220,Tryz.ntmps220;go_wp2_with fail;(with_reducible refine(aM H.out HE.out k Hc.out).mono ?_);rintro e w' ⟨rfl,rfl⟩;rw[show(34:UInt8).toNat=34 from rfl];go_wp2_with fail;go_ret3;exact .inl ⟨none,rfl,rfl,Zd _ _⟩
 have n34:((c.toNat:Int)==34)=false:=by simp only[beq_eq_false_iff_ne];omega
 by_cases h92:c.toNat=92
 ·obtain rfl:c=92:=UInt8.toNat_inj.1 (by rw[h92];rfl);have Hp:=Qa (show bL (xs.drop k)= (vc (xs.drop (k+1))).map some by rw[hd];rfl);clear hd h92 h34 n34 hG;go_enter Tryz.func220,Tryz.ntmps220;go_wp2_with fail;(with_reducible refine(aM H.out HE.out k Hc.out).mono ?_);rintro e w' ⟨rfl,rfl⟩;rw[show(92:UInt8).toNat=92 from rfl];go_wp2_with fail;(with_reducible refine b5.out.mono ?_);rintro e w' (⟨p,hp,rfl,hb⟩|⟨hn,vP,rfl,hv,hb⟩)
  ·have Hr:=Qa (show bL (xs.drop k)=some (some p) by rw[Hp.out,hp];rfl);have Hb:=Qa hb;obtain⟨p1,p2⟩:=p;clear hp hb
   dsimp only
   go_wp2_with fail;go_ret3;exact .inl ⟨some (p1,p2),Hr.out,rfl,Hb.out⟩
  ·have Hn:=Qa (show bL (xs.drop k)=none by rw[Hp.out,hn];try rfl);have Hv:=Qa hv;have a6:=Qa hb;clear hn hv hb;go_wp2_with fail;exact⟨rfl,.inr ⟨Hn.out,vP,rfl,Hv.out,a6.out⟩⟩
 have n92:((c.toNat:Int)==92)=false:=by simp only[beq_eq_false_iff_ne];omega
 by_cases h32:c.toNat<32
 ·have a4:(c.toNat:Int)<32:=by omega
  have Hn:=Qa (show bL (xs.drop k)=none by rw[hd];exact xf h34 h92 h32);clear hd h34 h92 h32 hG;go_enter Tryz.func220,Tryz.ntmps220;go_wp2_with fail;(with_reducible refine(aM H.out HE.out k Hc.out).mono ?_);rintro e w' ⟨rfl,rfl⟩;go_wp2_with fail;refine wp_region_held_drew (S:=fun w'=>w'.cell? ⟨g,1,none⟩=some (.int .i64 k)/\w'.cell? ⟨18,0,none⟩=some (bl aC)) (by kernel_rfl) (⟨c1,b3⟩) (fun a0=>?_);refine tH 0 a0 ?_;refine tH 1 a0 ?_;refine tH 2 a0 ?_;refine tH 3 a0 ?_;refine tH 4 a0 ?_
  try simp only[Act.put,jP,jQ,jR]
  refine rH 5 fun K hK=>?_
  go_simp;refine(bm _ aC _).mono ?_;rintro e w' hf;obtain⟨vP,rfl,hv,hb⟩:=hf.low (show Below w.heap.size w w.drew from(Zd _ _).drew);exact⟨rfl,.inr ⟨Hn.out,vP,rfl,hv,hb⟩⟩
 have a4:¬ (c.toNat:Int)<32:=by omega
 have Hr:=Qa (show bL (xs.drop k)=if(bC (xs.drop k)).2.2=0 then some (some ((bC (xs.drop k)).1,(bC (xs.drop k)).2.1)) else none by rw[hd];exact vL h34 h92 h32);have b7:(k:Int)<=xs.length:=by omega
 clear hd h34 h92 h32;have b0:=(oo (xs.drop k)).2;have a2:qD (cj aU) (cj aE) (bC (xs.drop k)) =.tuple #[.int .i32 (bC (xs.drop k)).1,.int .i64 (bC (xs.drop k)).2.1,nM (cj aU) (cj aE) (bC (xs.drop k)).2.2]:=rfl;rcases hr:bC (xs.drop k) with ⟨ca,cl,cc⟩
 rw[hr] at b0 a2
 dsimp only at b0 a2
 obtain⟨ve,a7⟩:∃ve,nM (cj aU) (cj aE) cc=ve:=⟨_,rfl⟩;rw[a7] at a2;have a5:=Qa (show bL (xs.drop k)=if cc=0 then some (some (ca,cl)) else none by rw[Hr.out,hr]);have b4:=Qa (show qD (cj aU) (cj aE) (bC (xs.drop k))=_ from hr▸a2);have a9:=Qa a7;clear hr a2 a7 Hr;go_enter Tryz.func220,Tryz.ntmps220;go_wp2_with fail;(with_reducible refine(aM H.out HE.out k Hc.out).mono ?_);rintro e w' ⟨rfl,rfl⟩;go_wp2_with fail;refine aO (fun w'=>w'.cell? ⟨g,0,none⟩=some (.slice (some ⟨b,o,none⟩) xs.length cap)/\w'.cell? ⟨g,1,none⟩=some (.int .i64 k)) (⟨c0,c1⟩) fun a0=>?_
 refine tH 0 a0 ?_;refine tH 1 a0 ?_;refine tH 2 a0 ?_;refine tH 3 a0 ?_;refine tH 4 a0 ?_;refine tH 5 a0 ?_
 try simp only[Act.put,jP,jQ,jR]
 refine tH 6 a0 ?_;refine tH 7 a0 ?_;refine tH 8 a0 ?_
 try simp only[Act.put,jP,jQ,jR]
 refine rH 9 fun K hK=>?_
 go_simp;(try rw[if_neg (show ¬cap=k by omega)]);(with_reducible refine(gV a3.out (HG.out.below ((Zd w.heap.size w).drew))).mono ?_);rintro e w' ⟨rfl,m,rfl⟩;rw[b4.out];refine hK.out _ _ (a0) (fun a0=>?_);clear hK K
 try simp only[Act.put,jP,jQ,jR]
 refine tH 10 a0 ?_;refine tH 11 a0 ?_;refine tH 12 a0 ?_;refine tH 13 a0 ?_;refine tH 14 a0 ?_;refine tH 15 a0 ?_
 try simp only[Act.put,jP,jQ,jR]
 refine tH 16 a0 ?_
 try simp only[Act.put,jP,jQ,jR]
 refine wpAnyH_done (by kernel_rfl) (NoPanic.normal ?_) _;have Hb:=Qa (show Below w.heap.size w (w.drew.drewN m) from av ((Zd _ _).drew) m);have b2:=Qa (show co (w.drew.drewN m) aU aE from(HG.out.below ((Zd w.heap.size w).drew)).drewN m);have c0':(w.drew.drewN m).cell? ⟨g,0,none⟩=some (.slice (some ⟨b,o,none⟩) xs.length cap):=c0;have c1':(w.drew.drewN m).cell? ⟨g,1,none⟩=some (.int .i64 k):=c1;have cE:(w.drew.drewN m).cell? ⟨5,0,none⟩=some (bl aE):=b2.out.e;generalize w.drew.drewN m=w1 at *;clear c0 c1;rcases(by omega:cc=0\/cc=1\/cc=2) with rfl|rfl|rfl
 ·obtain rfl: .nilIface=ve:=a9.out;have q:=ml aE w1;go_wp2_with fail;go_ret3;exact .inl ⟨some (ca,cl),a5.out,rfl,Hb.out⟩
 ·obtain rfl:bl aE=ve:=a9.out;have q:=lr aE w1;go_wp2_with fail;refine(bm _ aE _).mono ?_;rintro e w' hf;obtain⟨vP,rfl,hv,hb⟩:=hf.low Hb.out;exact⟨rfl,.inr ⟨a5.out,vP,rfl,hv,hb⟩⟩
 ·obtain rfl:bl aU=ve:=a9.out;have q:=ki b2.out;go_wp2_with fail;refine(bm _ aU _).mono ?_;rintro e w' hf;obtain⟨vP,rfl,hv,hb⟩:=hf.low Hb.out;exact⟨rfl,.inr ⟨a5.out,vP,rfl,hv,hb⟩⟩
