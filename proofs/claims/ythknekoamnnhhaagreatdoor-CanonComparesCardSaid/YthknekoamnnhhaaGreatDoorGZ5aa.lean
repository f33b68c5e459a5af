import Derived.Deep.RegionHeld3
import Derived.Test.YthknekoamnnhhaaGreatDoorProg
import Derived.WalkSpells
import Derived.WalkLawsBesides
import Derived.BigQuiet
import Derived.Lib.Hide
import Derived.Deep.AppendLies
import Derived.Laws.CopyOwn
import Derived.Great.BuildSlice
import Derived.RangeFuncFrom
set_option linter.unusedVariables false
set_option linter.unusedSimpArgs false
namespace Go.Proofs.YthknekoamnnhhaaGreatDoor
abbrev Za:= @Nat.le_refl
abbrev Zb:= @Nat.le_trans
abbrev Zc:= @List.getElem?_eq_getElem
abbrev Zd:= @Go.RowKit.Below.refl
abbrev Ze:= @heap_alloc_new
abbrev Zf:= @cell_later
abbrev Zg:= @bodyPost_ret
abbrev Zh:= @Option.some.inj
abbrev Zi:= @Nat.le_of_lt
abbrev Zj:= @Nat.zero_le
abbrev Zk:= @List.mem_of_getElem?
abbrev Zl:= @List.mem_cons_of_mem
variable {args cells cur old:Array Value}{fill:Int}{xs ys:List UInt8}{B base base' c cap fuel g i id m n:Nat}{ty:TypeId}{u v:Value}{W w w':World}
theorem Qa {p:Prop}(h:p):Go.RowKit.Hid p:=h
section
variable {P:Program}{ops:Array Oper}{Q:Exit->Act->World->Prop}{md:Region.Mode}{S:World->Prop}{z:Nat}
def cF (P:Program)(md:Region.Mode)(ops:Array Oper)(Q:Exit->Act->World->Prop)(S:World->Prop)(z:Nat):Nat->Array Bool->Act->World->Prop
 |0,listed,a,w=>Region.ready md ops listed = []/\Q .normal a w
 |fuel+1,listed,a,w=>
  (Region.ready md ops listed = []->Q .normal a w)/\
  ∀i∈Region.ready md ops listed,wpOp P ops Q i (fun a' w'=>(i≠z->S w')/\cF P md ops Q S z fuel (listed.setIfInBounds i true) a' w') a w
theorem nZ:∀ (fuel:Nat) (listed:Array Bool) (a:Act) (w:World),cF P md ops Q S z fuel listed a w->wpAny P md ops Q fuel listed a w
 |0,_,_,_,h=>h
 |fuel+1,_,_,_,h=>⟨h.1,fun i hi=>wpOp_mono (fun a' w' h'=>nZ fuel _ a' w' h'.2) (h.2 i hi)⟩
def fg (md:Region.Mode)(ops:Array Oper)(z i:Nat):Bool:=match ops[z]? with
 |some oz=>oz.after.any (fun e=>e.on==i&&Region.binds md e)
 |none=>false
theorem da {listed:Array Bool}(h:fg md ops z i=true)(hl:listed.getD i true=false):z∉Region.ready md ops listed:=fun hz=>by
 obtain⟨_,oz,a1,a0⟩:=mem_ready.1 hz;unfold fg at h;rw[a1] at h;obtain⟨e,he,hb⟩:=Array.any_eq_true'.1 h;simp only[Bool.and_eq_true,beq_iff_eq] at hb;have h1:=a0 e he hb.2;rw[hb.1] at h1;rcases Nat.lt_or_ge i listed.size with h'|h'
 ·simp[h'] at hl h1;rw[hl] at h1;cases h1
 ·simp[Array.getElem?_eq_none h'] at h1
theorem rr {oi:Oper}(hi:ops[i]?=some oi)(a2:∀ (j:Nat) (o:Oper) cs b,ops[j]?=some o->o.op≠ .select cs b)
  (hQ:∀c a w,Q (.panic c) (a.put oi.dst v) w->Q (.panic c) a w) (hz:fg md ops z i=true) :
  ∀ (fuel:Nat) (listed:Array Bool) (a:Act) (w:World),
   (∀j oj,ops[j]?=some oj->j≠i->listed.getD j true=false->(∀e∈oj.after,Region.binds md e=true->e.on≠i)->oi.apart ops oj=true)->
   i∈Region.ready md ops listed->YieldsIf P ops S oi v a->S w->
   cF P md ops Q S z fuel (listed.setIfInBounds i true) (a.put oi.dst v) w->cF P md ops Q S z (fuel+1) listed a w:=by
 intro fuel
 induction fuel with
 |zero=>
  intro listed a w _ hr hy hS H;refine⟨fun h=>(by rw[h] at hr;cases hr),fun j hj=>?_⟩
  by_cases hji:j=i
  ·subst hji;exact hy.wpOp hi hS ⟨fun _=>hS,H⟩
  ·have:=ready_mono hj hji;rw[H.1] at this
   cases this
 |succ fuel ih=>
  intro listed a w a0 hr hy hS H;refine⟨fun h=>(by rw[h] at hr;cases hr),fun j hj=>?_⟩
  by_cases hji:j=i
  ·subst hji;exact hy.wpOp hi hS ⟨fun _=>hS,H⟩
  ·have a7:j≠z:=fun e=>da hz (mem_ready.1 hr).1 (e▸hj)
   have h1:=H.2 j (ready_mono hj hji);obtain⟨a3,oj,a6,a4⟩:=mem_ready.1 hj;have a5:∀e∈oj.after,Region.binds md e=true->e.on≠i:=fun e he hb heq=>by
    have h1:=a4 e he hb;have h0:=(mem_ready.1 hr).1;rw[heq] at h1;rcases Nat.lt_or_ge i listed.size with h'|h'
    ·simp[h'] at h0 h1;rw[h0] at h1;cases h1
    ·simp[Array.getElem?_eq_none h'] at h1
   have h2:=wpOp_putIf a6 (a0 j oj a6 hji a3 a5) (fun cs b=>a2 i oi cs b hi) (fun cs b=>a2 j oj cs b a6) hQ hy h1;have a1:∀k ok,ops[k]?=some ok->k≠i->(listed.setIfInBounds j true).getD k true=false->
     (∀e∈ok.after,Region.binds md e=true->e.on≠i)->oi.apart ops ok=true:=fun k ok hk hki a9 b0=>by
    refine a0 k ok hk hki ?_ b0
    by_cases hjk:j=k
    ·subst hjk;exact a3
    ·rw[getD_set_ne true hjk] at a9;exact a9
   refine wpOp_mono (fun a' w' h3=>⟨fun _=>h3.2.1 a7,ih (listed.setIfInBounds j true) a' w' a1 (ready_mono hr (Ne.symm hji)) h3.1 (h3.2.1 a7) ?_⟩) h2;rw[Array.setIfInBounds_comm _ _ hji];exact h3.2.2
theorem vS {oi:Oper}{listed:Array Bool}{a:Act}(hi:ops[i]?=some oi)
  (hs:Region.noSelect ops=true) (hf:Region.free md ops listed i=true) (hr:(Region.ready md ops listed).contains i=true) (hz:fg md ops z i=true)
  (hQ:∀c a w,Q (.panic c) (a.put oi.dst v) w->Q (.panic c) a w) (hy:YieldsIf P ops S oi v a) (hS:S w)
  (h:cF P md ops Q S z fuel (listed.setIfInBounds i true) (a.put oi.dst v) w):cF P md ops Q S z (fuel+1) listed a w:=
 rr hi (Region.noSelect_spec hs) hQ hz fuel listed a w (Region.free_spec hi hf) (by simpa using hr) hy hS h
theorem yt {o:Oper}{listed:Array Bool}{a:Act}(hr:Region.ready md ops listed = [i])(ho:ops[i]?=some o)
  (h:∀K':Act->World->Prop,Shut (∀a w,(i≠z->S w)->((i≠z->S w)->cF P md ops Q S z fuel (listed.setIfInBounds i true) a w)->K' a w)->if Region.wanted o (yielded ops a.tmps)=true then Oper.wp P o a w K' Q else K' (a.put o.dst undef) w) :
  cF P md ops Q S z (fuel+1) listed a w:=by
 refine⟨fun h0=>(by rw[hr] at h0;cases h0),fun j hj=>?_⟩;rw[hr] at hj;have hj:=List.mem_singleton.1 hj;subst hj;exact wpOp_step ho (fun K' hK=>h K' (fun a w hS hW=>hK a w ⟨hS,hW hS⟩))
theorem bi {listed:Array Bool}{a:Act}(hr:Region.ready md ops listed = [])(h:Q .normal a w) :
  ∀fuel,cF P md ops Q S z fuel listed a w
 |0=>⟨hr,h⟩
 |_+1=>⟨fun _=>h,by rw[hr];simp⟩
theorem vm {a:Act}(hm:P.follows .mixedOrders=true)(z:Nat)(hS:S w.drew)
  (h:S w.drew->cF P .any ops Q S z ops.size (Array.replicate ops.size false) a w.drew):(Code.region id ops true).wp P Q a w:=
 wp_region_any hm (nZ _ _ _ _ (h hS))
end
section
variable {P:Program}{ops:Array Oper}{Q:Exit->Act->World->Prop}{md:Region.Mode}{S:World->Prop}{z:Nat}
def js (md:Region.Mode)(ops:Array Oper):Nat->Nat->Nat->Bool
 |0,m,i=>fg md ops m i
 |n+1,m,i=>fg md ops m i||(List.range ops.size).any (fun k=>fg md ops m k&&js md ops n k i)
def ES (md:Region.Mode)(ops:Array Oper)(listed:Array Bool):Prop:=listed.size=ops.size/\∀m i,m<ops.size->fg md ops m i=true->listed.getD i true=false->listed.getD m true=false
def FC (md:Region.Mode)(ops:Array Oper)(listed:Array Bool):Bool:=listed.size==ops.size&& (List.range ops.size).all (fun m=>(List.range ops.size).all (fun i=> !(fg md ops m i)||listed.getD i true||!(listed.getD m true)))
theorem ES.of {listed:Array Bool}(h:FC md ops listed=true):ES md ops listed:=by
 unfold FC at h;simp only[Bool.and_eq_true,beq_iff_eq,List.all_eq_true,List.mem_range,Bool.or_eq_true,Bool.not_eq_true'] at h;refine⟨h.1,fun m i hm hw hi=>?_⟩
 by_cases hs:i<ops.size
 ·rcases h.2 m hm i hs with (h1|h1)|h1
  ·rw[hw] at h1;cases h1
  ·rw[hi] at h1;cases h1
  ·exact h1
 ·have a0:listed.size<=i:=by omega
  simp[Array.getElem?_eq_none a0] at hi
theorem nA (h:fg md ops m i=true):m<ops.size:=by
 unfold fg at h
 cases hm:ops[m]? with
 |none=>rw[hm] at h;cases h
 |some o=>exact(Array.getElem?_eq_some_iff.1 hm).1
theorem ES.set {listed:Array Bool}{j:Nat}(h:ES md ops listed)(hj:j∈Region.ready md ops listed):ES md ops (listed.setIfInBounds j true):=by
 refine⟨by rw[Array.size_setIfInBounds];exact h.1,fun m i hm hw hi=>?_⟩;have hji:j≠i:=by
  intro e;subst e
  by_cases hs:j<listed.size
  ·simp[hs] at hi
  ·simp[hs] at hi
 rw[getD_set_ne true hji] at hi;have a0:j≠m:=by
  intro e;subst e;exact da hw hi hj
 rw[getD_set_ne true a0];exact h.2 m i hm hw hi
theorem jo {listed:Array Bool}(hc:ES md ops listed)(hi:listed.getD i true=false):∀ (n m:Nat),js md ops n m i=true->listed.getD m true=false
 |0,m,h=>hc.2 m i (nA h) h hi
 |n+1,m,h=>by
  unfold js at h;rcases Bool.or_eq_true _ _▸h with h|h
  ·exact hc.2 m i (nA h) h hi
  ·obtain⟨k,hk,h2⟩:=List.any_eq_true.1 h;rw[Bool.and_eq_true] at h2;exact hc.2 m k (nA h2.1) h2.1 (jo hc hi n k h2.2)
theorem mS {listed:Array Bool}(hc:ES md ops listed)(hi:listed.getD i true=false)(h:js md ops n z i=true):z∉Region.ready md ops listed:=by
 cases n with
 |zero=>exact da h hi
 |succ n=>
  unfold js at h;rcases Bool.or_eq_true _ _▸h with h|h
  ·exact da h hi
  ·obtain⟨k,hk,h2⟩:=List.any_eq_true.1 h;rw[Bool.and_eq_true] at h2;exact da h2.1 (jo hc hi n k h2.2)
theorem sj {oi:Oper}(hi:ops[i]?=some oi)(a2:∀ (j:Nat) (o:Oper) cs b,ops[j]?=some o->o.op≠ .select cs b)
  (hQ:∀c a w,Q (.panic c) (a.put oi.dst v) w->Q (.panic c) a w) (hz:js md ops n z i=true) :
  ∀ (fuel:Nat) (listed:Array Bool) (a:Act) (w:World),ES md ops listed->
   (∀j oj,ops[j]?=some oj->j≠i->listed.getD j true=false->(∀e∈oj.after,Region.binds md e=true->e.on≠i)->oi.apart ops oj=true)->
   i∈Region.ready md ops listed->YieldsIf P ops S oi v a->S w->
   cF P md ops Q S z fuel (listed.setIfInBounds i true) (a.put oi.dst v) w->cF P md ops Q S z (fuel+1) listed a w:=by
 intro fuel
 induction fuel with
 |zero=>
  intro listed a w _ _ hr hy hS H;refine⟨fun h=>(by rw[h] at hr;cases hr),fun j hj=>?_⟩
  by_cases hji:j=i
  ·subst hji;exact hy.wpOp hi hS ⟨fun _=>hS,H⟩
  ·have:=ready_mono hj hji;rw[H.1] at this
   cases this
 |succ fuel ih=>
  intro listed a w hc a0 hr hy hS H;refine⟨fun h=>(by rw[h] at hr;cases hr),fun j hj=>?_⟩
  by_cases hji:j=i
  ·subst hji;exact hy.wpOp hi hS ⟨fun _=>hS,H⟩
  ·have a7:j≠z:=fun e=>mS hc (mem_ready.1 hr).1 hz (e▸hj)
   have h1:=H.2 j (ready_mono hj hji);obtain⟨a3,oj,a6,a4⟩:=mem_ready.1 hj;have a5:∀e∈oj.after,Region.binds md e=true->e.on≠i:=fun e he hb heq=>by
    have h1:=a4 e he hb;have h0:=(mem_ready.1 hr).1;rw[heq] at h1;rcases Nat.lt_or_ge i listed.size with h'|h'
    ·simp[h'] at h0 h1;rw[h0] at h1;cases h1
    ·simp[Array.getElem?_eq_none h'] at h1
   have h2:=wpOp_putIf a6 (a0 j oj a6 hji a3 a5) (fun cs b=>a2 i oi cs b hi) (fun cs b=>a2 j oj cs b a6) hQ hy h1;have a1:∀k ok,ops[k]?=some ok->k≠i->(listed.setIfInBounds j true).getD k true=false->
     (∀e∈ok.after,Region.binds md e=true->e.on≠i)->oi.apart ops ok=true:=fun k ok hk hki a9 b0=>by
    refine a0 k ok hk hki ?_ b0
    by_cases hjk:j=k
    ·subst hjk;exact a3
    ·rw[getD_set_ne true hjk] at a9;exact a9
   refine wpOp_mono (fun a' w' h3=>⟨fun _=>h3.2.1 a7,ih (listed.setIfInBounds j true) a' w' (hc.set hj) a1 (ready_mono hr (Ne.symm hji)) h3.1 (h3.2.1 a7) ?_⟩) h2;rw[Array.setIfInBounds_comm _ _ hji];exact h3.2.2
theorem wD (n:Nat){oi:Oper}{listed:Array Bool}{a:Act}(hi:ops[i]?=some oi)
  (hs:Region.noSelect ops=true) (hf:Region.free md ops listed i=true) (hr:(Region.ready md ops listed).contains i=true) (hz:js md ops n z i=true) (hc:FC md ops listed=true)
  (hQ:∀c a w,Q (.panic c) (a.put oi.dst v) w->Q (.panic c) a w) (hy:YieldsIf P ops S oi v a) (hS:S w)
  (h:cF P md ops Q S z fuel (listed.setIfInBounds i true) (a.put oi.dst v) w):cF P md ops Q S z (fuel+1) listed a w:=
 sj hi (Region.noSelect_spec hs) hQ hz fuel listed a w (ES.of hc) (Region.free_spec hi hf) (by simpa using hr) hy hS h
end
section
variable {P:Program}{ops:Array Oper}{Q:Exit->Act->World->Prop}{md:Region.Mode}{S:World->Prop}
theorem o6 {o:Oper}(h:(ops.toList.drop i).head?=some o):ops[i]?=some o:=by
 rw[List.head?_drop] at h;rw[<-Array.getElem?_toList];exact h
theorem tH (i:Nat){oi:Oper}{listed:Array Bool}{a:Act}(hS:S w)(h:wpAnyH P md ops Q S fuel (listed.setIfInBounds i true) (a.put oi.dst v) w)
  (hi:(ops.toList.drop i).head?=some oi:=by exact rfl) (hs:Region.noSelect ops=true:=by kernel_rfl) (hf:Region.free md ops listed i=true:=by kernel_rfl) (hr:(Region.ready md ops listed).contains i=true:=by kernel_rfl)
  (hQ:∀c a w,Q (.panic c) (a.put oi.dst v) w->Q (.panic c) a w:=by exact fun _ _ _ h=>h) (hg:Region.wanted oi (yielded ops a.tmps)=true:=by rfl) (hy:∀w,S w->(execOp a.eval oi).run P w =.ok (.value v) w:=by(intro w a0;(try dsimp only at a0);go_simp;(try with_reducible rfl))):wpAnyH P md ops Q S (fuel+1) listed a w:=
 wpAnyH_take (o6 hi) hs hf hr hQ (Or.inl ⟨hg,hy⟩) hS h
theorem rH (i:Nat){o:Oper}{listed:Array Bool}{a:Act}
  (h:∀K':Act->World->Prop,Shut (∀a w,S w->(S w->wpAnyH P md ops Q S fuel (listed.setIfInBounds i true) a w)->K' a w)->if Region.wanted o (yielded ops a.tmps)=true then Oper.wp P o a w K' Q else K' (a.put o.dst undef) w)
  (ho:(ops.toList.drop i).head?=some o:=by exact rfl) (hr:Region.ready md ops listed = [i]:=by kernel_rfl):wpAnyH P md ops Q S (fuel+1) listed a w:=
 wpAnyH_ready hr (by simp) (AllReadyH.cons (o6 ho) h AllReadyH.nil)
theorem tZ (i:Nat){z:Nat}{oi:Oper}{listed:Array Bool}{a:Act}(hS:S w)(h:cF P md ops Q S z fuel (listed.setIfInBounds i true) (a.put oi.dst v) w)
  (hi:(ops.toList.drop i).head?=some oi:=by exact rfl) (hs:Region.noSelect ops=true:=by kernel_rfl) (hf:Region.free md ops listed i=true:=by kernel_rfl) (hr:(Region.ready md ops listed).contains i=true:=by kernel_rfl) (hz:fg md ops z i=true:=by kernel_rfl)
  (hQ:∀c a w,Q (.panic c) (a.put oi.dst v) w->Q (.panic c) a w:=by exact fun _ _ _ h=>h) (hg:Region.wanted oi (yielded ops a.tmps)=true:=by rfl) (hy:∀w,S w->(execOp a.eval oi).run P w =.ok (.value v) w:=by(intro w a0;(try dsimp only at a0);go_simp;(try with_reducible rfl))):cF P md ops Q S z (fuel+1) listed a w:=
 vS (o6 hi) hs hf hr hz hQ (Or.inl ⟨hg,hy⟩) hS h
theorem tR (i:Nat){z:Nat}{oi:Oper}{listed:Array Bool}{a:Act}(hS:S w)(h:cF P md ops Q S z fuel (listed.setIfInBounds i true) (a.put oi.dst v) w)
  (hi:(ops.toList.drop i).head?=some oi:=by exact rfl) (hs:Region.noSelect ops=true:=by kernel_rfl) (hf:Region.free md ops listed i=true:=by kernel_rfl) (hr:(Region.ready md ops listed).contains i=true:=by kernel_rfl) (hz:js md ops 6 z i=true:=by kernel_rfl) (hc:FC md ops listed=true:=by kernel_rfl)
  (hQ:∀c a w,Q (.panic c) (a.put oi.dst v) w->Q (.panic c) a w:=by exact fun _ _ _ h=>h) (hg:Region.wanted oi (yielded ops a.tmps)=true:=by rfl) (hy:∀w,S w->(execOp a.eval oi).run P w =.ok (.value v) w:=by(intro w a0;(try dsimp only at a0);go_simp;(try with_reducible rfl))):cF P md ops Q S z (fuel+1) listed a w:=
 wD 6 (o6 hi) hs hf hr hz hc hQ (Or.inl ⟨hg,hy⟩) hS h
theorem rZ (i:Nat){z:Nat}{o:Oper}{listed:Array Bool}{a:Act}
  (h:∀K':Act->World->Prop,Shut (∀a w,(i≠z->S w)->((i≠z->S w)->cF P md ops Q S z fuel (listed.setIfInBounds i true) a w)->K' a w)->if Region.wanted o (yielded ops a.tmps)=true then Oper.wp P o a w K' Q else K' (a.put o.dst undef) w)
  (ho:(ops.toList.drop i).head?=some o:=by exact rfl) (hr:Region.ready md ops listed = [i]:=by kernel_rfl):cF P md ops Q S z (fuel+1) listed a w:=
 yt hr (o6 ho) h
theorem aR {a:Act}(S:World->Prop)(hS:S w.drew)(h:S w.drew->wpAnyH P .any ops (NoPanic Q) S ops.size (Array.replicate ops.size false) a w.drew)(hm:P.follows .mixedOrders=true:=by kernel_rfl):(Code.region id ops true).wp P Q a w:=
 wp_region_noPanic (wp_region_held_drew hm hS h)
theorem dj {a:Act}(S:World->Prop)(z:Nat)(hS:S w.drew)(h:S w.drew->cF P .any ops (NoPanic Q) S z ops.size (Array.replicate ops.size false) a w.drew)(hm:P.follows .mixedOrders=true:=by kernel_rfl):(Code.region id ops true).wp P Q a w:=
 wp_region_noPanic (vm hm z hS h)
end
theorem jP {α:Type}{xs:List α}{a:α}:xs.toArray.setIfInBounds i a= (xs.set i a).toArray:=List.setIfInBounds_toArray ..
theorem jQ {α:Type}{xs:List α}{a b:α}:(a::xs).set 0 b=b::xs:=List.set_cons_zero
theorem jR {α:Type}{xs:List α}{a b:α}:(a::xs).set (n+1) b=a::xs.set n b:=List.set_cons_succ
end Go.Proofs.YthknekoamnnhhaaGreatDoor
namespace Go.Proofs.YthknekoamnnhhaaGreatDoor
open Go.RowKit
variable {args cells cur old:Array Value}{fill:Int}{xs ys:List UInt8}{B base base' c cap fuel g i id m n:Nat}{ty:TypeId}{u v:Value}{W w w':World}
def eb (x:Int):Bool:=bits .and .u8 x 192==128
def dN (x y:Int):Bool:=
 if x=224 then decide (160<=y)&&decide (y<=191) else if x=237 then decide (128<=y)&&decide (y<=159)
 else if x=240 then decide (144<=y)&&decide (y<=191) else if x=244 then decide (128<=y)&&decide (y<=143) else eb y
def fj:List Int:= [1,1,1,1,1,1,1,1,0,0,0,0,2,2,3,4]
def bl (x:Int):Int:=if x=192\/x=193\/244<x then -1 else fj.getD (x/16).toNat 0
theorem cP {P:Program}{f:FuncId}{a:Nat}
  (h:Calls P f args (w.drewN (a+n)) fun e w'=>e =.returned v/\w.drewN (a+n)=w') :
  Calls P f args (w.drewN (a+n)) fun e w''=>e =.returned v/\∃m,w''=w.drewN (a+m):=
 h.mono fun _ _ ⟨he,hm⟩=>⟨he,n,hm.symm⟩
theorem iZ {a b:Bool}(h:a=b):Ending.returned (.bool a) =.returned (.bool b):=by rw[h]
theorem zC {k:IntKind}{a b:Int}(h:a=b):Ending.returned (.int k a) =.returned (.int k b):=by rw[h]
theorem qv (n:Nat): -1<=fj.getD n 0/\fj.getD n 0<=4:=by
 by_cases hn:n<16
 ·have:∀n<16,-1<=fj.getD n 0/\fj.getD n 0<=4:=by decide
  exact this n hn
 ·rw[List.getD_eq_getElem?_getD,List.getElem?_eq_none (show fj.length<=n by simp[fj];omega)];decide
def ap (xs:List UInt8)(i:Nat):Nat:=(xs.getD i 0).toNat
theorem aK (xs:List UInt8)(i:Nat):ap xs i<256:=UInt8.toNat_lt _
def cQ (n x:Nat):Nat:=if n=1 then x else if n=2 then x % 32 else if n=3 then x % 16 else x % 8
def eu (n:Nat)(xs:List UInt8):Nat->Nat
 |0=>0
 |1=>cQ n (ap xs 0)
 |k+2=>eu n xs (k+1)*64+ap xs (k+1) % 64
def pE (xs:List UInt8)(k:Nat):Bool:=(k !=1||dN (ap xs 0) (ap xs 1))&&eb (ap xs k)
def aG (xs:List UInt8)(n:Nat):Nat->Nat->Nat×Nat×Nat
 |0,_=>(eu n xs n,n,0)
 |f+1,k=>if k=xs.length then(0,0,1) else if pE xs k then aG xs n f (k+1) else(0,0,2)
def bF (xs:List UInt8):Nat×Nat×Nat:=
 if xs = [] then(0,0,1) else if bl (ap xs 0)<1 then(0,0,2) else
  aG xs (bl (ap xs 0)).toNat ((bl (ap xs 0)).toNat - 1) 1
theorem k7 {x0 y:Nat}(h0:ap xs 0=x0)(h1:ap xs 1=y):pE xs 1= (dN x0 y&&eb y):=by simp[pE,h0,h1]
theorem jJ {k y:Nat}(hk:k≠1)(h1:ap xs k=y):pE xs k=eb y:=by simp[pE,h1,hk]
theorem ae {k:Nat}{o:Obj}(h:w.heap[k]?=some o):k<w.heap.size:=(Array.getElem?_eq_some_iff.1 h).1
theorem fw (x:Nat)(hx:x<256):bl x<1\/bl x=1\/bl x=2\/bl x=3\/bl x=4:=by
 have h:∀x:Nat,x<256->bl (x:Int)<1\/bl (x:Int)=1\/bl (x:Int)=2\/bl (x:Int)=3\/bl (x:Int)=4:=by decide +kernel
 exact h x hx
theorem C7 (h:0<xs.length)(hc:bl (ap xs 0)<1):bF xs= (0,0,2):=by
 unfold bF;rw[if_neg (by intro e;subst e;simp at h),if_pos hc]
theorem lZ (h:0<xs.length)(hn:1<=n)(hc:bl (ap xs 0)=n):bF xs=aG xs n (n - 1) 1:=by
 unfold bF;rw[if_neg (by intro e;subst e;simp at h),if_neg (by omega),hc];rfl
def Iq (xs:List UInt8):Nat->Nat
 |0=>0
 |k+1=>if decide (xs.length<k+1+4)&&eb (ap xs (k+1)) then Iq xs k else k+1
def rO (xs:List UInt8):Nat×Nat×Nat:=
 if xs = [] then(0,0,1) else
  let f:=Iq xs (xs.length - 1)
  let r:=bF (xs.drop f)
  if r.2.2=0/\f+r.2.1=xs.length then(r.1,r.2.1,0) else(0,0,2)
theorem i7 (xs:List UInt8)(k i:Nat):ap (xs.drop k) i=ap xs (k+i):=by simp[ap,List.getElem?_drop]
theorem ob (xs:List UInt8)(n:Nat)(hn:n<=4):∀f k,(aG xs n f k).2.1<=4/\(aG xs n f k).2.2<=2
 |0,_=>⟨hn,by simp[aG]⟩
 |f+1,k=>by
  unfold aG;split
  ·simp
  ·split
   ·exact ob xs n hn f (k+1)
   ·simp
theorem nV (xs:List UInt8):(bF xs).2.1<=4/\(bF xs).2.2<=2:=by
 unfold bF;split
 ·simp
 ·split
  ·simp
  ·exact ob xs _ (by have:=fw _ (aK xs 0);omega) _ _
theorem nU (xs:List UInt8)(n:Nat):∀f k,k+f=n->k<=xs.length->(aG xs n f k).2.1<=xs.length
 |0,k,h,hk=>by show n<=_;omega
 |f+1,k,h,hk=>by
  unfold aG;split
  ·exact Zj _
  ·split
   ·exact nU xs n f (k+1) (by omega) (by omega)
   ·exact Zj _
theorem lG (xs:List UInt8):(bF xs).2.1<=xs.length:=by
 unfold bF;split
 ·exact Zj _
 ·rename_i h0
  split
  ·exact Zj _
  ·have:0<xs.length:=List.length_pos_iff.2 h0;exact nU xs _ _ 1 (by omega) (by omega)
def dO (c:Int):Bool:=decide (0<=c)&&decide (c<=1114111)&& !(decide (55296<=c)&&decide (c<=57343))
def bG (c:Int):List UInt8:=
 if dO c then
  if c<128 then [UInt8.ofNat c.toNat]
  else if c<2048 then [UInt8.ofNat (192+c/64).toNat,UInt8.ofNat (128+c % 64).toNat]
  else if c<65536 then [UInt8.ofNat (224+c/4096).toNat,UInt8.ofNat (128+c/64 % 64).toNat,UInt8.ofNat (128+c % 64).toNat]
  else [UInt8.ofNat (240+c/262144).toNat,UInt8.ofNat (128+c/4096 % 64).toNat,UInt8.ofNat (128+c/64 % 64).toNat,UInt8.ofNat (128+c % 64).toNat]
 else []
theorem gC (c:Int):(bG c).length<=4:=by
 unfold bG
 repeat' split
 all_goals simp
theorem aI (n:Int)(h:0<=n/\n<256):(((UInt8.ofNat n.toNat).toNat:Nat):Int)=n:=by
 rw[UInt8.toNat_ofNat'];omega
def fV (xs:List UInt8):Nat->Nat->List (Nat×Nat)
 |0,_=> []
 |f+1,k=>if(bF (xs.drop k)).2.2=0 then(k,(bF (xs.drop k)).1)::fV xs f (k+ (bF (xs.drop k)).2.1) else []
def eV (xs:List UInt8):List (Nat×Nat):=fV xs (xs.length+1) 0
theorem mn (xs:List UInt8)(n:Nat):∀f k,(aG xs n f k).2.2=0->(aG xs n f k).2.1=n
 |0,_,_=>rfl
 |f+1,k,h=>by
  unfold aG at h ⊢;split
  ·rename_i hk;rw[if_pos hk] at h;simp at h
  ·rename_i hk;rw[if_neg hk] at h;split
   ·rename_i ho;rw[if_pos ho] at h;exact mn xs n f (k+1) h
   ·rename_i ho;rw[if_neg ho] at h;simp at h
theorem eO (h:(bF xs).2.2=0):1<=(bF xs).2.1:=by
 unfold bF at h ⊢;split
 ·rename_i h0;rw[if_pos h0] at h;simp at h
 ·rename_i h0;rw[if_neg h0] at h;split
  ·rename_i hc;rw[if_pos hc] at h;simp at h
  ·rename_i hc;rw[if_neg hc] at h;rw[mn _ _ _ _ h];omega
theorem gI (xs:List UInt8)(k:Nat)(hk:k<=xs.length):k+ (bF (xs.drop k)).2.1<=xs.length:=by
 have:=lG (xs.drop k);rw[List.length_drop] at this;omega
theorem yl {f k:Nat}(h:(bF (xs.drop k)).2.2≠0):fV xs f k = []:=by
 cases f with
 |zero=>rfl
 |succ f=>unfold fV;rw[if_neg h]
theorem xg {f k:Nat}(h:(bF (xs.drop k)).2.2=0):fV xs (f+1) k= (k,(bF (xs.drop k)).1)::fV xs f (k+ (bF (xs.drop k)).2.1):=by
 rw[fV,if_pos h]
theorem nS (x:Nat)(h:x<256):eb x=decide (128<=x/\x<192):=by
 have h':∀x:Nat,x<256->eb (x:Int)=decide (128<=x/\x<192):=by decide +kernel
 exact h' x h
theorem xY (x y:Nat)(hy:y<256):dN x y= (if x=224 then decide (160<=y/\y<=191) else if x=237 then decide (128<=y/\y<=159) else if x=240 then decide (144<=y/\y<=191) else if x=244 then decide (128<=y/\y<=143) else decide (128<=y/\y<192)):=by
 unfold dN;rw[nS y hy,Bool.eq_iff_iff]
 by_cases h1:x=224
 ·subst h1;simp <;> omega
 by_cases h2:x=237
 ·subst h2;simp <;> omega
 by_cases h3:x=240
 ·subst h3;simp <;> omega
 by_cases h4:x=244
 ·subst h4;simp <;> omega
 have e1:¬ (x:Int)=224:=by omega
 have e2:¬ (x:Int)=237:=by omega
 have e3:¬ (x:Int)=240:=by omega
 have e4:¬ (x:Int)=244:=by omega
 simp only[e1,e2,e3,e4,h1,h2,h3,h4,if_false]
theorem ce (x:Nat)(h:x<256):(bl x=1↔x<128)/\(bl x=2↔194<=x/\x<=223)/\(bl x=3↔224<=x/\x<=239)/\(bl x=4↔240<=x/\x<=244):=by
 have h':∀x:Nat,x<256->((bl (x:Int)=1↔x<128)/\(bl (x:Int)=2↔194<=x/\x<=223)/\(bl (x:Int)=3↔224<=x/\x<=239)/\(bl (x:Int)=4↔240<=x/\x<=244)):=by decide +kernel
 exact h' x h
theorem b8 (a:UInt8):a.toNat<256:=a.toNat_lt
theorem uB (a:UInt8)(t:List UInt8):ap (a::t) 0=a.toNat:=rfl
theorem iO (a b:UInt8)(t:List UInt8):ap (a::b::t) 1=b.toNat:=rfl
theorem kH (a b c:UInt8)(t:List UInt8):ap (a::b::c::t) 2=c.toNat:=rfl
theorem GO (a b c d:UInt8)(t:List UInt8):ap (a::b::c::d::t) 3=d.toNat:=rfl
def jh (a b:Nat):Prop:=128<=b/\b<192/\(a=224->160<=b)/\(a=237->b<=159)/\(a=240->144<=b)/\(a=244->b<=143)
instance (a b:Nat):Decidable (jh a b):=by unfold jh;exact inferInstance
def tl (b:Nat):Prop:=128<=b/\b<192
instance (b:Nat):Decidable (tl b):=by unfold tl;exact inferInstance
theorem Gd (x y:Nat)(hy:y<256):(dN x y&&eb y)=decide (jh x y):=by
 rw[xY x y hy,nS y hy,Bool.eq_iff_iff];unfold jh
 by_cases h1:x=224
 ·subst h1;simp;omega
 by_cases h2:x=237
 ·subst h2;simp;omega
 by_cases h3:x=240
 ·subst h3;simp;omega
 by_cases h4:x=244
 ·subst h4;simp;omega
 simp only[h1,h2,h3,h4,if_false,Bool.and_eq_true,decide_eq_true_eq,false_implies,and_true];omega
theorem FL (y:Nat)(hy:y<256):eb y=decide (tl y):=nS y hy
theorem qC (a b:UInt8)(t:List UInt8):pE (a::b::t) 1=decide (jh a.toNat b.toNat):=by
 rw[k7 (uB _ _) (iO ..)];exact Gd _ _ (b8 b)
theorem Ef (a b c:UInt8)(t:List UInt8):pE (a::b::c::t) 2=decide (tl c.toNat):=by
 rw[jJ (by decide) (kH ..)];exact FL _ (b8 c)
theorem I7 (a b c d:UInt8)(t:List UInt8):pE (a::b::c::d::t) 3=decide (tl d.toNat):=by
 rw[jJ (by decide) (GO ..)];exact FL _ (b8 d)
theorem xq (a:UInt8)(t:List UInt8)(h:a.toNat<128):bF (a::t)= (a.toNat,1,0):=by
 rw[lZ (xs:=a::t) (n:=1) (by simp) (by omega) (by rw[uB,((ce _ (b8 a)).1).2 h];rfl)];simp[aG,eu,cQ,uB]
theorem GX (a:UInt8)(t:List UInt8)(h:¬a.toNat<128)(h2:¬ (194<=a.toNat/\a.toNat<=244)):bF (a::t)= (0,0,2):=by
 apply C7 (by simp)
 have hc:=ce _ (b8 a);rcases fw _ (b8 a) with h'|h'|h'|h'|h'
 ·exact h'
 ·have:=hc.1.1 h';omega
 ·have:=hc.2.1.1 h';omega
 ·have:=hc.2.2.1.1 h';omega
 ·have:=hc.2.2.2.1 h';omega
theorem wQ (a:UInt8)(t:List UInt8)(h:194<=a.toNat/\a.toNat<=223):bF (a::t)=match t with
  | []=>(0,0,1)
  |b::_=>if jh a.toNat b.toNat then((a.toNat % 32)*64+b.toNat % 64,2,0) else(0,0,2):=by
 rw[lZ (xs:=a::t) (n:=2) (by simp) (by omega) (by rw[uB,((ce _ (b8 a)).2.1).2 h];rfl)]
 cases t with
 |nil=>simp[aG]
 |cons b t=>simp[aG,eu,cQ,uB,iO,qC]
theorem xJ (a:UInt8)(t:List UInt8)(h:224<=a.toNat/\a.toNat<=239):bF (a::t)=match t with
  | []=>(0,0,1)
  | [b]=>if jh a.toNat b.toNat then(0,0,1) else(0,0,2)
  |b::c::_=>if jh a.toNat b.toNat then(if tl c.toNat then(((a.toNat % 16)*64+b.toNat % 64)*64+c.toNat % 64,3,0) else(0,0,2)) else(0,0,2):=by
 rw[lZ (xs:=a::t) (n:=3) (by simp) (by omega) (by rw[uB,((ce _ (b8 a)).2.2.1).2 h];rfl)]
 match t with
 | []=>simp[aG]
 | [b]=>simp[aG,qC]
 |b::c::t=>simp[aG,eu,cQ,uB,iO,kH,qC,Ef]
theorem xU (a:UInt8)(t:List UInt8)(h:240<=a.toNat/\a.toNat<=244):bF (a::t)=match t with
  | []=>(0,0,1)
  | [b]=>if jh a.toNat b.toNat then(0,0,1) else(0,0,2)
  | [b,c]=>if jh a.toNat b.toNat then(if tl c.toNat then(0,0,1) else(0,0,2)) else(0,0,2)
  |b::c::d::_=>if jh a.toNat b.toNat then(if tl c.toNat then(if tl d.toNat then((((a.toNat % 8)*64+b.toNat % 64)*64+c.toNat % 64)*64+d.toNat % 64,4,0) else(0,0,2)) else(0,0,2)) else(0,0,2):=by
 rw[lZ (xs:=a::t) (n:=4) (by simp) (by omega) (by rw[uB,((ce _ (b8 a)).2.2.2).2 h];rfl)]
 match t with
 | []=>simp[aG]
 | [b]=>simp[aG,qC]
 | [b,c]=>simp[aG,qC,Ef]
 |b::c::d::t=>simp[aG,eu,cQ,uB,iO,kH,GO,qC,Ef,I7]
theorem jV {a:UInt8}(h:n=a.toNat):UInt8.ofNat n=a:=by rw[h];exact UInt8.ofNat_toNat
theorem cB (c:Nat):dO c=decide (c<=1114111/\¬ (55296<=c/\c<=57343)):=by
 unfold dO;rw[Bool.eq_iff_iff];simp;omega
theorem mz (c:Nat)(h:c<128):bG c = [UInt8.ofNat c]:=by
 have hr:dO c=true:=by rw[cB];simp;omega
 rw[bG,if_pos hr,if_pos (by omega)];rfl
theorem qA (c:Nat)(h:128<=c/\c<2048):bG c = [UInt8.ofNat (192+c/64),UInt8.ofNat (128+c % 64)]:=by
 have hr:dO c=true:=by rw[cB];simp;omega
 rw[bG,if_pos hr,if_neg (by omega),if_pos (by omega),show(192+ (c:Int)/64).toNat=192+c/64 by omega,show(128+ (c:Int) % 64).toNat=128+c % 64 by omega]
theorem oZ (c:Nat)(h:2048<=c/\c<65536)(h':¬ (55296<=c/\c<=57343)):bG c = [UInt8.ofNat (224+c/4096),UInt8.ofNat (128+c/64 % 64),UInt8.ofNat (128+c % 64)]:=by
 have hr:dO c=true:=by rw[cB];simp;omega
 rw[bG,if_pos hr,if_neg (by omega),if_neg (by omega),if_pos (by omega),show(224+ (c:Int)/4096).toNat=224+c/4096 by omega,show(128+ (c:Int)/64 % 64).toNat=128+c/64 % 64 by omega,show(128+ (c:Int) % 64).toNat=128+c % 64 by omega]
theorem qx (c:Nat)(h:65536<=c/\c<=1114111):bG c = [UInt8.ofNat (240+c/262144),UInt8.ofNat (128+c/4096 % 64),UInt8.ofNat (128+c/64 % 64),UInt8.ofNat (128+c % 64)]:=by
 have hr:dO c=true:=by rw[cB];simp;omega
 rw[bG,if_pos hr,if_neg (by omega),if_neg (by omega),if_neg (by omega),show(240+ (c:Int)/262144).toNat=240+c/262144 by omega,show(128+ (c:Int)/4096 % 64).toNat=128+c/4096 % 64 by omega,show(128+ (c:Int)/64 % 64).toNat=128+c/64 % 64 by omega,show(128+ (c:Int) % 64).toNat=128+c % 64 by omega]
theorem lT (h:(bF xs).2.2=0) :
  (∃a t,xs=a::t/\a.toNat<128/\bF xs= (a.toNat,1,0))\/
  (∃a b t,xs=a::b::t/\(194<=a.toNat/\a.toNat<=223)/\jh a.toNat b.toNat/\bF xs= ((a.toNat % 32)*64+b.toNat % 64,2,0))\/
  (∃a b c t,xs=a::b::c::t/\(224<=a.toNat/\a.toNat<=239)/\jh a.toNat b.toNat/\tl c.toNat/\bF xs= (((a.toNat % 16)*64+b.toNat % 64)*64+c.toNat % 64,3,0))\/
  (∃a b c d t,xs=a::b::c::d::t/\(240<=a.toNat/\a.toNat<=244)/\jh a.toNat b.toNat/\tl c.toNat/\tl d.toNat/\bF xs= ((((a.toNat % 8)*64+b.toNat % 64)*64+c.toNat % 64)*64+d.toNat % 64,4,0)):=by
 cases xs with
 |nil=>simp[bF] at h
 |cons a t=>
  by_cases h1:a.toNat<128
  ·exact .inl ⟨a,t,rfl,h1,xq a t h1⟩
  by_cases h2:194<=a.toNat/\a.toNat<=223
  ·have e:=wQ a t h2
   match t with
   | []=>rw[e] at h;simp at h
   |b::t=>
    by_cases hs:jh a.toNat b.toNat
    ·simp only[hs,if_true] at e;exact .inr (.inl ⟨a,b,t,rfl,h2,hs,e⟩)
    ·rw[e] at h;simp[hs] at h
  by_cases h3:224<=a.toNat/\a.toNat<=239
  ·have e:=xJ a t h3
   match t with
   | []=>rw[e] at h;simp at h
   | [b]=>rw[e] at h;by_cases hs:jh a.toNat b.toNat <;> simp[hs] at h
   |b::c::t=>
    by_cases hs:jh a.toNat b.toNat
    ·by_cases ht:tl c.toNat
     ·simp only[hs,ht,if_true] at e;exact .inr (.inr (.inl ⟨a,b,c,t,rfl,h3,hs,ht,e⟩))
     ·rw[e] at h;simp[hs,ht] at h
    ·rw[e] at h;simp[hs] at h
  by_cases h4:240<=a.toNat/\a.toNat<=244
  ·have e:=xU a t h4
   match t with
   | []=>rw[e] at h;simp at h
   | [b]=>rw[e] at h;by_cases hs:jh a.toNat b.toNat <;> simp[hs] at h
   | [b,c]=>rw[e] at h;by_cases hs:jh a.toNat b.toNat <;> by_cases ht:tl c.toNat <;> simp[hs,ht] at h
   |b::c::d::t=>
    by_cases hs:jh a.toNat b.toNat
    ·by_cases ht:tl c.toNat
     ·by_cases hd:tl d.toNat
      ·simp only[hs,ht,hd,if_true] at e;exact .inr (.inr (.inr ⟨a,b,c,d,t,rfl,h4,hs,ht,hd,e⟩))
      ·rw[e] at h;simp[hs,ht,hd] at h
     ·rw[e] at h;simp[hs,ht] at h
    ·rw[e] at h;simp[hs] at h
  ·have e:=GX a t h1 (by omega);rw[e] at h;simp at h
theorem iL (h:(bF xs).2.2=0):bG (bF xs).1=xs.take (bF xs).2.1/\dO (bF xs).1=true:=by
 rcases lT h with ⟨a,t,rfl,h1,e⟩|⟨a,b,t,rfl,h1,hs,e⟩|⟨a,b,c,t,rfl,h1,hs,ht,e⟩|⟨a,b,c,d,t,rfl,h1,hs,ht,hd,e⟩ <;> rw[e] <;> simp only
 ·exact⟨by rw[mz _ h1,jV rfl];rfl,by rw[cB];simp;omega⟩
 ·unfold jh at hs;have hb:=b8 b;refine⟨?_,by rw[cB];simp;omega⟩;rw[qA _ (by omega),jV (a:=a) (by omega),jV (a:=b) (by omega)];rfl
 ·unfold jh at hs;unfold tl at ht;have hb:=b8 b;have hc:=b8 c;refine⟨?_,by rw[cB];simp;omega⟩;rw[oZ _ (by omega) (by omega),jV (a:=a) (by omega),jV (a:=b) (by omega),jV (a:=c) (by omega)];rfl
 ·unfold jh at hs;unfold tl at ht hd;have hb:=b8 b;have hc:=b8 c;have a0:=b8 d;refine⟨?_,by rw[cB];simp;omega⟩;rw[qx _ (by omega),jV (a:=a) (by omega),jV (a:=b) (by omega),jV (a:=c) (by omega),jV (a:=d) (by omega)];rfl
theorem nE {c:Int}(h:dO c=true):bG c≠ []:=by
 rw[bG,if_pos h];repeat' split
 all_goals simp
theorem em {c:Int}(h:dO c=true):0<=c:=by simp[dO] at h;omega
theorem bR (n:Nat)(h:n<256):(UInt8.ofNat n).toNat=n:=by rw[UInt8.toNat_ofNat'];omega
theorem ix (c:Nat)(h:dO c=true)(ys:List UInt8):bF (bG c++ys)= (c,(bG c).length,0):=by
 rw[cB] at h;simp only[decide_eq_true_eq] at h
 by_cases h1:c<128
 ·rw[mz c h1];have e:=bR c (by omega);rw[List.singleton_append,xq _ _ (by omega),e];rfl
 by_cases h2:c<2048
 ·rw[qA c (by omega)];have e1:=bR (192+c/64) (by omega);have e2:=bR (128+c % 64) (by omega);rw[List.cons_append,wQ _ _ (by omega)];simp only[List.cons_append,List.nil_append,e1,e2];rw[if_pos (by unfold jh;omega)];simp only[Prod.mk.injEq,List.length_cons,List.length_nil,and_true];omega
 by_cases h3:c<65536
 ·rw[oZ c (by omega) (by omega)];have e1:=bR (224+c/4096) (by omega);have e2:=bR (128+c/64 % 64) (by omega);have e3:=bR (128+c % 64) (by omega);rw[List.cons_append,xJ _ _ (by omega)];simp only[List.cons_append,List.nil_append,e1,e2,e3];rw[if_pos (by unfold jh;omega),if_pos (by unfold tl;omega)];simp only[Prod.mk.injEq,List.length_cons,List.length_nil,and_true];omega
 ·rw[qx c (by omega)];have e1:=bR (240+c/262144) (by omega);have e2:=bR (128+c/4096 % 64) (by omega);have e3:=bR (128+c/64 % 64) (by omega);have e4:=bR (128+c % 64) (by omega);rw[List.cons_append,xU _ _ (by omega)];simp only[List.cons_append,List.nil_append,e1,e2,e3,e4];rw[if_pos (by unfold jh;omega),if_pos (by unfold tl;omega),if_pos (by unfold tl;omega)];simp only[Prod.mk.injEq,List.length_cons,List.length_nil,and_true];omega
theorem Bp (c:Nat)(h:dO c=true):∃ (a:UInt8) (t:List UInt8),bG c=a::t/\t.length<=3/\¬tl a.toNat/\(∀x∈t,tl x.toNat)/\bl a.toNat= ((t.length+1:Nat):Int):=by
 rw[cB] at h;simp only[decide_eq_true_eq] at h
 by_cases h1:c<128
 ·rw[mz c h1];have e:=bR c (by omega);exact⟨_,_,rfl,by simp,by rw[e];unfold tl;omega,by simp,by rw[e,(ce _ (by omega)).1.2 h1];rfl⟩
 by_cases h2:c<2048
 ·rw[qA c (by omega)];have e1:=bR (192+c/64) (by omega);have e2:=bR (128+c % 64) (by omega);refine⟨_,_,rfl,by simp,by rw[e1];unfold tl;omega,?_,by rw[e1,(ce _ (by omega)).2.1.2 (by omega)];rfl⟩;intro x hx;simp only[List.mem_singleton] at hx;subst hx;rw[e2];unfold tl;omega
 by_cases h3:c<65536
 ·rw[oZ c (by omega) (by omega)];have e1:=bR (224+c/4096) (by omega);have e2:=bR (128+c/64 % 64) (by omega);have e3:=bR (128+c % 64) (by omega);refine⟨_,_,rfl,by simp,by rw[e1];unfold tl;omega,?_,by rw[e1,(ce _ (by omega)).2.2.1.2 (by omega)];rfl⟩;intro x hx;simp only[List.mem_cons,List.not_mem_nil,or_false] at hx;rcases hx with rfl|rfl
  ·rw[e2];unfold tl;omega
  ·rw[e3];unfold tl;omega
 ·rw[qx c (by omega)];have e1:=bR (240+c/262144) (by omega);have e2:=bR (128+c/4096 % 64) (by omega);have e3:=bR (128+c/64 % 64) (by omega);have e4:=bR (128+c % 64) (by omega);refine⟨_,_,rfl,by simp,by rw[e1];unfold tl;omega,?_,by rw[e1,(ce _ (by omega)).2.2.2.2 (by omega)];rfl⟩;intro x hx;simp only[List.mem_cons,List.not_mem_nil,or_false] at hx;rcases hx with rfl|rfl|rfl
  ·rw[e2];unfold tl;omega
  ·rw[e3];unfold tl;omega
  ·rw[e4];unfold tl;omega
theorem jK {a b:UInt8}{x y:List UInt8}(h:a.toNat<b.toNat):Op.bytesLess (a::x) (b::y)=true/\Op.bytesLess (b::y) (a::x)=false:=by
 have h1:a<b:=h;have h2:¬b<a:=fun h'=>by have:b.toNat<a.toNat:=h';omega
 have h3:b≠a:=fun e=>by subst e;omega
 simp[Op.bytesLess,h1,h2,h3]
theorem te (xs:List UInt8):∀f k,k<=xs.length->(fV xs f k).length<=xs.length - k
 |0,k,_=>Zj _
 |f+1,k,hk=>by
  unfold fV
  split
  ·rename_i h
   have h1:=eO h;have h2:=gI xs k hk;have h3:=te xs f (k+ (bF (xs.drop k)).2.1) h2;simp only[List.length_cons];omega
  ·exact Zj _
theorem CQ (xs:List UInt8):(eV xs).length<=xs.length:=te xs _ 0 (Zj _)
def ib (x n:Int):Int:=if n=2 then x - 192 else if n=3 then x - 224 else if n=4 then x - 240 else x
def gW (xs:List UInt8)(fill:Int)(i:Nat):Int:=if i<xs.length then(ap xs i:Int) - 128 else fill
def gK (xs:List UInt8)(n fill:Int):Nat->Int
 |0=>ib (ap xs 0) n
 |k+1=>gK xs n fill k*64+gW xs fill (k+1)
theorem sQ (xs:List UInt8)(hf:0<=fill/\fill<=63)(i:Nat): -128<=gW xs fill i/\gW xs fill i<=127:=by
 unfold gW;have:=aK xs i
 split <;> omega
theorem D7 (xs:List UInt8)(n:Int): -256<=ib (ap xs 0) n/\ib (ap xs 0) n<=256:=by
 have:=aK xs 0;unfold ib
 split
 ·omega
 ·split
  ·omega
  ·split <;> omega
theorem Eu (xs:List UInt8)(n:Int)(hf:0<=fill/\fill<=63)(k:Nat)(hk:k<=3): -100000000<=gK xs n fill k/\gK xs n fill k<=100000000:=by
 have h0:=D7 xs n;have h1:=sQ xs hf 1;have h2:=sQ xs hf 2;have h3:=sQ xs hf 3;have a0:k=0\/k=1\/k=2\/k=3:=by omega
 rcases a0 with rfl|rfl|rfl|rfl <;> simp only[gK,Nat.zero_add,Nat.reduceAdd] <;> omega
def fu (xs:List UInt8):Nat->Bool
 |0=>true
 |k+1=>fu xs k&& (decide (128<=ap xs (k+1))&&decide (ap xs (k+1)<=191))
theorem FB (hn:bl (ap xs 0)=n){c:Int}(hr:dO c=true)(hb:xs.take (bG c).length=bG c):bF xs= (c.toNat,n,0):=by
 have hcn:((c.toNat:Nat):Int)=c:=by have:=em hr;omega
 obtain⟨a,t,e,-,-,-,a0⟩:=Bp c.toNat (by rw[hcn];exact hr);rw[hcn] at e;have hx:xs=bG c++xs.drop (bG c).length:=by
  have:=List.take_append_drop (bG c).length xs;rw[hb] at this;exact this.symm
 have hd:=ix c.toNat (by rw[hcn];exact hr) (xs.drop (bG c).length);rw[hcn,<-hx] at hd;have a1:ap xs 0=a.toNat:=by rw[hx,e];simp[ap]
 have hl:(bG c).length=n:=by
  rw[a1,a0] at hn;rw[e];simp only[List.length_cons];omega
 rw[hd,hl]
theorem D2 (h:(bF xs).2.2=0):∃n:Nat,1<=n/\n<=4/\bl (ap xs 0)=n/\fu xs (n - 1)=true/\gK xs n 0 (n - 1)= (bF xs).1/\dO (bF xs).1=true/\xs.take (bG (bF xs).1).length=bG (bF xs).1:=by
 obtain⟨hf,hr⟩:=iL h;have a0:xs.take (bG (bF xs).1).length=bG (bF xs).1:=by
  rw[hf,List.length_take]
  by_cases hle:(bF xs).2.1<=xs.length
  ·rw[Nat.min_eq_left hle]
  ·rw[Nat.min_eq_right (by omega),List.take_length,List.take_of_length_le (by omega)]
 rcases lT h with ⟨a,t,rfl,h1,e⟩|⟨a,b,t,rfl,h1,hs,e⟩|⟨a,b,c,t,rfl,h1,hs,ht,e⟩|⟨a,b,c,d,t,rfl,h1,hs,ht,hd,e⟩
 all_goals
  have ha:=b8 a;rw[e] at hr a0 ⊢;simp only at hr a0 ⊢
 ·exact⟨1,by omega,by omega,by simp only[ap,List.getD_cons_zero];exact(ce _ (by omega)).1.2 h1,rfl,by simp[gK,ib,ap],hr,a0⟩
 ·have hb:=b8 b;unfold jh at hs;refine⟨2,by omega,by omega,by simp only[ap,List.getD_cons_zero];exact(ce _ (by omega)).2.1.2 h1,?_,?_,hr,a0⟩
  ·simp[fu,ap];omega
  ·simp[gK,ib,gW,ap];omega
 ·have hb:=b8 b;have hc:=b8 c;unfold jh at hs;unfold tl at ht;refine⟨3,by omega,by omega,by simp only[ap,List.getD_cons_zero];exact(ce _ (by omega)).2.2.1.2 h1,?_,?_,hr,a0⟩
  ·simp[fu,ap];omega
  ·simp[gK,ib,gW,ap];omega
 ·have hb:=b8 b;have hc:=b8 c;have a1:=b8 d;unfold jh at hs;unfold tl at ht hd;refine⟨4,by omega,by omega,by simp only[ap,List.getD_cons_zero];exact(ce _ (by omega)).2.2.2.2 h1,?_,?_,hr,a0⟩
  ·simp[fu,ap];omega
  ·simp[gK,ib,gW,ap];omega
theorem mf (xs:List UInt8)(n:Nat):∀f k,(aG xs n f k).2.2≠0->aG xs n f k= (0,0,(aG xs n f k).2.2)
 |0,_,h=>absurd rfl h
 |f+1,k,h=>by
  unfold aG at h ⊢;split
  ·rfl
  ·rename_i hk;rw[if_neg hk] at h;split
   ·rename_i ho;rw[if_pos ho] at h;exact mf xs n f (k+1) h
   ·rfl
theorem gH (h:(bF xs).2.2≠0):bF xs= (0,0,(bF xs).2.2):=by
 unfold bF at h ⊢;split
 ·rfl
 ·rename_i h0;rw[if_neg h0] at h;split
  ·rfl
  ·rename_i hc;rw[if_neg hc] at h;exact mf _ _ _ _ h
theorem Bf {x:Int}(h0:0<=x)(h1:x<2147483648):wrap32 x=x:=by
 unfold wrap32;omega
theorem Ci {c:Int}(h:dO c=true):c<=1114111:=by
 simp only[dO,Bool.and_eq_true,decide_eq_true_eq] at h;exact h.1.2
def iK (x:Int):Int:=if x<128 then 1 else if x<192 then 0 else if 194<=x/\x<=223 then 2 else if 224<=x/\x<=239 then 3 else if 240<=x/\x<=244 then 4 else -1
theorem E7 (x:Nat)(h:x<256):iK x=bl x:=by
 have h':∀x:Nat,x<256->iK (x:Int)=bl (x:Int):=by decide +kernel
 exact h' x h
def Bs (w:World)(v:Value)(xs:List UInt8):Prop:=
 xs.length<=9223372036854775807/\∃A c,v =.slice A xs.length c/\xs.length<=c/\(0<xs.length->∃b o,A=some ⟨b,o,none⟩/\∀i,i<xs.length->w.cell? ⟨b,o+i,none⟩=some (.int .u8 (ap xs i)))
theorem Bs.drewN (h:Bs w v xs)(m:Nat):Bs (w.drewN m) v xs:=h
theorem Bs.below (h:Bs w v xs)(hb:Below w.heap.size w w'):Bs w' v xs:=by
 obtain⟨hm,A,c,e,hc,a0⟩:=h;refine⟨hm,A,c,e,hc,fun h0=>?_⟩;obtain⟨b,o,e,a1⟩:=a0 h0;exact⟨b,o,e,fun i hi=>Zf hb (a1 i hi)⟩
theorem Bs.cut {b o:Nat}(h:Bs w (.slice (some ⟨b,o,none⟩) xs.length c) xs){k:Nat}(hk:k<=xs.length) :
  Bs w (.slice (some ⟨b,o+k,none⟩) (xs.length - k) (c - k)) (xs.drop k):=by
 obtain⟨hm,A,c',e,hc,a0⟩:=h;injection e with e1 e2 e3
 subst e1 e3;refine⟨by simp;omega,_,_,by rw[List.length_drop],by simp;omega,fun h=>⟨b,o+k,rfl,fun i hi=>?_⟩⟩;simp at h hi;obtain⟨b',o',e,a1⟩:=a0 (by omega);injection e with e;injection e with e e';subst e e'
 rw[Nat.add_assoc,i7];exact a1 (k+i) (by omega)
theorem Cu:(Tryz.prog.info? 5).map (fun i=>(i.zero,i.size,i.bytes))=some (some (.int .u8 0),1,1):=by kernel_rfl
def bv (c:UInt8):Value:=.int .u8 c.toNat
def gS (xs:List UInt8):List Value:=xs.map bv
theorem zp (xs:List UInt8):(gS xs).length=xs.length:=by simp[gS]
theorem nT (xs ys:List UInt8):gS (xs++ys)=gS xs++gS ys:=by simp[gS]
theorem Ev (xs:List UInt8):∀u∈gS xs,u.oneCell'=true:=by
 intro u hu;obtain⟨c,_,rfl⟩:=List.mem_map.1 hu;rfl
theorem m7 (xs:List UInt8)(i:Nat)(h:i<xs.length):(gS xs)[i]?=some (.int .u8 (ap xs i)):=by
 simp[gS,bv,ap,Zc h]
def au (w:World)(base:Nat)(v:Value)(ys:List UInt8):Prop:=w.ownsRow base 5 1 v ys.length (gS ys)
theorem Bs.cellsAt {ad:Addr}(hr:Bs w (.slice (some ad) m c) xs):m=xs.length/\∀j u,(gS xs)[j]?=some u->w.cell? (ad.add j)=some u:=by
 obtain⟨_,A,c',e,_,hc⟩:=hr;injection e with e1 e2 e3
 refine⟨e2,fun j u hu=>?_⟩;have hj:j<xs.length:=by have:=(List.getElem?_eq_some_iff.1 hu).1;rwa[zp] at this
 obtain⟨b,o,e,a0⟩:=hc (by omega);rw[<-e1] at e;injection e with e
 subst e;rw[m7 xs j hj] at hu;injection hu with hu
 subst hu;have:=a0 j hj;unfold Addr.add
 split
 ·rename_i h0;subst h0;simpa using this
 ·exact this
theorem oa (w:World)(base:Nat)(ty:TypeId)(v:Value)(n:Nat)(xs:List Value)(a0:w.ownsRow base 5 1 v n xs)(c:Nat) :
  (Builtin.append_ #[22,22] ty #[v,.slice none 0 c]).run Tryz.prog w =.ok v w:=by
 obtain⟨i0,hi,a3,a4,a2⟩:=info_parts Cu;rcases a0.2 with ⟨rfl,rfl⟩|⟨g,cap,cur,rfl,_,_,a1,_⟩
 ·simp[Builtin.append_,run_underlying Tryz.underlying22,sizeOf,typeInfo,hi,Builtin.lenOf,Builtin.firstCells]
 ·simp[Builtin.append_,run_underlying Tryz.underlying22,sizeOf,typeInfo,hi,Builtin.lenOf,Builtin.firstCells,a1,storeCells]
theorem pg (w:World)(base:Nat)(ty:TypeId)(v u:Value)(ys xs:List UInt8)(a0:au w base v ys)(hr:Bs w u xs)(hlen:ys.length+xs.length<=140737488355328)(a2:base<=w.heap.size) :
  ∃v' w',(Builtin.append_ #[22,22] ty #[v,u]).run Tryz.prog w =.ok v' w'/\au w' base v' (ys++xs)/\w.grownBy w' v.ownBlock/\(v'.ownBlock=v.ownBlock\/v'.ownBlock=some w.heap.size):=by
 obtain⟨i0,hi,a7,a6,a5⟩:=info_parts Cu;have a9:=hr;obtain⟨_,A,c,rfl,hc,_⟩:=a9
 cases A with
 |none=>
  obtain rfl:xs = []:=by
   obtain⟨_,A',c',e,_,a3⟩:=hr;rcases Nat.eq_zero_or_pos xs.length with h0|h0
   ·exact List.eq_nil_of_length_eq_zero h0
   ·obtain⟨b,o,e',_⟩:=a3 h0;exact absurd ((Value.slice.inj e).1.trans e') (fun h=>by cases h)
  have h0:=oa w base ty v ys.length (gS ys) a0 c;refine⟨v,w,?_,?_,World.grownBy.refl w _,.inl rfl⟩
  ·exact h0
  ·rw[List.append_nil];exact a0
 |some ad=>
  obtain⟨_,a1⟩:=hr.cellsAt;obtain⟨v',w',a4,h2,h3,_,h5⟩:=run_append_own_at (P:=Tryz.prog) w base 22 ty 5 i0 (.int .u8 0) 1 1 Tryz.underlying22 hi a7 a6 a5 rfl (by decide) v ys.length (gS ys) a0 ad xs.length c (gS xs)
   (by rw[zp];omega) a1 (Ev xs) (by unfold maxLen;omega) (by omega) a2
  exact⟨v',w',a4,by unfold au;rw[nT,List.length_append];exact h2,h3,h5⟩
theorem su {o:Oper}{a:Act}{K:Act->World->Prop}{Q:Exit->Act->World->Prop}(w:World)(s x:Operand)
  (ho:o.op =.call {callee:=.builtin .append,args:= #[s,x],argTypes:= #[22,22]})
  (base:Nat) (v u:Value) (ys xs:List UInt8) (hs:a.eval s=v) (a1:au w base v ys) (hx:a.eval x=u) (hr:Bs w u xs)
  (hlen:ys.length+xs.length<=140737488355328) (a0:base<=w.heap.size)
  (h:∀v' w',au w' base v' (ys++xs)->w.grownBy w' v.ownBlock->(v'.ownBlock=v.ownBlock\/v'.ownBlock=some w.heap.size)->K (a.put o.dst v') w'):o.wp Tryz.prog a w K Q:=by
 obtain⟨v',w',a2,h2,h3,h4⟩:=pg w base o.type v u ys xs a1 hr hlen a0;unfold Oper.wp execOp;simp only[ho,resolve,invoke,builtin,Sem.run_bind,Sem.run_pure,Result.andThen_ok,List.map_toArray,List.map_cons,List.map_nil,hs,hx,a2];exact h v' w' h2 h3 h4
theorem lD {ops:Array Oper}{rest:List Oper}{o:Oper}{a:Act}{Q:Exit->Act->World->Prop}(a2:o.guard=none)(s x:Operand)
  (ho:o.op =.call {callee:=.builtin .append,args:= #[s,x],argTypes:= #[22,22]})
  (base:Nat) (v u:Value) (ys xs:List UInt8) (hs:a.eval s=v) (a1:au w base v ys) (hx:a.eval x=u) (hr:Bs w u xs)
  (hlen:ys.length+xs.length<=140737488355328) (a0:base<=w.heap.size)
  (h:∀v' w',au w' base v' (ys++xs)->w.grownBy w' v.ownBlock->(v'.ownBlock=v.ownBlock\/v'.ownBlock=some w.heap.size)->wpList Tryz.prog ops Q rest (a.put o.dst v') w'):wpList Tryz.prog ops Q (o::rest) a w:=
 wpList_plain a2 fun _ hK=>su w s x ho base v u ys xs hs a1 hx hr hlen a0 fun v' w' h2 h3 h4=>hK _ _ (h v' w' h2 h3 h4)
theorem pW {ops:Array Oper}{rest:List Oper}{o:Oper}{a:Act}{Q:Exit->Act->World->Prop}{s x:Operand}(a1:au w base v ys)(hr:Bs w u xs)(hlen:ys.length+xs.length<=140737488355328)(a0:base<=w.heap.size)
  (h:∀v' w',au w' base v' (ys++xs)->w.grownBy w' v.ownBlock->(v'.ownBlock=v.ownBlock\/v'.ownBlock=some w.heap.size)->wpList Tryz.prog ops Q rest (a.put o.dst v') w')
  (ho:o.op =.call {callee:=.builtin .append,args:= #[s,x],argTypes:= #[22,22]}:=by exact rfl) (a2:o.guard=none:=by exact rfl) (hs:a.eval s=v:=by exact rfl) (hx:a.eval x=u:=by exact rfl):wpList Tryz.prog ops Q (o::rest) a w:=
 lD a2 s x ho base v u ys xs hs a1 hx hr hlen a0 h
theorem au.bs (h:au w base v ys):Bs w v ys:=by
 obtain⟨_,⟨rfl,h0⟩|⟨g,cap,cur,rfl,_,hg,hn,hm,hs,ht⟩⟩:=h
 ·exact⟨by omega,none,0,by rw[h0],by omega,fun h=>by omega⟩
 ·refine⟨by unfold maxLen at hm;omega,some ⟨g,0,none⟩,cap,rfl,hn,fun _=>⟨g,0,rfl,fun i hi=>?_⟩⟩;rw[Nat.zero_add];have e:=m7 ys i hi;rw[<-ht,List.getElem?_take] at e;rw[if_pos (by omega)] at e;simp[World.cell?,hg];simpa using e
theorem au.below (h:au w base v ys)(hb:Below B w w')(hB:w.heap.size<=B):au w' base v ys:=by
 obtain⟨h1,⟨rfl,h0⟩|⟨g,cap,cur,rfl,a0,hg,r⟩⟩:=h
 ·exact⟨h1,.inl ⟨rfl,h0⟩⟩
 ·exact⟨h1,.inr ⟨g,cap,cur,rfl,a0,(hb.block g (Nat.lt_of_lt_of_le (ae hg) hB)).trans hg,r⟩⟩
theorem au.drewN (h:au w base v ys)(m:Nat):au (w.drewN m) base v ys:=h
theorem au.low (h:au w base v ys)(hb:base'<=base):au w base' v ys:=by
 obtain⟨h1,⟨rfl,h0⟩|⟨g,cap,cur,rfl,a0,r⟩⟩:=h
 ·exact⟨h1,.inl ⟨rfl,h0⟩⟩
 ·exact⟨h1,.inr ⟨g,cap,cur,rfl,Zb hb a0,r⟩⟩
theorem au.grown {row:Option Nat}(h:au w base v ys)(hg:w.grownBy w' row)(hr:∀g,v.ownBlock=some g->row≠some g):au w' base v ys:=by
 obtain⟨h1,⟨rfl,h0⟩|⟨g,cap,cur,rfl,a0,hh,r⟩⟩:=h
 ·exact⟨h1,.inl ⟨rfl,h0⟩⟩
 ·exact⟨h1,.inr ⟨g,cap,cur,rfl,a0,(hg.block g (ae hh) (fun e=>hr g rfl e.symm)).trans hh,r⟩⟩
theorem au.nil (w:World)(base:Nat):au w base (.slice none 0 0) []:=⟨rfl,.inl ⟨rfl,rfl⟩⟩
theorem au.made (hg:w.heap[g]?=some (.cells cur 5 (0,0)))(hb:base<=g)(hc:cap<=maxLen)(hs:cur.size=cap):au w base (.slice (some ⟨g,0,none⟩) 0 cap) []:=
 ⟨rfl,.inr ⟨g,cap,cur,rfl,hb,hg,Zj _,hc,by omega,by simp[gS]⟩⟩
theorem az {a:World}(h:Below B a w)(n:Nat):Below B a (w.drewN n):=⟨h.os,h.tape,h.output,h.size,h.block⟩
theorem aW (h:Bs w v xs):(convert 22 9 v).run Tryz.prog w =.ok (.string ⟨xs.toArray⟩) w:=by
 obtain⟨hm,A,c,rfl,hc,a0⟩:=h;rcases Nat.eq_zero_or_pos xs.length with h0|h0
 ·obtain rfl:xs = []:=List.eq_nil_of_length_eq_zero h0;rw[run_convert_bytes_string w 22 9 5 A _ c Tryz.underlying22 Tryz.underlying5 Tryz.underlying9]
  cases A with
  |none=>simp[Conv.bytesToString];rfl
  |some a=>simp[Conv.bytesToString,loadCells,loadCellsFrom];rfl
 ·obtain⟨b,o,rfl,a1⟩:=a0 h0;refine run_convert_bytes_back w 22 9 5 ⟨b,o,none⟩ c xs Tryz.underlying22 Tryz.underlying5 Tryz.underlying9 fun j hj=>?_
  have:=a1 j hj;unfold Addr.add
  split
  ·rename_i h;subst h;simpa [ap,Zc hj] using this
  ·simpa [ap,Zc hj] using this
theorem qG {z:Nat×Nat}(xs:List UInt8)(hm:xs.length<=9223372036854775807)(hc:xs.length<=c)(hg:W.heap[g]?=some (.cells (gS xs).toArray 5 z)):Bs W (.slice (some ⟨g,0,none⟩) xs.length c) xs:=by
 refine⟨hm,_,c,rfl,hc,fun _=>⟨g,0,rfl,fun i hi=>?_⟩⟩;have:=m7 xs i hi;simp only[World.cell?,hg,Nat.zero_add];simpa using this
theorem ac (w:World)(o:Obj):Below w.heap.size w (w.alloc o):=(Zd _ _).alloc (Za _) _
theorem bE {a b c:World}(h:Below a.heap.size a b)(k:Below b.heap.size b c):Below a.heap.size a c:=h.trans (k.mono h.size)
def Bx (W:World)(k:Nat)(t:TypeId)(v:Value):Prop:=W.heap[k]?=some (.cells #[v] t (0,0))
section
variable {W W':World}{k:Nat}{t:TypeId}{v:Value}
theorem Bx.lt (h:Bx W k t v):k<W.heap.size:=ae h
theorem Bx.cell (h:Bx W k t v):W.cell? ⟨k,0,none⟩=some v:=by unfold Bx at h;simp[World.cell?,h]
theorem Bx.frozen (h:Bx W k t v):W.frozen? ⟨k,0,none⟩=false:=by unfold Bx at h;simp[World.frozen?,h]
theorem Bx.new (W:World)(t:TypeId)(v:Value):Bx (W.alloc (.cells #[v] t)) W.heap.size t v:=Ze W _
theorem Bx.alloc (h:Bx W k t v)(o:Obj):Bx (W.alloc o) k t v:=(Below.heap_alloc W o k h.lt).trans h
theorem Bx.below (h:Bx W k t v)(hb:Below B W W')(hk:k<B):Bx W' k t v:=(hb.block k hk).trans h
theorem Bx.later (h:Bx W k t v)(hb:Below W.heap.size W W'):Bx W' k t v:=h.below hb h.lt
theorem Bx.drewN (h:Bx W k t v)(m:Nat):Bx (W.drewN m) k t v:=h
theorem Bx.set (h:Bx W k t v)(u:Value):Bx (W.setCell ⟨k,0,none⟩ u) k t u:=by
 unfold Bx at h ⊢;simp[World.setCell,Array.getElem?_modify,h]
theorem Bx.far (h:Bx W k t v){p:Addr}(hp:k≠p.block)(u:Value):Bx (W.setCell p u) k t v:=(Below.heap_setCell W p u k hp).trans h
theorem Bx.kept (h:Bx W k t v){row:Option Nat}(hg:W.grownBy W' row)(hr:∀r,row=some r->∃o:Obj,W.heap[r]?=some o/\o.isCells=false):Bx W' k t v:=
 (hg.block k h.lt (fun e=>by
  obtain⟨o,ho,hc⟩:=hr k e.symm;unfold Bx at h;rw[h] at ho;cases ho;simp[Obj.isCells] at hc)).trans h
end
structure Jr (t e:TypeId) (z:Value) (B:Nat):Prop where
 ht:Tryz.prog.underlying t=some (.slice e)
 hi:(Tryz.prog.info? e).map (fun i=>(i.zero,i.size,i.bytes))=some (some z,1,B)
 hz:z.cells.size=1
theorem ai (w:World)(g:Nat)(cs:Array Value):w.grownBy (w.setRow g cs) (some g):=
 ⟨rfl,rfl,rfl,by simp,fun k _ hk=>setRow_other w g k cs (fun e=>hk (by simp[e]))⟩
theorem bM {ops:Array Oper}{rest:List Oper}{o:Oper}{a:Act}{Q:Exit->Act->World->Prop}{t:TypeId}{x y:Operand}(hg:w.heap[g]?=some (.cells old t (0,0)))(h:wpList Tryz.prog ops Q rest a (w.setRow g cells))
  (ho:o.op =.store ty x y:=by exact rfl) (hx:a.eval x =.pointer (some ⟨g,0,none⟩):=by exact rfl) (hy:a.eval y =.agg cells:=by exact rfl) (a1:o.guard=none:=by exact rfl) (hd:o.dst=none:=by exact rfl)
  (hi:(Tryz.prog.info? ty).map (·.size)=some cells.size:=by kernel_rfl) (a0:old.size=cells.size:=by exact rfl) (h1:cells.all (·.oneCell')=true:=by simp[Value.oneCell']):wpList Tryz.prog ops Q (o::rest) a w:=
 wpList_store_rowTo a1 ty x y ho hd g cells hx hy t old hg hi a0 h1 h
