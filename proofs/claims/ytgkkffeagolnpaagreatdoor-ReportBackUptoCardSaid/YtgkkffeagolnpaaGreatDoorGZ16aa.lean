import Derived.WalkSpells
import Derived.Lib.Hide
import Derived.Deep.RegionHeld3
import Derived.Lib.Replace
set_option linter.unusedVariables false
set_option linter.unusedSimpArgs false
namespace Go.Proofs.YtgkkffeagolnpaaGreatDoor
abbrev Zb:= @Nat.le_refl
abbrev Zc:= @Nat.le_trans
abbrev Zd:= @List.getElem?_eq_getElem
abbrev Ze:= @Go.RowKit.Below.refl
abbrev Zf:= @heap_alloc_new
abbrev Zg:= @cell_later
abbrev Zh:= @bodyPost_ret
abbrev Zi:= @Option.some.inj
abbrev Zj:= @Nat.zero_le
abbrev Zk:= @List.mem_of_getElem?
abbrev Zl:= @List.mem_cons_of_mem
variable {fuel i id n:Nat}{v:Value}{w:World}
theorem Za {P:Go.Program}{f:Go.FuncId}{a:Array Go.Value}{w:Go.World}{R R':Go.Ending->Go.World->Prop}(h:Go.RowKit.Hid (Go.Calls P f a w R))(k:∀e w',R e w'->R' e w'):Go.Calls P f a w R':=Go.Calls.mono h k
theorem Qa {p:Prop}(h:p):Go.RowKit.Hid p:=h
section
variable {P:Program}{ops:Array Oper}{Q:Exit->Act->World->Prop}{md:Region.Mode}{S:World->Prop}{z:Nat}
def bT (P:Program)(md:Region.Mode)(ops:Array Oper)(Q:Exit->Act->World->Prop)(S:World->Prop)(z:Nat):Nat->Array Bool->Act->World->Prop
 |0,listed,a,w=>Region.ready md ops listed = []/\Q .normal a w
 |fuel+1,listed,a,w=>
  (Region.ready md ops listed = []->Q .normal a w)/\
  ∀i∈Region.ready md ops listed,wpOp P ops Q i (fun a' w'=>(i≠z->S w')/\bT P md ops Q S z fuel (listed.setIfInBounds i true) a' w') a w
theorem jq:∀ (fuel:Nat) (listed:Array Bool) (a:Act) (w:World),bT P md ops Q S z fuel listed a w->wpAny P md ops Q fuel listed a w
 |0,_,_,_,h=>h
 |fuel+1,_,_,_,h=>⟨h.1,fun i hi=>wpOp_mono (fun a' w' h'=>jq fuel _ a' w' h'.2) (h.2 i hi)⟩
def dZ (md:Region.Mode)(ops:Array Oper)(z i:Nat):Bool:=match ops[z]? with
 |some oz=>oz.after.any (fun e=>e.on==i&&Region.binds md e)
 |none=>false
theorem cw {listed:Array Bool}(h:dZ md ops z i=true)(hl:listed.getD i true=false):z∉Region.ready md ops listed:=fun hz=>by
 obtain⟨_,oz,a1,a0⟩:=mem_ready.1 hz;unfold dZ at h;rw[a1] at h;obtain⟨e,he,hb⟩:=Array.any_eq_true'.1 h;simp only[Bool.and_eq_true,beq_iff_eq] at hb;have h1:=a0 e he hb.2;rw[hb.1] at h1;rcases Nat.lt_or_ge i listed.size with h'|h'
 ·simp[h'] at hl h1;rw[hl] at h1;cases h1
 ·simp[Array.getElem?_eq_none h'] at h1
theorem pu {oi:Oper}(hi:ops[i]?=some oi)(a2:∀ (j:Nat) (o:Oper) cs b,ops[j]?=some o->o.op≠ .select cs b)
  (hQ:∀c a w,Q (.panic c) (a.put oi.dst v) w->Q (.panic c) a w) (hz:dZ md ops z i=true) :
  ∀ (fuel:Nat) (listed:Array Bool) (a:Act) (w:World),
   (∀j oj,ops[j]?=some oj->j≠i->listed.getD j true=false->(∀e∈oj.after,Region.binds md e=true->e.on≠i)->oi.apart ops oj=true)->
   i∈Region.ready md ops listed->YieldsIf P ops S oi v a->S w->
   bT P md ops Q S z fuel (listed.setIfInBounds i true) (a.put oi.dst v) w->bT P md ops Q S z (fuel+1) listed a w:=by
 intro fuel
 induction fuel with
 |zero=>
  intro listed a w _ hr hy hS H;refine⟨fun h=>(by rw[h] at hr;cases hr),fun j hj=>?_⟩
  by_cases hji:j=i
  ·subst hji;exact hy.wpOp hi hS ⟨fun _=>hS,H⟩
  ·have:=ready_mono hj hji;rw[H.1] at this
   cases this
 |succ fuel ih=>
  intro listed a w a0 hr hy hS H;refine⟨fun h=>(by rw[h] at hr;cases hr),fun j hj=>?_⟩
  by_cases hji:j=i
  ·subst hji;exact hy.wpOp hi hS ⟨fun _=>hS,H⟩
  ·have b0:j≠z:=fun e=>cw hz (mem_ready.1 hr).1 (e▸hj)
   have h1:=H.2 j (ready_mono hj hji);obtain⟨a3,oj,a9,a5⟩:=mem_ready.1 hj;have a4:∀e∈oj.after,Region.binds md e=true->e.on≠i:=fun e he hb heq=>by
    have h1:=a5 e he hb;have h0:=(mem_ready.1 hr).1;rw[heq] at h1;rcases Nat.lt_or_ge i listed.size with h'|h'
    ·simp[h'] at h0 h1;rw[h0] at h1;cases h1
    ·simp[Array.getElem?_eq_none h'] at h1
   have h2:=wpOp_putIf a9 (a0 j oj a9 hji a3 a4) (fun cs b=>a2 i oi cs b hi) (fun cs b=>a2 j oj cs b a9) hQ hy h1;have a1:∀k ok,ops[k]?=some ok->k≠i->(listed.setIfInBounds j true).getD k true=false->
     (∀e∈ok.after,Region.binds md e=true->e.on≠i)->oi.apart ops ok=true:=fun k ok hk b2 b1 b3=>by
    refine a0 k ok hk b2 ?_ b3
    by_cases hjk:j=k
    ·subst hjk;exact a3
    ·rw[getD_set_ne true hjk] at b1;exact b1
   refine wpOp_mono (fun a' w' h3=>⟨fun _=>h3.2.1 b0,ih (listed.setIfInBounds j true) a' w' a1 (ready_mono hr (Ne.symm hji)) h3.1 (h3.2.1 b0) ?_⟩) h2;rw[Array.setIfInBounds_comm _ _ hji];exact h3.2.2
theorem rR {oi:Oper}{listed:Array Bool}{a:Act}(hi:ops[i]?=some oi)
  (hs:Region.noSelect ops=true) (hf:Region.free md ops listed i=true) (hr:(Region.ready md ops listed).contains i=true) (hz:dZ md ops z i=true)
  (hQ:∀c a w,Q (.panic c) (a.put oi.dst v) w->Q (.panic c) a w) (hy:YieldsIf P ops S oi v a) (hS:S w)
  (h:bT P md ops Q S z fuel (listed.setIfInBounds i true) (a.put oi.dst v) w):bT P md ops Q S z (fuel+1) listed a w:=
 pu hi (Region.noSelect_spec hs) hQ hz fuel listed a w (Region.free_spec hi hf) (by simpa using hr) hy hS h
theorem uN {o:Oper}{listed:Array Bool}{a:Act}(hr:Region.ready md ops listed = [i])(ho:ops[i]?=some o)
  (h:∀K':Act->World->Prop,Shut (∀a w,(i≠z->S w)->((i≠z->S w)->bT P md ops Q S z fuel (listed.setIfInBounds i true) a w)->K' a w)->if Region.wanted o (yielded ops a.tmps)=true then Oper.wp P o a w K' Q else K' (a.put o.dst undef) w) :
  bT P md ops Q S z (fuel+1) listed a w:=by
 refine⟨fun h0=>(by rw[hr] at h0;cases h0),fun j hj=>?_⟩;rw[hr] at hj;have hj:=List.mem_singleton.1 hj;subst hj;exact wpOp_step ho (fun K' hK=>h K' (fun a w hS hW=>hK a w ⟨hS,hW hS⟩))
theorem aK {listed:Array Bool}{a:Act}(hr:Region.ready md ops listed = [])(h:Q .normal a w) :
  ∀fuel,bT P md ops Q S z fuel listed a w
 |0=>⟨hr,h⟩
 |_+1=>⟨fun _=>h,by rw[hr];simp⟩
theorem sM {a:Act}(hm:P.follows .mixedOrders=true)(z:Nat)(hS:S w.drew)
  (h:S w.drew->bT P .any ops Q S z ops.size (Array.replicate ops.size false) a w.drew):(Code.region id ops true).wp P Q a w:=
 wp_region_any hm (jq _ _ _ _ (h hS))
end
section
variable {P:Program}{ops:Array Oper}{Q:Exit->Act->World->Prop}{md:Region.Mode}{S:World->Prop}{z:Nat}
def gw (md:Region.Mode)(ops:Array Oper):Nat->Nat->Nat->Bool
 |0,m,i=>dZ md ops m i
 |n+1,m,i=>dZ md ops m i||(List.range ops.size).any (fun k=>dZ md ops m k&&gw md ops n k i)
def Ec (md:Region.Mode)(ops:Array Oper)(listed:Array Bool):Prop:=listed.size=ops.size/\∀m i,m<ops.size->dZ md ops m i=true->listed.getD i true=false->listed.getD m true=false
def EK (md:Region.Mode)(ops:Array Oper)(listed:Array Bool):Bool:=listed.size==ops.size&& (List.range ops.size).all (fun m=>(List.range ops.size).all (fun i=> !(dZ md ops m i)||listed.getD i true||!(listed.getD m true)))
theorem Ec.of {listed:Array Bool}(h:EK md ops listed=true):Ec md ops listed:=by
 unfold EK at h;simp only[Bool.and_eq_true,beq_iff_eq,List.all_eq_true,List.mem_range,Bool.or_eq_true,Bool.not_eq_true'] at h;refine⟨h.1,fun m i hm hw hi=>?_⟩
 by_cases hs:i<ops.size
 ·rcases h.2 m hm i hs with (h1|h1)|h1
  ·rw[hw] at h1;cases h1
  ·rw[hi] at h1;cases h1
  ·exact h1
 ·have a0:listed.size<=i:=by omega
  simp[Array.getElem?_eq_none a0] at hi
theorem mU {m:Nat}(h:dZ md ops m i=true):m<ops.size:=by
 unfold dZ at h
 cases hm:ops[m]? with
 |none=>rw[hm] at h;cases h
 |some o=>exact(Array.getElem?_eq_some_iff.1 hm).1
theorem Ec.set {listed:Array Bool}{j:Nat}(h:Ec md ops listed)(hj:j∈Region.ready md ops listed):Ec md ops (listed.setIfInBounds j true):=by
 refine⟨by rw[Array.size_setIfInBounds];exact h.1,fun m i hm hw hi=>?_⟩;have hji:j≠i:=by
  intro e;subst e
  by_cases hs:j<listed.size
  ·simp[hs] at hi
  ·simp[hs] at hi
 rw[getD_set_ne true hji] at hi;have a0:j≠m:=by
  intro e;subst e;exact cw hw hi hj
 rw[getD_set_ne true a0];exact h.2 m i hm hw hi
theorem gP {listed:Array Bool}(hc:Ec md ops listed)(hi:listed.getD i true=false):∀ (n m:Nat),gw md ops n m i=true->listed.getD m true=false
 |0,m,h=>hc.2 m i (mU h) h hi
 |n+1,m,h=>by
  unfold gw at h;rcases Bool.or_eq_true _ _▸h with h|h
  ·exact hc.2 m i (mU h) h hi
  ·obtain⟨k,hk,h2⟩:=List.any_eq_true.1 h;rw[Bool.and_eq_true] at h2;exact hc.2 m k (mU h2.1) h2.1 (gP hc hi n k h2.2)
theorem lI {listed:Array Bool}(hc:Ec md ops listed)(hi:listed.getD i true=false)(h:gw md ops n z i=true):z∉Region.ready md ops listed:=by
 cases n with
 |zero=>exact cw h hi
 |succ n=>
  unfold gw at h;rcases Bool.or_eq_true _ _▸h with h|h
  ·exact cw h hi
  ·obtain⟨k,hk,h2⟩:=List.any_eq_true.1 h;rw[Bool.and_eq_true] at h2;exact cw h2.1 (gP hc hi n k h2.2)
theorem pf {oi:Oper}(hi:ops[i]?=some oi)(a2:∀ (j:Nat) (o:Oper) cs b,ops[j]?=some o->o.op≠ .select cs b)
  (hQ:∀c a w,Q (.panic c) (a.put oi.dst v) w->Q (.panic c) a w) (hz:gw md ops n z i=true) :
  ∀ (fuel:Nat) (listed:Array Bool) (a:Act) (w:World),Ec md ops listed->
   (∀j oj,ops[j]?=some oj->j≠i->listed.getD j true=false->(∀e∈oj.after,Region.binds md e=true->e.on≠i)->oi.apart ops oj=true)->
   i∈Region.ready md ops listed->YieldsIf P ops S oi v a->S w->
   bT P md ops Q S z fuel (listed.setIfInBounds i true) (a.put oi.dst v) w->bT P md ops Q S z (fuel+1) listed a w:=by
 intro fuel
 induction fuel with
 |zero=>
  intro listed a w _ _ hr hy hS H;refine⟨fun h=>(by rw[h] at hr;cases hr),fun j hj=>?_⟩
  by_cases hji:j=i
  ·subst hji;exact hy.wpOp hi hS ⟨fun _=>hS,H⟩
  ·have:=ready_mono hj hji;rw[H.1] at this
   cases this
 |succ fuel ih=>
  intro listed a w hc a0 hr hy hS H;refine⟨fun h=>(by rw[h] at hr;cases hr),fun j hj=>?_⟩
  by_cases hji:j=i
  ·subst hji;exact hy.wpOp hi hS ⟨fun _=>hS,H⟩
  ·have b0:j≠z:=fun e=>lI hc (mem_ready.1 hr).1 hz (e▸hj)
   have h1:=H.2 j (ready_mono hj hji);obtain⟨a3,oj,a9,a5⟩:=mem_ready.1 hj;have a4:∀e∈oj.after,Region.binds md e=true->e.on≠i:=fun e he hb heq=>by
    have h1:=a5 e he hb;have h0:=(mem_ready.1 hr).1;rw[heq] at h1;rcases Nat.lt_or_ge i listed.size with h'|h'
    ·simp[h'] at h0 h1;rw[h0] at h1;cases h1
    ·simp[Array.getElem?_eq_none h'] at h1
   have h2:=wpOp_putIf a9 (a0 j oj a9 hji a3 a4) (fun cs b=>a2 i oi cs b hi) (fun cs b=>a2 j oj cs b a9) hQ hy h1;have a1:∀k ok,ops[k]?=some ok->k≠i->(listed.setIfInBounds j true).getD k true=false->
     (∀e∈ok.after,Region.binds md e=true->e.on≠i)->oi.apart ops ok=true:=fun k ok hk b2 b1 b3=>by
    refine a0 k ok hk b2 ?_ b3
    by_cases hjk:j=k
    ·subst hjk;exact a3
    ·rw[getD_set_ne true hjk] at b1;exact b1
   refine wpOp_mono (fun a' w' h3=>⟨fun _=>h3.2.1 b0,ih (listed.setIfInBounds j true) a' w' (hc.set hj) a1 (ready_mono hr (Ne.symm hji)) h3.1 (h3.2.1 b0) ?_⟩) h2;rw[Array.setIfInBounds_comm _ _ hji];exact h3.2.2
theorem tj (n:Nat){oi:Oper}{listed:Array Bool}{a:Act}(hi:ops[i]?=some oi)
  (hs:Region.noSelect ops=true) (hf:Region.free md ops listed i=true) (hr:(Region.ready md ops listed).contains i=true) (hz:gw md ops n z i=true) (hc:EK md ops listed=true)
  (hQ:∀c a w,Q (.panic c) (a.put oi.dst v) w->Q (.panic c) a w) (hy:YieldsIf P ops S oi v a) (hS:S w)
  (h:bT P md ops Q S z fuel (listed.setIfInBounds i true) (a.put oi.dst v) w):bT P md ops Q S z (fuel+1) listed a w:=
 pf hi (Region.noSelect_spec hs) hQ hz fuel listed a w (Ec.of hc) (Region.free_spec hi hf) (by simpa using hr) hy hS h
end
section
variable {P:Program}{ops:Array Oper}{Q:Exit->Act->World->Prop}{md:Region.Mode}{S:World->Prop}
theorem xj {o:Oper}(h:(ops.toList.drop i).head?=some o):ops[i]?=some o:=by
 rw[List.head?_drop] at h;rw[<-Array.getElem?_toList];exact h
theorem tH (i:Nat){oi:Oper}{listed:Array Bool}{a:Act}(hS:S w)(h:wpAnyH P md ops Q S fuel (listed.setIfInBounds i true) (a.put oi.dst v) w)
  (hi:(ops.toList.drop i).head?=some oi:=by exact rfl) (hs:Region.noSelect ops=true:=by kernel_rfl) (hf:Region.free md ops listed i=true:=by kernel_rfl) (hr:(Region.ready md ops listed).contains i=true:=by kernel_rfl)
  (hQ:∀c a w,Q (.panic c) (a.put oi.dst v) w->Q (.panic c) a w:=by exact fun _ _ _ h=>h) (hg:Region.wanted oi (yielded ops a.tmps)=true:=by rfl) (hy:∀w,S w->(execOp a.eval oi).run P w =.ok (.value v) w:=by(intro w a0;(try dsimp only at a0);go_simp;(try with_reducible rfl))):wpAnyH P md ops Q S (fuel+1) listed a w:=
 wpAnyH_take (xj hi) hs hf hr hQ (Or.inl ⟨hg,hy⟩) hS h
theorem uH (i:Nat){oi:Oper}{listed:Array Bool}{a:Act}(hS:S w)(h:wpAnyH P md ops Q S fuel (listed.setIfInBounds i true) (a.put oi.dst undef) w)
  (hi:(ops.toList.drop i).head?=some oi:=by exact rfl) (hs:Region.noSelect ops=true:=by kernel_rfl) (hf:Region.free md ops listed i=true:=by kernel_rfl) (hr:(Region.ready md ops listed).contains i=true:=by kernel_rfl)
  (hQ:∀c a w,Q (.panic c) (a.put oi.dst undef) w->Q (.panic c) a w:=by exact fun _ _ _ h=>h) (hg:Region.wanted oi (yielded ops a.tmps)=false:=by rfl):wpAnyH P md ops Q S (fuel+1) listed a w:=
 wpAnyH_take (xj hi) hs hf hr hQ (Or.inr ⟨hg,rfl⟩) hS h
theorem rH (i:Nat){o:Oper}{listed:Array Bool}{a:Act}
  (h:∀K':Act->World->Prop,Shut (∀a w,S w->(S w->wpAnyH P md ops Q S fuel (listed.setIfInBounds i true) a w)->K' a w)->if Region.wanted o (yielded ops a.tmps)=true then Oper.wp P o a w K' Q else K' (a.put o.dst undef) w)
  (ho:(ops.toList.drop i).head?=some o:=by exact rfl) (hr:Region.ready md ops listed = [i]:=by kernel_rfl):wpAnyH P md ops Q S (fuel+1) listed a w:=
 wpAnyH_ready hr (by simp) (AllReadyH.cons (xj ho) h AllReadyH.nil)
theorem tZ (i:Nat){z:Nat}{oi:Oper}{listed:Array Bool}{a:Act}(hS:S w)(h:bT P md ops Q S z fuel (listed.setIfInBounds i true) (a.put oi.dst v) w)
  (hi:(ops.toList.drop i).head?=some oi:=by exact rfl) (hs:Region.noSelect ops=true:=by kernel_rfl) (hf:Region.free md ops listed i=true:=by kernel_rfl) (hr:(Region.ready md ops listed).contains i=true:=by kernel_rfl) (hz:dZ md ops z i=true:=by kernel_rfl)
  (hQ:∀c a w,Q (.panic c) (a.put oi.dst v) w->Q (.panic c) a w:=by exact fun _ _ _ h=>h) (hg:Region.wanted oi (yielded ops a.tmps)=true:=by rfl) (hy:∀w,S w->(execOp a.eval oi).run P w =.ok (.value v) w:=by(intro w a0;(try dsimp only at a0);go_simp;(try with_reducible rfl))):bT P md ops Q S z (fuel+1) listed a w:=
 rR (xj hi) hs hf hr hz hQ (Or.inl ⟨hg,hy⟩) hS h
theorem tR (i:Nat){z:Nat}{oi:Oper}{listed:Array Bool}{a:Act}(hS:S w)(h:bT P md ops Q S z fuel (listed.setIfInBounds i true) (a.put oi.dst v) w)
  (hi:(ops.toList.drop i).head?=some oi:=by exact rfl) (hs:Region.noSelect ops=true:=by kernel_rfl) (hf:Region.free md ops listed i=true:=by kernel_rfl) (hr:(Region.ready md ops listed).contains i=true:=by kernel_rfl) (hz:gw md ops 6 z i=true:=by kernel_rfl) (hc:EK md ops listed=true:=by kernel_rfl)
  (hQ:∀c a w,Q (.panic c) (a.put oi.dst v) w->Q (.panic c) a w:=by exact fun _ _ _ h=>h) (hg:Region.wanted oi (yielded ops a.tmps)=true:=by rfl) (hy:∀w,S w->(execOp a.eval oi).run P w =.ok (.value v) w:=by(intro w a0;(try dsimp only at a0);go_simp;(try with_reducible rfl))):bT P md ops Q S z (fuel+1) listed a w:=
 tj 6 (xj hi) hs hf hr hz hc hQ (Or.inl ⟨hg,hy⟩) hS h
theorem rZ (i:Nat){z:Nat}{o:Oper}{listed:Array Bool}{a:Act}
  (h:∀K':Act->World->Prop,Shut (∀a w,(i≠z->S w)->((i≠z->S w)->bT P md ops Q S z fuel (listed.setIfInBounds i true) a w)->K' a w)->if Region.wanted o (yielded ops a.tmps)=true then Oper.wp P o a w K' Q else K' (a.put o.dst undef) w)
  (ho:(ops.toList.drop i).head?=some o:=by exact rfl) (hr:Region.ready md ops listed = [i]:=by kernel_rfl):bT P md ops Q S z (fuel+1) listed a w:=
 uN hr (xj ho) h
theorem bF {a:Act}(S:World->Prop)(hS:S w.drew)(h:S w.drew->wpAnyH P .any ops (NoPanic Q) S ops.size (Array.replicate ops.size false) a w.drew)(hm:P.follows .mixedOrders=true:=by kernel_rfl):(Code.region id ops true).wp P Q a w:=
 wp_region_noPanic (wp_region_held_drew hm hS h)
theorem cC {a:Act}(S:World->Prop)(z:Nat)(hS:S w.drew)(h:S w.drew->bT P .any ops (NoPanic Q) S z ops.size (Array.replicate ops.size false) a w.drew)(hm:P.follows .mixedOrders=true:=by kernel_rfl):(Code.region id ops true).wp P Q a w:=
 wp_region_noPanic (sM hm z hS h)
end
theorem jP {α:Type}{xs:List α}{a:α}:xs.toArray.setIfInBounds i a= (xs.set i a).toArray:=List.setIfInBounds_toArray ..
theorem jQ {α:Type}{xs:List α}{a b:α}:(a::xs).set 0 b=b::xs:=List.set_cons_zero
theorem jR {α:Type}{xs:List α}{a b:α}:(a::xs).set (n+1) b=a::xs.set n b:=List.set_cons_succ
structure dq {α:Type} (c:α->α->Int):Prop where
 ctn:∀x y,(c x y<0↔0<c y x)
 cle:∀x y z,c x y<=0->c y z<=0->c x z<=0
theorem dq.refl {α:Type}{c:α->α->Int}(h:dq c)(x:α):c x x=0:=by
 have h1:=h.ctn x x;omega
theorem dq.zero {α:Type}{c:α->α->Int}(h:dq c){x y:α}(e:c x y=0):c y x=0:=by
 have h1:=h.ctn x y;have h2:=h.ctn y x;omega
theorem dq.lt {α:Type}{c:α->α->Int}(h:dq c){x y z:α}(h1:c x y<0)(h2:c y z<=0):c x z<0:=by
 have a:=h.ctn x y;have b:=h.ctn x z;have d:=h.ctn z x;have e:=h.cle x y z (by omega) h2
 by_cases k:c x z=0
 ·have k1:=h.zero k;have k2:=h.cle y z x h2 (by omega);omega
 ·omega
theorem dq.lt' {α:Type}{c:α->α->Int}(h:dq c){x y z:α}(h1:c x y<=0)(h2:c y z<0):c x z<0:=by
 have a:=h.ctn y z;have e:=h.cle x y z h1 (by omega)
 by_cases k:c x z=0
 ·have k1:=h.zero k;have k2:=h.cle z x y (by omega) h1;omega
 ·omega
theorem dq.eqv {α:Type}{c:α->α->Int}(h:dq c){x y z:α}(h1:c x y=0)(h2:c y z=0):c x z=0:=by
 have a:=h.cle x y z (by omega) (by omega);have b:=h.cle z y x (by have:=h.zero h2;omega) (by have:=h.zero h1;omega);have t:=h.ctn x z;have u:=h.ctn z x;omega
def cO {α:Type}(c:α->α->Int):List α->List α->Int
 | [], []=>0
 | [],_::_=> -1
 |_::_, []=>1
 |x::xs,y::ys=>if c x y=0 then cO c xs ys else c x y
theorem kG {α:Type}{c:α->α->Int}(h:dq c):dq (cO c):=by
 constructor
 ·intro xs
  induction xs with
  |nil=>intro ys;cases ys <;> simp[cO]
  |cons x xs ih=>
   intro ys
   cases ys with
   |nil=>simp[cO]
   |cons y ys=>
    simp only[cO]
    by_cases k:c x y=0
    ·rw[if_pos k,if_pos (h.zero k)];exact ih ys
    ·rw[if_neg k,if_neg (fun e=>k (h.zero e))];exact h.ctn x y
 ·intro xs
  induction xs with
  |nil=>intro ys zs _ _;cases zs <;> simp[cO]
  |cons x xs ih=>
   intro ys zs h1 h2
   cases ys with
   |nil=>simp[cO] at h1
   |cons y ys=>
    cases zs with
    |nil=>simp[cO] at h2
    |cons z zs=>
     simp only[cO] at h1 h2 ⊢
     by_cases k1:c x y=0
     ·rw[if_pos k1] at h1
      by_cases k2:c y z=0
      ·rw[if_pos k2] at h2;rw[if_pos (h.eqv k1 k2)];exact ih ys zs h1 h2
      ·rw[if_neg k2] at h2;have:=h.lt' (z:=z) (show c x y<=0 by omega) (show c y z<0 by omega);rw[if_neg (by omega)];omega
     ·rw[if_neg k1] at h1;have hz:c y z<=0:=by
       by_cases k2:c y z=0
       ·omega
       ·rw[if_neg k2] at h2;exact h2
      have:=h.lt (show c x y<0 by omega) hz;rw[if_neg (by omega)];omega
theorem oL {α:Type}{c:α->α->Int}(xs:List α):∀ys,(∀x∈xs,∀y∈ys,c x y=0->x=y)->cO c xs ys=0->xs=ys:=by
 induction xs with
 |nil=>intro ys _ e;cases ys <;> simp_all [cO]
 |cons x xs ih=>
  intro ys hc e
  cases ys with
  |nil=>simp[cO] at e
  |cons y ys=>
   simp only[cO] at e
   by_cases k:c x y=0
   ·rw[if_pos k] at e;rw[hc x (by simp) y (by simp) k,ih ys (fun a ha b hb=>hc a (by simp[ha]) b (by simp[hb])) e]
   ·rw[if_neg k] at e;exact absurd e k
def ny (a b:Nat):Int:=if a<b then -1 else if b<a then 1 else 0
theorem xU:dq ny:=by
 constructor
 ·intro x y;unfold ny;repeat' split
  all_goals omega
 ·intro x y z;unfold ny;repeat' split
  all_goals omega
theorem zJ {a b:Nat}(h:ny a b=0):a=b:=by
 unfold ny at h
 split at h <;> try omega
theorem dq.by {α β:Type}{c:α->α->Int}(h:dq c)(f:β->α):dq (fun x y=>c (f x) (f y)):=
 ⟨fun x y=>h.ctn (f x) (f y),fun x y z=>h.cle (f x) (f y) (f z)⟩
def va (a:Int):Int:=if a<0 then -1 else if 0<a then 1 else 0
theorem dq.sgn {α:Type}{c:α->α->Int}(h:dq c):dq (fun x y=>va (c x y)):=by
 constructor
 ·intro x y;have:=h.ctn x y;have:=h.ctn y x;unfold va;repeat' split
  all_goals omega
 ·intro x y z;have h1:=h.cle x y z;unfold va;repeat' split
  all_goals omega
def GT (a b:Int):Int:=if a=0 then b else a
theorem dq.or {α:Type}{c d:α->α->Int}(h:dq c)(k:dq d):dq (fun x y=>GT (c x y) (d x y)):=by
 constructor
 ·intro x y;have h1:=h.ctn x y;have h2:=h.ctn y x;have k1:=k.ctn x y;unfold GT;repeat' split
  all_goals omega
 ·intro x y z a b;simp only[GT] at a b ⊢
  by_cases e1:c x y=0
  ·rw[if_pos e1] at a
   by_cases e2:c y z=0
   ·rw[if_pos e2] at b;rw[if_pos (h.eqv e1 e2)];exact k.cle x y z a b
   ·rw[if_neg e2] at b;have:=h.lt' (z:=z) (show c x y<=0 by omega) (show c y z<0 by omega);rw[if_neg (by omega)];omega
  ·rw[if_neg e1] at a;have hz:c y z<=0:=by
    by_cases e2:c y z=0
    ·omega
    ·rw[if_neg e2] at b;exact b
   have:=h.lt (show c x y<0 by omega) hz;rw[if_neg (by omega)];omega
def ci:List UInt8->List (List UInt8)
 | []=> [[]]
 |c::t=>if c=47 then []::ci t else match ci t with
  |h::r=>(c::h)::r
  | []=> [[c]]
inductive mu:List UInt8->Prop
 |nil:mu []
 |one (c:UInt8) (t:List UInt8):c≠126->mu t->mu (c::t)
 |two (c:UInt8) (t:List UInt8):c=48\/c=49->mu t->mu (126::c::t)
def cG (b c:UInt8):List UInt8->List UInt8
 |x::y::t=>if x=126/\y=b then c::cG b c t else x::cG b c (y::t)
 |l=>l
def ru (s:List UInt8):List UInt8:=cG 48 126 (cG 49 47 s)
def Bc:List UInt8->List UInt8
 | []=> []
 |c::t=>if c=126 then 126::48::Bc t else if c=47 then 126::49::Bc t else c::Bc t
theorem fm {b c x:UInt8}(h:x≠126)(t:List UInt8):cG b c (x::t)=x::cG b c t:=by
 cases t with
 |nil=>simp[cG]
 |cons y t=>rw[cG,if_neg (fun e=>h e.1)]
theorem ju (b c:UInt8)(t:List UInt8):cG b c (126::b::t)=c::cG b c t:=by
 rw[cG,if_pos ⟨rfl,rfl⟩]
theorem oC {b c y:UInt8}(h:y≠b)(t:List UInt8):cG b c (126::y::t)=126::cG b c (y::t):=by
 rw[cG,if_neg (fun e=>h e.2)]
theorem Fl {s:List UInt8}(h:mu s)(hs:47∉s):Bc (ru s)=s:=by
 induction h with
 |nil=>rfl
 |one c t hc ht ih=>
  have h1:c≠47:=fun e=>hs (by simp[e])
  rw[ru,fm hc,fm hc,Bc,if_neg hc,if_neg h1];rw[show cG 48 126 (cG 49 47 t)=ru t from rfl,ih (fun e=>hs (by simp[e]))]
 |two c t hc ht ih=>
  have ih':=ih (fun e=>hs (by simp[e]));rcases hc with rfl|rfl
  ·rw[ru,oC (by decide),fm (x:=48) (by decide),ju,Bc,if_pos rfl];rw[show cG 48 126 (cG 49 47 t)=ru t from rfl,ih']
  ·rw[ru,ju,fm (by decide),Bc,if_neg (by decide),if_pos rfl];rw[show cG 48 126 (cG 49 47 t)=ru t from rfl,ih']
theorem jZ (s:List UInt8):ci s≠ []:=by
 cases s with
 |nil=>simp[ci]
 |cons c t=>
  unfold ci
  split
  ·simp
  ·split <;> simp
theorem xG (s:List UInt8):((ci s).map (47:: ·)).flatten=47::s:=by
 induction s with
 |nil=>rfl
 |cons c t ih=>
  unfold ci
  split
  ·next h=>simp[ih,h]
  ·split
   ·next h r e=>rw[e] at ih;simp at ih;simp[ih]
   ·next e=>exact absurd e (jZ t)
theorem zl (s:List UInt8):∀p∈ci s,47∉p:=by
 induction s with
 |nil=>simp[ci]
 |cons c t ih=>
  unfold ci
  split
  ·intro p hp;rcases List.mem_cons.1 hp with rfl|hp
   ·simp
   ·exact ih p hp
  ·next h=>
   split
   ·next a r e=>
    intro p hp;rw[e] at ih;rcases List.mem_cons.1 hp with rfl|hp
    ·have:=ih a (by simp);simp only[List.mem_cons,not_or];exact⟨fun e=>h e.symm,this⟩
    ·exact ih p (by simp[hp])
   ·next e=>exact absurd e (jZ t)
theorem CU {s:List UInt8}(h:mu s):∀p∈ci s,mu p:=by
 induction h with
 |nil=>intro p hp;simp[ci] at hp;subst hp;exact .nil
 |one c t hc ht ih=>
  unfold ci
  split
  ·intro p hp;rcases List.mem_cons.1 hp with rfl|hp
   ·exact .nil
   ·exact ih p hp
  ·split
   ·next a r e=>
    intro p hp;rw[e] at ih;rcases List.mem_cons.1 hp with rfl|hp
    ·exact .one c a hc (ih a (by simp))
    ·exact ih p (by simp[hp])
   ·next e=>exact absurd e (jZ t)
 |two c t hc ht ih=>
  have h1:c≠47:=by rcases hc with rfl|rfl <;> decide
  obtain⟨a,r,e⟩:∃a r,ci t=a::r:=by
   cases e:ci t with
   |nil=>exact absurd e (jZ t)
   |cons a r=>exact⟨a,r,rfl⟩
  have e2:ci (126::c::t)= (126::c::a)::r:=by
   unfold ci;rw[if_neg (by decide)];unfold ci;rw[if_neg h1,e]
  intro p hp;rw[e2] at hp;rw[e] at ih;rcases List.mem_cons.1 hp with rfl|hp
  ·exact .two c a hc (ih a (by simp))
  ·exact ih p (by simp[hp])
def bq:List UInt8->List (List UInt8)
 | []=> []
 |_::t=>(ci t).map ru
def FV (l:List (List UInt8)):List UInt8:=(l.map fun s=>47::Bc s).flatten
def Jo (s:List UInt8):Prop:=s = []\/∃t,s=47::t/\mu t
theorem l7 {s:List UInt8}(h:Jo s):FV (bq s)=s:=by
 rcases h with rfl|⟨t,rfl,ht⟩
 ·rfl
 ·have e:(ci t).map (fun p=>47::Bc (ru p))= (ci t).map (47:: ·):=
   List.map_congr_left fun p hp=>by rw[Fl (CU ht p hp) (zl t p hp)]
  rw[bq,FV,List.map_map];rw[show((fun s=>47::Bc s)∘ru)=fun p=>47::Bc (ru p) from rfl,e,xG]
theorem yi {a b:List UInt8}(ha:Jo a)(hb:Jo b)(e:bq a=bq b):a=b:=by
 rw[<-l7 ha,e,l7 hb]
theorem mS {x:UInt8}{t sub:List UInt8}(h:sub.isPrefixOf (x::t)=false):Lib.index (x::t) sub=if Lib.index t sub = -1 then -1 else Lib.index t sub+1:=by
 rw[Lib.index,if_neg (by rw[h];decide)];simp only[beq_iff_eq]
theorem xB {x:UInt8}{t sub:List UInt8}(h:sub.isPrefixOf (x::t)=true):Lib.index (x::t) sub=0:=by
 rw[Lib.index,if_pos h]
theorem qS {x:UInt8}{t sub:List UInt8}(hs:sub≠ [])(h:sub.isPrefixOf (x::t)=false):Lib.count (x::t) sub=Lib.count t sub:=by
 have h1:=mS h
 by_cases e:Lib.index t sub = -1
 ·rw[if_pos e] at h1;rw[Lib.count_miss h1,Lib.count_miss e]
 ·rw[if_neg e] at h1;have a0:=Lib.index_ge t sub;obtain⟨i,hi⟩:∃i:Nat,Lib.index t sub=i:=⟨(Lib.index t sub).toNat,by omega⟩;rw[Lib.count_hit hs hi,Lib.count_hit hs (i:=i+1) (by rw[h1,hi];rfl),show i+1+sub.length= (i+sub.length)+1 by omega,List.drop_succ_cons]
theorem uJ {x:UInt8}{t sub:List UInt8}(hs:sub≠ [])(h:sub.isPrefixOf (x::t)=false):∃a r,Lib.split t sub=a::r/\Lib.split (x::t) sub= (x::a)::r:=by
 have h1:=mS h;unfold Lib.split;rw[qS hs h]
 by_cases e:Lib.index t sub = -1
 ·rw[Lib.count_miss e];exact⟨t, [],rfl,rfl⟩
 ·rw[if_neg e] at h1;have a0:=Lib.index_ge t sub;obtain⟨i,hi⟩:∃i:Nat,Lib.index t sub=i:=⟨(Lib.index t sub).toNat,by omega⟩;rw[Lib.count_hit hs hi,Nat.add_comm 1];unfold Lib.splitK;rw[if_neg (by rw[hi];simp),if_neg (by rw[h1,hi];simp;omega),h1,hi];rw[show((i:Int)+1).toNat=i+1 by omega,show((i:Nat):Int).toNat=i by omega,show i+1+sub.length= (i+sub.length)+1 by omega,List.drop_succ_cons];exact⟨_,_,rfl,rfl⟩
theorem yx {x:UInt8}{t sub:List UInt8}(hs:sub≠ [])(h:sub.isPrefixOf (x::t)=true):Lib.split (x::t) sub = []::Lib.split ((x::t).drop sub.length) sub:=by
 have h1:=xB h;unfold Lib.split;rw[Lib.count_hit hs (i:=0) (by rw[h1];rfl),Nat.add_comm 1,Nat.zero_add];rw[Lib.splitK,if_neg (by rw[h1];decide),h1];simp
theorem nQ {x:UInt8}{t sub new:List UInt8}(hs:sub≠ [])(h:sub.isPrefixOf (x::t)=false):Lib.replaceK sub new (Lib.count (x::t) sub) (x::t)=x::Lib.replaceK sub new (Lib.count t sub) t:=by
 have h1:=mS h;rw[qS hs h]
 by_cases e:Lib.index t sub = -1
 ·rw[Lib.count_miss e];rfl
 ·rw[if_neg e] at h1;have a0:=Lib.index_ge t sub;obtain⟨i,hi⟩:∃i:Nat,Lib.index t sub=i:=⟨(Lib.index t sub).toNat,by omega⟩;rw[Lib.count_hit hs hi,Nat.add_comm 1,Lib.replaceK_hit _ _ _ _ (i+1) (by rw[h1,hi];rfl),Lib.replaceK_hit _ _ _ _ i hi,show i+1+sub.length= (i+sub.length)+1 by omega];rfl
theorem CR {x:UInt8}{t sub new:List UInt8}(hs:sub≠ [])(h:sub.isPrefixOf (x::t)=true):Lib.replaceK sub new (Lib.count (x::t) sub) (x::t)=new++Lib.replaceK sub new (Lib.count ((x::t).drop sub.length) sub) ((x::t).drop sub.length):=by
 have h1:=xB h;rw[Lib.count_hit hs (i:=0) (by rw[h1];rfl),Nat.add_comm 1,Nat.zero_add,Lib.replaceK_hit _ _ _ _ 0 (by rw[h1];rfl),Nat.zero_add];rfl
theorem um (s:List UInt8):Lib.split s [47]=ci s:=by
 induction s with
 |nil=>rfl
 |cons c t ih=>
  by_cases h:c=47
  ·subst h;rw[yx (by simp) (by simp[List.isPrefixOf])]
   show []::Lib.split t [47]=_
   rw[ih,ci,if_pos rfl]
  ·obtain⟨a,r,e1,e2⟩:=uJ (x:=c) (t:=t) (sub:= [47]) (by simp) (by simp[List.isPrefixOf];exact fun e=>h e.symm);rw[e2,ci,if_neg h,<-ih,e1]
theorem xX (b c:UInt8):∀ (n:Nat) (s:List UInt8),s.length<=n->Lib.replaceK [126,b] [c] (Lib.count s [126,b]) s=cG b c s:=by
 intro n
 induction n with
 |zero=>intro s hs;obtain rfl:s = []:=List.length_eq_zero_iff.1 (by omega);rfl
 |succ n ih=>
  intro s hs
  cases s with
  |nil=>rfl
  |cons x t=>
   cases t with
   |nil=>
    rw[nQ (by simp) (by simp[List.isPrefixOf]),ih [] (by simp)];rfl
   |cons y t=>
    simp only[List.length_cons] at hs
    by_cases h:x=126/\y=b
    ·obtain⟨rfl,rfl⟩:=h;rw[CR (by simp) (by simp[List.isPrefixOf]),ju]
     show [c]++Lib.replaceK [126,y] [c] (Lib.count t [126,y]) t=_
     rw[ih t (by omega)];rfl
    ·rw[nQ (by simp) (by simp[List.isPrefixOf];intro e1 e2;exact h ⟨e1.symm,e2.symm⟩),ih (y::t) (by simp;omega),cG,if_neg h]
theorem lE (b c:UInt8)(s:List UInt8):Lib.replaceAll s [126,b] [c]=cG b c s:=by
 unfold Lib.replaceAll Lib.replace Lib.replaceNum;rw[if_neg (by simp),if_pos (.inl (by decide)),xX b c _ s (Zb _)]
