import Derived.WalkSpells
import Derived.Lib.Hide
import Derived.Deep.RegionHeld3
set_option linter.unusedVariables false
set_option linter.unusedSimpArgs false
namespace Go.Proofs.YtohibglohlfjfaaGreatDoor
abbrev Zb:= @Nat.le_refl
abbrev Zc:= @Nat.le_trans
abbrev Zd:= @List.getElem?_eq_getElem
abbrev Ze:= @Go.RowKit.Below.refl
abbrev Zf:= @heap_alloc_new
abbrev Zg:= @cell_later
abbrev Zh:= @bodyPost_ret
abbrev Zi:= @Option.some.inj
abbrev Zj:= @Nat.le_of_lt
abbrev Zk:= @Nat.zero_le
abbrev Zl:= @List.mem_of_getElem?
abbrev Zm:= @List.mem_cons_of_mem
variable {fuel i id m n:Nat}{v:Value}{w:World}
theorem Za {P:Go.Program}{f:Go.FuncId}{a:Array Go.Value}{w:Go.World}{R R':Go.Ending->Go.World->Prop}(h:Go.RowKit.Hid (Go.Calls P f a w R))(k:∀e w',R e w'->R' e w'):Go.Calls P f a w R':=Go.Calls.mono h k
theorem Qa {p:Prop}(h:p):Go.RowKit.Hid p:=h
section
variable {P:Program}{ops:Array Oper}{Q:Exit->Act->World->Prop}{md:Region.Mode}{S:World->Prop}{z:Nat}
def cC (P:Program)(md:Region.Mode)(ops:Array Oper)(Q:Exit->Act->World->Prop)(S:World->Prop)(z:Nat):Nat->Array Bool->Act->World->Prop
 |0,listed,a,w=>Region.ready md ops listed = []/\Q .normal a w
 |fuel+1,listed,a,w=>
  (Region.ready md ops listed = []->Q .normal a w)/\
  ∀i∈Region.ready md ops listed,wpOp P ops Q i (fun a' w'=>(i≠z->S w')/\cC P md ops Q S z fuel (listed.setIfInBounds i true) a' w') a w
theorem oH:∀ (fuel:Nat) (listed:Array Bool) (a:Act) (w:World),cC P md ops Q S z fuel listed a w->wpAny P md ops Q fuel listed a w
 |0,_,_,_,h=>h
 |fuel+1,_,_,_,h=>⟨h.1,fun i hi=>wpOp_mono (fun a' w' h'=>oH fuel _ a' w' h'.2) (h.2 i hi)⟩
def eX (md:Region.Mode)(ops:Array Oper)(z i:Nat):Bool:=match ops[z]? with
 |some oz=>oz.after.any (fun e=>e.on==i&&Region.binds md e)
 |none=>false
theorem cZ {listed:Array Bool}(h:eX md ops z i=true)(hl:listed.getD i true=false):z∉Region.ready md ops listed:=fun hz=>by
 obtain⟨_,oz,a1,a0⟩:=mem_ready.1 hz;unfold eX at h;rw[a1] at h;obtain⟨e,he,hb⟩:=Array.any_eq_true'.1 h;simp only[Bool.and_eq_true,beq_iff_eq] at hb;have h1:=a0 e he hb.2;rw[hb.1] at h1;rcases Nat.lt_or_ge i listed.size with h'|h'
 ·simp[h'] at hl h1;rw[hl] at h1;cases h1
 ·simp[Array.getElem?_eq_none h'] at h1
theorem qX {oi:Oper}(hi:ops[i]?=some oi)(a2:∀ (j:Nat) (o:Oper) cs b,ops[j]?=some o->o.op≠ .select cs b)
  (hQ:∀c a w,Q (.panic c) (a.put oi.dst v) w->Q (.panic c) a w) (hz:eX md ops z i=true) :
  ∀ (fuel:Nat) (listed:Array Bool) (a:Act) (w:World),
   (∀j oj,ops[j]?=some oj->j≠i->listed.getD j true=false->(∀e∈oj.after,Region.binds md e=true->e.on≠i)->oi.apart ops oj=true)->
   i∈Region.ready md ops listed->YieldsIf P ops S oi v a->S w->
   cC P md ops Q S z fuel (listed.setIfInBounds i true) (a.put oi.dst v) w->cC P md ops Q S z (fuel+1) listed a w:=by
 intro fuel
 induction fuel with
 |zero=>
  intro listed a w _ hr hy hS H;refine⟨fun h=>(by rw[h] at hr;cases hr),fun j hj=>?_⟩
  by_cases hji:j=i
  ·subst hji;exact hy.wpOp hi hS ⟨fun _=>hS,H⟩
  ·have:=ready_mono hj hji;rw[H.1] at this
   cases this
 |succ fuel ih=>
  intro listed a w a0 hr hy hS H;refine⟨fun h=>(by rw[h] at hr;cases hr),fun j hj=>?_⟩
  by_cases hji:j=i
  ·subst hji;exact hy.wpOp hi hS ⟨fun _=>hS,H⟩
  ·have a7:j≠z:=fun e=>cZ hz (mem_ready.1 hr).1 (e▸hj)
   have h1:=H.2 j (ready_mono hj hji);obtain⟨a3,oj,a5,a6⟩:=mem_ready.1 hj;have a4:∀e∈oj.after,Region.binds md e=true->e.on≠i:=fun e he hb heq=>by
    have h1:=a6 e he hb;have h0:=(mem_ready.1 hr).1;rw[heq] at h1;rcases Nat.lt_or_ge i listed.size with h'|h'
    ·simp[h'] at h0 h1;rw[h0] at h1;cases h1
    ·simp[Array.getElem?_eq_none h'] at h1
   have h2:=wpOp_putIf a5 (a0 j oj a5 hji a3 a4) (fun cs b=>a2 i oi cs b hi) (fun cs b=>a2 j oj cs b a5) hQ hy h1;have a1:∀k ok,ops[k]?=some ok->k≠i->(listed.setIfInBounds j true).getD k true=false->
     (∀e∈ok.after,Region.binds md e=true->e.on≠i)->oi.apart ops ok=true:=fun k ok hk hki a9 b0=>by
    refine a0 k ok hk hki ?_ b0
    by_cases hjk:j=k
    ·subst hjk;exact a3
    ·rw[getD_set_ne true hjk] at a9;exact a9
   refine wpOp_mono (fun a' w' h3=>⟨fun _=>h3.2.1 a7,ih (listed.setIfInBounds j true) a' w' a1 (ready_mono hr (Ne.symm hji)) h3.1 (h3.2.1 a7) ?_⟩) h2;rw[Array.setIfInBounds_comm _ _ hji];exact h3.2.2
theorem tY {oi:Oper}{listed:Array Bool}{a:Act}(hi:ops[i]?=some oi)
  (hs:Region.noSelect ops=true) (hf:Region.free md ops listed i=true) (hr:(Region.ready md ops listed).contains i=true) (hz:eX md ops z i=true)
  (hQ:∀c a w,Q (.panic c) (a.put oi.dst v) w->Q (.panic c) a w) (hy:YieldsIf P ops S oi v a) (hS:S w)
  (h:cC P md ops Q S z fuel (listed.setIfInBounds i true) (a.put oi.dst v) w):cC P md ops Q S z (fuel+1) listed a w:=
 qX hi (Region.noSelect_spec hs) hQ hz fuel listed a w (Region.free_spec hi hf) (by simpa using hr) hy hS h
theorem xK {o:Oper}{listed:Array Bool}{a:Act}(hr:Region.ready md ops listed = [i])(ho:ops[i]?=some o)
  (h:∀K':Act->World->Prop,Shut (∀a w,(i≠z->S w)->((i≠z->S w)->cC P md ops Q S z fuel (listed.setIfInBounds i true) a w)->K' a w)->if Region.wanted o (yielded ops a.tmps)=true then Oper.wp P o a w K' Q else K' (a.put o.dst undef) w) :
  cC P md ops Q S z (fuel+1) listed a w:=by
 refine⟨fun h0=>(by rw[hr] at h0;cases h0),fun j hj=>?_⟩;rw[hr] at hj;have hj:=List.mem_singleton.1 hj;subst hj;exact wpOp_step ho (fun K' hK=>h K' (fun a w hS hW=>hK a w ⟨hS,hW hS⟩))
theorem aW {listed:Array Bool}{a:Act}(hr:Region.ready md ops listed = [])(h:Q .normal a w) :
  ∀fuel,cC P md ops Q S z fuel listed a w
 |0=>⟨hr,h⟩
 |_+1=>⟨fun _=>h,by rw[hr];simp⟩
theorem uZ {a:Act}(hm:P.follows .mixedOrders=true)(z:Nat)(hS:S w.drew)
  (h:S w.drew->cC P .any ops Q S z ops.size (Array.replicate ops.size false) a w.drew):(Code.region id ops true).wp P Q a w:=
 wp_region_any hm (oH _ _ _ _ (h hS))
end
section
variable {P:Program}{ops:Array Oper}{Q:Exit->Act->World->Prop}{md:Region.Mode}{S:World->Prop}{z:Nat}
def iX (md:Region.Mode)(ops:Array Oper):Nat->Nat->Nat->Bool
 |0,m,i=>eX md ops m i
 |n+1,m,i=>eX md ops m i||(List.range ops.size).any (fun k=>eX md ops m k&&iX md ops n k i)
def EW (md:Region.Mode)(ops:Array Oper)(listed:Array Bool):Prop:=listed.size=ops.size/\∀m i,m<ops.size->eX md ops m i=true->listed.getD i true=false->listed.getD m true=false
def FR (md:Region.Mode)(ops:Array Oper)(listed:Array Bool):Bool:=listed.size==ops.size&& (List.range ops.size).all (fun m=>(List.range ops.size).all (fun i=> !(eX md ops m i)||listed.getD i true||!(listed.getD m true)))
theorem EW.of {listed:Array Bool}(h:FR md ops listed=true):EW md ops listed:=by
 unfold FR at h;simp only[Bool.and_eq_true,beq_iff_eq,List.all_eq_true,List.mem_range,Bool.or_eq_true,Bool.not_eq_true'] at h;refine⟨h.1,fun m i hm hw hi=>?_⟩
 by_cases hs:i<ops.size
 ·rcases h.2 m hm i hs with (h1|h1)|h1
  ·rw[hw] at h1;cases h1
  ·rw[hi] at h1;cases h1
  ·exact h1
 ·have a0:listed.size<=i:=by omega
  simp[Array.getElem?_eq_none a0] at hi
theorem oh (h:eX md ops m i=true):m<ops.size:=by
 unfold eX at h
 cases hm:ops[m]? with
 |none=>rw[hm] at h;cases h
 |some o=>exact(Array.getElem?_eq_some_iff.1 hm).1
theorem EW.set {listed:Array Bool}{j:Nat}(h:EW md ops listed)(hj:j∈Region.ready md ops listed):EW md ops (listed.setIfInBounds j true):=by
 refine⟨by rw[Array.size_setIfInBounds];exact h.1,fun m i hm hw hi=>?_⟩;have hji:j≠i:=by
  intro e;subst e
  by_cases hs:j<listed.size
  ·simp[hs] at hi
  ·simp[hs] at hi
 rw[getD_set_ne true hji] at hi;have a0:j≠m:=by
  intro e;subst e;exact cZ hw hi hj
 rw[getD_set_ne true a0];exact h.2 m i hm hw hi
theorem iM {listed:Array Bool}(hc:EW md ops listed)(hi:listed.getD i true=false):∀ (n m:Nat),iX md ops n m i=true->listed.getD m true=false
 |0,m,h=>hc.2 m i (oh h) h hi
 |n+1,m,h=>by
  unfold iX at h;rcases Bool.or_eq_true _ _▸h with h|h
  ·exact hc.2 m i (oh h) h hi
  ·obtain⟨k,hk,h2⟩:=List.any_eq_true.1 h;rw[Bool.and_eq_true] at h2;exact hc.2 m k (oh h2.1) h2.1 (iM hc hi n k h2.2)
theorem mt {listed:Array Bool}(hc:EW md ops listed)(hi:listed.getD i true=false)(h:iX md ops n z i=true):z∉Region.ready md ops listed:=by
 cases n with
 |zero=>exact cZ h hi
 |succ n=>
  unfold iX at h;rcases Bool.or_eq_true _ _▸h with h|h
  ·exact cZ h hi
  ·obtain⟨k,hk,h2⟩:=List.any_eq_true.1 h;rw[Bool.and_eq_true] at h2;exact cZ h2.1 (iM hc hi n k h2.2)
theorem rS {oi:Oper}(hi:ops[i]?=some oi)(a2:∀ (j:Nat) (o:Oper) cs b,ops[j]?=some o->o.op≠ .select cs b)
  (hQ:∀c a w,Q (.panic c) (a.put oi.dst v) w->Q (.panic c) a w) (hz:iX md ops n z i=true) :
  ∀ (fuel:Nat) (listed:Array Bool) (a:Act) (w:World),EW md ops listed->
   (∀j oj,ops[j]?=some oj->j≠i->listed.getD j true=false->(∀e∈oj.after,Region.binds md e=true->e.on≠i)->oi.apart ops oj=true)->
   i∈Region.ready md ops listed->YieldsIf P ops S oi v a->S w->
   cC P md ops Q S z fuel (listed.setIfInBounds i true) (a.put oi.dst v) w->cC P md ops Q S z (fuel+1) listed a w:=by
 intro fuel
 induction fuel with
 |zero=>
  intro listed a w _ _ hr hy hS H;refine⟨fun h=>(by rw[h] at hr;cases hr),fun j hj=>?_⟩
  by_cases hji:j=i
  ·subst hji;exact hy.wpOp hi hS ⟨fun _=>hS,H⟩
  ·have:=ready_mono hj hji;rw[H.1] at this
   cases this
 |succ fuel ih=>
  intro listed a w hc a0 hr hy hS H;refine⟨fun h=>(by rw[h] at hr;cases hr),fun j hj=>?_⟩
  by_cases hji:j=i
  ·subst hji;exact hy.wpOp hi hS ⟨fun _=>hS,H⟩
  ·have a7:j≠z:=fun e=>mt hc (mem_ready.1 hr).1 hz (e▸hj)
   have h1:=H.2 j (ready_mono hj hji);obtain⟨a3,oj,a5,a6⟩:=mem_ready.1 hj;have a4:∀e∈oj.after,Region.binds md e=true->e.on≠i:=fun e he hb heq=>by
    have h1:=a6 e he hb;have h0:=(mem_ready.1 hr).1;rw[heq] at h1;rcases Nat.lt_or_ge i listed.size with h'|h'
    ·simp[h'] at h0 h1;rw[h0] at h1;cases h1
    ·simp[Array.getElem?_eq_none h'] at h1
   have h2:=wpOp_putIf a5 (a0 j oj a5 hji a3 a4) (fun cs b=>a2 i oi cs b hi) (fun cs b=>a2 j oj cs b a5) hQ hy h1;have a1:∀k ok,ops[k]?=some ok->k≠i->(listed.setIfInBounds j true).getD k true=false->
     (∀e∈ok.after,Region.binds md e=true->e.on≠i)->oi.apart ops ok=true:=fun k ok hk hki a9 b0=>by
    refine a0 k ok hk hki ?_ b0
    by_cases hjk:j=k
    ·subst hjk;exact a3
    ·rw[getD_set_ne true hjk] at a9;exact a9
   refine wpOp_mono (fun a' w' h3=>⟨fun _=>h3.2.1 a7,ih (listed.setIfInBounds j true) a' w' (hc.set hj) a1 (ready_mono hr (Ne.symm hji)) h3.1 (h3.2.1 a7) ?_⟩) h2;rw[Array.setIfInBounds_comm _ _ hji];exact h3.2.2
theorem uf (n:Nat){oi:Oper}{listed:Array Bool}{a:Act}(hi:ops[i]?=some oi)
  (hs:Region.noSelect ops=true) (hf:Region.free md ops listed i=true) (hr:(Region.ready md ops listed).contains i=true) (hz:iX md ops n z i=true) (hc:FR md ops listed=true)
  (hQ:∀c a w,Q (.panic c) (a.put oi.dst v) w->Q (.panic c) a w) (hy:YieldsIf P ops S oi v a) (hS:S w)
  (h:cC P md ops Q S z fuel (listed.setIfInBounds i true) (a.put oi.dst v) w):cC P md ops Q S z (fuel+1) listed a w:=
 rS hi (Region.noSelect_spec hs) hQ hz fuel listed a w (EW.of hc) (Region.free_spec hi hf) (by simpa using hr) hy hS h
end
section
variable {P:Program}{ops:Array Oper}{Q:Exit->Act->World->Prop}{md:Region.Mode}{S:World->Prop}
theorem nu {o:Oper}(h:(ops.toList.drop i).head?=some o):ops[i]?=some o:=by
 rw[List.head?_drop] at h;rw[<-Array.getElem?_toList];exact h
theorem tH (i:Nat){oi:Oper}{listed:Array Bool}{a:Act}(hS:S w)(h:wpAnyH P md ops Q S fuel (listed.setIfInBounds i true) (a.put oi.dst v) w)
  (hi:(ops.toList.drop i).head?=some oi:=by exact rfl) (hs:Region.noSelect ops=true:=by kernel_rfl) (hf:Region.free md ops listed i=true:=by kernel_rfl) (hr:(Region.ready md ops listed).contains i=true:=by kernel_rfl)
  (hQ:∀c a w,Q (.panic c) (a.put oi.dst v) w->Q (.panic c) a w:=by exact fun _ _ _ h=>h) (hg:Region.wanted oi (yielded ops a.tmps)=true:=by rfl) (hy:∀w,S w->(execOp a.eval oi).run P w =.ok (.value v) w:=by(intro w a0;(try dsimp only at a0);go_simp;(try with_reducible rfl))):wpAnyH P md ops Q S (fuel+1) listed a w:=
 wpAnyH_take (nu hi) hs hf hr hQ (Or.inl ⟨hg,hy⟩) hS h
theorem uH (i:Nat){oi:Oper}{listed:Array Bool}{a:Act}(hS:S w)(h:wpAnyH P md ops Q S fuel (listed.setIfInBounds i true) (a.put oi.dst undef) w)
  (hi:(ops.toList.drop i).head?=some oi:=by exact rfl) (hs:Region.noSelect ops=true:=by kernel_rfl) (hf:Region.free md ops listed i=true:=by kernel_rfl) (hr:(Region.ready md ops listed).contains i=true:=by kernel_rfl)
  (hQ:∀c a w,Q (.panic c) (a.put oi.dst undef) w->Q (.panic c) a w:=by exact fun _ _ _ h=>h) (hg:Region.wanted oi (yielded ops a.tmps)=false:=by rfl):wpAnyH P md ops Q S (fuel+1) listed a w:=
 wpAnyH_take (nu hi) hs hf hr hQ (Or.inr ⟨hg,rfl⟩) hS h
theorem rH (i:Nat){o:Oper}{listed:Array Bool}{a:Act}
  (h:∀K':Act->World->Prop,Shut (∀a w,S w->(S w->wpAnyH P md ops Q S fuel (listed.setIfInBounds i true) a w)->K' a w)->if Region.wanted o (yielded ops a.tmps)=true then Oper.wp P o a w K' Q else K' (a.put o.dst undef) w)
  (ho:(ops.toList.drop i).head?=some o:=by exact rfl) (hr:Region.ready md ops listed = [i]:=by kernel_rfl):wpAnyH P md ops Q S (fuel+1) listed a w:=
 wpAnyH_ready hr (by simp) (AllReadyH.cons (nu ho) h AllReadyH.nil)
theorem tZ (i:Nat){z:Nat}{oi:Oper}{listed:Array Bool}{a:Act}(hS:S w)(h:cC P md ops Q S z fuel (listed.setIfInBounds i true) (a.put oi.dst v) w)
  (hi:(ops.toList.drop i).head?=some oi:=by exact rfl) (hs:Region.noSelect ops=true:=by kernel_rfl) (hf:Region.free md ops listed i=true:=by kernel_rfl) (hr:(Region.ready md ops listed).contains i=true:=by kernel_rfl) (hz:eX md ops z i=true:=by kernel_rfl)
  (hQ:∀c a w,Q (.panic c) (a.put oi.dst v) w->Q (.panic c) a w:=by exact fun _ _ _ h=>h) (hg:Region.wanted oi (yielded ops a.tmps)=true:=by rfl) (hy:∀w,S w->(execOp a.eval oi).run P w =.ok (.value v) w:=by(intro w a0;(try dsimp only at a0);go_simp;(try with_reducible rfl))):cC P md ops Q S z (fuel+1) listed a w:=
 tY (nu hi) hs hf hr hz hQ (Or.inl ⟨hg,hy⟩) hS h
theorem tR (i:Nat){z:Nat}{oi:Oper}{listed:Array Bool}{a:Act}(hS:S w)(h:cC P md ops Q S z fuel (listed.setIfInBounds i true) (a.put oi.dst v) w)
  (hi:(ops.toList.drop i).head?=some oi:=by exact rfl) (hs:Region.noSelect ops=true:=by kernel_rfl) (hf:Region.free md ops listed i=true:=by kernel_rfl) (hr:(Region.ready md ops listed).contains i=true:=by kernel_rfl) (hz:iX md ops 6 z i=true:=by kernel_rfl) (hc:FR md ops listed=true:=by kernel_rfl)
  (hQ:∀c a w,Q (.panic c) (a.put oi.dst v) w->Q (.panic c) a w:=by exact fun _ _ _ h=>h) (hg:Region.wanted oi (yielded ops a.tmps)=true:=by rfl) (hy:∀w,S w->(execOp a.eval oi).run P w =.ok (.value v) w:=by(intro w a0;(try dsimp only at a0);go_simp;(try with_reducible rfl))):cC P md ops Q S z (fuel+1) listed a w:=
 uf 6 (nu hi) hs hf hr hz hc hQ (Or.inl ⟨hg,hy⟩) hS h
theorem rZ (i:Nat){z:Nat}{o:Oper}{listed:Array Bool}{a:Act}
  (h:∀K':Act->World->Prop,Shut (∀a w,(i≠z->S w)->((i≠z->S w)->cC P md ops Q S z fuel (listed.setIfInBounds i true) a w)->K' a w)->if Region.wanted o (yielded ops a.tmps)=true then Oper.wp P o a w K' Q else K' (a.put o.dst undef) w)
  (ho:(ops.toList.drop i).head?=some o:=by exact rfl) (hr:Region.ready md ops listed = [i]:=by kernel_rfl):cC P md ops Q S z (fuel+1) listed a w:=
 xK hr (nu ho) h
theorem aA {a:Act}(S:World->Prop)(hS:S w.drew)(h:S w.drew->wpAnyH P .any ops (NoPanic Q) S ops.size (Array.replicate ops.size false) a w.drew)(hm:P.follows .mixedOrders=true:=by kernel_rfl):(Code.region id ops true).wp P Q a w:=
 wp_region_noPanic (wp_region_held_drew hm hS h)
theorem cP {a:Act}(S:World->Prop)(z:Nat)(hS:S w.drew)(h:S w.drew->cC P .any ops (NoPanic Q) S z ops.size (Array.replicate ops.size false) a w.drew)(hm:P.follows .mixedOrders=true:=by kernel_rfl):(Code.region id ops true).wp P Q a w:=
 wp_region_noPanic (uZ hm z hS h)
end
theorem jP {α:Type}{xs:List α}{a:α}:xs.toArray.setIfInBounds i a= (xs.set i a).toArray:=List.setIfInBounds_toArray ..
theorem jQ {α:Type}{xs:List α}{a b:α}:(a::xs).set 0 b=b::xs:=List.set_cons_zero
theorem jR {α:Type}{xs:List α}{a b:α}:(a::xs).set (n+1) b=a::xs.set n b:=List.set_cons_succ
